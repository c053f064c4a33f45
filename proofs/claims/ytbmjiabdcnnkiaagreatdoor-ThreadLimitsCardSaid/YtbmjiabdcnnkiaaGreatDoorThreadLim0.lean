/- 'ThreadLimits' at one kind of thread's number, for each number of jobs: run in the kernel. -/
import Derived.Test.YtbmjiabdcnnkiaaGreatDoorAe7
import Derived.Test.YtbmjiabdcnnkiaaGreatDoorT
import Derived.KernelRfl
namespace Go.Proofs.YtbmjiabdcnnkiaaGreatDoor.threadLimits
open Go Go.Ae
set_option maxRecDepth 100000
theorem run0_0 : isTrue (W4 (withRun 3 (callT tab rtab 60)) [.int .u8 (.ofNat 0), .int .i64 (.ofNat 0)] AH.empty) = true := by kernel_rfl
theorem run0_1 : isTrue (W4 (withRun 3 (callT tab rtab 60)) [.int .u8 (.ofNat 1), .int .i64 (.ofNat 0)] AH.empty) = true := by kernel_rfl
theorem run0_2 : isTrue (W4 (withRun 3 (callT tab rtab 60)) [.int .u8 (.ofNat 2), .int .i64 (.ofNat 0)] AH.empty) = true := by kernel_rfl
theorem run0_3 : isTrue (W4 (withRun 3 (callT tab rtab 60)) [.int .u8 (.ofNat 3), .int .i64 (.ofNat 0)] AH.empty) = true := by kernel_rfl
theorem run0_4 : isTrue (W4 (withRun 3 (callT tab rtab 60)) [.int .u8 (.ofNat 4), .int .i64 (.ofNat 0)] AH.empty) = true := by kernel_rfl
theorem run0_5 : isTrue (W4 (withRun 3 (callT tab rtab 60)) [.int .u8 (.ofNat 5), .int .i64 (.ofNat 0)] AH.empty) = true := by kernel_rfl
theorem run0_6 : isTrue (W4 (withRun 3 (callT tab rtab 60)) [.int .u8 (.ofNat 6), .int .i64 (.ofNat 0)] AH.empty) = true := by kernel_rfl
theorem run0_7 : isTrue (W4 (withRun 3 (callT tab rtab 60)) [.int .u8 (.ofNat 7), .int .i64 (.ofNat 0)] AH.empty) = true := by kernel_rfl
theorem run0_8 : isTrue (W4 (withRun 3 (callT tab rtab 60)) [.int .u8 (.ofNat 8), .int .i64 (.ofNat 0)] AH.empty) = true := by kernel_rfl
theorem run0_9 : isTrue (W4 (withRun 3 (callT tab rtab 60)) [.int .u8 (.ofNat 9), .int .i64 (.ofNat 0)] AH.empty) = true := by kernel_rfl
theorem run0_10 : isTrue (W4 (withRun 3 (callT tab rtab 60)) [.int .u8 (.ofNat 10), .int .i64 (.ofNat 0)] AH.empty) = true := by kernel_rfl
theorem run0_11 : isTrue (W4 (withRun 3 (callT tab rtab 60)) [.int .u8 (.ofNat 11), .int .i64 (.ofNat 0)] AH.empty) = true := by kernel_rfl
end Go.Proofs.YtbmjiabdcnnkiaaGreatDoor.threadLimits
