/- 'ThreadLimits' at one kind of thread's number, for each number of jobs: run in the kernel. -/
import Derived.Test.YtbmjiabdcnnkiaaGreatDoorAe7
import Derived.Test.YtbmjiabdcnnkiaaGreatDoorT
import Derived.KernelRfl
namespace Go.Proofs.YtbmjiabdcnnkiaaGreatDoor.threadLimits
open Go Go.Ae
set_option maxRecDepth 100000
theorem runP_0 (m : Nat) : isTrue (W4 (withRun 3 (callT tab rtab 60)) [.int .u8 (.ofNat 0), .int .i64 (.ofNat (m + 4))] AH.empty) = true := by kernel_rfl
theorem runP_1 (m : Nat) : isTrue (W4 (withRun 3 (callT tab rtab 60)) [.int .u8 (.ofNat 1), .int .i64 (.ofNat (m + 4))] AH.empty) = true := by kernel_rfl
theorem runP_2 (m : Nat) : isTrue (W4 (withRun 3 (callT tab rtab 60)) [.int .u8 (.ofNat 2), .int .i64 (.ofNat (m + 4))] AH.empty) = true := by kernel_rfl
theorem runP_3 (m : Nat) : isTrue (W4 (withRun 3 (callT tab rtab 60)) [.int .u8 (.ofNat 3), .int .i64 (.ofNat (m + 4))] AH.empty) = true := by kernel_rfl
theorem runP_4 (m : Nat) : isTrue (W4 (withRun 3 (callT tab rtab 60)) [.int .u8 (.ofNat 4), .int .i64 (.ofNat (m + 4))] AH.empty) = true := by kernel_rfl
theorem runP_5 (m : Nat) : isTrue (W4 (withRun 3 (callT tab rtab 60)) [.int .u8 (.ofNat 5), .int .i64 (.ofNat (m + 4))] AH.empty) = true := by kernel_rfl
theorem runP_6 (m : Nat) : isTrue (W4 (withRun 3 (callT tab rtab 60)) [.int .u8 (.ofNat 6), .int .i64 (.ofNat (m + 4))] AH.empty) = true := by kernel_rfl
theorem runP_7 (m : Nat) : isTrue (W4 (withRun 3 (callT tab rtab 60)) [.int .u8 (.ofNat 7), .int .i64 (.ofNat (m + 4))] AH.empty) = true := by kernel_rfl
theorem runP_8 (m : Nat) : isTrue (W4 (withRun 3 (callT tab rtab 60)) [.int .u8 (.ofNat 8), .int .i64 (.ofNat (m + 4))] AH.empty) = true := by kernel_rfl
theorem runP_9 (m : Nat) : isTrue (W4 (withRun 3 (callT tab rtab 60)) [.int .u8 (.ofNat 9), .int .i64 (.ofNat (m + 4))] AH.empty) = true := by kernel_rfl
theorem runP_10 (m : Nat) : isTrue (W4 (withRun 3 (callT tab rtab 60)) [.int .u8 (.ofNat 10), .int .i64 (.ofNat (m + 4))] AH.empty) = true := by kernel_rfl
theorem runP_11 (m : Nat) : isTrue (W4 (withRun 3 (callT tab rtab 60)) [.int .u8 (.ofNat 11), .int .i64 (.ofNat (m + 4))] AH.empty) = true := by kernel_rfl
end Go.Proofs.YtbmjiabdcnnkiaaGreatDoor.threadLimits
