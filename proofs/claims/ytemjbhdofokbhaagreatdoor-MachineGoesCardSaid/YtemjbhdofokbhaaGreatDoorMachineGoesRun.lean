/- 'quietus/quietuslaw28.MachineRuns' returns true: the program's own text is run by the abstract executor, in the kernel. No condition. -/
import Derived.KernelRfl
import Derived.Test.YtemjbhdofokbhaaGreatDoorMachineGoesAe7
import Derived.Test.YtemjbhdofokbhaaGreatDoorMachineGoesT
namespace Go.Proofs.YtemjbhdofokbhaaGreatDoor
open Go.RowKit
theorem mixed : Tryz.prog.follows .mixedOrders = true := by kernel_rfl
theorem named : tab.fs.all (fun f => Ae.callOk Tryz.prog f) = true := by kernel_rfl
theorem table : Ae.TabOk Tryz.prog tab qj := .of jVF named jQ0
set_option maxRecDepth 100000 in
theorem toldRun : Ae.isTrue (Ae.callT tab qj 60 (.fn 4 [] []) [] Ae.AH.empty) = true := by kernel_rfl
theorem runs (w : World) (n : Nat) (hg : Ae.Gl Tryz.prog w) : CallsIn Fence.wide n Tryz.prog 4 #[] w fun e w' => e = .returned (.bool true) ∧ Below w.heap.size w w' :=
 Ae.closed_true mixed table toldRun n w hg
end Go.Proofs.YtemjbhdofokbhaaGreatDoor
