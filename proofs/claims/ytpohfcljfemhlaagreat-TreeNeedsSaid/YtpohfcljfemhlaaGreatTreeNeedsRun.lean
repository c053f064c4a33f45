/- 'quietus/quietuslaw20.TreeRuns' returns true: its own walk, on what its calls come to, which is reckoned in the kernel. No condition. -/
import Derived.KernelRfl
import Derived.Test.YtpohfcljfemhlaaGreatTreeNeedsAe7
import Derived.Test.YtpohfcljfemhlaaGreatTreeNeedsT
import Derived.Test.YtpohfcljfemhlaaGreatTreeNeedsM2
namespace Go.Proofs.YtpohfcljfemhlaaGreat
open Go.RowKit
theorem mixed : Tryz.prog.follows .mixedOrders = true := by kernel_rfl
theorem named : tab.fs.all (fun f => Ae.callOk Tryz.prog f) = true := by kernel_rfl
theorem table : Ae.TabOk Tryz.prog tab qI := .of qVC named qXm
theorem runs (w : World) (n : Nat) : CallsIn Fence.wide n Tryz.prog 6 #[] w fun e w' => e = .returned (.bool true) ∧ Below w.heap.size w w' :=
  Ae.closed_true mixed table treeRuns.told n w
end Go.Proofs.YtpohfcljfemhlaaGreat
