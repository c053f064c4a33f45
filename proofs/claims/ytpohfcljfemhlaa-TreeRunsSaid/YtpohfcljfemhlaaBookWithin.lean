/- Numbers brought into bounds. -/
import Derived.Test.YtpohfcljfemhlaaAe7
import Derived.Test.YtpohfcljfemhlaaT
import Derived.KernelRfl
namespace Go.Proofs.Ytpohfcljfemhlaa
open Go Go.Ae
set_option maxRecDepth 100000

def withinZ (x lo hi : Int) : Int := lo + (if x.tmod (hi - lo + 1) < 0 then x.tmod (hi - lo + 1) + (hi - lo + 1) else x.tmod (hi - lo + 1))
theorem tmod_bounds (x : Int) {m : Int} (hm : 0 < m) : -m < x.tmod m ∧ x.tmod m < m := by
  refine ⟨?_, Int.tmod_lt_of_pos x hm⟩
  have := Int.tmod_lt_of_pos (-x) hm
  rw [Int.neg_tmod] at this
  omega
theorem within_bounds (x : Int) {lo hi : Int} (h : lo ≤ hi) : lo ≤ withinZ x lo hi ∧ withinZ x lo hi ≤ hi := by
  have := tmod_bounds x (show 0 < hi - lo + 1 by omega)
  unfold withinZ
  split <;> omega
end Go.Proofs.Ytpohfcljfemhlaa
