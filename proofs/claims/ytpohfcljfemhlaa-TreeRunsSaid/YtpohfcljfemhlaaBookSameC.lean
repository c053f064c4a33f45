/- Are two lists of cells the same? -/
import Derived.Test.YtpohfcljfemhlaaVwM
import Derived.Test.YtpohfcljfemhlaaT
import Derived.KernelRfl
namespace Go.Proofs.Ytpohfcljfemhlaa
open Go Go.Ae
set_option maxRecDepth 100000

theorem ww_eqSC {l : List ES} {a b : List AV} {K : AV → Go.Ae.R} {Q : AV → AH → Prop} {neg : Bool} {p : Prop} [Decidable p] (e : partsEq l a b = some (decide p)) (h1 : p → wp (K (.bool (!neg))) Q) (h2 : ¬ p → wp (K (.bool neg)) Q) : wp (pEqS l neg (.agg a) (.agg b) K) Q := by
  unfold pEqS
  simp only [e, ob]
  by_cases h : p
  · have := h1 h
    simpa [h] using this
  · have := h2 h
    simpa [h] using this
theorem cell_eq (x y : Cl) : partsEq [.bas .int 0, .bas .int 1] (encC x) (encC y) = some (decide (x = y)) := by
  obtain ⟨a, b⟩ := x
  obtain ⟨a', b'⟩ := y
  show (bif ieq a a' then (bif ieq b b' then some true else some false) else some false) = _
  rw [ieq_dec, ieq_dec]
  by_cases h1 : a = a' <;> by_cases h2 : b = b' <;> simp [h1, h2]

end Go.Proofs.Ytpohfcljfemhlaa
