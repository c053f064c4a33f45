/- 'ArenaPlays' comes to true for every argument: its own walk. -/
import Derived.Test.YtpohfcljfemhlaaArenaDo
namespace Go.Proofs.Ytpohfcljfemhlaa.arenaPlays
open Go Go.Ae
set_option maxRecDepth 100000

variable {g h : AH} {L R : List SP}

def encK (a : Int × Int × Bool) : List AV := [.int .i64 a.1, .int .i64 a.2.1, .bool a.2.2]
theorem ww_ptrN {b o : Nat} {K : AV → Go.Ae.R} {Q : AV → AH → Prop} (w : wp (K (.bool false)) Q) : wp (pEq .ptr false (.ptr b o) .nilp K) Q := w
theorem whole_good {zs : List Int} {m : Int} (hz : ∀ z ∈ zs, 0 ≤ z ∧ z < 18446744073709551616) : GoodV (wholeV zs m) := by
  refine ⟨wholeV_ok zs m, ?_, ?_⟩
  · intro c hc
    obtain ⟨i, _, rfl⟩ := List.mem_map.1 hc
    show 0 ≤ wordAt zs (i + 1) ∧ wordAt zs (i + 1) < 18446744073709551616
    unfold wordAt
    cases hzi : zs[i + 1]? with
    | none => simp
    | some z => exact hz z (List.mem_of_getElem? hzi)
  · intro x hx
    simp [wholeV] at hx
    subst hx
    intro c hc; cases hc
theorem fresh_words (w : Int) : ∀ z ∈ freshA w, 0 ≤ z ∧ z < 18446744073709551616 := by
  intro z hz
  unfold freshA at hz
  rcases List.mem_or_eq_of_mem_set hz with h | rfl
  · rw [List.mem_replicate] at h; omega
  · omega

end Go.Proofs.Ytpohfcljfemhlaa.arenaPlays
