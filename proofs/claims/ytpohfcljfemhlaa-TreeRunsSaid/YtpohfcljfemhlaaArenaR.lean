/- Blocks of words: by the document's own text. -/
import Derived.Test.YtpohfcljfemhlaaVwS
import Derived.Test.YtpohfcljfemhlaaArenaA
namespace Go.Proofs.Ytpohfcljfemhlaa
open Go Go.Ae
set_option maxRecDepth 100000

variable {g h : AH} {L R : List SP}

/-- what a header tells of the mark that is asked for -/
def markA (w m : Int) : Int := if 1 + m ≤ w ∧ w ≤ 4 + m then w - m else 0
def hdrV (M : VM) (b m : Int) : (Int × Int) × VM :=
  if b ≤ 14 ∨ M.sz ≤ b then ((0, 2), M) else
  if (readV M (b - 1)).1.2 = 0 then
    (if markA (readV M (b - 1)).1.1 m = 0 then ((0, 2), (readV M (b - 1)).2) else ((markA (readV M (b - 1)).1.1 m, 0), (readV M (b - 1)).2))
  else ((0, (readV M (b - 1)).1.2), (readV M (b - 1)).2)

/-! the same as by the program -/
theorem head_mark0 (w : Int) : (headA w).1 = 0 ∨ (headA w).2 = true → markA w 0 = 0 := by
  unfold headA markA
  intro h
  split at h
  · rcases h with h | h
    · dsimp only at h; omega
    · cases h
  · rw [if_neg (by omega)]
theorem head_mark0' (w : Int) : ¬ (headA w).1 = 0 → (headA w).2 = false → markA w 0 = (headA w).1 := by
  unfold headA markA
  intro h1 h2
  split at h2
  · rename_i hc
    rw [if_pos (by omega), if_pos hc]; dsimp only; omega
  · split at h2
    · cases h2
    · rename_i hc hd
      rw [if_neg hc, if_neg hd] at h1; exact absurd rfl h1
theorem head_mark8 (w : Int) : (headA w).1 = 0 ∨ (headA w).2 = false → markA w 8 = 0 := by
  unfold headA markA
  intro h
  split at h
  · rw [if_neg (by omega)]
  · split at h
    · rcases h with h | h
      · dsimp only at h; omega
      · cases h
    · rw [if_neg (by omega)]
theorem head_mark8' (w : Int) : ¬ (headA w).1 = 0 → (headA w).2 = true → markA w 8 = (headA w).1 := by
  unfold headA markA
  intro h1 h2
  split at h2
  · cases h2
  · split at h2
    · rename_i hc hd
      rw [if_pos (by omega), if_neg hc, if_pos hd]
    · cases h2
theorem hdr_ask {M : VM} {b m : Int} (hm : m = 0 ∨ m = 8) : hdrV M b m =
    (if (askV M b).1.2.2 = 0 then (if (askV M b).1.2.1 = (decide (m = 8)) then (((askV M b).1.1, 0), (askV M b).2) else ((0, 2), (askV M b).2)) else ((0, (askV M b).1.2.2), (askV M b).2)) := by
  unfold hdrV askV
  split
  · rfl
  · split
    · generalize (readV M (b - 1)).1.1 = w
      rcases hm with rfl | rfl
      · by_cases h1 : (headA w).1 = 0
        · rw [head_mark0 w (.inl h1), if_pos rfl, if_pos h1]; rfl
        · cases h2 : (headA w).2
          · rw [head_mark0' w h1 h2, if_neg h1, if_neg h1]; rfl
          · rw [head_mark0 w (.inr h2), if_pos rfl, if_neg h1]; rfl
      · by_cases h1 : (headA w).1 = 0
        · rw [head_mark8 w (.inl h1), if_pos rfl, if_pos h1]; rfl
        · cases h2 : (headA w).2
          · rw [head_mark8 w (.inr h2), if_pos rfl, if_neg h1]; rfl
          · rw [head_mark8' w h1 h2, if_neg h1, if_neg h1]; rfl
    · rename_i h1
      first | rfl | (rw [if_neg h1])

end Go.Proofs.Ytpohfcljfemhlaa
