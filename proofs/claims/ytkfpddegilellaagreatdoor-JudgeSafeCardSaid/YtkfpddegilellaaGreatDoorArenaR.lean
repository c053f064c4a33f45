/- Blocks of words: by the document's own text. -/
import Derived.Test.YtkfpddegilellaaGreatDoorVwS
import Derived.Test.YtkfpddegilellaaGreatDoorArenaA
namespace Go.Proofs.YtkfpddegilellaaGreatDoor
open Go Go.Ae
set_option maxRecDepth 100000

variable {g h : AH} {L R : List SP}

theorem rsize_ok {n : Nat} (hn : 1 ≤ n) {x : Int} : wp (callT tab rtab n (.fn 23 [] []) [.int .i64 x] h) fun v h' => v = .int .i64 (sizeA x) ∧ h' = h := by
  (refine ww_fn (g := W23) rfl (by omega) fun k hk => ?_; show wp (S23 (callT tab rtab k) _ _) _; unfold S23; try simp only [Int.ofNat_eq_natCast])
  repeat' (first | with_reducible refine ww_condT ?_ | with_reducible refine ww_condF ?_ | (with_reducible refine ww_wantTT ?_; try dsimp only) | (with_reducible refine ww_wantTF ?_; try dsimp only) | (with_reducible refine ww_wantFT ?_; try dsimp only) | (with_reducible refine ww_wantFF ?_; try dsimp only) | (with_reducible refine ww_wantU ?_; try dsimp only) | with_reducible refine ww_pickT ?_ | with_reducible refine ww_pickF ?_ | (with_reducible refine ww_joinS ?_; try dsimp only) | with_reducible refine ww_leave ?_ | with_reducible refine ww_notT ?_ | with_reducible refine ww_notF ?_ | with_reducible refine ww_addI (by omega) ?_ | with_reducible refine ww_subI (by omega) ?_ | with_reducible refine ww_addU (by omega) ?_ | with_reducible refine ww_subU (by omega) ?_ | with_reducible refine ww_min ?_ | with_reducible refine ww_max ?_ | with_reducible refine ww_lssC (fun hc => ?_) (fun hc => ?_) | with_reducible refine ww_leqC (fun hc => ?_) (fun hc => ?_) | with_reducible refine ww_gtrC (fun hc => ?_) (fun hc => ?_) | with_reducible refine ww_geqC (fun hc => ?_) (fun hc => ?_) | with_reducible refine ww_eqlC (fun hc => ?_) (fun hc => ?_) | with_reducible refine ww_neqC (fun hc => ?_) (fun hc => ?_) | with_reducible refine ww_condB (fun hc => ?_) (fun hc => ?_))
  · refine ww_ret ⟨?_, rfl⟩
    unfold sizeA; congr 1; repeat' split <;> omega
  · refine ww_ret ⟨?_, rfl⟩
    unfold sizeA; congr 1; repeat' split <;> omega
  · refine ww_convIU (by omega) (ww_shl (by omega) ?_)
    refine ww_ret ⟨?_, rfl⟩
    rcases (show x = 1 ∨ x = 2 ∨ x = 3 ∨ x = 4 by omega) with rfl | rfl | rfl | rfl <;> rfl
theorem rplaceA_ok {n : Nat} (hn : 1 ≤ n) {w : Int} (hw : 0 ≤ w) : wp (callT tab rtab n (.fn 37 [] []) [.int .u64 w] h) fun v h' => v = .int .i64 (if 2147483648 ≤ w then -1 else w) ∧ h' = h := by
  (refine ww_fn (g := W37) rfl (by omega) fun k hk => ?_; show wp (S37 (callT tab rtab k) _ _) _; unfold S37; try simp only [Int.ofNat_eq_natCast])
  by_cases h1 : 2147483648 ≤ w
  · rw [if_pos h1]
    with_reducible (refine ww_geqT (by omega) ?_; refine ww_condT ?_)
    exact ww_ret ⟨rfl, rfl⟩
  · rw [if_neg h1]
    with_reducible (refine ww_geqF (by omega) ?_; refine ww_condF ?_; refine ww_convII (by omega) ?_)
    exact ww_ret ⟨rfl, rfl⟩

/-- what a header tells of the mark that is asked for -/
def markA (w m : Int) : Int := if 1 + m ≤ w ∧ w ≤ 4 + m then w - m else 0
def hdrV (M : VM) (b m : Int) : (Int × Int) × VM :=
  if b ≤ 14 ∨ M.sz ≤ b then ((0, 2), M) else
  if (readV M (b - 1)).1.2 = 0 then
    (if markA (readV M (b - 1)).1.1 m = 0 then ((0, 2), (readV M (b - 1)).2) else ((markA (readV M (b - 1)).1.1 m, 0), (readV M (b - 1)).2))
  else ((0, (readV M (b - 1)).1.2), (readV M (b - 1)).2)

/-! the same as by the program -/
theorem head_mark0 (w : Int) : (headA w).1 = 0 ∨ (headA w).2 = true → markA w 0 = 0 := by
  unfold headA markA
  intro h
  split at h
  · rcases h with h | h
    · dsimp only at h; omega
    · cases h
  · rw [if_neg (by omega)]
theorem head_mark0' (w : Int) : ¬ (headA w).1 = 0 → (headA w).2 = false → markA w 0 = (headA w).1 := by
  unfold headA markA
  intro h1 h2
  split at h2
  · rename_i hc
    rw [if_pos (by omega), if_pos hc]; dsimp only; omega
  · split at h2
    · cases h2
    · rename_i hc hd
      rw [if_neg hc, if_neg hd] at h1; exact absurd rfl h1
theorem head_mark8 (w : Int) : (headA w).1 = 0 ∨ (headA w).2 = false → markA w 8 = 0 := by
  unfold headA markA
  intro h
  split at h
  · rw [if_neg (by omega)]
  · split at h
    · rcases h with h | h
      · dsimp only at h; omega
      · cases h
    · rw [if_neg (by omega)]
theorem head_mark8' (w : Int) : ¬ (headA w).1 = 0 → (headA w).2 = true → markA w 8 = (headA w).1 := by
  unfold headA markA
  intro h1 h2
  split at h2
  · cases h2
  · split at h2
    · rename_i hc hd
      rw [if_pos (by omega), if_neg hc, if_pos hd]
    · cases h2
theorem hdr_ask {M : VM} {b m : Int} (hm : m = 0 ∨ m = 8) : hdrV M b m =
    (if (askV M b).1.2.2 = 0 then (if (askV M b).1.2.1 = (decide (m = 8)) then (((askV M b).1.1, 0), (askV M b).2) else ((0, 2), (askV M b).2)) else ((0, (askV M b).1.2.2), (askV M b).2)) := by
  unfold hdrV askV
  split
  · rfl
  · split
    · generalize (readV M (b - 1)).1.1 = w
      rcases hm with rfl | rfl
      · by_cases h1 : (headA w).1 = 0
        · rw [head_mark0 w (.inl h1), if_pos rfl, if_pos h1]; rfl
        · cases h2 : (headA w).2
          · rw [head_mark0' w h1 h2, if_neg h1, if_neg h1]; rfl
          · rw [head_mark0 w (.inr h2), if_pos rfl, if_neg h1]; rfl
      · by_cases h1 : (headA w).1 = 0
        · rw [head_mark8 w (.inl h1), if_pos rfl, if_pos h1]; rfl
        · cases h2 : (headA w).2
          · rw [head_mark8 w (.inr h2), if_pos rfl, if_neg h1]; rfl
          · rw [head_mark8' w h1 h2, if_neg h1, if_neg h1]; rfl
    · rename_i h1
      first | rfl | (rw [if_neg h1])

end Go.Proofs.YtkfpddegilellaaGreatDoor
