/- Blocks of words: by the document's own text. -/
import Derived.Test.YtjpfndpcmoklfaaGreatDoorVwS
import Derived.Test.YtjpfndpcmoklfaaGreatDoorArenaA
namespace Go.Proofs.YtjpfndpcmoklfaaGreatDoor
open Go Go.Ae
set_option maxRecDepth 100000

variable {g h : AH} {L R : List SP}

/-- what a header tells of the mark that is asked for -/
def markA (w m : Int) : Int := if 1 + m ≤ w ∧ w ≤ 4 + m then w - m else 0
def hdrV (M : VM) (b m : Int) : (Int × Int) × VM :=
  if b ≤ 14 ∨ M.sz ≤ b then ((0, 2), M) else
  if (readV M (b - 1)).1.2 = 0 then
    (if markA (readV M (b - 1)).1.1 m = 0 then ((0, 2), (readV M (b - 1)).2) else ((markA (readV M (b - 1)).1.1 m, 0), (readV M (b - 1)).2))
  else ((0, (readV M (b - 1)).1.2), (readV M (b - 1)).2)

theorem rheader_ok {n : Nat} (hn : 4 ≤ n) {o : Nat} {M : VM} {b m : Int} (H : HS g h (RvC o M :: R)) (O : OkV M) (W : WdV M) (hm : 0 ≤ m ∧ m ≤ 8) :
    wp (callT tab rtab n (.fn 38 [] []) [.ptr o 0, .int .i64 b, .int .i64 m] h) fun r h' => r = .tup [.int .i64 (hdrV M b m).1.1, .int .i64 (hdrV M b m).1.2] ∧ HS g h' (RvC o (hdrV M b m).2 :: R) := by
  (refine ww_fn (g := W38) rfl (by omega) fun k hk => ?_; show wp (S38 (callT tab rtab k) _ _ _ _) _; unfold S38; try simp only [Int.ofNat_eq_natCast])
  have hO := O.hi
  unfold hdrV
  by_cases h1 : b ≤ 14
  · rw [if_pos (.inl h1)]
    with_reducible (refine ww_leqT (by omega) ?_; refine ww_joinS ?_; (try dsimp only); refine ww_wantTF ?_; (try dsimp only); refine ww_pickT ?_; refine ww_condT ?_)
    exact ww_ret ⟨rfl, H⟩
  · have hH := H
    obtain ⟨kv, q, H⟩ := RvC.E H
    by_cases h2 : (M.sz : Int) ≤ b
    · rw [if_pos (.inr h2)]
      with_reducible (refine ww_leqF (by omega) ?_; refine ww_joinS ?_; (try dsimp only); refine ww_wantFF ?_; (try dsimp only); refine ww_nil ?_; refine ww_field0 ?_; refine ww_ldH (by assumption) .here (by with_unfolding_all exact rfl) ?_; refine ww_geqT (by omega) ?_; refine ww_pickF ?_; refine ww_condT ?_)
      exact ww_ret ⟨rfl, hH⟩
    · rw [if_neg (by omega)]
      with_reducible (refine ww_leqF (by omega) ?_; refine ww_joinS ?_; (try dsimp only); refine ww_wantFF ?_; (try dsimp only); refine ww_nil ?_; refine ww_field0 ?_; refine ww_ldH (by assumption) .here (by with_unfolding_all exact rfl) ?_; refine ww_geqF (by omega) ?_; refine ww_pickF ?_; refine ww_condF ?_; refine ww_subI (by omega) ?_)
      refine ww_call (rvread_ok (by omega) hH O) ?_
      rintro _ h3 ⟨rfl, H3⟩
      simp only [show ((1 : Nat) : Int) = 1 from rfl] at H3 ⊢
      have hw := W.read (p := b - 1)
      generalize (readV M (b - 1)).1.1 = w at *
      with_reducible (refine ww_extract (by with_unfolding_all exact rfl) ?_; refine ww_extract (by with_unfolding_all exact rfl) ?_)
      by_cases h4 : (readV M (b - 1)).1.2 = 0
      · rw [if_pos h4]
        with_reducible (refine ww_neqF (by omega) ?_; refine ww_condF ?_)
        refine ww_iter (fun k s g' => ∃ i : Int, s = (.int .i64 i, .int .u64 w, .int .i64 m, ()) ∧ 1 ≤ i ∧ i ≤ 5 ∧ (k : Int) = 5 - i ∧ HS g g' (RvC o (readV M (b - 1)).2 :: R) ∧ (w < 1 + m ∨ i + m ≤ w)) ?_ (m := 4) (by decide) ⟨1, rfl, by omega, by omega, by omega, H3, by omega⟩
        clear H3
        rintro k2 ih s g' hih ⟨i, rfl, h1, h2, h3, H3, h5⟩
        dsimp only
        simp only [show ((4 : Nat) : Int) = 4 from rfl, show ((1 : Nat) : Int) = 1 from rfl]
        refine ww_leqC (fun h6 => ww_condT ?_) fun h6 => ww_condF (ww_leave (ww_ret ?_))
        · refine ww_addI (by omega) (ww_convIU (by omega) (ww_eqlC (fun h7 => ww_condT (ww_leave (ww_ret ?_))) fun h7 => ww_condF (ww_addI (by omega) (hih (k2 - 1) _ _ (by omega) ⟨i + 1, rfl, by omega, by omega, by omega, H3, by omega⟩))))
          have hma : markA w m = i := by unfold markA; rw [if_pos (by omega)]; omega
          rw [hma, if_neg (by omega)]
          exact ⟨rfl, H3⟩
        · have hma : markA w m = 0 := by unfold markA; rw [if_neg (by omega)]
          rw [hma, if_pos rfl]
          exact ⟨rfl, H3⟩
      · rw [if_neg h4]
        with_reducible (refine ww_neqT (by omega) ?_; refine ww_condT ?_)
        exact ww_ret ⟨rfl, H3⟩

/-! the same as by the program -/
theorem head_mark0 (w : Int) : (headA w).1 = 0 ∨ (headA w).2 = true → markA w 0 = 0 := by
  unfold headA markA
  intro h
  split at h
  · rcases h with h | h
    · dsimp only at h; omega
    · cases h
  · rw [if_neg (by omega)]
theorem head_mark0' (w : Int) : ¬ (headA w).1 = 0 → (headA w).2 = false → markA w 0 = (headA w).1 := by
  unfold headA markA
  intro h1 h2
  split at h2
  · rename_i hc
    rw [if_pos (by omega), if_pos hc]; dsimp only; omega
  · split at h2
    · cases h2
    · rename_i hc hd
      rw [if_neg hc, if_neg hd] at h1; exact absurd rfl h1
theorem head_mark8 (w : Int) : (headA w).1 = 0 ∨ (headA w).2 = false → markA w 8 = 0 := by
  unfold headA markA
  intro h
  split at h
  · rw [if_neg (by omega)]
  · split at h
    · rcases h with h | h
      · dsimp only at h; omega
      · cases h
    · rw [if_neg (by omega)]
theorem head_mark8' (w : Int) : ¬ (headA w).1 = 0 → (headA w).2 = true → markA w 8 = (headA w).1 := by
  unfold headA markA
  intro h1 h2
  split at h2
  · cases h2
  · split at h2
    · rename_i hc hd
      rw [if_pos (by omega), if_neg hc, if_pos hd]
    · cases h2
theorem hdr_ask {M : VM} {b m : Int} (hm : m = 0 ∨ m = 8) : hdrV M b m =
    (if (askV M b).1.2.2 = 0 then (if (askV M b).1.2.1 = (decide (m = 8)) then (((askV M b).1.1, 0), (askV M b).2) else ((0, 2), (askV M b).2)) else ((0, (askV M b).1.2.2), (askV M b).2)) := by
  unfold hdrV askV
  split
  · rfl
  · split
    · generalize (readV M (b - 1)).1.1 = w
      rcases hm with rfl | rfl
      · by_cases h1 : (headA w).1 = 0
        · rw [head_mark0 w (.inl h1), if_pos rfl, if_pos h1]; rfl
        · cases h2 : (headA w).2
          · rw [head_mark0' w h1 h2, if_neg h1, if_neg h1]; rfl
          · rw [head_mark0 w (.inr h2), if_pos rfl, if_neg h1]; rfl
      · by_cases h1 : (headA w).1 = 0
        · rw [head_mark8 w (.inl h1), if_pos rfl, if_pos h1]; rfl
        · cases h2 : (headA w).2
          · rw [head_mark8 w (.inr h2), if_pos rfl, if_neg h1]; rfl
          · rw [head_mark8' w h1 h2, if_neg h1, if_neg h1]; rfl
    · rename_i h1
      first | rfl | (rw [if_neg h1])

theorem rgive_ok {n : Nat} (hn : 6 ≤ n) {o : Nat} {M : VM} {b : Int} (H : HS g h (RvC o M :: R)) (O : OkV M) (W : WdV M) :
    wp (callT tab rtab n (.fn 20 [] []) [.ptr o 0, .int .i64 b] h) fun r h' => r = .int .i64 (giveA M b).1 ∧ HS g h' (RvC o (giveA M b).2 :: R) := by
  (refine ww_fn (g := W20) rfl (by omega) fun k hk => ?_; show wp (S20 (callT tab rtab k) _ _ _) _; unfold S20; try simp only [Int.ofNat_eq_natCast])
  refine ww_call (rheader_ok (by omega) H O W (by omega)) ?_
  rintro _ h1 ⟨rfl, H1⟩
  have hb := askV_b M b
  have hO := askV_ok (b := b) O
  have hhi := O.hi
  rw [show ((0 : Nat) : Int) = 0 from rfl] at H1 ⊢
  rw [hdr_ask (.inl rfl)] at H1 ⊢
  unfold giveA
  with_reducible (refine ww_extract (by with_unfolding_all exact rfl) ?_; refine ww_extract (by with_unfolding_all exact rfl) ?_)
  by_cases h2 : (askV M b).1.2.2 = 0
  · rw [if_pos h2] at H1 ⊢
    rw [if_pos h2]
    cases h3 : (askV M b).1.2.1
    · rw [h3] at H1
      simp only [show (decide ((0 : Int) = 8)) = false from rfl, if_true] at H1 ⊢
      with_reducible (refine ww_neqF (by omega) ?_; refine ww_condF ?_; refine ww_addI (by omega) ?_; refine ww_subI (by omega) ?_)
      rw [show ((1 : Nat) : Int) + (askV M b).1.1 - ((1 : Nat) : Int) = (askV M b).1.1 by omega]
      refine ww_call (rvread_ok (by omega) H1 hO) ?_
      rintro _ h4 ⟨rfl, H4⟩
      with_reducible (refine ww_extract (by with_unfolding_all exact rfl) ?_; refine ww_extract (by with_unfolding_all exact rfl) ?_)
      by_cases h5 : (readV (askV M b).2 (askV M b).1.1).1.2 = 0
      · rw [if_pos h5]
        with_reducible (refine ww_neqF (by omega) ?_; refine ww_condF ?_; refine ww_build (by with_unfolding_all exact rfl) ?_; refine ww_convIU (by omega) ?_; refine ww_build (by with_unfolding_all exact rfl) ?_)
        refine (ww_buildSH (n := 2) (l := [.int .i64 b, .int .u64 (readV (askV M b).2 (askV M b).1.1).1.1, .int .i64 (askV M b).1.1, .int .u64 b]) (sz := 2) H4 rfl rfl rfl rfl fun v5 h5 H5 => ?_)
        refine ww_call (rvtake_ok (cs := [(b, (readV (askV M b).2 (askV M b).1.1).1.1), ((askV M b).1.1, b)]) (by omega) (H5.sel (.there .here)) (readV_ok hO) (.own .here) (by simp)) ?_
        rintro _ h6 ⟨rfl, H6⟩
        skip
        exact ww_ret ⟨rfl, H6.sub (.cons .here (.drop (.refl)))⟩
      · rw [if_neg h5]
        with_reducible (refine ww_neqT (by omega) ?_; refine ww_condT ?_)
        exact ww_ret ⟨rfl, H4⟩
    · rw [h3] at H1
      skip
      exact ww_ret ⟨rfl, H1⟩
  · rw [if_neg h2] at H1 ⊢
    rw [if_neg h2]
    with_reducible (refine ww_neqT (by omega) ?_; refine ww_condT ?_)
    exact ww_ret ⟨rfl, H1⟩

end Go.Proofs.YtjpfndpcmoklfaaGreatDoor
