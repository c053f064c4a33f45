/- Blocks of words: by the document's own text. -/
import Derived.Test.YtaepnpodenmmoaaVwS
import Derived.Test.YtaepnpodenmmoaaArenaA
namespace Go.Proofs.Ytaepnpodenmmoaa
open Go Go.Ae
set_option maxRecDepth 100000

variable {g h : AH} {L R : List SP}

theorem rsize_ok {n : Nat} (hn : 1 ≤ n) {x : Int} : wp (callT tab rtab n (.fn 68 [] []) [.int .i64 x] h) fun v h' => v = .int .i64 (sizeA x) ∧ h' = h := by
  (refine ww_fn (g := W68) rfl (by omega) fun k hk => ?_; show wp (S68 (callT tab rtab k) _ _) _; unfold S68; try simp only [Int.ofNat_eq_natCast])
  repeat' (first | with_reducible refine ww_condT ?_ | with_reducible refine ww_condF ?_ | (with_reducible refine ww_wantTT ?_; try dsimp only) | (with_reducible refine ww_wantTF ?_; try dsimp only) | (with_reducible refine ww_wantFT ?_; try dsimp only) | (with_reducible refine ww_wantFF ?_; try dsimp only) | (with_reducible refine ww_wantU ?_; try dsimp only) | with_reducible refine ww_pickT ?_ | with_reducible refine ww_pickF ?_ | (with_reducible refine ww_joinS ?_; try dsimp only) | with_reducible refine ww_leave ?_ | with_reducible refine ww_notT ?_ | with_reducible refine ww_notF ?_ | with_reducible refine ww_addI (by omega) ?_ | with_reducible refine ww_subI (by omega) ?_ | with_reducible refine ww_addU (by omega) ?_ | with_reducible refine ww_subU (by omega) ?_ | with_reducible refine ww_min ?_ | with_reducible refine ww_max ?_ | with_reducible refine ww_lssC (fun hc => ?_) (fun hc => ?_) | with_reducible refine ww_leqC (fun hc => ?_) (fun hc => ?_) | with_reducible refine ww_gtrC (fun hc => ?_) (fun hc => ?_) | with_reducible refine ww_geqC (fun hc => ?_) (fun hc => ?_) | with_reducible refine ww_eqlC (fun hc => ?_) (fun hc => ?_) | with_reducible refine ww_neqC (fun hc => ?_) (fun hc => ?_) | with_reducible refine ww_condB (fun hc => ?_) (fun hc => ?_))
  · refine ww_ret ⟨?_, rfl⟩
    unfold sizeA; congr 1; repeat' split <;> omega
  · refine ww_ret ⟨?_, rfl⟩
    unfold sizeA; congr 1; repeat' split <;> omega
  · refine ww_convIU (by omega) (ww_shl (by omega) ?_)
    refine ww_ret ⟨?_, rfl⟩
    rcases (show x = 1 ∨ x = 2 ∨ x = 3 ∨ x = 4 by omega) with rfl | rfl | rfl | rfl <;> rfl
theorem rclass_ok {n : Nat} (hn : 2 ≤ n) {x : Int} : wp (callT tab rtab n (.fn 87 [] []) [.int .i64 x] h) fun v h' => v = .int .i64 (classA x) ∧ h' = h := by
  (refine ww_fn (g := W87) rfl (by omega) fun k hk => ?_; show wp (S87 (callT tab rtab k) _ _) _; unfold S87; try simp only [Int.ofNat_eq_natCast])
  repeat' (first | with_reducible refine ww_condT ?_ | with_reducible refine ww_condF ?_ | (with_reducible refine ww_wantTT ?_; try dsimp only) | (with_reducible refine ww_wantTF ?_; try dsimp only) | (with_reducible refine ww_wantFT ?_; try dsimp only) | (with_reducible refine ww_wantFF ?_; try dsimp only) | (with_reducible refine ww_wantU ?_; try dsimp only) | with_reducible refine ww_pickT ?_ | with_reducible refine ww_pickF ?_ | (with_reducible refine ww_joinS ?_; try dsimp only) | with_reducible refine ww_leave ?_ | with_reducible refine ww_notT ?_ | with_reducible refine ww_notF ?_ | with_reducible refine ww_addI (by omega) ?_ | with_reducible refine ww_subI (by omega) ?_ | with_reducible refine ww_addU (by omega) ?_ | with_reducible refine ww_subU (by omega) ?_ | with_reducible refine ww_min ?_ | with_reducible refine ww_max ?_ | with_reducible refine ww_lssC (fun hc => ?_) (fun hc => ?_) | with_reducible refine ww_leqC (fun hc => ?_) (fun hc => ?_) | with_reducible refine ww_gtrC (fun hc => ?_) (fun hc => ?_) | with_reducible refine ww_geqC (fun hc => ?_) (fun hc => ?_) | with_reducible refine ww_eqlC (fun hc => ?_) (fun hc => ?_) | with_reducible refine ww_neqC (fun hc => ?_) (fun hc => ?_) | with_reducible refine ww_condB (fun hc => ?_) (fun hc => ?_))
  · refine ww_ret ⟨?_, rfl⟩
    unfold classA; congr 1; repeat' split <;> omega
  · refine ww_ret ⟨?_, rfl⟩
    unfold classA; congr 1; repeat' split <;> omega
  · refine ww_iter (fun m s g => ∃ i : Int, s = (.int .i64 i, .int .i64 x, ()) ∧ 1 ≤ i ∧ i ≤ 4 ∧ (m : Int) = 4 - i ∧ g = h ∧ (1 < i → 2 < x) ∧ (2 < i → 4 < x) ∧ (3 < i → 8 < x)) ?_ (m := 3) (by decide) ⟨1, rfl, by omega, by omega, by omega, rfl, by omega, by omega, by omega⟩
    rintro m ih s g hih ⟨i, rfl, h1, h2, h3, rfl, h4, h5, h6⟩
    dsimp only
    refine ww_call (rsize_ok (by omega)) ?_
    rintro v g' ⟨rfl, rfl⟩
    repeat' (first | with_reducible refine ww_condT ?_ | with_reducible refine ww_condF ?_ | (with_reducible refine ww_wantTT ?_; try dsimp only) | (with_reducible refine ww_wantTF ?_; try dsimp only) | (with_reducible refine ww_wantFT ?_; try dsimp only) | (with_reducible refine ww_wantFF ?_; try dsimp only) | (with_reducible refine ww_wantU ?_; try dsimp only) | with_reducible refine ww_pickT ?_ | with_reducible refine ww_pickF ?_ | (with_reducible refine ww_joinS ?_; try dsimp only) | with_reducible refine ww_leave ?_ | with_reducible refine ww_notT ?_ | with_reducible refine ww_notF ?_ | with_reducible refine ww_addI (by omega) ?_ | with_reducible refine ww_subI (by omega) ?_ | with_reducible refine ww_addU (by omega) ?_ | with_reducible refine ww_subU (by omega) ?_ | with_reducible refine ww_min ?_ | with_reducible refine ww_max ?_ | with_reducible refine ww_lssC (fun hc => ?_) (fun hc => ?_) | with_reducible refine ww_leqC (fun hc => ?_) (fun hc => ?_) | with_reducible refine ww_gtrC (fun hc => ?_) (fun hc => ?_) | with_reducible refine ww_geqC (fun hc => ?_) (fun hc => ?_) | with_reducible refine ww_eqlC (fun hc => ?_) (fun hc => ?_) | with_reducible refine ww_neqC (fun hc => ?_) (fun hc => ?_) | with_reducible refine ww_condB (fun hc => ?_) (fun hc => ?_))
    · refine hih (m - 1) _ _ ?_ ⟨i + 1, rfl, by omega, ?_, ?_, rfl, ?_, ?_, ?_⟩ <;> (unfold sizeA at *; repeat' split at * <;> omega)
    · refine ww_ret ⟨?_, rfl⟩
      unfold sizeA at *; unfold classA; congr 1; repeat' split <;> omega

theorem rplaceA_ok {n : Nat} (hn : 1 ≤ n) {w : Int} (hw : 0 ≤ w) : wp (callT tab rtab n (.fn 67 [] []) [.int .u64 w] h) fun v h' => v = .int .i64 (if 2147483648 ≤ w then -1 else w) ∧ h' = h := by
  (refine ww_fn (g := W67) rfl (by omega) fun k hk => ?_; show wp (S67 (callT tab rtab k) _ _) _; unfold S67; try simp only [Int.ofNat_eq_natCast])
  by_cases h1 : 2147483648 ≤ w
  · rw [if_pos h1]
    with_reducible (refine ww_geqT (by omega) ?_; refine ww_condT ?_)
    exact ww_ret ⟨rfl, rfl⟩
  · rw [if_neg h1]
    with_reducible (refine ww_geqF (by omega) ?_; refine ww_condF ?_; refine ww_convII (by omega) ?_)
    exact ww_ret ⟨rfl, rfl⟩

/-- what a header tells of the mark that is asked for -/
def markA (w m : Int) : Int := if 1 + m ≤ w ∧ w ≤ 4 + m then w - m else 0
def hdrV (M : VM) (b m : Int) : (Int × Int) × VM :=
  if b ≤ 14 ∨ M.sz ≤ b then ((0, 2), M) else
  if (readV M (b - 1)).1.2 = 0 then
    (if markA (readV M (b - 1)).1.1 m = 0 then ((0, 2), (readV M (b - 1)).2) else ((markA (readV M (b - 1)).1.1 m, 0), (readV M (b - 1)).2))
  else ((0, (readV M (b - 1)).1.2), (readV M (b - 1)).2)

theorem rheader_ok {n : Nat} (hn : 4 ≤ n) {o : Nat} {M : VM} {b m : Int} (H : HS g h (RvC o M :: R)) (O : OkV M) (W : WdV M) (hm : 0 ≤ m ∧ m ≤ 8) :
    wp (callT tab rtab n (.fn 79 [] []) [.ptr o 0, .int .i64 b, .int .i64 m] h) fun r h' => r = .tup [.int .i64 (hdrV M b m).1.1, .int .i64 (hdrV M b m).1.2] ∧ HS g h' (RvC o (hdrV M b m).2 :: R) := by
  (refine ww_fn (g := W79) rfl (by omega) fun k hk => ?_; show wp (S79 (callT tab rtab k) _ _ _ _) _; unfold S79; try simp only [Int.ofNat_eq_natCast])
  have hO := O.hi
  unfold hdrV
  by_cases h1 : b ≤ 14
  · rw [if_pos (.inl h1)]
    with_reducible (refine ww_leqT (by omega) ?_; refine ww_joinS ?_; (try dsimp only); refine ww_wantTF ?_; (try dsimp only); refine ww_pickT ?_; refine ww_condT ?_)
    exact ww_ret ⟨rfl, H⟩
  · have hH := H
    obtain ⟨kv, q, H⟩ := RvC.E H
    by_cases h2 : (M.sz : Int) ≤ b
    · rw [if_pos (.inr h2)]
      with_reducible (refine ww_leqF (by omega) ?_; refine ww_joinS ?_; (try dsimp only); refine ww_wantFF ?_; (try dsimp only); refine ww_nil ?_; refine ww_field0 ?_; refine ww_ldH (by assumption) .here (by with_unfolding_all exact rfl) ?_; refine ww_geqT (by omega) ?_; refine ww_pickF ?_; refine ww_condT ?_)
      exact ww_ret ⟨rfl, hH⟩
    · rw [if_neg (by omega)]
      with_reducible (refine ww_leqF (by omega) ?_; refine ww_joinS ?_; (try dsimp only); refine ww_wantFF ?_; (try dsimp only); refine ww_nil ?_; refine ww_field0 ?_; refine ww_ldH (by assumption) .here (by with_unfolding_all exact rfl) ?_; refine ww_geqF (by omega) ?_; refine ww_pickF ?_; refine ww_condF ?_; refine ww_subI (by omega) ?_)
      refine ww_call (rvread_ok (by omega) hH O) ?_
      rintro _ h3 ⟨rfl, H3⟩
      simp only [show ((1 : Nat) : Int) = 1 from rfl] at H3 ⊢
      have hw := W.read (p := b - 1)
      generalize (readV M (b - 1)).1.1 = w at *
      with_reducible (refine ww_extract (by with_unfolding_all exact rfl) ?_; refine ww_extract (by with_unfolding_all exact rfl) ?_)
      by_cases h4 : (readV M (b - 1)).1.2 = 0
      · rw [if_pos h4]
        with_reducible (refine ww_neqF (by omega) ?_; refine ww_condF ?_)
        refine ww_iter (fun k s g' => ∃ i : Int, s = (.int .i64 i, .int .u64 w, .int .i64 m, ()) ∧ 1 ≤ i ∧ i ≤ 5 ∧ (k : Int) = 5 - i ∧ HS g g' (RvC o (readV M (b - 1)).2 :: R) ∧ (w < 1 + m ∨ i + m ≤ w)) ?_ (m := 4) (by decide) ⟨1, rfl, by omega, by omega, by omega, H3, by omega⟩
        clear H3
        rintro k2 ih s g' hih ⟨i, rfl, h1, h2, h3, H3, h5⟩
        dsimp only
        simp only [show ((4 : Nat) : Int) = 4 from rfl, show ((1 : Nat) : Int) = 1 from rfl]
        refine ww_leqC (fun h6 => ww_condT ?_) fun h6 => ww_condF (ww_leave (ww_ret ?_))
        · refine ww_addI (by omega) (ww_convIU (by omega) (ww_eqlC (fun h7 => ww_condT (ww_leave (ww_ret ?_))) fun h7 => ww_condF (ww_addI (by omega) (hih (k2 - 1) _ _ (by omega) ⟨i + 1, rfl, by omega, by omega, by omega, H3, by omega⟩))))
          have hma : markA w m = i := by unfold markA; rw [if_pos (by omega)]; omega
          rw [hma, if_neg (by omega)]
          exact ⟨rfl, H3⟩
        · have hma : markA w m = 0 := by unfold markA; rw [if_neg (by omega)]
          rw [hma, if_pos rfl]
          exact ⟨rfl, H3⟩
      · rw [if_neg h4]
        with_reducible (refine ww_neqT (by omega) ?_; refine ww_condT ?_)
        exact ww_ret ⟨rfl, H3⟩

/-! the same as by the program -/
theorem head_mark0 (w : Int) : (headA w).1 = 0 ∨ (headA w).2 = true → markA w 0 = 0 := by
  unfold headA markA
  intro h
  split at h
  · rcases h with h | h
    · dsimp only at h; omega
    · cases h
  · rw [if_neg (by omega)]
theorem head_mark0' (w : Int) : ¬ (headA w).1 = 0 → (headA w).2 = false → markA w 0 = (headA w).1 := by
  unfold headA markA
  intro h1 h2
  split at h2
  · rename_i hc
    rw [if_pos (by omega), if_pos hc]; dsimp only; omega
  · split at h2
    · cases h2
    · rename_i hc hd
      rw [if_neg hc, if_neg hd] at h1; exact absurd rfl h1
theorem head_mark8 (w : Int) : (headA w).1 = 0 ∨ (headA w).2 = false → markA w 8 = 0 := by
  unfold headA markA
  intro h
  split at h
  · rw [if_neg (by omega)]
  · split at h
    · rcases h with h | h
      · dsimp only at h; omega
      · cases h
    · rw [if_neg (by omega)]
theorem head_mark8' (w : Int) : ¬ (headA w).1 = 0 → (headA w).2 = true → markA w 8 = (headA w).1 := by
  unfold headA markA
  intro h1 h2
  split at h2
  · cases h2
  · split at h2
    · rename_i hc hd
      rw [if_pos (by omega), if_neg hc, if_pos hd]
    · cases h2
theorem hdr_ask {M : VM} {b m : Int} (hm : m = 0 ∨ m = 8) : hdrV M b m =
    (if (askV M b).1.2.2 = 0 then (if (askV M b).1.2.1 = (decide (m = 8)) then (((askV M b).1.1, 0), (askV M b).2) else ((0, 2), (askV M b).2)) else ((0, (askV M b).1.2.2), (askV M b).2)) := by
  unfold hdrV askV
  split
  · rfl
  · split
    · generalize (readV M (b - 1)).1.1 = w
      rcases hm with rfl | rfl
      · by_cases h1 : (headA w).1 = 0
        · rw [head_mark0 w (.inl h1), if_pos rfl, if_pos h1]; rfl
        · cases h2 : (headA w).2
          · rw [head_mark0' w h1 h2, if_neg h1, if_neg h1]; rfl
          · rw [head_mark0 w (.inr h2), if_pos rfl, if_neg h1]; rfl
      · by_cases h1 : (headA w).1 = 0
        · rw [head_mark8 w (.inl h1), if_pos rfl, if_pos h1]; rfl
        · cases h2 : (headA w).2
          · rw [head_mark8 w (.inr h2), if_pos rfl, if_neg h1]; rfl
          · rw [head_mark8' w h1 h2, if_neg h1, if_neg h1]; rfl
    · rename_i h1
      first | rfl | (rw [if_neg h1])

theorem rfree_ok {n : Nat} (hn : 6 ≤ n) {o : Nat} {M : VM} {b : Int} (H : HS g h (RvC o M :: R)) (O : OkV M) (W : WdV M) :
    wp (callT tab rtab n (.fn 50 [] []) [.ptr o 0, .int .i64 b] h) fun r h' => r = .int .i64 (freeA M b).1 ∧ HS g h' (RvC o (freeA M b).2 :: R) := by
  (refine ww_fn (g := W50) rfl (by omega) fun k hk => ?_; show wp (S50 (callT tab rtab k) _ _ _) _; unfold S50; try simp only [Int.ofNat_eq_natCast])
  refine ww_call (rheader_ok (by omega) H O W (by omega)) ?_
  rintro _ h1 ⟨rfl, H1⟩
  have hb := askV_b M b
  have hO := askV_ok (b := b) O
  have hhi := O.hi
  rw [show ((8 : Nat) : Int) = 8 from rfl] at H1 ⊢
  rw [hdr_ask (.inr rfl)] at H1 ⊢
  unfold freeA
  with_reducible (refine ww_extract (by with_unfolding_all exact rfl) ?_; refine ww_extract (by with_unfolding_all exact rfl) ?_)
  by_cases h2 : (askV M b).1.2.2 = 0
  · rw [if_pos h2] at H1 ⊢
    rw [if_pos h2]
    cases h3 : (askV M b).1.2.1
    · rw [h3] at H1
      skip
      exact ww_ret ⟨rfl, H1⟩
    · rw [h3] at H1
      simp only [decide_true, if_true] at H1 ⊢
      with_reducible (refine ww_neqF (by omega) ?_; refine ww_condF ?_; refine ww_subI (by omega) ?_; refine ww_convIU (by omega) ?_; refine ww_build (by with_unfolding_all exact rfl) ?_)
      simp only [show ((1 : Nat) : Int) = 1 from rfl]
      refine (ww_buildSH (n := 1) (l := [.int .i64 (b - 1), .int .u64 (askV M b).1.1]) (sz := 2) H1 rfl rfl rfl rfl fun v3 h3 H3 => ?_)
      refine ww_call (rvtake_ok (cs := [(b - 1, (askV M b).1.1)]) (by omega) (H3.sel (.there .here)) hO (.own .here) (by simp)) ?_
      rintro _ h4 ⟨rfl, H4⟩
      by_cases h5 : (takeV (askV M b).2 [(b - 1, (askV M b).1.1)]).1 = 0
      · rw [if_pos h5]
        obtain ⟨kv, q, H5⟩ := RvC.E H4
        with_reducible (refine ww_neqF (by omega) ?_; refine ww_condF ?_; refine ww_nil ?_; refine ww_field0 ?_; refine ww_ldH (by assumption) .here (by with_unfolding_all exact rfl) ?_)
        refine ww_call (rlfree_ok (by omega) (H5.sel (.there (.there .here))) (takeV_ok hO).lvs fun x hx => Nat.lt_trans ((takeV_ok hO).fr x hx) (by omega)) ?_
        intro _ h6 H6
        exact ww_ret ⟨rfl, RvC.I (M := freeV (takeV (askV M b).2 [(b - 1, (askV M b).1.1)]).2 b) (kv := kv) (q := q) (H6.sub (.cons (.there .here) (.cons (.there .here) (.cons .here (.drop (.refl))))))⟩
      · rw [if_neg h5]
        with_reducible (refine ww_neqT (by omega) ?_; refine ww_condT ?_)
        exact ww_ret ⟨rfl, H4.sub (.cons .here (.drop (.refl)))⟩
  · rw [if_neg h2] at H1 ⊢
    rw [if_neg h2]
    with_reducible (refine ww_neqT (by omega) ?_; refine ww_condT ?_)
    exact ww_ret ⟨rfl, H1⟩

theorem rgive_ok {n : Nat} (hn : 6 ≤ n) {o : Nat} {M : VM} {b : Int} (H : HS g h (RvC o M :: R)) (O : OkV M) (W : WdV M) :
    wp (callT tab rtab n (.fn 51 [] []) [.ptr o 0, .int .i64 b] h) fun r h' => r = .int .i64 (giveA M b).1 ∧ HS g h' (RvC o (giveA M b).2 :: R) := by
  (refine ww_fn (g := W51) rfl (by omega) fun k hk => ?_; show wp (S51 (callT tab rtab k) _ _ _) _; unfold S51; try simp only [Int.ofNat_eq_natCast])
  refine ww_call (rheader_ok (by omega) H O W (by omega)) ?_
  rintro _ h1 ⟨rfl, H1⟩
  have hb := askV_b M b
  have hO := askV_ok (b := b) O
  have hhi := O.hi
  rw [show ((0 : Nat) : Int) = 0 from rfl] at H1 ⊢
  rw [hdr_ask (.inl rfl)] at H1 ⊢
  unfold giveA
  with_reducible (refine ww_extract (by with_unfolding_all exact rfl) ?_; refine ww_extract (by with_unfolding_all exact rfl) ?_)
  by_cases h2 : (askV M b).1.2.2 = 0
  · rw [if_pos h2] at H1 ⊢
    rw [if_pos h2]
    cases h3 : (askV M b).1.2.1
    · rw [h3] at H1
      simp only [show (decide ((0 : Int) = 8)) = false from rfl, if_true] at H1 ⊢
      with_reducible (refine ww_neqF (by omega) ?_; refine ww_condF ?_; refine ww_addI (by omega) ?_; refine ww_subI (by omega) ?_)
      rw [show ((1 : Nat) : Int) + (askV M b).1.1 - ((1 : Nat) : Int) = (askV M b).1.1 by omega]
      refine ww_call (rvread_ok (by omega) H1 hO) ?_
      rintro _ h4 ⟨rfl, H4⟩
      with_reducible (refine ww_extract (by with_unfolding_all exact rfl) ?_; refine ww_extract (by with_unfolding_all exact rfl) ?_)
      by_cases h5 : (readV (askV M b).2 (askV M b).1.1).1.2 = 0
      · rw [if_pos h5]
        with_reducible (refine ww_neqF (by omega) ?_; refine ww_condF ?_; refine ww_build (by with_unfolding_all exact rfl) ?_; refine ww_convIU (by omega) ?_; refine ww_build (by with_unfolding_all exact rfl) ?_)
        refine (ww_buildSH (n := 2) (l := [.int .i64 b, .int .u64 (readV (askV M b).2 (askV M b).1.1).1.1, .int .i64 (askV M b).1.1, .int .u64 b]) (sz := 2) H4 rfl rfl rfl rfl fun v5 h5 H5 => ?_)
        refine ww_call (rvtake_ok (cs := [(b, (readV (askV M b).2 (askV M b).1.1).1.1), ((askV M b).1.1, b)]) (by omega) (H5.sel (.there .here)) (readV_ok hO) (.own .here) (by simp)) ?_
        rintro _ h6 ⟨rfl, H6⟩
        skip
        exact ww_ret ⟨rfl, H6.sub (.cons .here (.drop (.refl)))⟩
      · rw [if_neg h5]
        with_reducible (refine ww_neqT (by omega) ?_; refine ww_condT ?_)
        exact ww_ret ⟨rfl, H4⟩
    · rw [h3] at H1
      skip
      exact ww_ret ⟨rfl, H1⟩
  · rw [if_neg h2] at H1 ⊢
    rw [if_neg h2]
    with_reducible (refine ww_neqT (by omega) ?_; refine ww_condT ?_)
    exact ww_ret ⟨rfl, H1⟩

theorem ralloc_ok {n : Nat} (hn : 7 ≤ n) {o : Nat} {M : VM} {x : Int} (H : HS g h (RvC o M :: R)) (O : OkV M) (W : WdV M) :
    wp (callT tab rtab n (.fn 58 [] []) [.ptr o 0, .int .i64 x] h) fun r h' => r = .tup [.int .i64 (allocV M x).1.1, .int .i64 (allocV M x).1.2] ∧ HS g h' (RvC o (allocV M x).2 :: R) := by
  (refine ww_fn (g := W58) rfl (by omega) fun k hk => ?_; show wp (S58 (callT tab rtab k) _ _ _) _; unfold S58; try simp only [Int.ofNat_eq_natCast])
  refine ww_call (rclass_ok (by omega)) ?_
  rintro _ _ ⟨rfl, rfl⟩
  have hc := classA_b x
  unfold allocV
  by_cases h1 : classA x = 0
  · rw [if_pos h1]
    with_reducible (refine ww_eqlT (by omega) ?_; refine ww_condT ?_)
    exact ww_ret ⟨rfl, H⟩
  · rw [if_neg h1]
    with_reducible (refine ww_eqlF (by omega) ?_; refine ww_condF ?_; refine ww_addI (by omega) ?_; refine ww_subI (by omega) ?_)
    rw [show ((1 : Nat) : Int) + classA x - ((1 : Nat) : Int) = classA x by omega]
    refine ww_call (rvread_ok (by omega) H O) ?_
    rintro _ h3 ⟨rfl, H3⟩
    have hw := W.read (p := classA x)
    have hO1 := readV_ok (p := classA x) O
    have W1 := W.read2 (p := classA x)
    with_reducible (refine ww_extract (by with_unfolding_all exact rfl) ?_; refine ww_extract (by with_unfolding_all exact rfl) ?_)
    by_cases h4 : (readV M (classA x)).1.2 = 0
    · rw [if_pos h4]
      generalize (readV M (classA x)).2 = M1 at *
      generalize (readV M (classA x)).1.1 = b at *
      with_reducible (refine ww_neqF (by omega) ?_; refine ww_condF ?_; refine ww_addI (by omega) ?_; refine ww_convIU (by omega) ?_)
      by_cases h5 : b = 0
      · rw [if_pos h5]
        with_reducible (refine ww_neqF (by omega) ?_; refine ww_condF ?_)
        have hhi := hO1.hi
        have hs := sizeA_b (classA x)
        have hsz : (readV M1 5).2.sz = M1.sz := readV_sz
        have hw5 := W1.read (p := 5)
        unfold grownV
        refine ww_call (rvread_ok (by omega) H3 hO1) ?_
        rintro _ h6 ⟨rfl, H6⟩
        simp only [show ((5 : Nat) : Int) = 5 from rfl] at H6 ⊢
        with_reducible (refine ww_extract (by with_unfolding_all exact rfl) ?_; refine ww_extract (by with_unfolding_all exact rfl) ?_)
        by_cases h6 : (readV M1 5).1.2 = 0
        · rw [if_pos h6]
          with_reducible (refine ww_neqF (by omega) ?_; refine ww_condF ?_)
          refine ww_call (rplaceA_ok (by omega) hw5.1) ?_
          rintro _ _ ⟨rfl, rfl⟩
          have hO5 := readV_ok (p := 5) hO1
          by_cases h7 : (readV M1 5).1.1 < 14 ∨ 2147483648 ≤ (readV M1 5).1.1 ∨ (M1.sz : Int) < (readV M1 5).1.1 + 1 + sizeA (classA x)
          · rw [if_pos h7]
            by_cases h8 : 2147483648 ≤ (readV M1 5).1.1
            · rw [if_pos h8]
              with_reducible (refine ww_joinS ?_; (try dsimp only); refine ww_lssT (by omega) ?_; refine ww_wantTF ?_; (try dsimp only); refine ww_pickT ?_; refine ww_condT ?_)
              exact ww_ret ⟨rfl, H6⟩
            · rw [if_neg h8]
              by_cases h9 : (readV M1 5).1.1 < 14
              · with_reducible (refine ww_joinS ?_; (try dsimp only); refine ww_lssT (by omega) ?_; refine ww_wantTF ?_; (try dsimp only); refine ww_pickT ?_; refine ww_condT ?_)
                exact ww_ret ⟨rfl, H6⟩
              · with_reducible (refine ww_joinS ?_; (try dsimp only); refine ww_lssF (by omega) ?_; refine ww_wantFF ?_; (try dsimp only); refine ww_addI (by omega) ?_)
                refine ww_call (rsize_ok (by omega)) ?_
                rintro _ _ ⟨rfl, rfl⟩
                have hH := H6
                obtain ⟨kv, q, H7⟩ := RvC.E H6
                rw [hsz] at H7
                with_reducible (refine ww_addI (by omega) ?_; refine ww_nil ?_; refine ww_field0 ?_; refine ww_ldH (by assumption) .here (by with_unfolding_all exact rfl) ?_; refine ww_gtrT (by omega) ?_; refine ww_pickF ?_; refine ww_chkH (by assumption) .here (by with_unfolding_all exact rfl) (by assumption) .here (by with_unfolding_all exact rfl) (HS.lt (by assumption) .here) ?_; refine ww_condT ?_)
                exact ww_ret ⟨rfl, hH⟩
          · rw [if_neg h7, if_neg (by omega)]
            with_reducible (refine ww_joinS ?_; (try dsimp only); refine ww_lssF (by omega) ?_; refine ww_wantFF ?_; (try dsimp only); refine ww_addI (by omega) ?_)
            refine ww_call (rsize_ok (by omega)) ?_
            rintro _ _ ⟨rfl, rfl⟩
            obtain ⟨kv, q, H7⟩ := RvC.E H6
            rw [hsz] at H7
            with_reducible (refine ww_addI (by omega) ?_; refine ww_nil ?_; refine ww_field0 ?_; refine ww_ldH (by assumption) .here (by with_unfolding_all exact rfl) ?_; refine ww_gtrF (by omega) ?_; refine ww_pickF ?_; refine ww_chkH (by assumption) .here (by with_unfolding_all exact rfl) (by assumption) .here (by with_unfolding_all exact rfl) (HS.lt (by assumption) .here) ?_; refine ww_condF ?_; refine ww_addI (by omega) ?_)
            refine ww_call (rsize_ok (by omega)) ?_
            rintro _ _ ⟨rfl, rfl⟩
            clear H7
            with_reducible (refine ww_addI (by omega) ?_; refine ww_convIU (by omega) ?_; refine ww_build (by with_unfolding_all exact rfl) ?_; refine ww_build (by with_unfolding_all exact rfl) ?_)
            refine ww_buildSH (n := 2) (l := [.int .i64 5, .int .u64 ((readV M1 5).1.1 + 1 + sizeA (classA x)), .int .i64 (readV M1 5).1.1, .int .u64 (classA x + 8)]) (sz := 2) H6 rfl rfl rfl rfl fun v5 h5 H5 => ?_
            refine ww_call (rvtake_ok (cs := [(5, (readV M1 5).1.1 + 1 + sizeA (classA x)), ((readV M1 5).1.1, classA x + 8)]) (by omega) (H5.sel (.there .here)) hO5 (.own .here) (by simp)) ?_
            rintro _ h6 ⟨rfl, H6⟩
            by_cases h7 : (takeV (readV M1 5).2 [(5, (readV M1 5).1.1 + 1 + sizeA (classA x)), ((readV M1 5).1.1, classA x + 8)]).1 = 0
            · rw [if_pos h7]
              with_reducible (refine ww_neqF (by omega) ?_; refine ww_condF ?_; refine ww_addI (by omega) ?_)
              exact ww_ret ⟨rfl, H6.sub (.cons .here (.drop (.refl)))⟩
            · rw [if_neg h7]
              with_reducible (refine ww_neqT (by omega) ?_; refine ww_condT ?_)
              exact ww_ret ⟨rfl, H6.sub (.cons .here (.drop (.refl)))⟩
        · rw [if_neg h6]
          with_reducible (refine ww_neqT (by omega) ?_; refine ww_condT ?_)
          exact ww_ret ⟨rfl, H6⟩
      · rw [if_neg h5]
        with_reducible (refine ww_neqT (by omega) ?_; refine ww_condT ?_)
        refine ww_call (rplaceA_ok (by omega) hw.1) ?_
        rintro _ _ ⟨rfl, rfl⟩
        unfold againV
        by_cases h6 : 2147483648 ≤ b
        · rw [if_pos h6, if_pos h6]
          refine ww_call (rvread_ok (by omega) H3 hO1) ?_
          rintro _ h7 ⟨rfl, H7⟩
          have hr : readV M1 (-1) = ((0, 2), M1) := by unfold readV; rw [if_neg (by omega)]
          rw [hr] at H7 ⊢
          with_reducible (refine ww_extract (by with_unfolding_all exact rfl) ?_; refine ww_extract (by with_unfolding_all exact rfl) ?_)
          exact ww_ret ⟨rfl, H7⟩
        · rw [if_neg h6, if_neg h6]
          refine ww_call (rvread_ok (by omega) H3 hO1) ?_
          rintro _ h7 ⟨rfl, H7⟩
          with_reducible (refine ww_extract (by with_unfolding_all exact rfl) ?_; refine ww_extract (by with_unfolding_all exact rfl) ?_)
          by_cases h8 : (readV M1 b).1.2 = 0
          · rw [if_pos h8]
            with_reducible (refine ww_neqF (by omega) ?_; refine ww_condF ?_; refine ww_build (by with_unfolding_all exact rfl) ?_; refine ww_subI (by omega) ?_; refine ww_build (by with_unfolding_all exact rfl) ?_)
            simp only [show ((1 : Nat) : Int) = 1 from rfl]
            refine ww_buildSH (n := 2) (l := [.int .i64 (classA x), .int .u64 (readV M1 b).1.1, .int .i64 (b - 1), .int .u64 (classA x + 8)]) (sz := 2) H7 rfl rfl rfl rfl fun v5 h5 H5 => ?_
            refine ww_call (rvtake_ok (cs := [(classA x, (readV M1 b).1.1), (b - 1, classA x + 8)]) (by omega) (H5.sel (.there .here)) (readV_ok hO1) (.own .here) (by simp)) ?_
            rintro _ h6 ⟨rfl, H6⟩
            by_cases h7 : (takeV (readV M1 b).2 [(classA x, (readV M1 b).1.1), (b - 1, classA x + 8)]).1 = 0
            · rw [if_pos h7]
              with_reducible (refine ww_neqF (by omega) ?_; refine ww_condF ?_)
              exact ww_ret ⟨rfl, H6.sub (.cons .here (.drop (.refl)))⟩
            · rw [if_neg h7]
              with_reducible (refine ww_neqT (by omega) ?_; refine ww_condT ?_)
              exact ww_ret ⟨rfl, H6.sub (.cons .here (.drop (.refl)))⟩
          · rw [if_neg h8]
            with_reducible (refine ww_neqT (by omega) ?_; refine ww_condT ?_)
            exact ww_ret ⟨rfl, H7⟩
    · rw [if_neg h4]
      with_reducible (refine ww_neqT (by omega) ?_; refine ww_condT ?_)
      exact ww_ret ⟨rfl, H3⟩

theorem rfresh_ok {n : Nat} (hn : 2 ≤ n) {x : Int} (H : HS g h R) : wp (callT tab rtab n (.fn 22 [] []) [.int .i64 x] h) fun v h' => ∃ e, HS g h' (SliC e 1 (szZ x) v ((freshA x).map (.int .u64)) :: R) := by
  (refine ww_fn (g := W22) rfl (by omega) fun k hk => ?_; show wp (S22 (callT tab rtab k) _ _) _; unfold S22; try simp only [Int.ofNat_eq_natCast])
  have hb := szZ_b x
  refine ww_call (rheld_ok (by omega) (by omega)) ?_
  rintro _ _ ⟨rfl, rfl⟩
  rw [show max ((32 : Nat) : Int) (min x ((256 : Nat) : Int)) = ((szZ x : Nat) : Int) by unfold szZ; omega]
  refine ww_makeN H (by omega) fun v h2 H2 => ?_
  refine ww_slI (i := 5) H2 (by omega) ⟨rfl, rfl⟩ fun h3 H3 => ?_
  unfold freshA
  rw [List.map_set, List.map_replicate]
  exact ww_ret ⟨_, H3⟩
end Go.Proofs.Ytaepnpodenmmoaa
