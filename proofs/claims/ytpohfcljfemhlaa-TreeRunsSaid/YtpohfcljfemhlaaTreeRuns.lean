/- 'TreeRuns' comes to true: its own walk, on what its calls come to. -/
import Derived.Test.YtpohfcljfemhlaaTreeT
namespace Go.Proofs.Ytpohfcljfemhlaa.treeRuns
open Go Go.Ae arenaPlays arenaParts
set_option maxRecDepth 100000

theorem puts_at {i : Nat} (hi : i < 7) : (doG (Ms i) (putA (Ms i).sz ((6 : Nat) : Int) ((i + 1 : Nat) : Int) (((i + 1 : Nat) : Int) + ((10 : Nat) : Int)))).1 = 0 ∧
    (runA (putA (Ms i).sz ((6 : Nat) : Int) ((i + 1 : Nat) : Int) (((i + 1 : Nat) : Int) + ((10 : Nat) : Int))) ⟨ofV (Ms i), 0, 0⟩).1 = some true := by
  have h := puts_true
  simp only [Bool.and_eq_true] at h
  have hb : putB i = true := by
    obtain ⟨⟨⟨⟨⟨⟨h0, h1⟩, h2⟩, h3⟩, h4⟩, h5⟩, h6⟩ := h
    have : i = 0 ∨ i = 1 ∨ i = 2 ∨ i = 3 ∨ i = 4 ∨ i = 5 ∨ i = 6 := by omega
    rcases this with rfl | rfl | rfl | rfl | rfl | rfl | rfl
    · exact h0
    · exact h1
    · exact h2
    · exact h3
    · exact h4
    · exact h5
    · exact h6
  unfold putB at hb
  rw [Bool.and_eq_true] at hb
  exact ⟨of_decide_eq_true hb.1, of_decide_eq_true hb.2⟩

theorem law {n : Nat} (hn : 2500 ≤ n) : wp (callT tab rtab n (.fn 3 [] []) [] AH.empty) fun v _ => v = .bool true := by
  have HR := rest_true
  unfold restB at HR
  simp only [Bool.and_eq_true, decide_eq_true_eq] at HR
  obtain ⟨⟨⟨d1, d2⟩, r1, r2⟩, g1, g2⟩ := HR
  have e8 : (doG (Ms 7) (deepT ((6 : Nat) : Int))).2 = Ms8 := by unfold Ms8; rfl
  have e9 : (doG Ms8 (rangeA ((6 : Nat) : Int) ((3 : Nat) : Int) ((5 : Nat) : Int))).2 = Ms9 := by unfold Ms9; rfl
  generalize Ms8 = M8 at *
  generalize Ms9 = M9 at *
  (refine ww_fn (g := W3) rfl (by omega) fun k hk => ?_; show wp (S3 (callT tab rtab k) _) _; unfold S3; try simp only [Int.ofNat_eq_natCast])
  refine ww_call (afresh_ok (by omega) (HS.nil AH.empty)) ?_
  rintro wv h1 ⟨e1, H⟩
  have H : HS AH.empty h1 (SliC e1 1 (freshA ((200 : Nat) : Int)).length wv ((freshA ((200 : Nat) : Int)).map (.int .u64)) :: []) := H
  refine ww_call (vwhole_ok (zs := freshA ((200 : Nat) : Int)) (m := ((96 : Nat) : Int)) (by omega) H (H.rd .here)) ?_
  rintro _ h2 ⟨v, rfl, H2⟩
  have G0 : GoodV (wholeV (freshA ((200 : Nat) : Int)) ((96 : Nat) : Int)) := whole_good (by decide)
  refine ww_ptrN ?_
  with_reducible (refine ww_condF ?_)
  refine ww_iter (fun m s h' => ∃ i : Nat, s = (.int .u64 ((i + 1 : Nat) : Int), .ptr v 0, ()) ∧ i ≤ 7 ∧ m = 7 - i ∧ GoodV (Ms i) ∧ frS (Ms i).lv ≤ 10 * i ∧ HS AH.empty h' (ViewC v (Ms i) :: []))
    ?_ (m := 7) (by show 7 < 1000000000; omega) ⟨0, rfl, by omega, by omega, G0, Nat.le_refl _, H2.sub (.cons .here (.drop .refl))⟩
  clear H H2 G0
  rintro m ih s h3 hih ⟨i, rfl, hi, rfl, G, hfr, H⟩
  dsimp only
  by_cases hlt : i < 7
  · obtain ⟨f1, f2⟩ := puts_at hlt
    refine ww_leqT (by omega) (ww_condT ?_)
    refine ww_addU (by omega) ?_
    refine ww_call (tput_ok (by omega) H G (by omega) (by omega) (by omega) (by omega)) ?_
    rintro r h4 ⟨q1, _, GG, H4⟩
    obtain rfl := q1 f1 true f2
    with_reducible (refine ww_extract (by with_unfolding_all exact rfl) ?_; refine ww_extract (by with_unfolding_all exact rfl) ?_; refine ww_notT ?_; refine ww_joinS ?_; (try dsimp only); refine ww_wantFF ?_; (try dsimp only); refine ww_neqF (by omega) ?_; refine ww_pickF ?_; refine ww_condF ?_; refine ww_addU (by omega) ?_)
    refine hih (7 - (i + 1)) _ _ (by omega) ⟨i + 1, ?_, by omega, rfl, GG.1, ?_, H4⟩
    · congr 2
    · have := GG.2
      show frS (doG (Ms i) _).2.lv ≤ _
      omega
  obtain rfl : i = 7 := by omega
  clear hih
  refine ww_leqF (by omega) (ww_condF ?_)
  refine ww_call (tdeep_ok (by omega) H G (by omega) (by omega) d1 d2) ?_
  rintro _ h4 ⟨rfl, GG, H4⟩
  rw [e8] at GG H4
  have G8 : GoodV M8 := GG.1
  have f8 : frS M8.lv ≤ 100 := Nat.le_trans GG.2 (by omega)
  clear d1 d2 e8 GG G hfr
  with_reducible (refine ww_extract (by with_unfolding_all exact rfl) ?_; refine ww_extract (by with_unfolding_all exact rfl) ?_)
  refine ww_call (trange_ok (by omega) H4 G8 (by omega) (by omega) r1 r2) ?_
  rintro _ h5 ⟨ov, rfl, GG, H5⟩
  rw [e9] at GG H5
  have H5 : HS AH.empty h5 (ViewC v M9 :: OutC ov [(3, 13), (4, 14), (5, 15)] :: []) := H5.sub (.cons (.there .here) (.cons .here .refl))
  have G9 : GoodV M9 := GG.1
  have f9 : frS M9.lv ≤ 200 := Nat.le_trans GG.2 (by omega)
  clear r1 r2 e9 GG G8
  with_reducible (refine ww_extract (by with_unfolding_all exact rfl) ?_; refine ww_extract (by with_unfolding_all exact rfl) ?_)
  refine ww_call (tget_ok (by omega) H5 G9 (by omega) (by omega) g1 g2) ?_
  rintro _ h6 ⟨rfl, _, H6⟩
  with_reducible (refine ww_extract (by with_unfolding_all exact rfl) ?_; refine ww_extract (by with_unfolding_all exact rfl) ?_; refine ww_extract (by with_unfolding_all exact rfl) ?_)
  refine ww_call (tdeep_bad (by omega) H6 (by omega)) ?_
  rintro _ h7 ⟨rfl, H7⟩
  with_reducible (refine ww_extract (by with_unfolding_all exact rfl) ?_; refine ww_extract (by with_unfolding_all exact rfl) ?_; refine ww_eqlT (by omega) ?_; refine ww_joinS ?_; (try dsimp only); refine ww_wantTT ?_; (try dsimp only); refine ww_geqT (by omega) ?_; refine ww_pickT ?_; refine ww_joinS ?_; (try dsimp only); refine ww_wantTT ?_; (try dsimp only); refine ww_leqT (by omega) ?_; refine ww_pickT ?_; refine ww_joinS ?_; (try dsimp only); refine ww_wantTT ?_; (try dsimp only); refine ww_eqlT (by omega) ?_; refine ww_pickT ?_; refine ww_joinS ?_; (try dsimp only); refine ww_wantTT ?_; (try dsimp only); refine ww_lenH (by assumption) (.there .here) ?_)
  refine ww_idxN (l := [.int .u64 5, .int .u64 15]) (H7.sl (e := 38) (sz := 2) (n := 3) (xs := [(3, 13), (4, 14), ((5 : Int), (15 : Int))].flatMap encP) (.there .here)) (i := 2) (by omega) (by omega) rfl ?_
  with_reducible (refine ww_build (by with_unfolding_all exact rfl) ?_)
  refine ww_eqSC (p := True) rfl (fun _ => ?_) (fun h => absurd trivial h)
  skip
  exact ww_ret rfl
theorem told : Ae.isTrue (callT tab rtab 3000 (.fn 3 [] []) [] AH.empty) = true := by
  obtain ⟨v, h', e, rfl⟩ := law (n := 3000) (by omega)
  rw [e]; rfl
end Go.Proofs.Ytpohfcljfemhlaa.treeRuns
