/- Trees: behind a node that came: the walks of straight and raised. -/
import Derived.Test.YtpohfcljfemhlaaTreeL
namespace Go.Proofs.Ytpohfcljfemhlaa.arenaParts
open Go Go.Ae arenaPlays
set_option maxRecDepth 100000

variable {g h : AH} {L R : List SP} {α : Type}

/-- an element's place, good for any heap in which the slice stands -/
theorem ww_idxA {D : Nat → Prop} {sz n i : Nat} {v : AV} {xs : List AV} {k : IntKind} {K : AV → Go.Ae.R} {Q : AV → AH → Prop} (S : Sl D h sz n v xs) (hi : i < n)
    (w : ∀ b off, b < h.nx → (∀ {D' : Nat → Prop} {h' : AH} {xs' : List AV}, Sl D' h' sz n v xs' → ∀ j, j < sz → h'.at b (off + j) = xs'[i * sz + j]?) → wp (K (.ptr b off)) Q) : wp (pIdxS v (.int k (i : Int)) sz K) Q := by
  cases S with
  | nils => omega
  | empt a => omega
  | tail b o o' i => omega
  | mk hd hb hr hl ha =>
    refine ww_idxS hi (w _ _ hb ?_)
    intro D' h' xs' S' j hj
    cases S' with
    | mk hd' hb' hr' hl' ha' =>
      rw [Nat.add_assoc, ha' _ (by
        have : i * sz + sz ≤ n * sz := by rw [← Nat.succ_mul]; exact Nat.mul_le_mul_right sz hi
        omega)]
theorem way_at {way : List StpT} {n j : Nat} (hn : n < way.length) (hj : j < 2) : (way.flatMap encS)[n * 2 + j]? = (encS (wayN way n))[j]? := way_cell hn hj

theorem way_take : ∀ (l : List StpT) (i : Nat), (l.flatMap encS).take (i * 2) = (l.take i).flatMap encS := by
  intro l
  induction l with
  | nil => intro i; simp
  | cons s l ih =>
    intro i
    cases i with
    | zero => simp
    | succ i =>
      rw [List.flatMap_cons, List.take_succ_cons, List.flatMap_cons, ← ih, show (i + 1) * 2 = (encS s).length + i * 2 by show _ = 2 + i * 2; omega, List.take_length_add_append]

theorem straight_ok {n : Nat} (hn : 15 ≤ n) {t d : Nat} {D : DM} {root : Int} {up grand : StpT} {wv : AV} {way : List StpT} {sz : Nat} (H : HS g h (DrC d D :: TrC t d root wv :: WayC wv way :: R)) (G : GoodD D sz 5) (O : OkW way) (hl2 : 2 ≤ way.length) (hl : way.length ≤ 1000000)
    (hu : (0 ≤ up.1 ∧ up.1 ≤ 2147483648) ∧ (0 ≤ up.2 ∧ up.2 ≤ 1)) (hg : (0 ≤ grand.1 ∧ grand.1 ≤ 2147483648) ∧ (0 ≤ grand.2 ∧ grand.2 ≤ 1)) :
    wp (callT tab rtab n (.fn 45 [] []) [.ptr t 0, .agg (encS up), .agg (encS grand)] h) fun _ h' => ∃ (D' : DM), (∀ k : Act α, EqR (runA (straightA root way up grand k) D) (runA k D')) ∧ Aft D D' sz ∧ HS g h' (DrC d D' :: TrC t d root wv :: WayC wv way :: R) := by
  (refine ww_fn (g := W45) rfl (by omega) fun k hk => ?_; show wp (S45 (callT tab rtab k) _ _ _ _) _; unfold S45; try simp only [Int.ofNat_eq_natCast])
  obtain ⟨ua, us⟩ := up
  obtain ⟨ga, gs⟩ := grand
  dsimp only at hu hg
  refine ww_boxA H rfl fun b0 h1 H1 => ?_
  refine ww_boxA H1 rfl fun b1 h2 H2 => ?_
  have H2 : HS g h2 (ObjC b1 [.int .i64 ga, .int .i64 gs] :: ObjC b0 [.int .i64 ua, .int .i64 us] :: DrC d D :: TrC t d root wv :: WayC wv way :: R) := H2
  have H2 : HS g h2 (DrC d D :: TrC t d root wv :: WayC wv way :: ObjC b1 [.int .i64 ga, .int .i64 gs] :: ObjC b0 [.int .i64 ua, .int .i64 us] :: R) := H2.sub (.cons (.there (.there .here)) (.cons (.there (.there .here)) (.cons (.there (.there .here)) (.cons .here (.cons .here .refl)))))
  clear H H1
  refine ww_joinD [] (fun s h' => ∃ D2 : DM, s = (.ptr b1 0, .ptr t 0, ()) ∧ (∀ k : Act α, EqR (runA (straightA root way (ua, us) (ga, gs) k) D) (runA (turnA ga (1 - gs) fun a => paintA a false (paintA ga true (linkA root way (way.length - 2) a k))) D2)) ∧ Aft D D2 sz ∧
    HS g h' (DrC d D2 :: TrC t d root wv :: WayC wv way :: ObjC b1 [.int .i64 ga, .int .i64 gs] :: ObjC b0 [.int .i64 ua, .int .i64 us] :: R)) ?_ ?_
  · intro j hj
    with_reducible (refine ww_field0 ?_; refine ww_ldH (by assumption) (.there (.there (.there (.there .here)))) (by with_unfolding_all exact rfl) ?_; refine ww_field0 ?_; refine ww_ldH (by assumption) (.there (.there (.there .here))) (by with_unfolding_all exact rfl) ?_)
    by_cases he : us = gs
    · refine ww_neqF he (ww_condF ?_)
      exact hj _ _ ⟨D, rfl, fun k => by unfold straightA; rw [if_pos he]; exact EqR.refl _, ⟨G, rfl⟩, H2⟩
    · refine ww_neqT he (ww_condT ?_)
      with_reducible (refine ww_joinS ?_; (try dsimp only); refine ww_field0 ?_; refine ww_ldH (by assumption) (.there (.there (.there .here))) (by with_unfolding_all exact rfl) ?_; refine ww_field0 ?_; refine ww_ldH (by assumption) (.there (.there (.there .here))) (by with_unfolding_all exact rfl) ?_; refine ww_field0 ?_; refine ww_ldH (by assumption) (.there (.there (.there (.there .here)))) (by with_unfolding_all exact rfl) ?_; refine ww_field0 ?_; refine ww_ldH (by assumption) (.there (.there (.there .here))) (by with_unfolding_all exact rfl) ?_)
      refine ww_call (turn_ok (α := α) (by omega) H2 G hu.1 hg.2) ?_
      rintro _ h3 ⟨v, D3, rfl, E3, A3, b3, H3⟩
      refine ww_call (hang_ok (α := α) (by omega) H3 A3.good hg.1 (by omega)) ?_
      rintro _ h4 ⟨D4, E4, A4, H4⟩
      with_reducible (refine ww_chkH (by assumption) (.there (.there (.there .here))) (by with_unfolding_all exact rfl) (by assumption) (.there (.there (.there .here))) (by with_unfolding_all exact rfl) (HS.lt (by assumption) (.there (.there (.there .here)))) ?_; refine ww_chkH (by assumption) (.there (.there (.there .here))) (by with_unfolding_all exact rfl) (by assumption) (.there (.there (.there .here))) (by with_unfolding_all exact rfl) (HS.lt (by assumption) (.there (.there (.there .here)))) ?_)
      exact hj _ _ ⟨D4, rfl, fun k => by unfold straightA; rw [if_neg he]; exact (E3 _).trans (E4 _), ⟨A4.good, A4.stp.trans A3.stp⟩, H4⟩
  clear H2
  rintro s h3 ⟨D2, rfl, E2, A2, H3⟩
  dsimp only
  with_reducible (refine ww_field0 ?_; refine ww_ldH (by assumption) (.there (.there (.there .here))) (by with_unfolding_all exact rfl) ?_; refine ww_field0 ?_; refine ww_ldH (by assumption) (.there (.there (.there .here))) (by with_unfolding_all exact rfl) ?_; refine ww_subI (by omega) ?_)
  refine ww_call (turn_ok (α := α) (by omega) H3 A2.good hg.1 (side := 1 - gs) (by omega)) ?_
  rintro _ h4 ⟨v, D4, rfl, E4, A4, b4, H4⟩
  refine ww_call (paint_ok (α := α) (by omega) H4 A4.good (by omega)) ?_
  rintro _ h5 ⟨D5, E5, A5, H5⟩
  with_reducible (refine ww_field0 ?_; refine ww_ldH (by assumption) (.there (.there (.there .here))) (by with_unfolding_all exact rfl) ?_)
  refine ww_call (paint_ok (α := α) (by omega) H5 A5.good hg.1) ?_
  rintro _ h6 ⟨D6, E6, A6, H6⟩
  with_reducible (refine ww_nil ?_; refine ww_field0 ?_; refine ww_ldH (by assumption) (.there .here) (by with_unfolding_all exact rfl) ?_; refine ww_lenH (by assumption) (.there (.there .here)) ?_; refine ww_subI (by omega) ?_)
  rw [show ((way.length : Nat) : Int) - ((2 : Nat) : Int) = ((way.length - 2 : Nat) : Int) by omega]
  refine ww_call (link_ok (α := α) (by omega) H6 A6.good O (by omega) hl (by omega)) ?_
  rintro _ h7 ⟨D7, E7, A7, H7⟩
  with_reducible (refine ww_leave ?_)
  exact ww_ret ⟨D7, fun k => (E2 k).trans ((E4 _).trans ((E5 _).trans ((E6 _).trans (E7 _)))), ⟨A7.good, A7.stp.trans (A6.stp.trans (A5.stp.trans (A4.stp.trans A2.stp)))⟩, H7.sub (.cons .here (.cons .here (.cons .here (.drop (.drop .refl)))))⟩

theorem OkW.take {way : List StpT} {n : Nat} (O : OkW way) : OkW (way.take n) := fun s hs => O s (List.mem_of_mem_take hs)
theorem raised_ok {n : Nat} (hn : 17 ≤ n) {t d : Nat} {D : DM} {root : Int} {wv : AV} {way : List StpT} {sz : Nat} (H : HS g h (DrC d D :: TrC t d root wv :: WayC wv way :: R)) (G : GoodD D sz 5) (O : OkW way) (hl : way.length ≤ 10000) (hs : D.stp ≤ 10000) :
    wp (callT tab rtab n (.fn 21 [] []) [.ptr t 0] h) fun _ h' => ∃ (D' : DM) (wv' : AV) (way' : List StpT), (∀ k : Act α, EqR (runA (raisedL root k 2049 way) D) (runA k D')) ∧ GoodD D' sz 5 ∧ HS g h' (DrC d D' :: TrC t d root wv' :: WayC wv' way' :: R) := by
  (refine ww_fn (g := W21) rfl (by omega) fun k hk => ?_; show wp (S21 (callT tab rtab k) _ _) _; unfold S21; try simp only [Int.ofNat_eq_natCast])
  have hs0 := G.st
  refine ww_iter (fun m s h' => ∃ (way2 : List StpT) (wv2 : AV) (D2 : DM), s = (.ptr t 0, ()) ∧ (∀ k : Act α, EqR (runA (raisedL root k 2049 way) D) (runA (raisedL root k m way2) D2)) ∧ GoodD D2 sz 5 ∧ OkW way2 ∧ way2.length ≤ 10000 ∧ 2049 ≤ D2.stp + m ∧ D2.stp + m ≤ 20000 ∧
    HS g h' (DrC d D2 :: TrC t d root wv2 :: WayC wv2 way2 :: R))
    ?_ (m := 2049) (by show 2049 < 1000000000; omega) ⟨way, wv, D, rfl, fun k => EqR.refl _, G, O, hl, by omega, by omega, H⟩
  clear H G O hl hs hs0
  rintro m ih s h3 hih ⟨way2, wv2, D2, rfl, E, G2, O, hl, hst, hst2, H⟩
  dsimp only
  with_reducible (refine ww_nil ?_; refine ww_field0 ?_; refine ww_ldH (by assumption) (.there .here) (by with_unfolding_all exact rfl) ?_; refine ww_lenH (by assumption) (.there (.there .here)) ?_)
  by_cases h2 : 2 ≤ way2.length
  rotate_left
  · have e : ∀ k : Act α, raisedL root k m way2 = placeA root fun a => paintA a false k := by
      intro k
      cases m <;> (unfold raisedL; rw [if_neg h2])
    refine ww_geqF (by omega) ?_
    with_reducible (refine ww_joinS ?_; (try dsimp only); refine ww_wantFT ?_; (try dsimp only); refine ww_pickF ?_; refine ww_condF ?_; refine ww_nil ?_; refine ww_field0 ?_; refine ww_ldH (by assumption) (.there .here) (by with_unfolding_all exact rfl) ?_; refine ww_lenH (by assumption) (.there (.there .here)) ?_; refine ww_lssT (by omega) ?_; refine ww_joinS ?_; (try dsimp only); refine ww_wantTT ?_; (try dsimp only); refine ww_nil ?_; refine ww_field0 ?_; refine ww_ldH (by assumption) (.there .here) (by with_unfolding_all exact rfl) ?_)
    refine ww_call (dok_ok (by omega) H) ?_
    rintro _ h4 ⟨rfl, rfl⟩
    by_cases he : D2.err = 0
    · rw [decide_eq_true he]
      with_reducible (refine ww_pickT ?_; refine ww_condT ?_)
      refine ww_call (top_ok (α := α) (by omega) H G2) ?_
      rintro _ h5 ⟨a, D5, rfl, E5, A5, b5, H5⟩
      refine ww_call (paint_ok (α := α) (by omega) H5 A5.good (by omega)) ?_
      rintro _ h6 ⟨D6, E6, A6, H6⟩
      with_reducible (refine ww_leave ?_)
      exact ww_ret ⟨D6, _, _, fun k => (E k).trans (by rw [e]; exact (E5 _).trans (E6 _)), A6.good, H6⟩
    · rw [decide_eq_false he]
      with_reducible (refine ww_pickT ?_; refine ww_condF ?_; refine ww_leave ?_)
      exact ww_ret ⟨D2, _, _, fun k => (E k).trans (EqR.errs he ⟨rfl, rfl⟩), G2, H⟩
  refine ww_geqT (by omega) ?_
  with_reducible (refine ww_joinS ?_; (try dsimp only); refine ww_wantTT ?_; (try dsimp only); refine ww_nil ?_; refine ww_field0 ?_; refine ww_ldH (by assumption) (.there .here) (by with_unfolding_all exact rfl) ?_)
  refine ww_call (dstep_ok (by omega) H G2) ?_
  rintro _ h4 ⟨rfl, H4⟩
  have hs2 := G2.st
  have G3 := G2.step (by omega)
  cases m with
  | zero =>
    have herr := step_end (D := D2) (by omega)
    rw [decide_eq_false herr]
    with_reducible (refine ww_pickT ?_; refine ww_condF ?_; refine ww_nil ?_; refine ww_field0 ?_; refine ww_ldH (by assumption) (.there .here) (by with_unfolding_all exact rfl) ?_; refine ww_lenH (by assumption) (.there (.there .here)) ?_; refine ww_lssF (by omega) ?_; refine ww_joinS ?_; (try dsimp only); refine ww_wantFT ?_; (try dsimp only); refine ww_pickF ?_; refine ww_condF ?_; refine ww_leave ?_)
    refine ww_ret ⟨_, _, _, fun k => (E k).trans ?_, G3.1, H4⟩
    unfold raisedL
    rw [if_pos h2]
    exact run_end (by omega)
  | succ m =>
    obtain ⟨up, hup⟩ : ∃ up, up = wayN way2 (way2.length - 1) := ⟨_, rfl⟩
    obtain ⟨gr, hgr⟩ : ∃ gr, gr = wayN way2 (way2.length - 2) := ⟨_, rfl⟩
    have bu : (0 ≤ up.1 ∧ up.1 ≤ 2147483648) ∧ (0 ≤ up.2 ∧ up.2 ≤ 1) := by rw [hup]; exact O.nth (by omega)
    have bg : (0 ≤ gr.1 ∧ gr.1 ≤ 2147483648) ∧ (0 ≤ gr.2 ∧ gr.2 ≤ 1) := by rw [hgr]; exact O.nth (by omega)
    have E3 : ∀ k : Act α, EqR (runA (raisedL root k 2049 way) D) (runA (redA up.1 fun r => if r = false then k else
        childA gr.1 (1 - gr.2) fun uncle => redA uncle fun ru => if ru = false then straightA root way2 up gr k else
        paintA up.1 false (paintA uncle false (paintA gr.1 true (raisedL root k m (way2.take (way2.length - 2)))))) (stepD D2)) := by
      intro k
      refine (E k).trans ?_
      rw [raisedL, if_pos h2, hup, hgr]
      exact run_step
    by_cases herr : (stepD D2).err = 0
    rotate_left
    · rw [decide_eq_false herr]
      with_reducible (refine ww_pickT ?_; refine ww_condF ?_; refine ww_nil ?_; refine ww_field0 ?_; refine ww_ldH (by assumption) (.there .here) (by with_unfolding_all exact rfl) ?_; refine ww_lenH (by assumption) (.there (.there .here)) ?_; refine ww_lssF (by omega) ?_; refine ww_joinS ?_; (try dsimp only); refine ww_wantFT ?_; (try dsimp only); refine ww_pickF ?_; refine ww_condF ?_; refine ww_leave ?_)
      exact ww_ret ⟨_, _, _, fun k => (E3 k).trans (EqR.errs herr ⟨rfl, rfl⟩), G3.1, H4⟩
    rw [decide_eq_true herr]
    obtain ⟨G3, hs3⟩ := G3
    generalize stepD D2 = D3 at *
    with_reducible (refine ww_pickT ?_; refine ww_condT ?_; refine ww_nil ?_; refine ww_field0 ?_; refine ww_ldH (by assumption) (.there .here) (by with_unfolding_all exact rfl) ?_; refine ww_lenH (by assumption) (.there (.there .here)) ?_; refine ww_joinS ?_; (try dsimp only); refine ww_nil ?_; refine ww_field0 ?_; refine ww_ldH (by assumption) (.there .here) (by with_unfolding_all exact rfl) ?_; refine ww_subI (by omega) ?_)
    rw [show ((way2.length : Nat) : Int) - ((1 : Nat) : Int) = ((way2.length - 1 : Nat) : Int) by omega]
    refine ww_idxN (l := encS up) (H4.sl (.there (.there .here))) (show way2.length - 1 < way2.length by omega) (by omega) (by rw [hup]; exact way_row (by omega)) ?_
    with_reducible (refine ww_nil ?_; refine ww_field0 ?_; refine ww_ldH (by assumption) (.there .here) (by with_unfolding_all exact rfl) ?_; refine ww_subI (by omega) ?_)
    rw [show ((way2.length : Nat) : Int) - ((2 : Nat) : Int) = ((way2.length - 2 : Nat) : Int) by omega]
    refine ww_idxA (H4.sl (.there (.there .here))) (show way2.length - 2 < way2.length by omega) fun b2 off hb2 hA => ?_
    have hA2 : ∀ {D' : Nat → Prop} {h' : AH}, Sl D' h' 2 way2.length wv2 (way2.flatMap encS) → ∀ j, j < 2 → h'.at b2 (off + j) = (encS gr)[j]? := by
      intro D' h' S' j hj
      rw [hA S' j hj, way_cell (by omega) hj, hgr]
    clear hup hgr hA
    refine ww_loadN (l := encS gr) rfl (by omega) (hA2 (H4.sl (.there (.there .here)))) ?_
    obtain ⟨ua, us⟩ := up
    obtain ⟨ga, gs⟩ := gr
    dsimp only at bu bg
    refine ww_boxA H4 rfl fun b5 h5 H5 => ?_
    refine ww_boxA H5 rfl fun b6 h6 H6 => ?_
    refine ww_stH H6 (b := b5) (.there .here) rfl (by simp [encS]) rfl fun h7 H7 => ?_
    refine ww_stH H7 (b := b6) (.there .here) rfl (by simp [encS]) rfl fun h8 H8 => ?_
    refine ww_chkN rfl (by omega) (hA2 (H6.sl (.there (.there (.there (.there .here)))))) (hA2 (H7.sl (.there (.there (.there (.there .here)))))) hb2 ?_
    refine ww_chkH H6 (b := t) (.there (.there (.there .here))) rfl H7 (.there (.there (.there .here))) rfl (HS.lt H4 (.there .here)) ?_
    have H8 : HS g h8 (ObjC b6 [.int .i64 ga, .int .i64 gs] :: ObjC b5 [.int .i64 ua, .int .i64 us] :: DrC d D3 :: TrC t d root wv2 :: WayC wv2 way2 :: R) := H8
    have H8 : HS g h8 (DrC d D3 :: TrC t d root wv2 :: WayC wv2 way2 :: ObjC b6 [.int .i64 ga, .int .i64 gs] :: ObjC b5 [.int .i64 ua, .int .i64 us] :: R) := H8.sub (.cons (.there (.there .here)) (.cons (.there (.there .here)) (.cons (.there (.there .here)) (.cons .here (.cons .here .refl)))))
    clear H H4 H5 H6 H7
    with_reducible (refine ww_field0 ?_; refine ww_ldH (by assumption) (.there (.there (.there (.there .here)))) (by with_unfolding_all exact rfl) ?_)
    refine ww_call (red_ok (α := α) (by omega) H8 G3 bu.1) ?_
    rintro _ h9 ⟨r, D9, rfl, E9, A9, H9⟩
    cases r with
    | false =>
      with_reducible (refine ww_notF ?_; refine ww_condT ?_; refine ww_leave ?_)
      exact ww_ret ⟨_, _, _, fun k => (E3 k).trans (E9 _), A9.good, H9.sub (.cons .here (.cons .here (.cons .here (.drop (.drop .refl)))))⟩
    | true =>
      with_reducible (refine ww_notT ?_; refine ww_condF ?_; refine ww_field0 ?_; refine ww_ldH (by assumption) (.there (.there (.there .here))) (by with_unfolding_all exact rfl) ?_; refine ww_field0 ?_; refine ww_ldH (by assumption) (.there (.there (.there .here))) (by with_unfolding_all exact rfl) ?_; refine ww_subI (by omega) ?_)
      refine ww_call (child_ok (α := α) (by omega) H9 A9.good bg.1) ?_
      rintro _ h10 ⟨uncle, D10, rfl, E10, A10, b10, H10⟩
      refine ww_call (red_ok (α := α) (by omega) H10 A10.good (by omega)) ?_
      rintro _ h11 ⟨ru, D11, rfl, E11, A11, H11⟩
      have E12 : ∀ k : Act α, _ := fun k => (E3 k).trans ((E9 _).trans ((E10 _).trans (E11 _)))
      cases ru with
      | false =>
        with_reducible (refine ww_notF ?_; refine ww_condT ?_)
        refine ww_ldNH H11 (b := b5) (off := 0) (.there (.there (.there (.there .here)))) rfl (by omega) rfl ?_
        refine ww_ldNH H11 (b := b6) (off := 0) (.there (.there (.there .here))) rfl (by omega) rfl ?_
        refine ww_call (straight_ok (α := α) (up := (ua, us)) (grand := (ga, gs)) (by omega) H11 A11.good O h2 (by omega) bu bg) ?_
        rintro _ h12 ⟨D12, E13, A12, H12⟩
        with_reducible (refine ww_leave ?_)
        exact ww_ret ⟨_, _, _, fun k => (E12 k).trans (E13 _), A12.good, H12.sub (.cons .here (.cons .here (.cons .here (.drop (.drop .refl)))))⟩
      | true =>
        with_reducible (refine ww_notT ?_; refine ww_condF ?_; refine ww_field0 ?_; refine ww_ldH (by assumption) (.there (.there (.there (.there .here)))) (by with_unfolding_all exact rfl) ?_)
        refine ww_call (paint_ok (α := α) (by omega) H11 A11.good bu.1) ?_
        rintro _ h12 ⟨D12, E13, A12, H12⟩
        refine ww_call (paint_ok (α := α) (by omega) H12 A12.good (by omega)) ?_
        rintro _ h13 ⟨D13, E14, A13, H13⟩
        with_reducible (refine ww_field0 ?_; refine ww_ldH (by assumption) (.there (.there (.there .here))) (by with_unfolding_all exact rfl) ?_)
        refine ww_call (paint_ok (α := α) (by omega) H13 A13.good bg.1) ?_
        rintro _ h14 ⟨D14, E15, A14, H14⟩
        with_reducible (refine ww_nil ?_; refine ww_field0 ?_; refine ww_ldH (by assumption) (.there .here) (by with_unfolding_all exact rfl) ?_; refine ww_subI (by omega) ?_)
        rw [show ((way2.length : Nat) : Int) - ((2 : Nat) : Int) = ((way2.length - 2 : Nat) : Int) by omega]
        refine ww_cutH (H14.sel (.there (.there .here))) (by omega) (show way2.length - 2 ≤ way2.length by omega) fun v15 H15 => ?_
        have o15 := H15.one .here
        with_reducible (refine ww_nil ?_; refine ww_field0 ?_)
        refine ww_st1H H15 (b := t) (.there (.there .here)) o15 (by simp) fun h16 H16 => ?_
        have ht : (way2.flatMap encS).take ((way2.length - 2) * 2) = (way2.take (way2.length - 2)).flatMap encS := way_take _ _
        have hlen : (way2.take (way2.length - 2)).length = way2.length - 2 := by rw [List.length_take]; omega
        have H16 : HS g h16 (TrC t d root v15 :: WayC v15 (way2.take (way2.length - 2)) :: DrC d D14 :: ObjC b6 [.int .i64 ga, .int .i64 gs] :: ObjC b5 [.int .i64 ua, .int .i64 us] :: R) := by
          have H17 : HS g h16 (TrC t d root v15 :: SliC 76 2 (way2.length - 2) v15 ((way2.flatMap encS).take ((way2.length - 2) * 2)) :: DrC d D14 :: ObjC b6 [.int .i64 ga, .int .i64 gs] :: ObjC b5 [.int .i64 ua, .int .i64 us] :: R) := H16
          rw [ht] at H17
          unfold WayC
          rw [hlen]
          exact H17
        have q1 := A9.stp
        have q2 := A10.stp
        have q3 := A11.stp
        have q4 := A12.stp
        have q5 := A13.stp
        have q6 := A14.stp
        exact hih m _ _ (by omega) ⟨way2.take (way2.length - 2), v15, D14, rfl, fun k => (E12 k).trans ((E13 _).trans ((E14 _).trans (E15 _))), A14.good, O.take, by omega, by omega, by omega, H16.sub (.cons (.there (.there .here)) (.cons .here (.cons .here (.drop (.drop .refl)))))⟩
end Go.Proofs.Ytpohfcljfemhlaa.arenaParts
