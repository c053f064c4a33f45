/- 'InterpRefused' comes to true for every argument: its own walk. -/
import Derived.Test.YtpnlmmecgkjehaaGreatDoorCheckR
namespace Go.Proofs.YtpnlmmecgkjehaaGreatDoor.interpRefused
open Go Go.Ae
set_option maxRecDepth 100000

variable {g h : AH} {L R : List SP}

theorem ww_ptrN {b o : Nat} {K : AV → Go.Ae.R} {Q : AV → AH → Prop} (w : wp (K (.bool false)) Q) : wp (pEq .ptr false (.ptr b o) .nilp K) Q := w
/-- a fresh interpreter's cells -/
def intL (c mv out : AV) (v : Nat) (bad err en left : Int) : List AV :=
  [c, .ptr v 0, mv, .int .i64 bad, .int .i64 err, .int .i64 en, .int .u64 ((0 : Nat) : Int), .int .u64 ((0 : Nat) : Int), .int .u64 ((0 : Nat) : Int), .int .u64 ((0 : Nat) : Int), .int .u64 ((0 : Nat) : Int), .int .u64 ((0 : Nat) : Int), .int .u64 ((0 : Nat) : Int), .int .u64 ((0 : Nat) : Int),
    out, .int .i64 ((0 : Nat) : Int), .int .i64 ((0 : Nat) : Int), .int .i64 left, .nils]

theorem inew_ok {n : Nat} (hn : 8 ≤ n) {l : List InsT} {sv : AV} {v : Nat} {fuel : Int} (H : HS g h R) (S : Rd g R 5 l.length sv (l.flatMap encI)) (hl : l.length ≤ 100) :
    wp (callT tab rtab n (.fn 6 [] []) [.agg [sv], .ptr v 0, .int .i64 fuel] h) fun r h' => ∃ x c mv out left, r = .ptr x 0 ∧ HS g h' (ObjC x (intL c mv out v (checkM l).2 0 0 left) :: R) := by
  (refine ww_fn (g := W6) rfl (by omega) fun k hk => ?_; show wp (S6 (callT tab rtab k) _ _ _ _) _; unfold S6; try simp only [Int.ofNat_eq_natCast])
  refine ww_boxA H (one_all1 (sl_one1 (S.sl H))) fun b0 h1 H1 => ?_
  with_reducible (refine ww_field0 ?_; refine ww_ldH (by assumption) .here (by with_unfolding_all exact rfl) ?_)
  refine ww_appH (H1.nils) (S.sl H1.drop) (by omega) (by omega) (allOne_encI l) fun cv h2 H2 => ?_
  rw [List.nil_append, Nat.zero_add] at H2
  have oc := H2.one .here
  with_reducible (refine ww_field0 ?_)
  refine ww_st1H H2 (b := b0) (.there .here) oc (by simp) fun h3 H3 => ?_
  have H3 : HS g h3 (ObjC b0 [cv] :: SliC 28 5 l.length cv (l.flatMap encI) :: R) := H3
  refine ww_ldNH H3 (b := b0) (off := 0) .here rfl (by omega) rfl ?_
  refine ww_call (ccheck_ok (by omega) H3 (Rd.own (.there .here)) hl) ?_
  rintro _ h4 ⟨rfl, H4⟩
  with_reducible (refine ww_extract (by with_unfolding_all exact rfl) ?_; refine ww_extract (by with_unfolding_all exact rfl) ?_; refine ww_joinS ?_; (try dsimp only))
  refine ww_ldNH H4 (b := b0) (off := 0) .here rfl (by omega) rfl ?_
  refine ww_ldNH H4 (b := b0) (off := 0) .here rfl (by omega) rfl ?_
  refine ww_call (cmatch_ok (by omega) H4 (Rd.own (.there .here)) hl) ?_
  rintro mv h5 ⟨om, H5⟩
  refine ww_call (Q' := fun r h' => ∃ o, r = .ptr o 0 ∧ HS g h' (ObjC o [.nils] :: ObjC b0 [cv] :: SliC 28 5 l.length cv (l.flatMap encI) :: R)) ?_ ?_
  · (refine ww_fn (g := W20) rfl (by omega) fun k hk => ?_; show wp (S20 (callT tab rtab k) _) _; unfold S20; try simp only [Int.ofNat_eq_natCast])
    with_reducible (refine ww_build (by with_unfolding_all exact rfl) ?_)
    exact ww_boxA H5 rfl fun o h6 H6 => ww_ret ⟨o, rfl, H6⟩
  rintro _ h6 ⟨o, rfl, H6⟩
  refine ww_min (ww_max ?_)
  refine ww_build (l := intL cv mv (.ptr o 0) v (checkM l).2 0 0 (max ((0 : Nat) : Int) (min fuel ((400 : Nat) : Int)))) (by
    have e : (AV.agg (List.take 1 (List.drop 0 [cv]))).cells = [cv] := rfl
    simp only [afill, e, om.1]; rfl) ?_
  refine ww_boxA H6 (by unfold intL; simp [allOne, oc.2, om.2]; exact ⟨rfl, rfl, rfl, rfl, rfl, rfl, rfl, rfl⟩) fun x h7 H7 => ?_
  refine ww_chkNH H5 (b := b0) .here rfl H6 (.there .here) rfl rfl (by omega) (HS.lt H4 .here) ?_
  refine ww_chkNH H4 (b := b0) .here rfl H5 .here rfl rfl (by omega) (HS.lt H4 .here) ?_
  skip
  exact ww_ret ⟨x, cv, mv, _, _, rfl, H7.sub (.cons .here (.drop (.drop (.drop .refl))))⟩

theorem ierr_ok {n : Nat} (hn : 1 ≤ n) {x v : Nat} {c mv out : AV} {bad err en left : Int} (H : HS g h (ObjC x (intL c mv out v bad err en left) :: R)) :
    wp (callT tab rtab n (.fn 15 [] []) [.ptr x 0] h) fun r h' => r = .int .i64 err ∧ h' = h := by
  (refine ww_fn (g := W15) rfl (by omega) fun k hk => ?_; show wp (S15 (callT tab rtab k) _ _) _; unfold S15; try simp only [Int.ofNat_eq_natCast])
  unfold intL at H
  with_reducible (refine ww_nil ?_; refine ww_field0 ?_; refine ww_ldH (by assumption) .here (by with_unfolding_all exact rfl) ?_)
  exact ww_ret ⟨rfl, rfl⟩
theorem iplace_ok {n : Nat} (hn : 1 ≤ n) {x v : Nat} {c mv out : AV} {bad err en left : Int} (H : HS g h (ObjC x (intL c mv out v bad err en left) :: R)) :
    wp (callT tab rtab n (.fn 13 [] []) [.ptr x 0] h) fun r h' => r = .int .i64 0 ∧ h' = h := by
  (refine ww_fn (g := W13) rfl (by omega) fun k hk => ?_; show wp (S13 (callT tab rtab k) _ _) _; unfold S13; try simp only [Int.ofNat_eq_natCast])
  unfold intL at H
  with_reducible (refine ww_nil ?_; refine ww_field0 ?_; refine ww_ldH (by assumption) .here (by with_unfolding_all exact rfl) ?_)
  exact ww_ret ⟨rfl, rfl⟩
theorem ifail_ok {n : Nat} (hn : 1 ≤ n) {x v : Nat} {c mv out : AV} {bad err en left e : Int} (H : HS g h (ObjC x (intL c mv out v bad err en left) :: R)) :
    wp (callT tab rtab n (.fn 21 [] []) [.ptr x 0, .int .i64 e] h) fun _ h' => HS g h' (ObjC x (intL c mv out v bad e 4 left) :: R) := by
  (refine ww_fn (g := W21) rfl (by omega) fun k hk => ?_; show wp (S21 (callT tab rtab k) _ _ _) _; unfold S21; try simp only [Int.ofNat_eq_natCast])
  unfold intL at H
  with_reducible (refine ww_nil ?_; refine ww_field0 ?_)
  refine ww_st1H H (b := x) .here ⟨rfl, rfl⟩ (by simp) fun h1 H1 => ?_
  with_reducible (refine ww_nil ?_; refine ww_field0 ?_)
  refine ww_st1H H1 (b := x) .here ⟨rfl, rfl⟩ (by simp) fun h2 H2 => ?_
  exact ww_ret H2
theorem irun_ok {n : Nat} (hn : 2 ≤ n) {x v : Nat} {c mv out : AV} {bad err en left : Int} (H : HS g h (ObjC x (intL c mv out v bad err en left) :: R)) (hb : bad ≠ 0) (he : en = 0 ∨ en = 4 ∧ err = bad) :
    wp (callT tab rtab n (.fn 7 [] []) [.ptr x 0] h) fun r h' => r = .int .i64 4 ∧ HS g h' (ObjC x (intL c mv out v bad bad 4 left) :: R) := by
  (refine ww_fn (g := W7) rfl (by omega) fun k hk => ?_; show wp (S7 (callT tab rtab k) _ _) _; unfold S7; try simp only [Int.ofNat_eq_natCast])
  refine ww_iter (fun m s h' => ∃ err en : Int, s = (.ptr x 0, ()) ∧ (en = 0 ∧ m = 1 ∨ en = 4 ∧ err = bad ∧ m = 0) ∧ HS g h' (ObjC x (intL c mv out v bad err en left) :: R))
    ?_ (m := if en = 0 then 1 else 0) (by split <;> (show _ < 1000000000; omega)) ⟨err, en, rfl, by
      rcases he with rfl | ⟨rfl, he⟩
      · exact .inl ⟨rfl, rfl⟩
      · exact .inr ⟨rfl, he, rfl⟩, H⟩
  clear H he
  rintro m ih s h1 hih ⟨err, en, rfl, he, H⟩
  dsimp only
  have H0 := H
  unfold intL at H
  rcases he with ⟨rfl, rfl⟩ | ⟨rfl, rfl, rfl⟩
  · with_reducible (refine ww_nil ?_; refine ww_field0 ?_; refine ww_ldH (by assumption) .here (by with_unfolding_all exact rfl) ?_; refine ww_eqlT (by omega) ?_; refine ww_condT ?_; refine ww_joinS ?_; (try dsimp only); refine ww_nil ?_; refine ww_field0 ?_; refine ww_ldH (by assumption) .here (by with_unfolding_all exact rfl) ?_; refine ww_neqT (by omega) ?_; refine ww_condT ?_; refine ww_nil ?_; refine ww_field0 ?_; refine ww_ldH (by assumption) .here (by with_unfolding_all exact rfl) ?_)
    refine ww_call (ifail_ok (by omega) H0) ?_
    intro _ h2 H2
    clear H H0
    skip
    exact hih 0 _ _ (by omega) ⟨bad, 4, rfl, .inr ⟨rfl, rfl, rfl⟩, H2⟩
  · with_reducible (refine ww_nil ?_; refine ww_field0 ?_; refine ww_ldH (by assumption) .here (by with_unfolding_all exact rfl) ?_; refine ww_eqlF (by omega) ?_; refine ww_condF ?_; refine ww_nil ?_; refine ww_field0 ?_; refine ww_ldH (by assumption) .here (by with_unfolding_all exact rfl) ?_; refine ww_leave ?_)
    exact ww_ret ⟨rfl, H0⟩
theorem vknown0_ok {n : Nat} (hn : 1 ≤ n) {v : Nat} {M : VM} (hK : M.K = []) (H : HS g h (ViewC v M :: R)) :
    wp (callT tab rtab n (.fn 17 [] []) [.ptr v 0] h) fun r h' => ∃ e xs, HS g h' (SliC e 2 0 r xs :: R) := by
  (refine ww_fn (g := W17) rfl (by omega) fun k hk => ?_; show wp (S17 (callT tab rtab k) _ _) _; unfold S17; try simp only [Int.ofNat_eq_natCast])
  obtain ⟨fv, ov, q, e, H⟩ := ViewC.E H
  rw [hK] at H
  have H : HS g h (ObjC v [fv, ov, .ptr q 0, .int .i64 M.need] :: SliC e 2 M.sz fv ((factsM M.sz M.K).flatMap encF) :: SliC 3 1 0 ov [] :: LgC q M.most M.lv :: R) := by rw [hK]; exact H
  with_reducible (refine ww_nil ?_; refine ww_field0 ?_; refine ww_ldH (by assumption) .here (by with_unfolding_all exact rfl) ?_; refine ww_lenH (by assumption) (.there (.there .here)) ?_)
  refine ww_makeH (ln := 0) (cp := 0) (sz := 2) H rfl (by omega) (by omega) fun kv h1 H1 => ?_
  with_reducible (refine ww_nil ?_; refine ww_field0 ?_; refine ww_ldH (by assumption) (.there .here) (by with_unfolding_all exact rfl) ?_; refine ww_lenH (by assumption) (.there (.there (.there .here))) ?_)
  refine ww_iter (fun m s h' => m = 0 ∧ s = (.int .i64 ((0 : Nat) : Int), .int .i64 ((0 : Nat) : Int), ov, kv, .ptr v 0, ()) ∧ h' = h1) ?_ (m := 0) (by show 0 < 1000000000; omega) ⟨rfl, rfl, rfl⟩
  rintro m ih s h2 hih ⟨rfl, rfl, rfl⟩
  dsimp only
  with_reducible (refine ww_lssF (by omega) ?_; refine ww_condF ?_; refine ww_leave ?_)
  exact ww_ret ⟨_, _, H1.sub (.cons .here (.drop (.drop (.drop (.drop .refl)))))⟩

theorem law {k : Nat} (hk : 20 ≤ k) {a0 : AV} {fuel : Int} {l : List InsT} (S : Sl (fun b => b < h.nx) h 5 l.length a0 (l.flatMap encI)) :
    wp (W4 (withRun 3 (callT tab rtab k)) [a0, .int .i64 fuel] h) fun v _ => v = .bool true := by
  show wp (S4 (withRun _ (callT tab rtab _)) _ _ _) _
  unfold S4
  try simp only [Int.ofNat_eq_natCast]
  refine ww_run ?_
  with_reducible (refine ww_notT ?_; refine ww_condF ?_)
  refine ww_len S (ww_gtrC (fun hg => ww_condT (ww_ret rfl)) fun hg => ww_condF ?_)
  have o := sl_one1 S
  have hl : l.length ≤ 100 := by omega
  refine ww_build (l := [a0]) (by simp only [afill, o.1]; rfl) ?_
  refine ww_boxA (HS.nil h) rfl fun b h1 H1 => ?_
  refine ww_stH H1 (b := b) .here rfl (by simp) (one_all1 o) fun h2 H2 => ?_
  have H2 : HS h h2 (ObjC b [a0] :: []) := H2
  have S1 : ∀ {L : List SP}, Rd h L 5 l.length a0 (l.flatMap encI) := Rd.arg S
  refine ww_ldNH H2 (b := b) (off := 0) .here rfl (by omega) rfl ?_
  refine ww_callZ (by decide) (ccheck_ok (by omega) H2 S1 hl) ?_
  rintro _ h3 ⟨rfl, H3⟩
  with_reducible (refine ww_extract (by with_unfolding_all exact rfl) ?_; refine ww_extract (by with_unfolding_all exact rfl) ?_)
  refine ww_callZ (by decide) (vnew_ok (by omega) H3) ?_
  rintro _ h4 ⟨v, rfl, H4⟩
  refine ww_ptrN ?_
  with_reducible (refine ww_condF ?_)
  refine ww_ldNH H4 (b := b) (off := 0) (.there .here) rfl (by omega) rfl ?_
  refine ww_callZ (by decide) (inew_ok (by omega) H4 S1 hl) ?_
  rintro _ h5 ⟨x, c, mv, out, left, rfl, H5⟩
  refine ww_ptrN ?_
  with_reducible (refine ww_condF ?_)
  by_cases c0 : (checkM l).2 = 0
  · rw [c0] at H5 ⊢
    refine ww_eqlT rfl (ww_condT ?_)
    refine ww_callZ (by decide) (ierr_ok (by omega) H5) ?_
    rintro _ h6 ⟨rfl, rfl⟩
    refine ww_eqlT rfl (ww_ret rfl)
  · refine ww_eqlF c0 (ww_condF ?_)
    refine ww_callZ (by decide) (irun_ok (by omega) H5 c0 (.inl rfl)) ?_
    rintro _ h6 ⟨rfl, H6⟩
    with_reducible (refine ww_eqlT (by omega) ?_; refine ww_joinS ?_; (try dsimp only); refine ww_wantTT ?_; (try dsimp only))
    refine ww_callZ (by decide) (ierr_ok (by omega) H6) ?_
    rintro _ h6 ⟨rfl, rfl⟩
    refine ww_eqlT rfl ?_
    with_reducible (refine ww_pickT ?_; refine ww_joinS ?_; (try dsimp only); refine ww_wantTT ?_; (try dsimp only))
    refine ww_callZ (by decide) (irun_ok (by omega) H6 c0 (.inr ⟨rfl, rfl⟩)) ?_
    rintro _ h7 ⟨rfl, H7⟩
    with_reducible (refine ww_eqlT (by omega) ?_; refine ww_pickT ?_; refine ww_joinS ?_; (try dsimp only); refine ww_wantTT ?_; (try dsimp only))
    refine ww_callZ (by decide) (iplace_ok (by omega) H7) ?_
    rintro _ h7 ⟨rfl, rfl⟩
    with_reducible (refine ww_eqlT (by omega) ?_; refine ww_pickT ?_; refine ww_joinS ?_; (try dsimp only); refine ww_wantTT ?_; (try dsimp only))
    refine ww_callZ (by decide) (vknown0_ok (M := newV ((40 : Nat) : Int) ((9 : Nat) : Int)) (by omega) rfl (H7.sel (.there .here))) ?_
    rintro kv h8 ⟨e8, xs, H8⟩
    refine ww_lenH H8 .here ?_
    show wp (pInt .eql (.int .i64 ((0 : Nat) : Int)) _ _) _
    with_reducible (refine ww_eqlT (by omega) ?_; refine ww_pickT ?_)
    exact ww_ret rfl

theorem told {h : AH} {l : List AV} (H : WTs Tryz.prog h 8 Tryz.f4.params.toList l) : wp (W4 (withRun 3 (callT tab rtab 60)) l h) fun v _ => v = .bool true := by
  have e : Tryz.f4.params.toList = [29, 3] := by kernel_rfl
  rw [e] at H
  obtain ⟨a0, a1, rfl, H0, H1⟩ := WTs2 H
  simp only [WTV, Tryz.underlying3, Tryz.underlying4, Tryz.underlying26, Tryz.underlying28, Tryz.underlying29] at H0 H1
  obtain ⟨q, xs, S, _, H2⟩ := WT_slice (sz := 5) Tryz.underlying29 (by kernel_rfl) (by omega) H0
  obtain ⟨ks, g1, _, rfl⟩ := rows_enc (α := InsT) (Pr := fun _ => True) encI S.len (fun i hi => by
    have := H2 i hi
    generalize (xs.drop (i * 5)).take 5 = row at this
    unfold WT at this
    simp only [Tryz.underlying28] at this
    obtain ⟨g1, g2⟩ := this
    rw [show Tryz.prog.cellsOf 28 = 5 by kernel_rfl] at g1
    match row, g1 with
    | [x, y, z, u, t], _ =>
      have f1 := g2 _ (List.mem_cons_self ..)
      have f2 := g2 _ (List.mem_cons_of_mem _ (List.mem_cons_self ..))
      have f3 := g2 _ (List.mem_cons_of_mem _ (List.mem_cons_of_mem _ (List.mem_cons_self ..)))
      have f4 := g2 _ (List.mem_cons_of_mem _ (List.mem_cons_of_mem _ (List.mem_cons_of_mem _ (List.mem_cons_self ..))))
      have f5 := g2 _ (List.mem_cons_of_mem _ (List.mem_cons_of_mem _ (List.mem_cons_of_mem _ (List.mem_cons_of_mem _ (List.mem_cons_self ..)))))
      rw [show Tryz.prog.cellsOf 3 = 1 by kernel_rfl] at f1 f2 f3 f4
      rw [show Tryz.prog.cellsOf 26 = 1 by kernel_rfl] at f5
      unfold WT at f1 f2 f3 f4 f5
      simp only [Tryz.underlying3, List.drop_zero, List.take_succ_cons, List.take_zero, List.drop_succ_cons] at f1 f2 f3 f4
      simp only [Tryz.underlying26, List.drop_succ_cons, List.drop_zero, List.take_succ_cons, List.take_zero] at f5
      obtain ⟨a, ha, _⟩ := f1
      obtain ⟨b, hb, _⟩ := f2
      obtain ⟨c, hc, _⟩ := f3
      obtain ⟨d, hd, _⟩ := f4
      obtain ⟨e, he, _⟩ := f5
      cases ha; cases hb; cases hc; cases hd; cases he
      exact ⟨(a, b, c, d, e), trivial, rfl⟩)
  unfold WT at H1
  simp only [Tryz.underlying3, Tryz.underlying4, Tryz.underlying26, Tryz.underlying28, Tryz.underlying29] at H1
  obtain ⟨w, hw, _⟩ := H1
  cases hw
  exact law (by omega) (g1 ▸ S)
end Go.Proofs.YtpnlmmecgkjehaaGreatDoor.interpRefused
