/- Views: by the document's own text: copies, kept levels, the views. -/
import Derived.Test.YtaepnpodenmmoaaVwR
namespace Go.Proofs.Ytaepnpodenmmoaa
open Go Go.Ae
set_option maxRecDepth 100000

variable {g h : AH} {L R : List SP}

theorem rlcopy_ok {n q most : Nat} (hn : 1 ≤ n) {lv : List LvM} (H : HS g h (RgC q most lv :: R)) (O : OkL most lv) (hf : ∀ x ∈ lv, x.2.length < 1000000) :
    wp (callT tab rtab n (.fn 88 [] []) [.ptr q 0] h) fun r h' => ∃ o, r = .ptr o 0 ∧ HS g h' (RgC o most lv :: RgC q most lv :: R) := by
  have hd := O.deep
  have ho := O.one
  (refine ww_fn (g := W88) rfl (by omega) fun k hk => ?_; show wp (S88 (callT tab rtab k) _ _) _; unfold S88; try simp only [Int.ofNat_eq_natCast])
  obtain ⟨v, ps, e, H⟩ := RgC.E H
  obtain ⟨b, cp, oo, rfl⟩ := HS.slv H (.there .here) (by omega)
  with_reducible (refine ww_nil ?_; refine ww_field0 ?_; refine ww_ldH (by assumption) .here (by with_unfolding_all exact rfl) ?_; refine ww_build (by with_unfolding_all exact rfl) ?_)
  refine ww_boxA H rfl fun o h1 H1 => ?_
  refine ww_iter (fun m s h' => ∃ (i : Nat) (kv : AV) (qs : List (AV × AV)), s = (.int .i64 (i : Int), .ptr o 0, .ptr q 0, ()) ∧ i ≤ lv.length ∧ m = lv.length - i ∧ qs.length = i ∧
    HS g h' (ObjC o [.int .i64 (most : Int), kv] :: SliC 96 2 i kv (cellsR qs) :: .all (List.zipWith RlC qs (lv.drop (lv.length - i))) ::
      ObjC q [.int .i64 (most : Int), .slice b 0 lv.length cp oo] :: SliC 96 2 lv.length (.slice b 0 lv.length cp oo) (cellsR ps) :: .all (List.zipWith RlC ps lv) :: R))
    ?_ (m := lv.length) (by show _ < 1000000000; omega) ⟨0, .nils, [], rfl, by omega, by omega, rfl, ?_⟩
  · rintro m ih s h' hih ⟨i, kv, qs, rfl, h1, rfl, hq, H⟩
    dsimp only
    with_reducible (refine ww_nil ?_; refine ww_field0 ?_; refine ww_ldH (by assumption) (.there (.there (.there .here))) (by with_unfolding_all exact rfl) ?_; refine ww_lenH (by assumption) (.there (.there (.there (.there .here)))) ?_)
    refine ww_lssC (fun hlt => ww_condT ?_) fun hge => ww_condF (ww_leave (ww_ret ⟨o, rfl, ?_⟩))
    · have hi : i < lv.length := by omega
      have ha : ps[lv.length - 1 - i]? = some (ps[lv.length - 1 - i]'(by omega)) := List.getElem?_eq_getElem _
      have hx : lv[lv.length - 1 - i]? = some (lv[lv.length - 1 - i]'(by omega)) := List.getElem?_eq_getElem _
      have hdrop : lv.drop (lv.length - (i + 1)) = (lv[lv.length - 1 - i]'(by omega)) :: lv.drop (lv.length - i) := by
        rw [show lv.length - (i + 1) = lv.length - 1 - i by omega, List.drop_eq_getElem_cons (by omega), show lv.length - 1 - i + 1 = lv.length - i by omega]
      have hm : lv[lv.length - 1 - i]'(by omega) ∈ lv := List.getElem_mem _
      generalize ps[lv.length - 1 - i]'(by omega) = a at ha
      generalize lv[lv.length - 1 - i]'(by omega) = x at hx hm hdrop
      have hxl := O.len hm
      have hxf := hf x hm
      have hcell : ∀ f, f < 2 → (cellsR ps)[i * 2 + f]? = [a.1, a.2][f]? := by
        intro f hf
        rw [cellsR_get (by omega) hf, e, ha]; rfl
      with_reducible (refine ww_joinS ?_; (try dsimp only); refine ww_nil ?_; refine ww_field0 ?_; refine ww_ldH (by assumption) .here (by with_unfolding_all exact rfl) ?_; refine ww_nil ?_; refine ww_field0 ?_; refine ww_ldH (by assumption) (.there (.there (.there .here))) (by with_unfolding_all exact rfl) ?_)
      obtain ⟨T, s⟩ := zip_selR ha hx
      have H3 := RlC.E (HS.allSel s (H.sel (.there (.there (.there (.there (.there .here)))))))
      have hat : ∀ (h2 : AH) (L2 R2 : List SP), HS g h2 L2 → Sel L2 (SliC 96 2 lv.length (.slice b 0 lv.length cp oo) (cellsR ps)) R2 → b < h2.nx ∧ ∀ f, f < 2 → h2.at b (0 + i * 2 + f) = [a.1, a.2][f]? := by
        intro h2 L2 R2 H2 s2
        obtain ⟨b1, b2⟩ := HS.slat H2 s2
        exact ⟨b1, fun f hf => by rw [Nat.add_assoc, b2 _ (by omega)]; exact hcell f hf⟩
      obtain ⟨b0, b1⟩ := hat _ _ _ H3 (.there (.there (.there (.there (.there (.there (.there .here)))))))
      refine ww_idxS (by omega) (ww_fieldA (ww_load1 (x := a.1) (b1 0 (by omega)) ?_))
      refine ww_appN H3 (H3.sl .here) (by omega) (by omega) (allOne_encC _) fun v4 h4 H4 => ?_
      with_reducible (refine ww_nil ?_; refine ww_field0 ?_; refine ww_ldH (by assumption) (.there (.there (.there (.there (.there (.there (.there .here))))))) (by with_unfolding_all exact rfl) ?_)
      obtain ⟨b2, b3⟩ := hat _ _ _ H4 (.there (.there (.there (.there (.there (.there (.there (.there .here))))))))
      refine ww_idxS (by omega) (ww_fieldA (ww_load1 (x := a.2) (b3 1 (by omega)) ?_))
      refine ww_appN H4 (H4.sl (.there (.there .here))) (by omega) (by omega) (allOne_ints _) fun v5 h5 H5 => ?_
      have o5 := H5.one .here
      have o4 := H5.one (.there .here)
      refine ww_build (l := [v4, v5]) (by simp only [afill, o4.1, o5.1]; rfl) ?_
      refine ww_buildSH (n := 1) (l := [v4, v5]) (sz := 2) H5 rfl rfl rfl (by simp [allOne, o4.2, o5.2]) fun v6 h6 H6 => ?_
      refine ww_appH (H6.sel (.there (.there (.there (.there (.there (.there (.there .here)))))))) (H6.sl .here) (by omega) (by omega) (by simp [allOne, o4.2, o5.2]) fun v7 h7 H7 => ?_
      with_reducible (refine ww_nil ?_; refine ww_field0 ?_)
      refine ww_st1H H7 (b := o) (.there (.there (.there (.there (.there (.there (.there .here))))))) (H7.one .here) (by simp) fun h8 H8 => ?_
      simp only [List.set_cons_zero, List.set_cons_succ] at H8
      refine ww_chk1 (b1 1 (by omega)) (b3 1 (by omega)) b0 ?_
      with_reducible (refine ww_chkH (by assumption) (.there (.there (.there (.there (.there (.there .here)))))) (by with_unfolding_all exact rfl) (by assumption) (.there (.there (.there (.there (.there (.there (.there .here))))))) (by with_unfolding_all exact rfl) (HS.lt (by assumption) (.there (.there (.there (.there (.there (.there .here))))))) ?_; refine ww_chkH (by assumption) (.there (.there (.there (.there .here)))) (by with_unfolding_all exact rfl) (by assumption) (.there (.there (.there (.there (.there .here))))) (by with_unfolding_all exact rfl) (HS.lt (by assumption) (.there (.there (.there .here)))) ?_; refine ww_chkH (by assumption) (.there (.there (.there .here))) (by with_unfolding_all exact rfl) (by assumption) (.there (.there (.there (.there .here)))) (by with_unfolding_all exact rfl) (HS.lt (by assumption) (.there (.there (.there .here)))) ?_; refine ww_addI (by omega) ?_)
      refine hih (lv.length - (i + 1)) _ _ (by omega) ⟨i + 1, v7, (v4, v5) :: qs, rfl, by omega, rfl, by simp [hq], ?_⟩
      have H9 := RlC.I (p := (v4, v5)) (x := x) (R := .all (List.zipWith RlC qs (lv.drop (lv.length - i))) :: SliC 83 2 x.1.length a.1 (x.1.flatMap encC) :: SliC 3 1 x.2.length a.2 (x.2.map (.int .i64)) :: .all T ::
        ObjC o [.int .i64 (most : Int), v7] :: SliC 96 2 (i + 1) v7 (cellsR qs ++ [v4, v5]) ::
        ObjC q [.int .i64 (most : Int), .slice b 0 lv.length cp oo] :: SliC 96 2 lv.length (.slice b 0 lv.length cp oo) (cellsR ps) :: R) (H8.sub (.cons (.there (.there (.there (.there .here)))) (.cons (.there (.there (.there .here))) (.cons (.there (.there (.there (.there (.there (.there .here)))))) (.cons (.there (.there (.there .here))) (.cons (.there (.there (.there .here))) (.cons (.there (.there (.there .here))) (.cons .here (.cons .here (.cons (.there .here) (.cons (.there .here) (.drop (.refl)))))))))))))
      have H10 := HS.allUn (A := RlC (v4, v5) x :: List.zipWith RlC qs (lv.drop (lv.length - i))) .here H9
      have H11 := RlC.I (p := a) (x := x) (R := .all T :: .all (RlC (v4, v5) x :: List.zipWith RlC qs (lv.drop (lv.length - i))) ::
        ObjC o [.int .i64 (most : Int), v7] :: SliC 96 2 (i + 1) v7 (cellsR qs ++ [v4, v5]) ::
        ObjC q [.int .i64 (most : Int), .slice b 0 lv.length cp oo] :: SliC 96 2 lv.length (.slice b 0 lv.length cp oo) (cellsR ps) :: R) (H10.sub (.cons (.there .here) (.cons (.there .here) (.cons (.there .here) (.refl)))))
      have H12 := HS.allUn s H11
      rw [cellsR_cons, hdrop]
      exact H12.sub (.cons (.there (.there .here)) (.cons (.there (.there .here)) (.cons (.there .here) (.cons (.there .here) (.cons (.there .here) (.cons .here .refl))))))
    · obtain rfl : i = lv.length := by omega
      rw [show lv.length - lv.length = 0 by omega, List.drop_zero] at H
      have H2 := RgC.I (q := o) (v := kv) (ps := qs) hq (H.sub (.cons .here (.cons .here (.cons .here .refl))))
      have H3 := RgC.I (q := q) (most := most) (lv := lv) (v := .slice b 0 lv.length cp oo) (ps := ps) (R := RgC o most lv :: R) e (H2.sub (.cons (.there .here) (.cons (.there .here) (.cons (.there .here) (.refl)))))
      exact H3.sub (.cons (.there .here) (.refl))
  · have H2 := (HS.allI (A := []) (H1.nils (e := 96) (sz := 2)))
    exact H2.sub (.cons (.there (.there .here)) (.cons (.there .here) (.cons .here .refl)))

theorem rltake_ok {n q most : Nat} (hn : 4 ≤ n) {lv : List LvM} {cs : List Cl} {c : AV} (H : HS g h (RgC q most lv :: R)) (O : OkL most lv) (hf : ∀ x ∈ lv, x.2.length < 1000000) (S : Rd g R 2 cs.length c (cs.flatMap encC)) (hc : cs.length < 100000) :
    wp (callT tab rtab n (.fn 98 [] []) [.ptr q 0, c] h) fun r h' => r = .int .i64 (takeL most lv lv cs).1 ∧ HS g h' (RgC q most (takeL most lv lv cs).2 :: R) := by
  (refine ww_fn (g := W98) rfl (by omega) fun k hk => ?_; show wp (S98 (callT tab rtab k) _ _ _) _; unfold S98; try simp only [Int.ofNat_eq_natCast])
  refine ww_call (rlcopy_ok (by omega) H O hf) ?_
  rintro _ h1 ⟨o, rfl, H1⟩
  refine ww_iter (fun k s h' => ∃ (i : Nat) (lv' : List LvM), s = (.int .i64 (i : Int), .ptr o 0, c, .ptr q 0, ()) ∧ i ≤ cs.length ∧ k = cs.length - i ∧ OkL most lv' ∧
    HS g h' (RgC o most lv' :: RgC q most lv :: R) ∧ takeL most lv lv cs = takeL most lv lv' (cs.drop i)) ?_ (m := cs.length) (by show _ < 1000000000; omega) ⟨0, lv, rfl, by omega, by omega, O, H1, rfl⟩
  rintro k2 ih s h2 hih ⟨i, lv', rfl, h1, rfl, O', H, hT⟩
  dsimp only
  refine ww_len (S.sl H.drop.drop) ?_
  refine ww_lssC (fun hlt => ww_condT ?_) fun hge => ww_condF ?_
  · have hi : i < cs.length := by omega
    have hci : cs[i]? = some cs[i] := List.getElem?_eq_getElem hi
    refine ww_idxF (x := .int .i64 cs[i].1) (S.sl H.drop.drop) (by omega) hi (by rw [flat_get (sz := 2) encC (fun _ => rfl) _ _ _ (by omega), hci]; rfl) ?_
    refine ww_idxF (x := .int .u64 cs[i].2) (S.sl H.drop.drop) (by omega) hi (by rw [flat_get (sz := 2) encC (fun _ => rfl) _ _ _ (by omega), hci]; rfl) ?_
    refine ww_call (rlput_ok (by omega) H O') ?_
    rintro _ h6 ⟨rfl, H6⟩
    rw [List.drop_eq_getElem_cons hi, takeL_cons] at hT
    have O2 := (putL_ok (p := cs[i].1) (v := cs[i].2) O').1
    refine ww_neqC (fun hne => ww_condT ?_) fun he => ww_condF (ww_addI (by omega) ?_)
    · have hne : ¬ (putL most lv' cs[i].1 cs[i].2).1 = 0 := by simpa using hne
      rw [if_neg hne] at hT
      rw [hT]
      exact ww_leave (ww_ret ⟨rfl, H6.drop⟩)
    · have he' : (putL most lv' cs[i].1 cs[i].2).1 = 0 := by simpa using he
      rw [if_pos he'] at hT
      exact hih (cs.length - (i + 1)) _ _ (by omega) ⟨i + 1, _, rfl, by omega, rfl, O2, H6, hT⟩
  · rw [List.drop_of_length_le (by omega)] at hT
    have hT : takeL most lv lv cs = (0, lv') := hT
    rw [hT]
    obtain ⟨v1, ps1, e1, H3⟩ := RgC.E H
    obtain ⟨v2, ps2, e2, H4⟩ := RgC.E (H3.sel (.there (.there (.there .here))))
    with_reducible (refine ww_nil ?_; refine ww_field0 ?_; refine ww_ldH (by assumption) (.there (.there (.there .here))) (by with_unfolding_all exact rfl) ?_; refine ww_nil ?_; refine ww_field0 ?_)
    refine ww_st1H H4 (b := q) .here (H4.one (.there (.there (.there (.there .here))))) (by simp) fun h8 H8 => ?_
    simp only [List.set_cons_zero, List.set_cons_succ] at H8
    with_reducible (refine ww_leave ?_)
    refine ww_ret ⟨rfl, RgC.I (v := v1) (ps := ps1) e1 (H8.sub (.cons .here (.cons (.there (.there (.there .here))) (.cons (.there (.there (.there .here))) ?_))))⟩
    exact .drop (.drop (.drop .refl))

def frS (lv : List LvM) : Nat := (lv.map fun x => x.2.length).sum
theorem frS_cons (x : LvM) (r : List LvM) : frS (x :: r) = x.2.length + frS r := by simp [frS]
theorem cells_row (l : List AV) (n : Nat) (a b : AV) (tl : List AV) (hl : l.length = n * 2) : ((l ++ [a, b] ++ tl).drop (n * 2)).take 2 = [a, b] := by
  rw [List.append_assoc, ← hl, List.drop_left]; rfl
theorem cells_put (l : List AV) (n : Nat) (a b c d : AV) (hl : l.length = n * 2) : lset (l ++ [a, b]) (n * 2) [c, d] = l ++ [c, d] := by
  unfold lset
  rw [← hl, List.take_left, List.drop_of_length_le (by simp)]; simp

theorem rlkeep_ok {n q most : Nat} (hn : 3 ≤ n) {lv : List LvM} (H : HS g h (RgC q most lv :: R)) (O : OkL most lv) (hf : frS lv < 1000000) :
    wp (callT tab rtab n (.fn 55 [] []) [.ptr q 0] h) fun v h' => v = .int .i64 (keepL lv).1 ∧ HS g h' (RgC q most (keepL lv).2 :: R) := by
  have hd := O.deep
  rcases lv with _ | ⟨x, _ | ⟨y, r⟩⟩
  · have := O.one; simp at this
  · (refine ww_fn (g := W55) rfl (by omega) fun k hk => ?_; show wp (S55 (callT tab rtab k) _ _) _; unfold S55; try simp only [Int.ofNat_eq_natCast])
    have hH := H
    obtain ⟨v, ps, e, H⟩ := RgC.E H
    with_reducible (refine ww_nil ?_; refine ww_field0 ?_; refine ww_ldH (by assumption) .here (by with_unfolding_all exact rfl) ?_; refine ww_lenH (by assumption) (.there .here) ?_)
    exact ww_ret ⟨rfl, hH⟩
  · rw [frS_cons, frS_cons] at hf
    have hxi := O.ins x (by simp)
    have hxl := O.len (x := x) (by simp)
    have hyl := O.len (x := y) (by simp)
    simp at hd
    (refine ww_fn (g := W55) rfl (by omega) fun k hk => ?_; show wp (S55 (callT tab rtab k) _ _) _; unfold S55; try simp only [Int.ofNat_eq_natCast])
    obtain ⟨v, p, ps, e, H⟩ := RgC.E1 H
    cases ps with
    | nil => simp at e
    | cons p2 ps =>
    have e : ps.length = r.length := by simpa using e
    have H := RlC.E (HS.allSel .here (H.sel (.there (.there (.there (.there .here))))))
    rw [cellsR_cons] at H
    have hcl := cellsR_len ps
    have hcl2 : (cellsR ps ++ [p2.1, p2.2]).length = (ps.length + 1) * 2 := by simp [hcl, Nat.add_mul]
    simp only [List.length_cons] at H
    have o1 := H.one .here
    have o2 := H.one (.there .here)
    have o3 := H.one (.there (.there (.there (.there (.there .here)))))
    have o4 := H.one (.there (.there (.there (.there (.there (.there .here))))))
    with_reducible (refine ww_nil ?_; refine ww_field0 ?_; refine ww_ldH (by assumption) (.there (.there (.there .here))) (by with_unfolding_all exact rfl) ?_; refine ww_lenH (by assumption) (.there (.there (.there (.there .here)))) ?_; refine ww_eqlF (by omega) ?_; refine ww_condF ?_; refine ww_nil ?_; refine ww_field0 ?_; refine ww_ldH (by assumption) (.there (.there (.there .here))) (by with_unfolding_all exact rfl) ?_; refine ww_subI (by omega) ?_)
    rw [show ((ps.length + 1 + 1 : Nat) : Int) - ((1 : Nat) : Int) = ((ps.length + 1 : Nat) : Int) by omega]
    refine ww_idxN (l := [p.1, p.2]) (H.sl (.there (.there (.there (.there .here))))) (by omega) (by omega) (by have := cells_row _ _ p.1 p.2 [] hcl2; rw [List.append_nil] at this; exact this) ?_
    refine ww_boxA H rfl fun b1 h1 H => ww_stH H .here rfl (by show 0 + 2 ≤ 2; omega) (by simp [allOne, AV.cells, o3.2, o4.2]) fun h2 H => ?_
    have H : HS g h2 (ObjC b1 [p.1, p.2] :: SliC 83 2 y.1.length p2.1 (y.1.flatMap encC) :: SliC 3 1 y.2.length p2.2 (y.2.map (.int .i64)) :: .all (List.zipWith RlC ps r) ::
      ObjC q [.int .i64 (most : Int), v] :: SliC 96 2 (ps.length + 1 + 1) v (cellsR ps ++ [p2.1, p2.2] ++ [p.1, p.2]) ::
      SliC 83 2 x.1.length p.1 (x.1.flatMap encC) :: SliC 3 1 x.2.length p.2 (x.2.map (.int .i64)) :: R) := H
    with_reducible (refine ww_nil ?_; refine ww_field0 ?_; refine ww_ldH (by assumption) (.there (.there (.there (.there .here)))) (by with_unfolding_all exact rfl) ?_; refine ww_subI (by omega) ?_)
    rw [show ((ps.length + 1 + 1 : Nat) : Int) - ((2 : Nat) : Int) = ((ps.length : Nat) : Int) by omega]
    refine ww_idxN (l := [p2.1, p2.2]) (H.sl (.there (.there (.there (.there (.there .here)))))) (by omega) (by omega) (cells_row _ _ p2.1 p2.2 [p.1, p.2] hcl) ?_
    refine ww_boxA H rfl fun b2 h3 H => ww_stH H .here rfl (by show 0 + 2 ≤ 2; omega) (by simp [allOne, AV.cells, o1.2, o2.2]) fun h4 H => ?_
    have H : HS g h4 (SliC 83 2 y.1.length p2.1 (y.1.flatMap encC) :: ObjC b2 [p2.1, p2.2] :: ObjC b1 [p.1, p.2] :: SliC 3 1 y.2.length p2.2 (y.2.map (.int .i64)) :: .all (List.zipWith RlC ps r) ::
      ObjC q [.int .i64 (most : Int), v] :: SliC 96 2 (ps.length + 1 + 1) v (cellsR ps ++ [p2.1, p2.2] ++ [p.1, p.2]) ::
      SliC 83 2 x.1.length p.1 (x.1.flatMap encC) :: SliC 3 1 x.2.length p.2 (x.2.map (.int .i64)) :: R) := HS.sub (L := ObjC b2 [p2.1, p2.2] :: ObjC b1 [p.1, p.2] :: SliC 83 2 y.1.length p2.1 (y.1.flatMap encC) :: _) H (.cons (.there (.there .here)) (.cons .here (.cons .here .refl)))
    refine ww_iter (fun m s h' => ∃ (i : Nat) (cv : AV), s = (.int .i64 (i : Int), .ptr b2 0, .ptr b1 0, .int .i64 ((ps.length + 1 + 1 : Nat) : Int), .ptr q 0, ()) ∧ i ≤ x.1.length ∧ m = x.1.length - i ∧
      HS g h' (SliC 83 2 (putsC y.1 (x.1.take i)).length cv ((putsC y.1 (x.1.take i)).flatMap encC) :: ObjC b2 [cv, p2.2] :: ObjC b1 [p.1, p.2] :: SliC 3 1 y.2.length p2.2 (y.2.map (.int .i64)) :: .all (List.zipWith RlC ps r) ::
      ObjC q [.int .i64 (most : Int), v] :: SliC 96 2 (ps.length + 1 + 1) v (cellsR ps ++ [p2.1, p2.2] ++ [p.1, p.2]) ::
      SliC 83 2 x.1.length p.1 (x.1.flatMap encC) :: SliC 3 1 x.2.length p.2 (x.2.map (.int .i64)) :: R))
      ?_ (m := x.1.length) (by show _ < 1000000000; omega) ⟨0, p2.1, rfl, by omega, by omega, H⟩
    clear H
    rintro m ih s h5 hih ⟨i, cv, rfl, h1, rfl, H⟩
    dsimp only
    with_reducible (refine ww_field0 ?_; refine ww_ldH (by assumption) (.there (.there .here)) (by with_unfolding_all exact rfl) ?_; refine ww_lenH (by assumption) (.there (.there (.there (.there (.there (.there (.there .here))))))) ?_)
    have hpl := puts_len (cs := x.1.take i) (l := y.1)
    rw [List.length_take] at hpl
    refine ww_lssC (fun hlt => ww_condT ?_) fun hge => ww_condF ?_
    · have hi : i < x.1.length := by omega
      have hci : x.1[i]? = some x.1[i] := List.getElem?_eq_getElem hi
      with_reducible (refine ww_field0 ?_; refine ww_ldH (by assumption) (.there .here) (by with_unfolding_all exact rfl) ?_; refine ww_field0 ?_; refine ww_ldH (by assumption) (.there (.there .here)) (by with_unfolding_all exact rfl) ?_)
      refine ww_idxF (x := .int .i64 x.1[i].1) (H.sl (.there (.there (.there (.there (.there (.there (.there .here)))))))) (by omega) hi (by rw [flat_get (sz := 2) encC (fun _ => rfl) _ _ _ (by omega), hci]; rfl) ?_
      with_reducible (refine ww_field0 ?_; refine ww_ldH (by assumption) (.there (.there .here)) (by with_unfolding_all exact rfl) ?_)
      refine ww_idxF (x := .int .u64 x.1[i].2) (H.sl (.there (.there (.there (.there (.there (.there (.there .here)))))))) (by omega) hi (by rw [flat_get (sz := 2) encC (fun _ => rfl) _ _ _ (by omega), hci]; rfl) ?_
      refine ww_call (rput_ok (by omega) H (H.rd .here) (by omega)) fun v6 h6 H6 => ?_
      with_reducible (refine ww_field0 ?_)
      refine ww_st1H H6 (b := b2) (.there (.there .here)) (H6.one .here) (by simp) fun h7 H7 => ?_
      simp only [List.set_cons_zero, List.set_cons_succ] at H7
      refine ww_addI (by omega) (hih (x.1.length - (i + 1)) _ _ (by omega) ⟨i + 1, v6, rfl, by omega, rfl, ?_⟩)
      have hp : putsC y.1 (x.1.take (i + 1)) = putC x.1[i].1 x.1[i].2 (putsC y.1 (x.1.take i)) := by
        rw [List.take_succ_eq_append_getElem hi]
        unfold putsC
        rw [List.foldl_append]; rfl
      rw [hp]
      exact H7.sub (.cons (.there .here) (.cons .here (.cons (.there .here) (.cons (.there .here) (.cons (.there .here) (.cons (.there .here) (.cons (.there .here) (.cons (.there .here) (.cons (.there .here) (.drop (.refl)))))))))))
    · obtain rfl : i = x.1.length := by omega
      rw [List.take_length] at H
      with_reducible (refine ww_joinS ?_; (try dsimp only); refine ww_field0 ?_; refine ww_ldH (by assumption) (.there .here) (by with_unfolding_all exact rfl) ?_)
      refine ww_appN H (H.sl (.there (.there (.there .here)))) (by omega) (by omega) (allOne_ints _) fun v7 h7 H7 => ?_
      with_reducible (refine ww_field0 ?_; refine ww_ldH (by assumption) (.there (.there (.there .here))) (by with_unfolding_all exact rfl) ?_)
      refine ww_appH H7 (H7.sl (.there (.there (.there (.there (.there (.there (.there (.there (.there .here)))))))))) (by omega) (by omega) (allOne_ints _) fun v8 h8 H8 => ?_
      have o8 := H8.one .here
      have o9 := H8.one (.there .here)
      with_reducible (refine ww_field0 ?_)
      refine ww_st1H H8 (b := b2) (.there (.there .here)) o8 (by simp) fun h9 H9 => ?_
      simp only [List.set_cons_zero, List.set_cons_succ] at H9
      with_reducible (refine ww_chkH (by assumption) (.there (.there .here)) (by with_unfolding_all exact rfl) (by assumption) (.there (.there (.there .here))) (by with_unfolding_all exact rfl) (HS.lt (by assumption) (.there (.there .here))) ?_; refine ww_nil ?_; refine ww_field0 ?_; refine ww_ldH (by assumption) (.there (.there (.there (.there (.there (.there .here)))))) (by with_unfolding_all exact rfl) ?_; refine ww_subI (by omega) ?_)
      rw [show ((ps.length + 1 + 1 : Nat) : Int) - ((1 : Nat) : Int) = ((ps.length + 1 : Nat) : Int) by omega]
      refine ww_cutH (H9.sel (.there (.there (.there (.there (.there (.there (.there .here)))))))) (by omega) (by omega) fun v10 H10 => ?_
      rw [← hcl2, List.take_left] at H10
      with_reducible (refine ww_nil ?_; refine ww_field0 ?_)
      refine ww_st1H H10 (b := q) (.there (.there (.there (.there (.there (.there (.there .here))))))) (H10.one .here) (by simp) fun h11 H11 => ?_
      simp only [List.set_cons_zero, List.set_cons_succ] at H11
      with_reducible (refine ww_nil ?_; refine ww_field0 ?_; refine ww_ldH (by assumption) .here (by with_unfolding_all exact rfl) ?_; refine ww_subI (by omega) ?_)
      rw [show ((ps.length + 1 + 1 : Nat) : Int) - ((2 : Nat) : Int) = ((ps.length : Nat) : Int) by omega]
      refine ww_ldNH H11 (b := b2) (l := [cv, v8]) (.there (.there .here)) rfl (by omega) rfl ?_
      refine ww_slN (H11.sel (.there .here)) (by omega) rfl (by simp [allOne, o8.2, o9.2]) fun h12 H12 => ?_
      rw [cells_put _ _ _ _ _ _ hcl] at H12
      with_reducible (refine ww_leave ?_)
      refine ww_ret ⟨rfl, RgC.I1 (v := v10) (p := (cv, v8)) (ps := ps) e ?_⟩
      rw [List.map_append, List.length_append]
      exact H12.sub (.cons (.there .here) (.cons .here (.cons (.there (.there .here)) (.cons (.there .here) (.cons (.there (.there (.there .here))) (.drop (.drop (.drop (.drop (.drop (.refl)))))))))))

theorem mergeL_keep {x y : LvM} {r : List LvM} : mergeL (keepL (x :: y :: r)).2 = mergeL (x :: y :: r) := by
  unfold mergeL keepL
  simp only [List.foldl_cons]
  rfl
theorem frS_keep {x y : LvM} {r : List LvM} : frS (keepL (x :: y :: r)).2 = frS (x :: y :: r) := by
  unfold frS keepL
  simp
  omega
theorem freesL_frS (lv : List LvM) : (freesL lv).length = frS lv := by
  unfold freesL frS
  rw [List.length_flatMap, List.map_reverse, rsum]

theorem rlwhole_ok {n q most : Nat} (hn : 4 ≤ n) {lv : List LvM} (H : HS g h (RgC q most lv :: R)) (O : OkL most lv) (hf : frS lv < 1000000) :
    wp (callT tab rtab n (.fn 59 [] []) [.ptr q 0] h) fun v h' => ∃ cv fv, v = .agg [cv, fv] ∧
      HS g h' (SliC 83 2 (mergeL lv).length cv ((mergeL lv).flatMap encC) :: SliC 3 1 (freesL lv).length fv ((freesL lv).map (.int .i64)) :: RgC q most lv :: R) := by
  have hfx : ∀ (l : List LvM), ∀ x ∈ l, x.2.length ≤ frS l := by
    intro l
    induction l with
    | nil => intro x hx; cases hx
    | cons y r ih =>
      intro x hx
      rw [frS_cons]
      rcases List.mem_cons.1 hx with rfl | hx
      · omega
      · have := ih x hx; omega
  have hd := O.deep
  (refine ww_fn (g := W59) rfl (by omega) fun k hk => ?_; show wp (S59 (callT tab rtab k) _ _) _; unfold S59; try simp only [Int.ofNat_eq_natCast])
  refine ww_boxA H rfl fun b0 h1 H => ?_
  refine ww_call (rlcopy_ok (by omega) (H.sel (.there .here)) O fun x hx => by have := hfx lv x hx; omega) ?_
  rintro _ h2 ⟨o, rfl, H⟩
  refine ww_iter (fun m s h' => ∃ (lv' : List LvM), s = (.ptr o 0, .ptr b0 0, .ptr q 0, ()) ∧ m = lv'.length ∧ OkL most lv' ∧ mergeL lv' = mergeL lv ∧ frS lv' = frS lv ∧ HS g h' (RgC o most lv' :: RgC q most lv :: ObjC b0 [.nils, .nils] :: R))
    ?_ (m := lv.length) (by show _ < 1000000000; omega) ⟨lv, rfl, rfl, O, rfl, rfl, H⟩
  clear H
  rintro m ih s h3 hih ⟨lv', rfl, rfl, O', hm, hs, H⟩
  dsimp only
  have hH := H
  have hd' := O'.deep
  obtain ⟨v, ps, e, H⟩ := RgC.E H
  with_reducible (refine ww_nil ?_; refine ww_field0 ?_; refine ww_ldH (by assumption) .here (by with_unfolding_all exact rfl) ?_; refine ww_lenH (by assumption) (.there .here) ?_)
  refine ww_gtrC (fun hgt => ww_condT ?_) fun hle => ww_condF ?_
  · rcases lv' with _ | ⟨x, _ | ⟨y, r⟩⟩
    · simp at hgt
    · simp at hgt
    refine ww_call (rlkeep_ok (by omega) hH O' (by omega)) ?_
    rintro _ h4 ⟨rfl, H4⟩
    exact hih _ _ _ (by simp [keepL]) ⟨_, rfl, rfl, keepL_ok O', mergeL_keep.trans hm, frS_keep.trans hs, H4⟩
  · rcases lv' with _ | ⟨x, _ | ⟨y, r⟩⟩
    · have := O'.one; simp at this
    · have hmx : x.1 = mergeL lv := hm
      clear hih
      obtain ⟨v, p, ps, e, H⟩ := RgC.E1 hH
      have e : ps = [] := List.eq_nil_of_length_eq_zero (by simpa using e)
      subst e
      have oC := H.one (.there (.there .here))
      with_reducible (refine ww_nil ?_; refine ww_field0 ?_; refine ww_ldH (by assumption) .here (by with_unfolding_all exact rfl) ?_)
      refine ww_idxF (i := 0) (x := p.1) (H.sl (.there .here)) (by omega) (by simp) rfl ?_
      refine ww_build (l := [p.1, .nils]) (by simp only [afill, oC.1]; rfl) ?_
      refine ww_boxA H rfl fun b1 h4 H => ww_stH H .here rfl (by show 0 + 2 ≤ 2; omega) (by show (p.1.one && (true && true)) = true; rw [oC.2]; rfl) fun h5 H => ?_
      rw [hmx] at H
      have H : HS g h5 (ObjC b1 [p.1, .nils] :: SliC 83 2 (mergeL lv).length p.1 ((mergeL lv).flatMap encC) :: RgC q most lv :: ObjC b0 [.nils, .nils] :: R) := H.sub (.cons .here (.cons (.there (.there .here)) (.drop (.drop (.drop (.drop .refl))))))
      obtain ⟨v2, ps2, e2, H⟩ := RgC.E (H.sel (.there (.there .here)))
      refine ww_iter (fun m s h' => ∃ (i : Nat) (acc : AV), s = (.int .i64 (i : Int), .ptr b1 0, .ptr b0 0, .ptr q 0, ()) ∧ i ≤ lv.length ∧ m = lv.length - i ∧
        HS g h' (SliC 3 1 ((lv.reverse.take i).flatMap (·.2)).length acc (((lv.reverse.take i).flatMap (·.2)).map (.int .i64)) :: ObjC b1 [p.1, acc] :: ObjC q [.int .i64 (most : Int), v2] :: SliC 96 2 lv.length v2 (cellsR ps2) ::
          .all (List.zipWith RlC ps2 lv) :: SliC 83 2 (mergeL lv).length p.1 ((mergeL lv).flatMap encC) :: ObjC b0 [.nils, .nils] :: R))
        ?_ (m := lv.length) (by show _ < 1000000000; omega) ⟨0, .nils, rfl, by omega, by omega, ?_⟩
      · clear H
        rintro m ih s h' hih ⟨i, acc, rfl, h1, rfl, H⟩
        dsimp only
        with_reducible (refine ww_nil ?_; refine ww_field0 ?_; refine ww_ldH (by assumption) (.there (.there .here)) (by with_unfolding_all exact rfl) ?_; refine ww_lenH (by assumption) (.there (.there (.there .here))) ?_)
        refine ww_lssC (fun hlt => ww_condT ?_) fun hge => ww_condF ?_
        · have hi : i < lv.length := by omega
          have ha : ps2[ps2.length - 1 - i]? = some (ps2[ps2.length - 1 - i]'(by omega)) := List.getElem?_eq_getElem _
          have hx : lv[ps2.length - 1 - i]? = some (lv[ps2.length - 1 - i]'(by omega)) := List.getElem?_eq_getElem _
          generalize ps2[ps2.length - 1 - i]'(by omega) = a at ha
          have hx2 : lv.reverse[i]? = some (lv[ps2.length - 1 - i]'(by omega)) := by rw [List.getElem?_reverse hi, ← hx, e2]
          generalize lv[ps2.length - 1 - i]'(by omega) = z at hx hx2
          with_reducible (refine ww_field0 ?_; refine ww_ldH (by assumption) (.there .here) (by with_unfolding_all exact rfl) ?_; refine ww_nil ?_; refine ww_field0 ?_; refine ww_ldH (by assumption) (.there (.there .here)) (by with_unfolding_all exact rfl) ?_)
          refine ww_idxF (x := a.2) (H.sl (.there (.there (.there .here)))) (by omega) (by omega) (by rw [cellsR_get (by omega) (by omega), ha]; rfl) ?_
          obtain ⟨T, s⟩ := zip_selR ha hx
          have H3 := RlC.E (HS.allSel s (H.sel (.there (.there (.there (.there .here))))))
          have hlen : ((lv.reverse.take i).flatMap (·.2)).length + z.2.length ≤ (freesL lv).length := by
            have e1 : lv.reverse.flatMap (·.2) = (lv.reverse.take (i + 1)).flatMap (·.2) ++ (lv.reverse.drop (i + 1)).flatMap (·.2) := by rw [← List.flatMap_append, List.take_append_drop]
            unfold freesL
            rw [e1, List.take_add_one, hx2]
            simp
          rw [freesL_frS] at hlen
          refine ww_appH (H3.sel (.there (.there (.there .here)))) (H3.sl (.there .here)) (by omega) (by omega) (allOne_ints _) fun v4 h4 H4 => ?_
          with_reducible (refine ww_field0 ?_)
          refine ww_st1H H4 (b := b1) (.there (.there (.there (.there .here)))) (H4.one .here) (by simp) fun h5 H5 => ?_
          simp only [List.set_cons_zero, List.set_cons_succ] at H5
          refine ww_addI (by omega) (hih (lv.length - (i + 1)) _ _ (by omega) ⟨i + 1, v4, rfl, by omega, rfl, ?_⟩)
          rw [List.take_add_one, hx2, Option.toList_some, List.flatMap_append, List.map_append, List.length_append, List.flatMap_cons, List.flatMap_nil, List.append_nil]
          have H6 := HS.allUn s (RlC.I (p := a) (x := z) (H5.sub (.cons (.there (.there .here)) (.cons (.there (.there .here)) (.cons (.there (.there .here)) .refl)))))
          exact H6.sub (.cons (.there (.there .here)) (.cons (.there .here) (.cons (.there .here) (.cons (.there .here) (.refl)))))
        · obtain rfl : i = lv.length := by omega
          rw [List.take_of_length_le (by simp)] at H
          have oF := H.one .here
          refine ww_ldNH H (b := b1) (l := [p.1, acc]) (.there .here) rfl (by omega) rfl ?_
          refine ww_stH H (b := b0) (.there (.there (.there (.there (.there (.there .here)))))) rfl (by show 0 + 2 ≤ 2; omega) (by simp [allOne, AV.cells, oC.2, oF.2]) fun h6 H6 => ?_
          have H7 : HS g h6 (ObjC b0 [p.1, acc] :: SliC 3 1 (lv.reverse.flatMap (·.2)).length acc ((lv.reverse.flatMap (·.2)).map (.int .i64)) :: ObjC b1 [p.1, acc] :: ObjC q [.int .i64 (most : Int), v2] :: SliC 96 2 lv.length v2 (cellsR ps2) ::
            .all (List.zipWith RlC ps2 lv) :: SliC 83 2 (mergeL lv).length p.1 ((mergeL lv).flatMap encC) :: R) := H6
          refine ww_leave (ww_ldNH H7 (b := b0) (l := [p.1, acc]) .here rfl (by omega) rfl (ww_ret ⟨p.1, acc, rfl, ?_⟩))
          have H8 := RgC.I (q := q) (most := most) (v := v2) (ps := ps2) e2 (R := SliC 3 1 (freesL lv).length acc ((freesL lv).map (.int .i64)) :: SliC 83 2 (mergeL lv).length p.1 ((mergeL lv).flatMap encC) :: R)
            (H7.sub (.cons (.there (.there (.there .here))) (.cons (.there (.there (.there .here))) (.cons (.there (.there (.there .here))) (.cons (.there .here) (.cons (.there (.there .here)) (.drop (.drop .refl))))))))
          exact H8.sub (.cons (.there (.there .here)) (.cons (.there .here) (.refl)))
      · have H2 := H.nils (e := 3) (sz := 1)
        exact H2.sub (.cons .here (.cons (.there (.there (.there .here))) (.cons .here (.cons .here (.cons .here .refl)))))
    · simp at hle
      omega

/-! ### views -/
def RvC (o : Nat) (M : VM) : SP := .ex fun kv => .ex fun q => .all [ObjC o [.int .i64 (M.sz : Int), kv, .ptr q 0, .int .i64 M.need], SliC 83 2 M.K.length kv (M.K.flatMap encC), RgC q M.most M.lv]
theorem RvC.E {o : Nat} {M : VM} (H : HS g h (RvC o M :: R)) : ∃ kv q, HS g h (ObjC o [.int .i64 (M.sz : Int), kv, .ptr q 0, .int .i64 M.need] :: SliC 83 2 M.K.length kv (M.K.flatMap encC) :: RgC q M.most M.lv :: R) := by
  obtain ⟨kv, H⟩ := H.exE
  obtain ⟨q, H⟩ := H.exE
  exact ⟨kv, q, H.allE⟩
theorem RvC.I {o : Nat} {M : VM} {kv : AV} {q : Nat} (H : HS g h (ObjC o [.int .i64 (M.sz : Int), kv, .ptr q 0, .int .i64 M.need] :: SliC 83 2 M.K.length kv (M.K.flatMap encC) :: RgC q M.most M.lv :: R)) : HS g h (RvC o M :: R) :=
  HS.exI kv (HS.exI q (HS.allI H))

theorem rvnew_ok {n : Nat} (hn : 3 ≤ n) {w m : Int} (H : HS g h R) : wp (callT tab rtab n (.fn 27 [] []) [.int .i64 w, .int .i64 m] h) fun r h' => ∃ o, r = .ptr o 0 ∧ HS g h' (RvC o (newV w m) :: R) := by
  (refine ww_fn (g := W27) rfl (by omega) fun k hk => ?_; show wp (S27 (callT tab rtab k) _ _ _) _; unfold S27; try simp only [Int.ofNat_eq_natCast])
  refine ww_call (rheld_ok (by omega) (by omega)) ?_
  rintro _ _ ⟨rfl, rfl⟩
  refine ww_call (rlnew_ok (by omega) H) ?_
  rintro _ h2 ⟨q, rfl, H2⟩
  refine ww_build rfl (ww_boxA H2 rfl fun o h4 H4 => ww_ret ⟨o, rfl, ?_⟩)
  rw [show max ((32 : Nat) : Int) (min w ((256 : Nat) : Int)) = ((szZ w : Nat) : Int) by unfold szZ; omega] at H4
  have H5 := H4.nils (e := 83) (sz := 2)
  exact RvC.I (M := newV w m) (kv := .nils) (q := q) (H5.sub (.cons (.there .here) (.cons .here (.cons .here .refl))))

theorem rvin_ok {n : Nat} (hn : 1 ≤ n) {o : Nat} {M : VM} {p : Int} (H : HS g h (RvC o M :: R)) : wp (callT tab rtab n (.fn 49 [] []) [.ptr o 0, .int .i64 p] h) fun r h' => r = .bool (decide (1 ≤ p ∧ p < M.sz)) ∧ h' = h := by
  (refine ww_fn (g := W49) rfl (by omega) fun k hk => ?_; show wp (S49 (callT tab rtab k) _ _ _) _; unfold S49; try simp only [Int.ofNat_eq_natCast])
  obtain ⟨kv, q, H⟩ := RvC.E H
  by_cases h1 : 1 ≤ p
  · with_reducible (refine ww_geqT (by omega) ?_; refine ww_joinS ?_; (try dsimp only); refine ww_wantTT ?_; (try dsimp only); refine ww_nil ?_; refine ww_field0 ?_; refine ww_ldH (by assumption) .here (by with_unfolding_all exact rfl) ?_)
    refine ww_lss ?_
    with_reducible (refine ww_pickT ?_)
    refine ww_ret ⟨?_, rfl⟩
    congr 1
    exact decide_eq_decide.2 ⟨fun h2 => ⟨h1, h2⟩, fun h2 => h2.2⟩
  · with_reducible (refine ww_geqF (by omega) ?_; refine ww_joinS ?_; (try dsimp only); refine ww_wantFT ?_; (try dsimp only); refine ww_pickF ?_)
    exact ww_ret ⟨by rw [decide_eq_false (fun h2 => h1 h2.1)], rfl⟩

theorem rvknow_ok {n : Nat} (hn : 2 ≤ n) {o : Nat} {M : VM} {p x : Int} (H : HS g h (RvC o M :: R)) (O : OkV M) :
    wp (callT tab rtab n (.fn 30 [] []) [.ptr o 0, .int .i64 p, .int .u64 x] h) fun r h' => r = .int .i64 (knowV M p x).1 ∧ HS g h' (RvC o (knowV M p x).2 :: R) := by
  (refine ww_fn (g := W30) rfl (by omega) fun k hk => ?_; show wp (S30 (callT tab rtab k) _ _ _ _) _; unfold S30; try simp only [Int.ofNat_eq_natCast])
  refine ww_call (rvin_ok (by omega) H) ?_
  rintro _ _ ⟨rfl, rfl⟩
  have hO := O.hi
  have hkl := O.klen
  unfold knowV
  by_cases hp : 1 ≤ p ∧ p < M.sz
  · rw [if_pos hp]
    rw [decide_eq_true hp]
    have hH := H
    obtain ⟨kv, q, H⟩ := RvC.E H
    with_reducible (refine ww_notT ?_; refine ww_condF ?_; refine ww_nil ?_; refine ww_field0 ?_; refine ww_ldH (by assumption) .here (by with_unfolding_all exact rfl) ?_)
    refine ww_call (rplace_ok (by omega) (H.sl (.there .here)) (by omega)) ?_
    rintro _ _ ⟨rfl, rfl⟩
    cases hi : idxC p M.K with
    | none =>
      refine ww_geqF (by show ¬ ((0 : Nat) : Int) ≤ -1; omega) ?_
      have hg := idxC_none.1 hi
      with_reducible (refine ww_condF ?_; refine ww_nil ?_; refine ww_field0 ?_; refine ww_ldH (by assumption) .here (by with_unfolding_all exact rfl) ?_; refine ww_build (by with_unfolding_all exact rfl) ?_)
      refine ww_buildSH (n := 1) (l := [.int .i64 p, .int .u64 x]) (sz := 2) H rfl rfl rfl rfl fun v7 h7 H7 => ?_
      refine ww_appH (H7.sel (.there (.there .here))) (H7.sl .here) (by omega) (by omega) rfl fun v8 h8 H8 => ?_
      with_reducible (refine ww_nil ?_; refine ww_field0 ?_)
      refine ww_st1H H8 (b := o) (.there (.there .here)) (H8.one .here) (by simp) fun h9 H9 => ?_
      rw [hg]
      refine ww_ret ⟨rfl, RvC.I (M := { M with K := M.K ++ [(p, x)] }) (kv := v8) (q := q) ?_⟩
      rw [List.flatMap_append, List.length_append]
      exact H9.sub (.cons .here (.cons .here (.cons (.there .here) (.drop (.refl)))))
    | some i =>
      obtain ⟨h1, ⟨y, h2, h2'⟩, h5⟩ := idxC_some hi
      refine ww_geqT (by show ((0 : Nat) : Int) ≤ (i : Int); omega) ?_
      with_reducible (refine ww_condT ?_; refine ww_nil ?_; refine ww_field0 ?_; refine ww_ldH (by assumption) .here (by with_unfolding_all exact rfl) ?_)
      refine ww_idxF (x := .int .u64 y) (H.sl (.there .here)) (by omega) h1 (by rw [flat_get (sz := 2) encC (fun _ => rfl) _ _ _ (by omega), h2]; rfl) ?_
      rw [h2']
      by_cases hy : y = x
      · with_reducible (refine ww_neqF (by omega) ?_; refine ww_condF ?_)
        refine ww_ret ⟨by dsimp only; rw [if_pos hy]; rfl, hH⟩
      · with_reducible (refine ww_neqT (by omega) ?_; refine ww_condT ?_)
        refine ww_ret ⟨by dsimp only; rw [if_neg hy]; rfl, hH⟩
  · rw [if_neg hp, decide_eq_false hp]
    with_reducible (refine ww_notF ?_; refine ww_condT ?_)
    exact ww_ret ⟨rfl, H⟩

theorem rvread_ok {n : Nat} (hn : 3 ≤ n) {o : Nat} {M : VM} {p : Int} (H : HS g h (RvC o M :: R)) (O : OkV M) :
    wp (callT tab rtab n (.fn 82 [] []) [.ptr o 0, .int .i64 p] h) fun r h' => r = .tup [.int .u64 (readV M p).1.1, .int .i64 (readV M p).1.2] ∧ HS g h' (RvC o (readV M p).2 :: R) := by
  (refine ww_fn (g := W82) rfl (by omega) fun k hk => ?_; show wp (S82 (callT tab rtab k) _ _ _) _; unfold S82; try simp only [Int.ofNat_eq_natCast])
  refine ww_call (rvin_ok (by omega) H) ?_
  rintro _ _ ⟨rfl, rfl⟩
  have hO := O.hi
  have hkl := O.klen
  unfold readV
  by_cases hp : 1 ≤ p ∧ p < M.sz
  · rw [if_pos hp]
    rw [decide_eq_true hp]
    have hH := H
    obtain ⟨kv, q, H⟩ := RvC.E H
    with_reducible (refine ww_notT ?_; refine ww_condF ?_; refine ww_nil ?_; refine ww_field0 ?_; refine ww_ldH (by assumption) .here (by with_unfolding_all exact rfl) ?_)
    refine ww_call (rlget_ok (by omega) (H.sel (.there (.there .here))) O.lvs) ?_
    rintro _ _ ⟨rfl, rfl⟩
    with_reducible (refine ww_extract (by with_unfolding_all exact rfl) ?_; refine ww_extract (by with_unfolding_all exact rfl) ?_)
    cases hl : getL p M.lv with
    | some y =>
      simp only [Option.isSome_some, Option.getD_some]
      with_reducible (refine ww_condT ?_)
      exact ww_ret ⟨rfl, hH⟩
    | none =>
      simp only [Option.isSome_none]
      with_reducible (refine ww_condF ?_; refine ww_nil ?_; refine ww_field0 ?_; refine ww_ldH (by assumption) .here (by with_unfolding_all exact rfl) ?_)
      refine ww_call (rplace_ok (by omega) (H.sl (.there .here)) (by omega)) ?_
      rintro _ _ ⟨rfl, rfl⟩
      cases hi : idxC p M.K with
      | none =>
        refine ww_geqF (by show ¬ ((0 : Nat) : Int) ≤ -1; omega) ?_
        rw [idxC_none.1 hi]
        with_reducible (refine ww_condF ?_; refine ww_nil ?_; refine ww_field0 ?_)
        refine ww_st1H H (b := o) .here ⟨rfl, rfl⟩ (by simp) fun h9 H9 => ww_ret ⟨rfl, RvC.I (M := { M with need := p }) (kv := kv) (q := q) (H9.sub (.cons .here (.refl)))⟩
      | some i =>
        obtain ⟨h1, ⟨y, h2, h2'⟩, h5⟩ := idxC_some hi
        refine ww_geqT (by show ((0 : Nat) : Int) ≤ (i : Int); omega) ?_
        rw [h2']
        with_reducible (refine ww_condT ?_; refine ww_nil ?_; refine ww_field0 ?_; refine ww_ldH (by assumption) .here (by with_unfolding_all exact rfl) ?_)
        refine ww_idxF (x := .int .u64 y) (H.sl (.there .here)) (by omega) h1 (by rw [flat_get (sz := 2) encC (fun _ => rfl) _ _ _ (by omega), h2]; rfl) ?_
        exact ww_ret ⟨rfl, hH⟩
  · rw [if_neg hp, decide_eq_false hp]
    with_reducible (refine ww_notF ?_; refine ww_condT ?_)
    exact ww_ret ⟨rfl, H⟩

theorem rvtake_ok {n : Nat} (hn : 5 ≤ n) {o : Nat} {M : VM} {cs : List Cl} {c : AV} (H : HS g h (RvC o M :: R)) (O : OkV M) (S : Rd g R 2 cs.length c (cs.flatMap encC)) (hc : cs.length < 100000) :
    wp (callT tab rtab n (.fn 80 [] []) [.ptr o 0, c] h) fun r h' => r = .int .i64 (takeV M cs).1 ∧ HS g h' (RvC o (takeV M cs).2 :: R) := by
  (refine ww_fn (g := W80) rfl (by omega) fun k hk => ?_; show wp (S80 (callT tab rtab k) _ _ _) _; unfold S80; try simp only [Int.ofNat_eq_natCast])
  refine ww_iter (fun k s h' => ∃ i : Nat, s = (.int .i64 (i : Int), c, .ptr o 0, ()) ∧ i ≤ cs.length ∧ k = cs.length - i ∧ h' = h ∧ ∀ j, j < i → ∀ d, cs[j]? = some d → 1 ≤ d.1 ∧ d.1 < M.sz)
    ?_ (m := cs.length) (by show _ < 1000000000; omega) ⟨0, rfl, by omega, by omega, rfl, fun j hj => by omega⟩
  rintro k2 ih s h2 hih ⟨i, rfl, h1, rfl, rfl, hno⟩
  dsimp only
  refine ww_len (S.sl H.drop) ?_
  refine ww_lssC (fun hlt => ww_condT ?_) fun hge => ww_condF ?_
  · have hi : i < cs.length := by omega
    have hci : cs[i]? = some cs[i] := List.getElem?_eq_getElem hi
    refine ww_idxF (x := .int .i64 cs[i].1) (S.sl H.drop) (by omega) hi (by rw [flat_get (sz := 2) encC (fun _ => rfl) _ _ _ (by omega), hci]; rfl) ?_
    refine ww_call (rvin_ok (by omega) H) ?_
    rintro _ _ ⟨rfl, rfl⟩
    by_cases hin : 1 ≤ cs[i].1 ∧ cs[i].1 < M.sz
    · rw [decide_eq_true hin]
      with_reducible (refine ww_notT ?_; refine ww_condF ?_; refine ww_addI (by omega) ?_)
      refine hih (cs.length - (i + 1)) _ _ (by omega) ⟨i + 1, rfl, by omega, rfl, rfl, fun j hj d hd => ?_⟩
      by_cases hj' : j < i
      · exact hno j hj' d hd
      · obtain rfl : j = i := by omega
        rw [hci] at hd; cases hd; exact hin
    · rw [decide_eq_false hin]
      with_reducible (refine ww_notF ?_; refine ww_condT ?_; refine ww_leave ?_)
      unfold takeV
      rw [if_neg (fun h => hin (h _ (List.getElem_mem hi)))]
      exact ww_ret ⟨rfl, H⟩
  · have hall : ∀ d ∈ cs, 1 ≤ d.1 ∧ d.1 < M.sz := by
      intro d hd
      obtain ⟨j, hj⟩ := List.getElem?_of_mem hd
      exact hno j (by have := (List.getElem?_eq_some_iff.1 hj).1; omega) d hj
    obtain ⟨kv, q, H⟩ := RvC.E H
    with_reducible (refine ww_nil ?_; refine ww_field0 ?_; refine ww_ldH (by assumption) .here (by with_unfolding_all exact rfl) ?_)
    refine ww_call (rltake_ok (by omega) (H.sel (.there (.there .here))) O.lvs (fun x hx => Nat.lt_trans (O.fr x hx) (by omega)) (S.more.more) hc) ?_
    rintro _ h4 ⟨rfl, H4⟩
    unfold takeV
    rw [if_pos hall]
    exact ww_leave (ww_ret ⟨rfl, RvC.I (M := { M with lv := (takeL M.most M.lv M.lv cs).2 }) (kv := kv) (q := q) (H4.sub (.cons (.there .here) (.cons (.there .here) (.refl))))⟩)

theorem rvwhole_ok {n : Nat} (hn : 4 ≤ n) {zs : List Int} {a0 : AV} {m : Int} (H : HS g h R) (S : Rd g R 1 zs.length a0 (zs.map (.int .u64))) :
    wp (callT tab rtab n (.fn 23 [] []) [a0, .int .i64 m] h) fun r h' => ∃ o, r = .ptr o 0 ∧ HS g h' (RvC o (wholeV zs m) :: R) := by
  (refine ww_fn (g := W23) rfl (by omega) fun k hk => ?_; show wp (S23 (callT tab rtab k) _ _ _) _; unfold S23; try simp only [Int.ofNat_eq_natCast])
  have hb := szZ_b (zs.length : Int)
  refine ww_len (S.sl H) ?_
  refine ww_call (rvnew_ok (by omega) H) ?_
  rintro _ h1 ⟨o, rfl, H1⟩
  refine ww_iter (fun k s h' => ∃ i : Nat, s = (.int .i64 ((i + 1 : Nat) : Int), .ptr o 0, a0, ()) ∧ i + 1 ≤ szZ zs.length ∧ k = szZ zs.length - (i + 1) ∧ HS g h' (RvC o (preV zs m i) :: R)) ?_ (m := szZ zs.length - 1) (by show _ < 1000000000; omega) ⟨0, rfl, by omega, by omega, H1⟩
  rintro k2 ih s h' hih ⟨i, rfl, h1, rfl, H⟩
  dsimp only
  have hH := H
  obtain ⟨kv, q, H⟩ := RvC.E H
  with_reducible (refine ww_nil ?_; refine ww_field0 ?_; refine ww_ldH (by assumption) .here (by with_unfolding_all exact rfl) ?_)
  show wp (pInt .lss _ (.int .i64 ((szZ zs.length : Nat) : Int)) _) _
  refine ww_lssC (fun hlt => ww_condT ?_) fun hge => ww_condF (ww_leave (ww_ret ⟨o, rfl, ?_⟩))
  · have hi : i + 1 < szZ zs.length := by omega
    have hkt : ((kW zs).take i).length = i := by rw [List.length_take, kW_len]; omega
    refine ww_joinD [] (fun s g' => s = (.int .u64 (wordAt zs (i + 1)), .int .i64 ((i + 1 : Nat) : Int), .ptr o 0, a0, ()) ∧ g' = h') ?_ ?_
    · intro j hj
      refine ww_len (S.sl hH.drop) ?_
      refine ww_lssC (fun hl => ww_condT ?_) fun hl => ww_condF ?_
      · refine ww_idx1 (S.sl hH.drop) (x := .int .u64 (wordAt zs (i + 1))) ?_ (hj _ _ ⟨rfl, rfl⟩)
        unfold wordAt
        rw [List.getElem?_map, List.getElem?_eq_getElem (by omega)]; rfl
      · refine hj _ _ ⟨?_, rfl⟩
        unfold wordAt
        rw [List.getElem?_eq_none (by omega)]; rfl
    · rintro s g' ⟨rfl, rfl⟩
      dsimp only
      with_reducible (refine ww_nil ?_; refine ww_field0 ?_; refine ww_ldH (by assumption) .here (by with_unfolding_all exact rfl) ?_; refine ww_build (by with_unfolding_all exact rfl) ?_)
      refine ww_buildSH (n := 1) (l := [.int .i64 ((i + 1 : Nat) : Int), .int .u64 (wordAt zs (i + 1))]) (sz := 2) H rfl rfl rfl rfl fun v7 h7 H7 => ?_
      have H7' : HS g h7 (SliC 83 2 1 v7 [.int .i64 ((i + 1 : Nat) : Int), .int .u64 (wordAt zs (i + 1))] :: ObjC o [.int .i64 ((szZ zs.length : Nat) : Int), kv, .ptr q 0, .int .i64 0] ::
        SliC 83 2 ((kW zs).take i).length kv (((kW zs).take i).flatMap encC) :: RgC q (preV zs m i).most (preV zs m i).lv :: R) := H7
      refine ww_appH (H7'.sel (.there (.there .here))) (H7'.sl .here) (by omega) (by omega) rfl fun v8 h8 H8 => ?_
      with_reducible (refine ww_nil ?_; refine ww_field0 ?_)
      refine ww_st1H H8 (b := o) (.there (.there .here)) (H8.one .here) (by simp) fun h9 H9 => ?_
      simp only [List.set_cons_zero, List.set_cons_succ] at H9
      refine ww_addI (by omega) (hih (szZ zs.length - (i + 1 + 1)) _ _ (by omega) ⟨i + 1, rfl, by omega, rfl, RvC.I (kv := v8) (q := q) ?_⟩)
      have e1 : (preV zs m (i + 1)).K = (kW zs).take i ++ [(((i + 1 : Nat) : Int), wordAt zs (i + 1))] := by
        show (kW zs).take (i + 1) = _
        rw [List.take_add_one, kW_get zs hi]; rfl
      rw [e1, List.flatMap_append, List.length_append]
      exact H9.sub (.cons .here (.cons .here (.drop .refl)))
  · have hi : i = (kW zs).length := by rw [kW_len]; omega
    subst hi
    unfold preV at hH
    rw [List.take_length] at hH
    exact hH
end Go.Proofs.Ytaepnpodenmmoaa
