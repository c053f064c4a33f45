/- 'ModelGives' comes to true for every argument: its own walk. -/
import Derived.Test.YtjpfndpcmoklfaaGreatDoorGiveM
import Derived.Test.YtjpfndpcmoklfaaGreatDoorKeepWords
namespace Go.Proofs.YtjpfndpcmoklfaaGreatDoor.modelGives
open Go Go.Ae
set_option maxRecDepth 100000

variable {g h : AH} {L R : List SP}

theorem ww_strT {K : AV → Go.Ae.R} {Q : AV → AH → Prop} (w : wp (K (.bool true)) Q) : wp (pStr .eql (.str []) (.str []) K) Q := w

theorem osame_ok {n : Nat} (hn : 2 ≤ n) {zs : List Int} {q : Int × VM} {cv wv cv' wv' : AV} {e1 e2 e3 e4 : TypeId} (hc : (outCs q).length < 100000)
    (H : HS g h (SliC e1 2 (outCs q).length cv ((outCs q).flatMap encC) :: SliC e2 1 (outWs zs q).length wv ((outWs zs q).map (.int .u64)) :: SliC e3 2 (outCs q).length cv' ((outCs q).flatMap encC) :: SliC e4 1 (outWs zs q).length wv' ((outWs zs q).map (.int .u64)) :: R)) :
    wp (callT tab rtab n (.fn 6 [] []) [outA q cv' wv', outA q cv wv] h) fun r h' => r = .bool true ∧ HS g h' R := by
  (refine ww_fn (g := W6) rfl (by omega) fun k hk => ?_; show wp (S6 (callT tab rtab k) _ _ _) _; unfold S6; try simp only [Int.ofNat_eq_natCast])
  have w1 := shp H .here
  have w2 := shp H (.there .here)
  have w3 := shp H (.there (.there .here))
  have w4 := shp H (.there (.there (.there .here)))
  have hw : (outWs zs q).length ≤ 256 := by unfold outWs; rw [applyZ_len]; have := szZ_b (zs.length : Int); omega
  unfold outA
  generalize (if q.1 = 0 then (2 : Int) else 4) = kk
  generalize q.1 = er
  refine ww_boxA H (all6 w3 w4) fun b1 h1 H1 => ww_boxA H1 (all6 w1 w2) fun b2 h2 H2 => ?_
  with_reducible (refine ww_field0 ?_; refine ww_ldH (by assumption) (.there .here) (by with_unfolding_all exact rfl) ?_; refine ww_field0 ?_; refine ww_ldH (by assumption) .here (by with_unfolding_all exact rfl) ?_; refine ww_eqlT (by omega) ?_; refine ww_joinS ?_; (try dsimp only); refine ww_wantTT ?_; (try dsimp only); refine ww_field0 ?_; refine ww_ldH (by assumption) (.there .here) (by with_unfolding_all exact rfl) ?_; refine ww_field0 ?_; refine ww_ldH (by assumption) .here (by with_unfolding_all exact rfl) ?_; refine ww_eqlT (by omega) ?_; refine ww_pickT ?_; refine ww_joinS ?_; (try dsimp only); refine ww_wantTT ?_; (try dsimp only); refine ww_field0 ?_; refine ww_ldH (by assumption) (.there .here) (by with_unfolding_all exact rfl) ?_; refine ww_field0 ?_; refine ww_ldH (by assumption) .here (by with_unfolding_all exact rfl) ?_)
  refine ww_strT ?_
  with_reducible (refine ww_pickT ?_; refine ww_joinS ?_; (try dsimp only); refine ww_wantTT ?_; (try dsimp only); refine ww_field0 ?_; refine ww_ldH (by assumption) (.there .here) (by with_unfolding_all exact rfl) ?_; refine ww_field0 ?_; refine ww_ldH (by assumption) .here (by with_unfolding_all exact rfl) ?_)
  refine ww_call (sameC_ok (by omega) (H2.sl (.there (.there (.there (.there .here))))) (H2.sl (.there (.there .here))) (by omega)) ?_
  rintro _ h3 ⟨rfl, rfl⟩
  rw [decide_eq_true rfl]
  with_reducible (refine ww_pickT ?_; refine ww_joinS ?_; (try dsimp only); refine ww_wantTT ?_; (try dsimp only); refine ww_field0 ?_; refine ww_ldH (by assumption) (.there .here) (by with_unfolding_all exact rfl) ?_; refine ww_field0 ?_; refine ww_ldH (by assumption) .here (by with_unfolding_all exact rfl) ?_)
  refine ww_call (sameI_ok (xs := []) (ys := []) (by omega) (Sl.nils (D := fun _ => True)) (Sl.nils (D := fun _ => True)) (by omega)) ?_
  rintro _ h3 ⟨rfl, rfl⟩
  rw [decide_eq_true rfl]
  with_reducible (refine ww_pickT ?_; refine ww_joinS ?_; (try dsimp only); refine ww_wantTT ?_; (try dsimp only); refine ww_field0 ?_; refine ww_ldH (by assumption) (.there .here) (by with_unfolding_all exact rfl) ?_; refine ww_field0 ?_; refine ww_ldH (by assumption) .here (by with_unfolding_all exact rfl) ?_)
  refine ww_call (sameU_ok (by omega) (H2.sl (.there (.there (.there (.there (.there .here)))))) (H2.sl (.there (.there (.there .here)))) (by omega)) ?_
  rintro _ h3 ⟨rfl, rfl⟩
  rw [decide_eq_true rfl]
  with_reducible (refine ww_pickT ?_)
  exact ww_ret ⟨rfl, H2.drop.drop.drop.drop.drop.drop⟩
theorem outCs_len {zs bs : List Int} {m : Int} (hz : ∀ z ∈ zs, 0 ≤ z ∧ z < 18446744073709551616) : (outCs (givesM (wholeV zs m) bs)).length < 100000 := by
  have G0 := arenaPlays.whole_good (m := m) hz
  generalize wholeV zs m = M at G0
  induction bs generalizing M with
  | nil =>
    have h1 := mergeL_len M.lv []
    have h2 := G0.ok.lvs.held
    have h3 := G0.ok.lvs.le
    have h4 : (mergeL M.lv).length ≤ ([] : List Cl).length + heldL M.lv := h1
    show (if (0 : Int) = 0 then mergeL M.lv else []).length < 100000
    rw [if_pos rfl]
    simp at h4
    omega
  | cons b bs ih =>
    unfold givesM
    split
    · exact ih _ (G0.give (b := b)).1
    · rename_i h
      unfold outCs
      rw [if_neg h]
      simp
theorem ww_add8 {a b : Int} {K : AV → Go.Ae.R} {Q : AV → AH → Prop} (h : 0 ≤ a + b ∧ a + b ≤ 255) (w : wp (K (.int .u8 (a + b))) Q) : wp (pInt .add (.int .u8 a) (.int .u8 b) K) Q := by
  exact ww_add (by rw [wrap8 h]; exact w)
theorem law {k : Nat} (hk : 20 ≤ k) {x most : Int} {a1 a2 : AV} {bs ls : List Int} (S1 : Sl (fun b => b < h.nx) h 1 bs.length a1 (bs.map (.int .u8))) (hb : ∀ z ∈ bs, 0 ≤ z ∧ z ≤ 255)
    (S2 : Sl (fun b => b < h.nx) h 1 ls.length a2 (ls.map (.int .u8))) (hl : ∀ z ∈ ls, 0 ≤ z ∧ z ≤ 255) (hm : 0 ≤ most ∧ most ≤ 255) :
    wp (W3 (withRun 4 (callT tab rtab k)) [.int .i64 x, a1, a2, .int .u8 most] h) fun v _ => v = .bool true := by
  show wp (S3 (withRun _ (callT tab rtab _)) _ _ _ _ _) _
  unfold S3
  try simp only [Int.ofNat_eq_natCast]
  refine ww_run ?_
  with_reducible (refine ww_notT ?_; refine ww_condF ?_)
  refine ww_len S2 (ww_gtrC (fun hg => ww_condT (ww_ret rfl)) fun hg => ww_condF ?_)
  refine ww_callZ (by decide) (kwords_ok (by omega) (HS.nil h) (Rd.arg S1) hb) ?_
  rintro wv h1 ⟨zs, hz, hz1, hz2, hsh, hro, H⟩
  have hz : ∀ z ∈ zs, 0 ≤ z ∧ z < 18446744073709551616 := hz
  refine ww_iter (fun m s h' => ∃ (i : Nat) (at' : Int) (gv : AV) (gs : List Int), s = (.int .i64 (i : Int), .int .i64 at', gv, .nils, wv, .int .u8 most, a2, a1, ()) ∧ i ≤ 8 ∧ m = 8 - i ∧ 14 ≤ at' ∧ at' ≤ 14 + 9 * (i : Int) ∧ gs.length ≤ i ∧
    HS h h' (SliC 3 1 gs.length gv (gs.map (.int .i64)) :: SliC 27 1 zs.length wv (zs.map (.int .u64)) :: []))
    ?_ (m := 8) (by show 8 < 1000000000; omega) ⟨0, ((14 : Nat) : Int), .nils, [], rfl, by omega, by omega, by omega, by omega, Nat.le_refl _, H.nils⟩
  clear H
  rintro m ih s h2 hih ⟨i, a, gv, gs, rfl, hi8, rfl, ha, ha2, hgl, H⟩
  dsimp only
  have Sa : Sl (fun _ => True) h2 1 bs.length a1 (bs.map (.int .u8)) := (Rd.arg (L := []) S1).sl (H.drop.drop)
  refine ww_len Sa (ww_lss ?_)
  refine ww_join (fun s g' => ∃ (r : AV) (u x : Bool), s = (r, .bool u, .int .i64 (i : Int), .int .i64 a, gv, .nils, wv, .int .u8 most, a2, a1, ()) ∧ g' = h2 ∧ (u = true → r = .bool x) ∧ ((u && x) = decide (i < bs.length ∧ i < 8))) ?_ ?_
  · intro j hj
    refine ww_want (fun hl => ww_lss (hj _ _ ⟨_, _, decide (i < 8), rfl, rfl, fun _ => (by congr 1; exact decide_eq_decide.2 (by omega)), ?_⟩)) (fun hl => hj _ _ ⟨_, _, false, rfl, rfl, fun h => absurd (of_decide_eq_true h) hl, ?_⟩)
    · have hl' : i < bs.length := by omega
      simp [hl']
    · have hl' : ¬ i < bs.length := by omega
      simp [hl']
  rintro s h2 ⟨r, u, y, rfl, rfl, hr, hux⟩
  refine ww_pickAndK hr ?_
  rw [hux]
  dsimp only
  refine ww_join (fun s g' => ∃ (r : AV) (u x : Bool), s = (r, .bool u, .int .i64 (i : Int), .int .i64 a, gv, .nils, wv, .int .u8 most, a2, a1, ()) ∧ g' = h2 ∧ (u = true → r = .bool x) ∧ (u = true → i < bs.length ∧ i < 8)) ?_ ?_
  · intro j hj
    refine ww_want (fun hl => ?_) (fun hl => hj _ _ ⟨_, _, false, rfl, rfl, fun h => absurd (of_decide_eq_true h) hl, fun h => of_decide_eq_true h⟩)
    have h5 : 5 < zs.length := by omega
    refine ww_idx1 (i := 5) (x := .int .u64 zs[5]) (H.sl (.there .here)) (by rw [List.getElem?_map, List.getElem?_eq_getElem h5]; rfl) (ww_convI (ww_lss ?_))
    exact hj _ _ ⟨_, _, _, rfl, rfl, fun _ => rfl, fun h => of_decide_eq_true h⟩
  rintro s h2 ⟨r, u, y, rfl, rfl, hr, hu⟩
  refine ww_pickAndK hr ?_
  dsimp only
  cases hq : (u && y) with
  | true =>
    have hi := hu (by simp at hq; exact hq.1)
    refine ww_condT ?_
    have hci : (bs.map (AV.int .u8))[i]? = some (.int .u8 bs[i]) := by rw [List.getElem?_map, List.getElem?_eq_getElem hi.1]; rfl
    have hbi := hb bs[i] (List.getElem_mem hi.1)
    have hb1 := Int.tmod_nonneg ((3 : Nat) : Int) hbi.1
    have hb2 := Int.tmod_lt_of_pos bs[i] (show 0 < ((3 : Nat) : Int) by omega)
    refine ww_joinD [] (fun s h' => ∃ (gv : AV) (gs : List Int), s = (.int .i64 (i : Int), .int .i64 a, gv, .nils, wv, .int .u8 most, a2, a1, ()) ∧ gs.length ≤ i + 1 ∧
      HS h h' (SliC 3 1 gs.length gv (gs.map (.int .i64)) :: SliC 27 1 zs.length wv (zs.map (.int .u64)) :: [])) ?_ ?_
    · intro j hj
      refine ww_idx1 Sa hci (ww_and fun z => ?_)
      refine ww_eqlC (fun _ => ww_condT ?_) fun _ => ww_condF (hj _ _ ⟨gv, gs, rfl, by omega, H⟩)
      refine ww_addI (by omega) ?_
      refine ww_buildSH (n := 1) (l := [.int .i64 (a + ((1 : Nat) : Int))]) (sz := 1) H rfl rfl rfl rfl fun v5 h5 H5 => ?_
      refine ww_appH (H5.sel (.there .here)) (H5.sl .here) (by omega) (by omega) rfl fun v6 h6 H6 => ?_
      refine hj _ _ ⟨v6, gs ++ [a + ((1 : Nat) : Int)], rfl, by simp; omega, ?_⟩
      rw [List.map_append, List.length_append]
      exact H6.sub (.cons .here (.cons (.there .here) (.drop (.refl))))
    rintro s h3 ⟨gv2, gs2, rfl, hgl2, H3⟩
    dsimp only
    have Sb : Sl (fun _ => True) h3 1 bs.length a1 (bs.map (.int .u8)) := (Rd.arg (L := []) S1).sl (H3.drop.drop)
    refine ww_addI (by omega) (ww_idx1 Sb hci (ww_rem (by omega) (ww_add8 (by omega) (ww_convIU (by omega) (ww_shl (by omega) ?_)))))
    have htw := tw_b (c := Int.tmod bs[i] ((3 : Nat) : Int) + ((1 : Nat) : Int)) (by omega)
    show wp (pInt .add _ (.int .i64 (tw (Int.tmod bs[i] ((3 : Nat) : Int) + ((1 : Nat) : Int)))) _) _
    generalize tw (Int.tmod bs[i] ((3 : Nat) : Int) + ((1 : Nat) : Int)) = t at *
    refine ww_addI (by omega) (ww_addI (by omega) ?_)
    exact hih (8 - (i + 1)) _ _ (by omega) ⟨i + 1, _, gv2, gs2, rfl, by omega, rfl, by omega, by omega, hgl2, H3⟩
  | false =>
    refine ww_condF ?_
    clear hih Sa hr hux hu hq
    refine ww_iter (fun m s h' => ∃ (i : Nat) (bv : AV) (us : List Int), s = (.int .i64 (i : Int), gv, bv, wv, .int .u8 most, a2, ()) ∧ i ≤ ls.length ∧ m = ls.length - i ∧ us.length = i ∧
      HS h h' (SliC 3 1 us.length bv (us.map (.int .i64)) :: SliC 3 1 gs.length gv (gs.map (.int .i64)) :: SliC 27 1 zs.length wv (zs.map (.int .u64)) :: []))
      ?_ (m := ls.length) (by show _ < 1000000000; omega) ⟨0, .nils, [], rfl, by omega, by omega, rfl, H.nils⟩
    clear H ih
    rintro m ih s h3 hih ⟨j, bv, us, rfl, hj1, rfl, hul, H⟩
    dsimp only
    have Sa : Sl (fun _ => True) h3 1 ls.length a2 (ls.map (.int .u8)) := (Rd.arg (L := []) S2).sl (H.drop.drop.drop)
    refine ww_len Sa (ww_lssC (fun hlt => ww_condT ?_) fun hge => ww_condF ?_)
    · have hj : j < ls.length := by omega
      have hlj := hl ls[j] (List.getElem_mem hj)
      refine ww_idx1 (x := .int .u8 ls[j]) Sa (by rw [List.getElem?_map, List.getElem?_eq_getElem hj]; rfl) (ww_convII (by omega) ?_)
      refine ww_buildSH (n := 1) (l := [.int .i64 ls[j]]) (sz := 1) H rfl rfl rfl rfl fun v5 h5 H5 => ?_
      refine ww_appH (H5.sel (.there .here)) (H5.sl .here) (by omega) (by omega) rfl fun v6 h6 H6 => ?_
      refine ww_addI (by omega) (hih (ls.length - (j + 1)) _ _ (by omega) ⟨j + 1, v6, us ++ [ls[j]], rfl, by omega, rfl, by simp [hul], ?_⟩)
      rw [List.map_append, List.length_append]
      exact H6.sub (.cons .here (.cons (.there .here) (.cons (.there .here) (.drop (.refl)))))
    clear hih ih
    refine ww_convII (by omega) (ww_callZ (by decide) (mgive_ok (by omega) H (H.rd (.there (.there .here))) hsh hro (H.rd .here) hz (by omega) (by omega)) ?_)
    rintro _ h4 ⟨c1, w1, e1, e2, rfl, H4⟩
    refine ww_convII (by omega) (ww_callZ (by decide) (rgives_ok (by omega) H4 (H4.rd (.there (.there (.there (.there .here))))) (H4.rd (.there (.there .here))) hz (by omega)) ?_)
    rintro _ h5 ⟨c2, w2, e3, e4, rfl, H5⟩
    refine ww_callZ (by decide) (osame_ok (by omega) (outCs_len hz) H5) ?_
    rintro _ h6 ⟨rfl, H6⟩
    with_reducible (refine ww_joinS ?_; (try dsimp only); refine ww_wantTT ?_; (try dsimp only); refine ww_convII (by omega) ?_)
    refine ww_callZ (by decide) (mgive_ok (by omega) H6 (H6.rd (.there (.there .here))) hsh hro (H6.rd (.there .here)) hz (by omega) (by omega)) ?_
    rintro _ h7 ⟨c3, w3, e5, e6, rfl, H7⟩
    refine ww_convII (by omega) (ww_callZ (by decide) (rgives_ok (by omega) H7 (H7.rd (.there (.there (.there (.there .here))))) (H7.rd (.there (.there (.there .here)))) hz (by omega)) ?_)
    rintro _ h8 ⟨c4, w4, e7, e8, rfl, H8⟩
    refine ww_callZ (by decide) (osame_ok (by omega) (outCs_len hz) H8) ?_
    rintro _ h9 ⟨rfl, H9⟩
    with_reducible (refine ww_pickT ?_; refine ww_leave ?_)
    exact ww_ret rfl

theorem told {h : AH} {l : List AV} (H : WTs Tryz.prog h 8 Tryz.f3.params.toList l) : wp (W3 (withRun 4 (callT tab rtab 60)) l h) fun v _ => v = .bool true := by
  have e : Tryz.f3.params.toList = [3, 22, 22, 5] := by kernel_rfl
  rw [e] at H
  obtain ⟨a0, a1, a2, a3, rfl, H0, H1, H2, H3⟩ := WTs4 H
  simp only [WTV, Tryz.underlying3, Tryz.underlying4, Tryz.underlying5, Tryz.underlying22] at H0 H1 H2 H3
  obtain ⟨bs, S1, b1⟩ := WT_ints Tryz.underlying22 Tryz.underlying5 (by kernel_rfl) H1
  obtain ⟨ls, S2, b2⟩ := WT_ints Tryz.underlying22 Tryz.underlying5 (by kernel_rfl) H2
  unfold WT at H0 H3
  simp only [Tryz.underlying3, Tryz.underlying4, Tryz.underlying5, Tryz.underlying22] at H0 H3
  obtain ⟨x, hx, _⟩ := H0
  obtain ⟨m, hm, c3⟩ := H3
  cases hx; cases hm
  exact law (by omega) S1 b1 S2 b2 c3
end Go.Proofs.YtjpfndpcmoklfaaGreatDoor.modelGives
