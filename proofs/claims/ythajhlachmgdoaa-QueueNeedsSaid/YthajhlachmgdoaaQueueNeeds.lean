/- 'QueueNeeds' comes to true for every argument: its own walk. -/
import Derived.Test.YthajhlachmgdoaaQueueTwo
namespace Go.Proofs.Ythajhlachmgdoaa.queueNeeds
open Go Go.Ae arenaPlays arenaParts
set_option maxRecDepth 100000

variable {g h : AH} {L R : List SP}

theorem law {k : Nat} (hk : 25 ≤ k) {a0 : AV} {cc : CallT} {l : List CallT} (S : Sl (fun b => b < h.nx) h 4 l.length a0 (l.flatMap encL)) (hp : ∀ c ∈ l, 0 ≤ c.2.2.1) (hcc : 0 ≤ cc.2.2.1) :
    wp (W4 (withRun 3 (callT tab rtab k)) [a0, .agg (encL cc)] h) fun v _ => v = .bool true := by
  show wp (S4 (withRun _ (callT tab rtab _)) _ _ _) _
  unfold S4
  try simp only [Int.ofNat_eq_natCast]
  refine ww_boxA (HS.nil h) rfl fun b h0 H0 => ?_
  have H0 : HS h h0 (ObjC b (encL cc) :: []) := H0
  refine ww_run ?_
  with_reducible (refine ww_notT ?_; refine ww_condF ?_)
  refine ww_callZ (by decide) (afresh_ok (by omega) H0) ?_
  rintro wv h1 ⟨e1, H⟩
  refine ww_build (l := [.nils, .nils, .nils, .nils, .nils, .nils, .nils, .nils]) rfl ?_
  refine ww_boxA H rfl fun o h2 H2 => ?_
  have H2 := ((H2.nils (e := 88) (sz := 2)).nils (e := 88) (sz := 2)).sub (L' := SliC e1 1 (freshA 256).length wv ((freshA 256).map (.int .u64)) :: ObjC o [.nils, .nils, .nils, .nils, .nils, .nils, .nils, .nils] ::
    SliC 88 2 0 .nils [] :: SliC 88 2 0 .nils [] :: ObjC b (encL cc) :: []) (.cons (.there (.there (.there .here))) (.cons (.there (.there .here)) (.cons .here (.cons .here .refl))))
  refine ww_iter (fun m s h' => ∃ (i : Nat) (zs : List Int) (wv v4 v5 : AV) (e : TypeId) (hd0 hd1 : Int) (ns0 ns1 : List (Int × Int)) (xs : List AV), s = (.int .i64 (i : Int), .ptr o 0, wv, .ptr b 0, a0, ()) ∧ i ≤ 20 ∧ m = 20 - i ∧ TwoQ zs 256 [] 10 hd0 ns0 11 hd1 ns1 ∧ xs.length = 8 ∧ xs[4]? = some v4 ∧ xs[5]? = some v5 ∧
    HS h h' (SliC e 1 zs.length wv (zs.map (.int .u64)) :: ObjC o xs :: RowC v4 (ns0.map (·.2)) :: RowC v5 (ns1.map (·.2)) :: ObjC b (encL cc) :: []))
    ?_ (m := 20) (by show 20 < 1000000000; omega) ⟨0, freshA 256, wv, .nils, .nils, e1, 0, 0, [], [], [.nils, .nils, .nils, .nils, .nils, .nils, .nils, .nils], rfl, by omega, by omega, fresh_two, rfl, rfl, rfl, H2⟩
  clear H H2 H0
  rintro m ih s h3 hih ⟨i, zs, wv, v4, v5, e, hd0, hd1, ns0, ns1, xs, rfl, hi, rfl, Z, hl, hx4, hx5, H⟩
  dsimp only
  have Sa : Sl (fun _ => True) h3 4 l.length a0 (l.flatMap encL) := (Rd.arg (L := []) S).sl H.drop.drop.drop.drop.drop
  refine ww_len Sa (ww_lss ?_)
  refine ww_join (fun s g' => ∃ (q : AV) (u x : Bool), s = (q, .bool u, .int .i64 (i : Int), .ptr o 0, wv, .ptr b 0, a0, ()) ∧ g' = h3 ∧ (u = true → q = .bool x) ∧ ((u && x) = decide (i < l.length ∧ i < 20))) ?_ ?_
  · intro j hj
    refine ww_want (fun hl => ww_lss (hj _ _ ⟨_, _, decide (i < 20), rfl, rfl, fun _ => (by congr 1; exact decide_eq_decide.2 (by omega)), ?_⟩)) (fun hl => hj _ _ ⟨_, _, false, rfl, rfl, fun h => absurd (of_decide_eq_true h) hl, ?_⟩)
    · have hl' : i < l.length := by omega
      simp [hl']
    · have hl' : ¬ i < l.length := by omega
      simp [hl']
  rintro s h3 ⟨q, u, x, rfl, rfl, hq, hux⟩
  refine ww_pickAnd2 hq ?_
  rw [hux]
  dsimp only
  refine ww_cond (fun hic => ?_) fun hic => ?_
  · have hci : l[i]? = some l[i] := List.getElem?_eq_getElem hic.1
    have hpc := hp l[i] (List.getElem_mem hic.1)
    refine ww_idxN (l := encL l[i]) Sa hic.1 (by omega) (enc_row (sz := 4) (fun _ => rfl) hci) ?_
    generalize l[i] = c at *
    refine ww_callZ (by decide) (mine_ok (by omega) H) ?_
    rintro _ h5 ⟨rfl, H5⟩
    have hwb := within_bounds c.1 (show (7 : Int) ≤ 8 by omega)
    refine ww_callZ (by decide) (step2_ok (c := (withinZ c.1 7 8, c.2)) (by omega) H5 Z hl hx4 hx5 (by dsimp only; omega) hpc) ?_
    rintro _ h9 ⟨wv2, e2, zs2, hd0', ns0', hd1', ns1', xs', v4', v5', rfl, Z2, hl2, q4, q5, _, _, H9⟩
    with_reducible (refine ww_extract (by with_unfolding_all exact rfl) ?_; refine ww_extract (by with_unfolding_all exact rfl) ?_; refine ww_notT ?_; refine ww_condF ?_; refine ww_addI (by omega) ?_)
    exact hih (20 - (i + 1)) _ _ (by omega) ⟨i + 1, zs2, wv2, v4', v5', e2, hd0', hd1', ns0', ns1', xs', rfl, by omega, rfl, Z2, hl2, q4, q5, H9⟩
  clear hih hux hq hic Sa hi
  have hz := Z.H.size.2.2
  refine ww_ldNH H (b := b) (off := 0) (.there (.there (.there (.there .here)))) rfl (by omega) rfl ?_
  refine ww_callZ (by decide) (mine_ok (c := cc) (by omega) H) ?_
  rintro _ h5 ⟨rfl, H5⟩
  have hwb := within_bounds cc.1 (show (7 : Int) ≤ 8 by omega)
  have hrb := within_bounds cc.2.1 (show (0 : Int) ≤ 1 by omega)
  refine ww_stH H5 (b := b) (.there (.there (.there (.there .here)))) rfl (by simp [encL]) rfl fun h6 H6 => ?_
  obtain ⟨c, hc⟩ : ∃ c : CallT, c = (withinZ cc.1 7 8, cc.2) := ⟨_, rfl⟩
  have H6 : HS h h6 (ObjC b (encL (withinZ cc.1 7 8, cc.2)) :: SliC e 1 zs.length wv (zs.map (.int .u64)) :: ObjC o xs :: RowC v4 (ns0.map (·.2)) :: RowC v5 (ns1.map (·.2)) :: []) := H6
  rw [← hc] at H6
  have hw : c.1 = 7 ∨ c.1 = 8 := by rw [hc]; dsimp only; omega
  have hkk : 0 ≤ c.2.2.1 := by rw [hc]; exact hcc
  have hrb : 0 ≤ withinZ c.2.1 0 1 ∧ withinZ c.2.1 0 1 ≤ 1 := by rw [hc]; exact hrb
  clear H H5 hc
  have hkb1 := Int.tmod_nonneg 12 hkk
  have hkb2 := Int.tmod_lt_of_pos c.2.2.1 (show (0 : Int) < 12 by omega)
  refine ww_ldNH H6 (b := b) (off := 0) .here rfl (by omega) rfl ?_
  refine ww_callZ (by decide) (kplace_ok (c := c) (by omega) H6 hw) ?_
  rintro _ h7 ⟨rfl, H7⟩
  refine ww_addI (by omega) ?_
  obtain ⟨p, hpe⟩ : ∃ p, ((6 : Nat) : Int) + (4 + withinZ c.2.1 0 1) = p := ⟨_, rfl⟩
  rw [hpe]
  obtain ⟨hd, ns, p', hd', ns', ZP⟩ : ∃ hd ns p' hd' ns', TwoQ zs 256 [] p hd ns p' hd' ns' := by
    by_cases h0 : withinZ c.2.1 0 1 = 0
    · obtain rfl : p = 10 := by omega
      exact ⟨_, _, _, _, _, Z⟩
    · obtain rfl : p = 11 := by omega
      exact ⟨_, _, _, _, _, Z.swap⟩
  obtain ⟨it, er, C', F', CO⟩ := call_out ZP hw ⟨hkb1, hkb2⟩
  refine ww_lenH H7 (.there .here) ?_
  rw [hz]
  refine ww_callZ (by decide) (vnew_ok (by omega) H7) ?_
  rintro _ h8 ⟨v, rfl, H8⟩
  rw [new_mv] at H8
  refine ww_callZ (by decide) (vwhole_ok (zs := zs) (m := ((96 : Nat) : Int)) (by omega) H8 (H8.rd (.there (.there .here)))) ?_
  rintro _ h9 ⟨u, rfl, H9⟩
  rw [show ((96 : Nat) : Int) = 96 from rfl, whole_mv hz] at H9
  have G := whole_good (m := 96) Z.H.nn
  rw [whole_mv hz] at G
  obtain ⟨k1, k2⟩ := ksub_whole hz
  have hrun : callR (Mv (kW zs) 0) p c.1 (c.2.2.1.tmod 12) = (it, er, if er = 0 then lvV 256 (kW zs) C' F' 0 else Mv (kW zs) 0) := by
    rcases CO.run (kW zs) 0 k1 with ⟨q, h1, h2, _, h3, _⟩ | h
    · exact absurd h3 (k2 q h1 h2)
    · exact h
  refine ww_ptrN ?_
  with_reducible (refine ww_joinS ?_; (try dsimp only); refine ww_wantFF ?_; (try dsimp only))
  refine ww_ptrN ?_
  with_reducible (refine ww_pickF ?_; refine ww_condF ?_)
  refine ww_ldNH H9 (b := b) (off := 0) (.there (.there .here)) rfl (by omega) rfl ?_
  refine ww_callZ (by decide) (qcall_ok (c := c) (by omega) H9 G rfl (by omega) hw hkk (CO.sm _ _ k1)) ?_
  rintro _ h10 ⟨rfl, H10⟩
  rw [hrun] at H10 ⊢
  dsimp only at H10 ⊢
  with_reducible (refine ww_extract (by with_unfolding_all exact rfl) ?_; refine ww_extract (by with_unfolding_all exact rfl) ?_)
  refine ww_boxA H10 rfl fun by_ h11 H11 => ?_
  refine ww_stH H11 (b := by_) .here rfl (by simp) rfl fun h12 H12 => ?_
  have GU : GoodV (if er = 0 then lvV 256 (kW zs) C' F' 0 else Mv (kW zs) 0) := by
    split
    · rename_i he
      refine good_out (W := []) (F := F') G CO.un CO.ins CO.few (CO.wd he) ?_
      rcases CO.out with ⟨h, _⟩ | ⟨_, _, _, _, _, _, hF⟩
      · omega
      · rcases hF with ⟨rfl, _⟩ | ⟨a, rfl, _⟩ <;> simp
    · exact G
  generalize hU : (if er = 0 then lvV 256 (kW zs) C' F' 0 else Mv (kW zs) 0) = U at *
  have H12 : HS h h12 (ViewC v (Mv [] 0) :: ViewC u U :: ObjC by_ (encIt it) :: ObjC b (encL c) :: SliC e 1 zs.length wv (zs.map (.int .u64)) :: []) := H12.sub (.cons (.there (.there .here)) (.cons (.there .here) (.cons .here (.cons .here (.cons .here (.drop (.drop (.drop .refl))))))))
  clear H6 H7 H8 H9 H10 H11
  refine ww_iter (fun m s h' => ∃ (i : Nat) (K : List Cl) (nd : Int), s = (.int .i64 (i : Int), .int .i64 er, .ptr by_ 0, .ptr u 0, .ptr v 0, .int .i64 p, wv, .ptr b 0, ()) ∧ i ≤ 256 ∧ m = 256 - i ∧ K.length = i ∧ KnK zs K ∧
    HS h h' (ViewC v (Mv K nd) :: ViewC u U :: ObjC by_ (encIt it) :: ObjC b (encL c) :: SliC e 1 zs.length wv (zs.map (.int .u64)) :: []))
    ?_ (m := 256) (by show 256 < 1000000000; omega) ⟨0, [], 0, rfl, by omega, by omega, rfl, KnK.nil, H12⟩
  clear H12
  rintro m ih2 s h13 hih2 ⟨i, K, nd, rfl, hi, rfl, hKl, KK, H⟩
  dsimp only
  have hK255 := KK.len
  have GK := KK.good nd
  refine ww_lssT (by omega) (ww_condT ?_)
  refine ww_ldNH H (b := b) (off := 0) (.there (.there (.there .here))) rfl (by omega) rfl ?_
  refine ww_callZ (by decide) (qcall_ok (c := c) (by omega) H GK rfl (by omega) hw hkk (CO.sm _ _ KK.sub)) ?_
  rintro _ h14 ⟨rfl, H14⟩
  have hne := CO.ne
  rcases CO.run K nd KK.sub with ⟨q, g1, g2, _, g3, it', g4⟩ | g4
  · have g4 : callR (Mv K nd) p c.1 (c.2.2.1.tmod 12) = (it', 11, Mv K q) := g4
    rw [g4] at H14 ⊢
    dsimp only at H14 ⊢
    with_reducible (refine ww_extract (by with_unfolding_all exact rfl) ?_; refine ww_extract (by with_unfolding_all exact rfl) ?_)
    refine ww_boxA H14 rfl fun bx h15 H15 => ?_
    refine ww_stH H15 (b := bx) .here rfl (by simp) rfl fun h16 H16 => ?_
    with_reducible (refine ww_neqF (by omega) ?_; refine ww_condF ?_)
    have H16 : HS h h16 (ViewC v (Mv K q) :: ViewC u U :: ObjC by_ (encIt it) :: ObjC b (encL c) :: SliC e 1 zs.length wv (zs.map (.int .u64)) :: []) := H16.drop
    have GQ := KK.good q
    refine ww_callZ (by decide) (vneed_ok (by omega) H16) ?_
    rintro _ h17 ⟨rfl, rfl⟩
    rw [show (Mv K q).need = q from rfl]
    obtain ⟨p2, rfl⟩ : ∃ p2 : Nat, q = (p2 : Int) := ⟨q.toNat, by omega⟩
    with_reducible (refine ww_lssF (by omega) ?_; refine ww_joinS ?_; (try dsimp only); refine ww_wantFF ?_; (try dsimp only); refine ww_lenH (by assumption) (.there (.there (.there (.there .here)))) ?_; refine ww_geqF (by omega) ?_; refine ww_pickF ?_; refine ww_joinS ?_; (try dsimp only); refine ww_wantFF ?_; (try dsimp only))
    refine ww_callZ (by decide) (vcells_ok (by omega) H16 GQ.ok) fun cv h18 H18 => ?_
    rw [show mergeL (Mv K (p2 : Int)).lv = [] from rfl] at H18
    refine ww_lenH H18 .here ?_
    rw [show ([] : List Cl).length = 0 from rfl]
    with_reducible (refine ww_neqF (by omega) ?_; refine ww_pickF ?_; refine ww_joinS ?_; (try dsimp only); refine ww_wantFF ?_; (try dsimp only))
    refine ww_callZ (by decide) (vfrees_ok (by omega) H18.drop GQ.ok) fun fv h19 H19 => ?_
    rw [show freesL (Mv K (p2 : Int)).lv = [] from rfl] at H19
    refine ww_lenH H19 .here ?_
    rw [show ([] : List Int).length = 0 from rfl]
    with_reducible (refine ww_neqF (by omega) ?_; refine ww_pickF ?_; refine ww_joinS ?_; (try dsimp only); refine ww_wantFF ?_; (try dsimp only))
    refine ww_callZ (by decide) (vdepth_ok (by omega) H19.drop) ?_
    rintro _ h20 ⟨rfl, rfl⟩
    rw [show ((Mv K (p2 : Int)).lv.length : Int) = ((1 : Nat) : Int) from rfl]
    with_reducible (refine ww_neqF (by omega) ?_; refine ww_pickF ?_; refine ww_joinS ?_; (try dsimp only); refine ww_wantFF ?_; (try dsimp only))
    refine ww_idx1 (H19.drop.sl (.there (.there (.there (.there .here))))) (wordAt_get (by omega)) ?_
    refine ww_callZ (by decide) (vknow_ok (by omega) H19.drop GQ.ok) ?_
    rintro _ h21 ⟨rfl, H21⟩
    have hkn := know_mv (zs := zs) (nd := (p2 : Int)) g1 g2 g3
    rw [show ((p2 : Int)).toNat = p2 by omega] at hkn
    rw [hkn] at H21 ⊢
    have KK2 := KK.add Z.H.nn g1 g2 g3
    rw [show ((p2 : Int)).toNat = p2 by omega] at KK2
    with_reducible (refine ww_neqF (by omega) ?_; refine ww_pickF ?_; refine ww_joinS ?_; (try dsimp only); refine ww_wantFF ?_; (try dsimp only))
    refine ww_callZ (by decide) (vknown_ok (by omega) H21 (KK2.good _).ok) fun kv h22 H22 => ?_
    refine ww_lenH H22 .here ?_
    rw [show (Mv (K ++ [((p2 : Int), wordAt zs p2)]) (p2 : Int)).K.length = i + 1 by show (K ++ [((p2 : Int), wordAt zs p2)]).length = _; simp [hKl]]
    with_reducible (refine ww_addI (by omega) ?_; refine ww_neqF (by omega) ?_; refine ww_pickF ?_; refine ww_condF ?_; refine ww_addI (by omega) ?_)
    exact hih2 (256 - (i + 1)) _ _ (by omega) ⟨i + 1, K ++ [((p2 : Int), wordAt zs p2)], (p2 : Int), rfl, by omega, rfl, by simp [hKl], KK2, H22.drop⟩
  · have g4 : callR (Mv K nd) p c.1 (c.2.2.1.tmod 12) = (it, er, if er = 0 then lvV 256 K C' F' nd else Mv K nd) := g4
    rw [g4] at H14 ⊢
    dsimp only at H14 ⊢
    have GV : GoodV (if er = 0 then lvV 256 K C' F' nd else Mv K nd) := by
      split
      · rename_i he
        refine good_out (W := []) (F := F') GK CO.un CO.ins CO.few (CO.wd he) ?_
        rcases CO.out with ⟨h, _⟩ | ⟨_, _, _, _, _, _, hF⟩
        · omega
        · rcases hF with ⟨rfl, _⟩ | ⟨a, rfl, _⟩ <;> simp
      · exact GK
    have hVU : mergeL (if er = 0 then lvV 256 K C' F' nd else Mv K nd).lv = mergeL U.lv ∧ freesL (if er = 0 then lvV 256 K C' F' nd else Mv K nd).lv = freesL U.lv ∧ (if er = 0 then lvV 256 K C' F' nd else Mv K nd).lv.length = 1 := by
      rw [← hU]
      split <;> exact ⟨rfl, rfl, rfl⟩
    generalize (if er = 0 then lvV 256 K C' F' nd else Mv K nd) = V at *
    obtain ⟨hv1, hv2, hv3⟩ := hVU
    have hml : (mergeL U.lv).length < 100000000 := by
      have h1 := merge_len (lv := U.lv) (out := [])
      have h2 := GU.ok.lvs.held
      have h3 := GU.ok.lvs.le
      show ((U.lv.foldl (fun out x => putsC x.1 out) []).length) < _
      simp only [List.length_nil] at h1
      omega
    have hfl : (freesL U.lv).length < 1000000 := by
      rw [← hU]
      split
      · show ([(C', F')].reverse.flatMap (·.2)).length < _
        rcases CO.out with ⟨h, _⟩ | ⟨_, _, _, _, _, _, hF⟩
        · omega
        · rcases hF with ⟨rfl, _⟩ | ⟨a, rfl, _⟩ <;> simp
      · show (0 : Nat) < _; omega
    with_reducible (refine ww_extract (by with_unfolding_all exact rfl) ?_; refine ww_extract (by with_unfolding_all exact rfl) ?_)
    refine ww_boxA H14 rfl fun bx h15 H15 => ?_
    refine ww_stH H15 (b := bx) .here rfl (by simp) rfl fun h16 H16 => ?_
    have H16 : HS h h16 (ObjC bx (encIt it) :: ViewC v V :: ViewC u U :: ObjC by_ (encIt it) :: ObjC b (encL c) :: SliC e 1 zs.length wv (zs.map (.int .u64)) :: []) := H16
    refine ww_neqT hne (ww_condT ?_)
    refine ww_ldNH H16 (b := bx) (off := 0) .here rfl (by omega) rfl ?_
    refine ww_ldNH H16 (b := by_) (off := 0) (.there (.there (.there .here))) rfl (by omega) rfl ?_
    refine ww_eqSC (it_eq it it) (fun _ => ?_) (fun h => absurd rfl h)
    rw [show (!false) = true from rfl]
    refine ww_joinS ?_
    refine ww_wantTT ?_
    refine ww_eqlT rfl ?_
    with_reducible (refine ww_pickT ?_; refine ww_joinS ?_; (try dsimp only); refine ww_wantTT ?_; (try dsimp only))
    refine ww_callZ (by decide) (vcells_ok (by omega) (H16.sel (.there .here)) GV.ok) fun c1 h17 H17 => ?_
    refine ww_callZ (by decide) (vcells_ok (by omega) (H17.sel (.there (.there (.there .here)))) GU.ok) fun c2 h18 H18 => ?_
    rw [hv1] at H17 H18
    refine ww_callZ (by decide) (sameC_ok (xs := mergeL U.lv) (ys := mergeL U.lv) (by omega) (H18.sl (.there (.there .here))) (H18.sl .here) hml) ?_
    rintro _ h18 ⟨rfl, rfl⟩
    rw [decide_eq_true rfl]
    with_reducible (refine ww_pickT ?_; refine ww_joinS ?_; (try dsimp only); refine ww_wantTT ?_; (try dsimp only))
    refine ww_callZ (by decide) (vfrees_ok (by omega) (H18.sel (.there (.there (.there .here)))) GV.ok) fun f1 h19 H19 => ?_
    refine ww_callZ (by decide) (vfrees_ok (by omega) (H19.sel (.there (.there (.there .here)))) GU.ok) fun f2 h20 H20 => ?_
    rw [hv2] at H19 H20
    refine ww_callZ (by decide) (sameI_ok (xs := freesL U.lv) (ys := freesL U.lv) (by omega) (H20.sl (.there (.there .here))) (H20.sl .here) (by omega)) ?_
    rintro _ h20 ⟨rfl, rfl⟩
    rw [decide_eq_true rfl]
    with_reducible (refine ww_pickT ?_; refine ww_joinS ?_; (try dsimp only); refine ww_wantTT ?_; (try dsimp only))
    refine ww_callZ (by decide) (vdepth_ok (by omega) (H20.sel (.there (.there (.there .here))))) ?_
    rintro _ h21 ⟨rfl, rfl⟩
    rw [hv3]
    with_reducible (refine ww_eqlT (by omega) ?_; refine ww_pickT ?_; refine ww_leave ?_)
    exact ww_ret rfl

theorem told {h : AH} {l : List AV} (H : WTs Try.prog h 8 Try.f4.params.toList l) : wp (W4 (withRun 3 (callT tab rtab 60)) l h) fun v _ => v = .bool true := by
  have e : Try.f4.params.toList = [34, 36] := by kernel_rfl
  rw [e] at H
  obtain ⟨a0, a1, rfl, H0, H1⟩ := WTs2 H
  simp only [WTV, Try.underlying3, Try.underlying4, Try.underlying28, Try.underlying34, Try.underlying36] at H0 H1
  obtain ⟨q, xs, S, _, H2⟩ := WT_slice (sz := 4) Try.underlying34 (by kernel_rfl) (by omega) H0
  obtain ⟨ks, g1, hp, rfl⟩ := rows_enc (α := CallT) (Pr := fun c => 0 ≤ c.2.2.1) encL S.len (fun i hi => by
    have := H2 i hi
    generalize (xs.drop (i * 4)).take 4 = row at this
    unfold WT at this
    simp only [Try.underlying36] at this
    obtain ⟨g1, g2⟩ := this
    rw [show Try.prog.cellsOf 36 = 4 by kernel_rfl] at g1
    match row, g1 with
    | [x, y, z, u], _ =>
      have f1 := g2 _ (List.mem_cons_self ..)
      have f2 := g2 _ (List.mem_cons_of_mem _ (List.mem_cons_self ..))
      have f3 := g2 _ (List.mem_cons_of_mem _ (List.mem_cons_of_mem _ (List.mem_cons_self ..)))
      have f4 := g2 _ (List.mem_cons_of_mem _ (List.mem_cons_of_mem _ (List.mem_cons_of_mem _ (List.mem_cons_self ..))))
      rw [show Try.prog.cellsOf 3 = 1 by kernel_rfl] at f1 f2
      rw [show Try.prog.cellsOf 28 = 1 by kernel_rfl] at f3 f4
      unfold WT at f1 f2 f3 f4
      simp only [Try.underlying3, List.drop_zero, List.take_succ_cons, List.take_zero, List.drop_succ_cons] at f1 f2
      simp only [Try.underlying28, List.drop_succ_cons, List.drop_zero, List.take_succ_cons, List.take_zero] at f3 f4
      obtain ⟨a, ha, _⟩ := f1
      obtain ⟨b, hb, _⟩ := f2
      obtain ⟨c, hc, hc2⟩ := f3
      obtain ⟨d, hd, _⟩ := f4
      cases ha; cases hb; cases hc; cases hd
      exact ⟨(a, b, c, d), hc2.1, rfl⟩)
  obtain ⟨cl, rfl, H1⟩ := H1
  unfold WT at H1
  simp only [Try.underlying36] at H1
  obtain ⟨g3, g4⟩ := H1
  rw [show Try.prog.cellsOf 36 = 4 by kernel_rfl] at g3
  match cl, g3 with
  | [x, y, z, u], _ =>
    have f1 := g4 _ (List.mem_cons_self ..)
    have f2 := g4 _ (List.mem_cons_of_mem _ (List.mem_cons_self ..))
    have f3 := g4 _ (List.mem_cons_of_mem _ (List.mem_cons_of_mem _ (List.mem_cons_self ..)))
    have f4 := g4 _ (List.mem_cons_of_mem _ (List.mem_cons_of_mem _ (List.mem_cons_of_mem _ (List.mem_cons_self ..))))
    rw [show Try.prog.cellsOf 3 = 1 by kernel_rfl] at f1 f2
    rw [show Try.prog.cellsOf 28 = 1 by kernel_rfl] at f3 f4
    unfold WT at f1 f2 f3 f4
    simp only [Try.underlying3, List.drop_zero, List.take_succ_cons, List.take_zero, List.drop_succ_cons] at f1 f2
    simp only [Try.underlying28, List.drop_succ_cons, List.drop_zero, List.take_succ_cons, List.take_zero] at f3 f4
    obtain ⟨a, ha, _⟩ := f1
    obtain ⟨b, hb, _⟩ := f2
    obtain ⟨c, hc, hc2⟩ := f3
    obtain ⟨d, hd, _⟩ := f4
    cases ha; cases hb; cases hc; cases hd
    exact law (cc := (a, b, c, d)) (by omega) (g1 ▸ S) hp hc2.1
end Go.Proofs.Ythajhlachmgdoaa.queueNeeds
