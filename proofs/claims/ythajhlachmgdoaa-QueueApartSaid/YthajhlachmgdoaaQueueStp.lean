/- Queues: a call on a heap and on plain rows: the walk of 'step', of 'live'. -/
import Derived.Test.YthajhlachmgdoaaQueueStep
namespace Go.Proofs.Ythajhlachmgdoaa.arenaParts
open Go Go.Ae arenaPlays
set_option maxRecDepth 100000

variable {g h : AH} {L R : List SP}

theorem set_same {xs : List AV} {j : Nat} {v : AV} (hx : xs[j]? = some v) : xs.set j v = xs := by
  have hj := (List.getElem?_eq_some_iff.1 hx).1
  apply List.ext_getElem?
  intro i
  rw [List.getElem?_set]
  by_cases hi : j = i
  · subst hi; rw [if_pos rfl, if_pos hj]; exact hx.symm
  · rw [if_neg hi]
theorem HX.bump {W : List Int} {T : Nat} {L fr : List Int} (H : HX W T L fr) : 14 ≤ wordAt W 5 ∧ wordAt W 5 ≤ T := by
  obtain ⟨sts, bs, ls, H⟩ := H
  exact ⟨H.P.low, H.P.bump⟩
theorem good_out {zs C : List Cl} {W F : List Int} {nd : Int} (hK : GoodV (lvV 256 zs [] [] nd)) (hu : UnC C) (hi : InC C) (hl : C.length ≤ 96) (hw : WdC C) (hf : F.length < 1000) : GoodV (lvV 256 zs C F nd) := by
  refine ⟨⟨hK.ok.lo, hK.ok.hi, ⟨?_, by show (96 : Nat) ≤ 96; omega, ?_, ?_, by show 1 ≤ 1; omega, by show 1 ≤ 6; omega⟩, hK.ok.ins, hK.ok.un, ?_⟩, ⟨hK.wd.k, ?_⟩⟩
  · show heldL [(C, F)] ≤ 96
    simp [heldL]; exact hl
  · intro x hx; rw [List.mem_singleton.1 hx]; exact hi
  · intro x hx; rw [List.mem_singleton.1 hx]; exact hu
  · intro x hx; rw [List.mem_singleton.1 hx]; show F.length < 100000; omega
  · intro x hx; rw [List.mem_singleton.1 hx]; exact hw

theorem step5_ok {n : Nat} (hn : 18 ≤ n) {o j : Nat} {xs : List AV} {vj wv : AV} {e : TypeId} {zs : List Int} {p hd p' hd' : Int} {ns ns' : List (Int × Int)} {c : CallT} (H : HS g h (SliC e 1 zs.length wv (zs.map (.int .u64)) :: ObjC o xs :: RowC vj (ns.map (·.2)) :: R))
    (Z : TwoQ zs 256 [] p hd ns p' hd' ns') (hl : xs.length = 8) (hx : xs[j]? = some vj) (hj : 4 + withinZ c.2.1 0 1 = (j : Int)) (hp : p = 6 + (j : Int)) (hw : c.1 = 7 ∨ c.1 = 8) (hkk : 0 ≤ c.2.2.1) :
    wp (callT tab rtab n (.fn 12 [] []) [wv, .ptr o 0, .agg (encL c)] h) fun r h' => ∃ wv' e' zs' hd2 ns2 v', r = .tup [wv', .bool true] ∧ TwoQ zs' 256 [] p hd2 ns2 p' hd' ns' ∧ One v' ∧
      wordAt zs 5 ≤ wordAt zs' 5 ∧ HS g h' (SliC e' 1 zs'.length wv' (zs'.map (.int .u64)) :: ObjC o (xs.set j v') :: RowC v' (ns2.map (·.2)) :: R) := by
  (refine ww_fn (g := W12) rfl (by omega) fun k hk => ?_; show wp (S12 (callT tab rtab k) _ _ _ _) _; unfold S12; try simp only [Int.ofNat_eq_natCast])
  have hz := Z.H.size.2.2
  have hj8 : j < 8 := by have := (List.getElem?_eq_some_iff.1 hx).1; omega
  have hfew := Z.few
  have hrr := Z.rr
  have hbm := Z.H.bump
  have hkb1 := Int.tmod_nonneg 12 hkk
  have hkb2 := Int.tmod_lt_of_pos c.2.2.1 (show (0 : Int) < 12 by omega)
  refine ww_boxA H rfl fun b h1 H1 => ?_
  have H1 : HS g h1 (ObjC b (encL c) :: SliC e 1 zs.length wv (zs.map (.int .u64)) :: ObjC o xs :: RowC vj (ns.map (·.2)) :: R) := H1
  refine ww_call (vwhole_ok (zs := zs) (m := ((96 : Nat) : Int)) (by omega) H1 (H1.rd (.there .here))) ?_
  rintro _ h2 ⟨v, rfl, H2⟩
  rw [show ((96 : Nat) : Int) = 96 from rfl] at H2
  have G := whole_good (m := 96) Z.H.nn
  rw [whole_mv hz] at H2 G
  refine ww_ptrN ?_
  with_reducible (refine ww_condF ?_)
  refine ww_ldNH H2 (b := b) (off := 0) (.there .here) rfl (by omega) rfl ?_
  refine ww_call (kplace_ok (c := c) (by omega) H2 hw) ?_
  rintro _ h3 ⟨rfl, H3⟩
  rw [hj]
  refine ww_addI (by omega) ?_
  rw [show ((6 : Nat) : Int) + (j : Int) = p by omega]
  refine ww_ldNH H3 (b := b) (off := 0) (.there .here) rfl (by omega) rfl ?_
  obtain ⟨k1, k2⟩ := ksub_whole hz
  obtain ⟨it, er, C', F', CO⟩ := call_out Z hw ⟨hkb1, hkb2⟩
  refine ww_call (qcall_ok (c := c) (by omega) H3 G rfl (by omega) hw hkk (CO.sm _ _ k1)) ?_
  rintro _ h4 ⟨rfl, H4⟩
  have hrun : callR (Mv (kW zs) 0) p c.1 (c.2.2.1.tmod 12) = (it, er, if er = 0 then lvV 256 (kW zs) C' F' 0 else Mv (kW zs) 0) := by
    rcases CO.run (kW zs) 0 k1 with ⟨q, h1, h2, _, h3, _⟩ | h
    · exact absurd h3 (k2 q h1 h2)
    · exact h
  rw [hrun] at H4 ⊢
  dsimp only at H4 ⊢
  clear H H1 H2 H3
  with_reducible (refine ww_extract (by with_unfolding_all exact rfl) ?_; refine ww_extract (by with_unfolding_all exact rfl) ?_)
  refine ww_boxA H4 rfl fun bx h5 H5 => ?_
  refine ww_stH H5 (b := bx) .here rfl (by simp) rfl fun h6 H6 => ?_
  have H6 : HS g h6 (ObjC bx (encIt it) :: ViewC v (if er = 0 then lvV 256 (kW zs) C' F' 0 else Mv (kW zs) 0) :: ObjC b (encL c) :: SliC e 1 zs.length wv (zs.map (.int .u64)) :: ObjC o xs :: RowC vj (ns.map (·.2)) :: R) := H6
  clear H4 H5
  rcases CO.out with ⟨rfl, hfull⟩ | ⟨rfl, hb5, ht, hf, hd2, ns2, hrow, hF⟩
  · rw [if_neg (by omega)] at H6
    refine ww_eqlT rfl ?_
    refine ww_joinS ?_
    refine ww_wantTT ?_
    refine ww_lenH H6 (.there (.there (.there .here))) ?_
    with_reducible (refine ww_gtrT (by omega) ?_; refine ww_pickT ?_; refine ww_joinS ?_; (try dsimp only); refine ww_wantTT ?_; (try dsimp only))
    refine ww_idx1 (i := 5) (H6.sl (.there (.there (.there .here)))) (wordAt_get (by omega)) ?_
    refine ww_addU (by omega) ?_
    refine ww_lenH H6 (.there (.there (.there .here))) ?_
    with_reducible (refine ww_convIU (by omega) ?_; refine ww_gtrT (by omega) ?_; refine ww_pickT ?_; refine ww_condT ?_)
    refine ww_call (vcells_ok (by omega) (H6.sel (.there .here)) G.ok) fun cv h7 H7 => ?_
    rw [show mergeL (Mv (kW zs) 0).lv = [] from rfl] at H7
    refine ww_lenH H7 .here ?_
    rw [show ([] : List Cl).length = 0 from rfl]
    with_reducible (refine ww_eqlT (by omega) ?_; refine ww_joinS ?_; (try dsimp only); refine ww_wantTT ?_; (try dsimp only))
    refine ww_call (vfrees_ok (by omega) (H7.sel (.there .here)) G.ok) fun fv h8 H8 => ?_
    rw [show freesL (Mv (kW zs) 0).lv = [] from rfl] at H8
    refine ww_lenH H8 .here ?_
    rw [show ([] : List Int).length = 0 from rfl]
    with_reducible (refine ww_eqlT (by omega) ?_; refine ww_pickT ?_; refine ww_joinS ?_; (try dsimp only); refine ww_wantTT ?_; (try dsimp only))
    refine ww_call (vdepth_ok (by omega) (H8.sel (.there .here))) ?_
    rintro _ h9 ⟨rfl, rfl⟩
    rw [show ((Mv (kW zs) 0).lv.length : Int) = ((1 : Nat) : Int) from rfl]
    with_reducible (refine ww_eqlT (by omega) ?_; refine ww_pickT ?_)
    refine ww_ret ⟨wv, e, zs, hd, ns, vj, rfl, Z, sl_one1 (row_sl H8 (.there (.there (.there (.there (.there (.there (.there .here)))))))), Int.le_refl _, ?_⟩
    rw [set_same hx]
    exact H8.sub (.cons (.there (.there (.there (.there (.there .here))))) (.cons (.there (.there (.there (.there (.there .here))))) (.cons (.there (.there (.there (.there (.there .here))))) (.drop (.drop (.drop (.drop (.drop (.refl)))))))))
  · rw [if_pos rfl] at H6
    have GO := good_out (W := []) (F := F') G CO.un CO.ins CO.few (CO.wd rfl) (by rcases hF with ⟨rfl, _⟩ | ⟨a, rfl, _⟩ <;> simp)
    with_reducible (refine ww_eqlF (by omega) ?_; refine ww_joinS ?_; (try dsimp only); refine ww_wantFT ?_; (try dsimp only); refine ww_pickF ?_; refine ww_joinS ?_; (try dsimp only); refine ww_wantFT ?_; (try dsimp only); refine ww_pickF ?_; refine ww_condF ?_)
    refine ww_ldNH H6 (b := b) (off := 0) (.there (.there .here)) rfl (by omega) rfl ?_
    refine ww_call (odo_ok (c := c) (j := j) (by omega) (H6.sub (L' := ObjC o xs :: RowC vj (ns.map (·.2)) :: ObjC bx (encIt it) :: ViewC v (lvV 256 (kW zs) C' F' 0) :: ObjC b (encL c) :: SliC e 1 zs.length wv (zs.map (.int .u64)) :: R) (.cons (.there (.there (.there (.there .here)))) (.cons (.there (.there (.there (.there .here)))) (.cons .here (.cons .here (.cons .here (.cons .here .refl))))))) hl hx hj hw (by rw [List.length_map]; omega)) ?_
    rintro _ h7 ⟨v', rfl, ov, H7⟩
    generalize hR : rowR c.1 (c.2.2.1.tmod 12) (ns.map (·.2)) = RR at *
    obtain ⟨it2, okk, row2⟩ := RR
    dsimp only at ht hf hrow H7 ⊢
    subst hrow
    with_reducible (refine ww_extract (by with_unfolding_all exact rfl) ?_; refine ww_extract (by with_unfolding_all exact rfl) ?_)
    refine ww_boxA H7 rfl fun by_ h8 H8 => ?_
    refine ww_stH H8 (b := by_) .here rfl (by simp) rfl fun h9 H9 => ?_
    have H9 : HS g h9 (ObjC by_ (encIt it2) :: ObjC o (xs.set j v') :: RowC v' (ns2.map (·.2)) :: ObjC bx (encIt it) :: ViewC v (lvV 256 (kW zs) C' F' 0) :: ObjC b (encL c) :: SliC e 1 zs.length wv (zs.map (.int .u64)) :: R) := H9
    clear H6 H7 H8
    have hW : ∃ Wr, ((F' = [] ∧ Wr = applyZ zs C') ∨ ∃ a c2, F' = [a] ∧ giveA (wholeV (applyZ zs C') 96) a = (0, oneV (applyZ zs C') 96 c2 []) ∧ c2.length ≤ 2 ∧ Wr = applyZ (applyZ zs C') c2) ∧ TwoQ Wr 256 [] p hd2 ns2 p' hd' ns' ∧ wordAt (applyZ zs C') 5 ≤ wordAt Wr 5 := by
      rcases hF with ⟨h1, h2⟩ | ⟨a, h1, h2⟩
      · exact ⟨_, .inl ⟨h1, rfl⟩, h2, Int.le_refl _⟩
      · have hg := give_two h2
        exact ⟨_, .inr ⟨a, _, h1, hg.1, by simp, rfl⟩, hg.2.1, hg.2.2⟩
    have hnA : ∀ z ∈ applyZ zs C', 0 ≤ z ∧ z < 18446744073709551616 := applyZ_nn Z.H.nn (CO.wd rfl)
    obtain ⟨Wr, hWr, Z2, hb6⟩ := hW
    have Z2z := Z2.H.size.2.2
    obtain ⟨w1, w2⟩ := ksub_whole Z2z
    obtain ⟨a1, a2⟩ := all_out Z2
    have hfew2 := Z2.few
    have GW := whole_good (m := 96) Z2.H.nn
    rw [whole_mv Z2z] at GW
    cases okk
    case' false =>
      obtain rfl := hf rfl
      with_reducible (refine ww_neqF (by omega) ?_; refine ww_joinS ?_; (try dsimp only); refine ww_wantFF ?_; (try dsimp only); refine ww_joinS ?_; (try dsimp only); refine ww_wantFT ?_; (try dsimp only); refine ww_joinS ?_; (try dsimp only); refine ww_wantFF ?_; (try dsimp only); refine ww_pickF ?_; refine ww_pickF ?_; refine ww_joinS ?_; (try dsimp only); refine ww_wantFF ?_; (try dsimp only); refine ww_notF ?_; refine ww_joinS ?_; (try dsimp only); refine ww_wantTT ?_; (try dsimp only))
      refine ww_ldNH H9 (b := bx) (off := 0) (.there (.there (.there .here))) rfl (by omega) rfl ?_
      with_reducible (refine ww_build (by with_unfolding_all exact rfl) ?_)
      refine ww_eqSC (it_eq (0, 0) (0, 0)) (fun _ => ?_) (fun h => absurd rfl h)
      rw [show (!true) = false from rfl]
      with_reducible (refine ww_joinS ?_; (try dsimp only); refine ww_wantFF ?_; (try dsimp only); refine ww_pickT ?_; refine ww_pickF ?_; refine ww_joinS ?_; (try dsimp only); refine ww_wantFF ?_; (try dsimp only))
    case' true =>
      obtain rfl := ht rfl
      with_reducible (refine ww_neqF (by omega) ?_; refine ww_joinS ?_; (try dsimp only); refine ww_wantFF ?_; (try dsimp only); refine ww_joinS ?_; (try dsimp only); refine ww_wantTT ?_; (try dsimp only))
      refine ww_ldNH H9 (b := bx) (off := 0) (.there (.there (.there .here))) rfl (by omega) rfl ?_
      refine ww_ldNH H9 (b := by_) (off := 0) .here rfl (by omega) rfl ?_
      refine ww_eqSC (it_eq it it) (fun _ => ?_) (fun h => absurd rfl h)
      rw [show (!true) = false from rfl]
      with_reducible (refine ww_joinS ?_; (try dsimp only); refine ww_wantFF ?_; (try dsimp only); refine ww_pickT ?_; refine ww_pickF ?_; refine ww_joinS ?_; (try dsimp only); refine ww_wantFF ?_; (try dsimp only); refine ww_notT ?_; refine ww_joinS ?_; (try dsimp only); refine ww_wantFT ?_; (try dsimp only); refine ww_joinS ?_; (try dsimp only); refine ww_wantFF ?_; (try dsimp only); refine ww_pickF ?_; refine ww_pickF ?_; refine ww_joinS ?_; (try dsimp only); refine ww_wantFF ?_; (try dsimp only))
    all_goals
      refine ww_call (vdepth_ok (by omega) (H9.sel (.there (.there (.there (.there .here)))))) ?_
      rintro _ h10 ⟨rfl, rfl⟩
      rw [show ((lvV 256 (kW zs) C' F' 0).lv.length : Int) = ((1 : Nat) : Int) from rfl]
      with_reducible (refine ww_neqF (by omega) ?_; refine ww_pickF ?_; refine ww_condF ?_)
      refine ww_call (settle_ok (zs := zs) (Wr := Wr) (cs := C') (F := F') (by omega) (H9.sub (L' := ViewC v (lvV 256 (kW zs) C' F' 0) :: SliC e 1 zs.length wv (zs.map (.int .u64)) :: ObjC o (xs.set j v') :: RowC v' (ns2.map (·.2)) :: ObjC b (encL c) :: R) (.cons (.there (.there (.there (.there .here)))) (.cons (.there (.there (.there (.there (.there .here))))) (.cons (.there .here) (.cons (.there .here) (.cons (.there (.there .here)) (.drop (.drop .refl)))))))) (Rd.own .here) GO hnA rfl (by have := CO.few; omega) (by show [(C', F')].reverse.flatMap (·.2) = F'; simp) hWr) ?_
      rintro _ h11 ⟨wv2, e2, rfl, H11⟩
      with_reducible (refine ww_extract (by with_unfolding_all exact rfl) ?_; refine ww_extract (by with_unfolding_all exact rfl) ?_)
      refine ww_call (vwhole_ok (zs := Wr) (m := ((96 : Nat) : Int)) (by omega) H11 (H11.rd .here)) ?_
      rintro _ h12 ⟨u, rfl, H12⟩
      rw [show ((96 : Nat) : Int) = 96 from rfl, whole_mv Z2z] at H12
      with_reducible (refine ww_notT ?_; refine ww_joinS ?_; (try dsimp only); refine ww_wantFF ?_; (try dsimp only))
      refine ww_ptrN ?_
      with_reducible (refine ww_pickF ?_; refine ww_condF ?_)
      refine ww_call (lall_ok (l := ns2.map (fun q : Int × Int => q.2)) (by omega) H12 GW rfl (by omega) (by rw [a1]) a2 (by rw [List.length_map]; omega)) ?_
      rintro _ h13 ⟨pv, rfl, H13⟩
      rw [a1] at H13
      have H13 : HS g h13 (SliC 88 2 (ns2.map (·.2)).length pv ((rowP (ns2.map (·.2))).flatMap encPr) :: ViewC u (Mv (kW Wr) 0) :: SliC e2 1 Wr.length wv2 (Wr.map (.int .u64)) :: SliC e 1 zs.length wv (zs.map (.int .u64)) :: ObjC o (xs.set j v') :: RowC v' (ns2.map (·.2)) :: ObjC b (encL c) :: R) := H13
      with_reducible (refine ww_extract (by with_unfolding_all exact rfl) ?_; refine ww_extract (by with_unfolding_all exact rfl) ?_; refine ww_eqlT (by omega) ?_; refine ww_joinS ?_; (try dsimp only); refine ww_wantTT ?_; (try dsimp only))
      refine ww_ldNH H13 (b := b) (off := 0) (.there (.there (.there (.there (.there (.there .here)))))) rfl (by omega) rfl ?_
      refine ww_call (kplace_ok (c := c) (by omega) H13 hw) ?_
      rintro _ h14 ⟨rfl, H14⟩
      rw [hj]
      with_reducible (refine ww_nil ?_; refine ww_field0 ?_)
      refine ww_idxP (i := j) hj8 ?_
      rw [show 0 + j * 1 = j by omega]
      refine ww_ldH (x := v') H14 (.there (.there (.there (.there .here)))) (by rw [List.getElem?_set, if_pos rfl, if_pos (by omega)]) ?_
      refine ww_call (sameP_ok (xs := rowP (ns2.map (·.2))) (ys := rowP (ns2.map (·.2))) (by omega) (H14.sl .here) (row_sl H14 (.there (.there (.there (.there (.there .here)))))) (by rw [List.length_map]; omega)) ?_
      rintro _ h14 ⟨rfl, rfl⟩
      rw [decide_eq_true rfl]
      with_reducible (refine ww_pickT ?_; refine ww_joinS ?_; (try dsimp only); refine ww_wantTT ?_; (try dsimp only))
      refine ww_call (vcells_ok (by omega) (H14.sel (.there .here)) GW.ok) fun cv h15 H15 => ?_
      rw [show mergeL (Mv (kW Wr) 0).lv = [] from rfl] at H15
      refine ww_lenH H15 .here ?_
      rw [show ([] : List Cl).length = 0 from rfl]
      with_reducible (refine ww_eqlT (by omega) ?_; refine ww_pickT ?_)
      exact ww_ret ⟨wv2, e2, Wr, hd2, ns2, v', rfl, Z2, ov, by omega, H15.sub (.cons (.there (.there (.there .here))) (.cons (.there (.there (.there (.there .here)))) (.cons (.there (.there (.there (.there .here)))) (.drop (.drop (.drop (.drop (.drop .refl))))))))⟩
theorem step_ok {n : Nat} (hn : 18 ≤ n) {o j : Nat} {xs : List AV} {vj wv : AV} {e : TypeId} {zs : List Int} {p hd p' hd' : Int} {ns ns' : List (Int × Int)} {c : CallT} (H : HS g h (SliC e 1 zs.length wv (zs.map (.int .u64)) :: ObjC o xs :: RowC vj (ns.map (·.2)) :: R))
    (Z : TwoQ zs 256 [] p hd ns p' hd' ns') (hl : xs.length = 8) (hx : xs[j]? = some vj) (hj : 4 + withinZ c.2.1 0 1 = (j : Int)) (hp : p = 6 + (j : Int)) (hw : c.1 = 7 ∨ c.1 = 8) (hkk : 0 ≤ c.2.2.1) :
    wp (callT tab rtab n (.fn 12 [] []) [wv, .ptr o 0, .agg (encL c)] h) fun r h' => ∃ wv' e' zs' hd2 ns2 v', r = .tup [wv', .bool true] ∧ TwoQ zs' 256 [] p hd2 ns2 p' hd' ns' ∧ One v' ∧
      HS g h' (SliC e' 1 zs'.length wv' (zs'.map (.int .u64)) :: ObjC o (xs.set j v') :: RowC v' (ns2.map (·.2)) :: R) := by
  refine wp.mono (step5_ok hn H Z hl hx hj hp hw hkk) ?_
  rintro r h1 ⟨wv', e', zs', hd2, ns2, v', rfl, Z2, ov, _, H1⟩
  exact ⟨wv', e', zs', hd2, ns2, v', rfl, Z2, ov, H1⟩
end Go.Proofs.Ythajhlachmgdoaa.arenaParts
