/- 'QueueApart' comes to true for every argument: its own walk. -/
import Derived.Test.YthajhlachmgdoaaQueueGrid
namespace Go.Proofs.Ythajhlachmgdoaa.queueApart
open Go Go.Ae arenaPlays arenaParts
set_option maxRecDepth 100000

variable {g h : AH} {L R : List SP}

/-- marks, so many blocks being looked at -/
def Mk (ot0 ot : List Bool) (bts : List BlkT) (k : Nat) : Prop := ot.length = 257 ∧ ∀ x : Nat, ot[x]? = some true → (∃ b ∈ bts.take k, b.2.2 = true ∧ ((x : Int) = b.1 ∨ (x : Int) = b.1 + 1)) ∨ (ot0[x]? = some true ∧ ∀ b ∈ bts.take k, (x : Int) ≠ b.1 ∧ (x : Int) ≠ b.1 + 1)

theorem law {k : Nat} (hk : 25 ≤ k) {a0 a1 : AV} {cc : CallT} {la lb : List CallT} (S0 : Sl (fun b => b < h.nx) h 4 la.length a0 (la.flatMap encL)) (hp0 : ∀ c ∈ la, 0 ≤ c.2.2.1) (hl0 : la.length ≤ maxLen) (S1 : Sl (fun b => b < h.nx) h 4 lb.length a1 (lb.flatMap encL)) (hp1 : ∀ c ∈ lb, 0 ≤ c.2.2.1) (hl1 : lb.length ≤ maxLen) (hcc : 0 ≤ cc.2.2.1) :
    wp (W5 (withRun 3 (callT tab rtab k)) [a0, a1, .agg (encL cc)] h) fun v _ => v = .bool true := by
  show wp (S5 (withRun _ (callT tab rtab _)) _ _ _ _) _
  unfold S5
  try simp only [Int.ofNat_eq_natCast]
  have hml : maxLen ≤ 9223372036854775807 := by decide
  obtain ⟨Sw, hSw⟩ : ∃ Sw, awrap .i64 ((la.length : Int) + (lb.length : Int)) = Sw := ⟨_, rfl⟩
  have hSw2 : Sw = (la.length : Int) + (lb.length : Int) ∨ Sw < 0 := by rw [← hSw, awrap_eq, wrap_i64]; omega
  refine ww_boxA (HS.nil h) rfl fun b h0 H0 => ?_
  have H0 : HS h h0 (ObjC b (encL cc) :: []) := H0
  refine ww_run ?_
  with_reducible (refine ww_notT ?_; refine ww_condF ?_)
  refine ww_callZ (by decide) (afresh_ok (by omega) H0) ?_
  rintro wv h1 ⟨e1, H⟩
  refine ww_build (l := [.nils, .nils, .nils, .nils, .nils, .nils, .nils, .nils]) rfl ?_
  refine ww_boxA H rfl fun o h2 H2 => ?_
  refine ww_makeN (n := 257) H2 (by omega) fun tv h2b H2b => ?_
  have H2 := ((H2b.nils (e := 88) (sz := 2)).nils (e := 88) (sz := 2)).sub (L' := SliC e1 1 (freshA 256).length wv ((freshA 256).map (.int .u64)) :: ObjC o [.nils, .nils, .nils, .nils, .nils, .nils, .nils, .nils] ::
    SliC 88 2 0 .nils [] :: SliC 88 2 0 .nils [] :: SliC 4 1 257 tv (List.replicate 257 (.bool false)) :: ObjC b (encL cc) :: []) (.cons (.there (.there (.there (.there .here)))) (.cons (.there (.there (.there .here))) (.cons .here (.cons .here (.cons .here .refl)))))
  clear H2b H H0
  refine ww_iter (fun m s h' => ∃ (i : Nat) (zs : List Int) (wv v4 v5 : AV) (e : TypeId) (hd0 hd1 : Int) (ns0 ns1 : List (Int × Int)) (xs : List AV) (ot : List Bool), s = (.int .i64 (i : Int), tv, .ptr o 0, wv, .ptr b 0, a1, a0, ()) ∧ i ≤ 24 ∧ m = 24 - i ∧ TwoQ zs 256 [] 10 hd0 ns0 11 hd1 ns1 ∧ xs.length = 8 ∧ xs[4]? = some v4 ∧ xs[5]? = some v5 ∧
    (i ≤ la.length → hd1 = 0 ∧ ns1 = []) ∧ Oth ot (ownQ hd0 ns0) ∧
    HS h h' (SliC e 1 zs.length wv (zs.map (.int .u64)) :: ObjC o xs :: RowC v4 (ns0.map (·.2)) :: RowC v5 (ns1.map (·.2)) :: SliC 4 1 257 tv (ot.map .bool) :: ObjC b (encL cc) :: []))
    ?_ (m := 24) (by show 24 < 1000000000; omega) ⟨0, freshA 256, wv, .nils, .nils, e1, 0, 0, [], [], [.nils, .nils, .nils, .nils, .nils, .nils, .nils, .nils], List.replicate 257 false, rfl, by omega, by omega, fresh_two, rfl, rfl, rfl, fun _ => ⟨rfl, rfl⟩, ⟨by simp, fun x hx => by
      rw [List.getElem?_replicate] at hx
      split at hx <;> cases hx⟩, by rw [List.map_replicate]; exact H2⟩
  clear H2
  rintro m ih s h3 hih ⟨i, zs, wv, v4, v5, e, hd0, hd1, ns0, ns1, xs, ot, rfl, hi, rfl, Z, hl, hx4, hx5, hB, hO, H⟩
  dsimp only
  have Sa : Sl (fun _ => True) h3 4 la.length a0 (la.flatMap encL) := (Rd.arg S0).sl H
  have Sb : Sl (fun _ => True) h3 4 lb.length a1 (lb.flatMap encL) := (Rd.arg S1).sl H
  refine ww_len Sa (ww_len Sb (ww_add ?_))
  rw [hSw]
  refine ww_lss ?_
  refine ww_join (fun s g' => ∃ (q : AV) (u x : Bool), s = (q, .bool u, .int .i64 (i : Int), tv, .ptr o 0, wv, .ptr b 0, a1, a0, ()) ∧ g' = h3 ∧ (u = true → q = .bool x) ∧ ((u && x) = decide ((i : Int) < Sw ∧ i < 24))) ?_ ?_
  · intro j hj
    refine ww_want (fun hl => ww_lss (hj _ _ ⟨_, _, decide (i < 24), rfl, rfl, fun _ => (by congr 1; exact decide_eq_decide.2 (by omega)), ?_⟩)) (fun hl => hj _ _ ⟨_, _, false, rfl, rfl, fun h => absurd (of_decide_eq_true h) hl, ?_⟩)
    · have hl' : (i : Int) < Sw := hl
      simp [hl']
    · have hl' : ¬ (i : Int) < Sw := hl
      simp [hl']
  rintro s h3 ⟨q, u, x, rfl, rfl, hq, hux⟩
  refine ww_pickAnd2 hq ?_
  rw [hux]
  dsimp only
  refine ww_cond (fun hic => ?_) fun hic => ?_
  · clear hux hq
    have hic : i < la.length + lb.length ∧ i < 24 := by omega
    refine ww_build (l := encL (0, 0, 0, 0)) rfl ?_
    refine ww_boxA H rfl fun q h4 H4 => ?_
    refine ww_stH H4 (b := q) .here rfl (by simp) rfl fun h5 H5 => ?_
    have H5 : HS h h5 (ObjC q (encL (0, 0, 0, 0)) :: SliC e 1 zs.length wv (zs.map (.int .u64)) :: ObjC o xs :: RowC v4 (ns0.map (·.2)) :: RowC v5 (ns1.map (·.2)) :: SliC 4 1 257 tv (ot.map .bool) :: ObjC b (encL cc) :: []) := H5
    clear H H4
    refine ww_joinD [] (fun s h' => ∃ c : CallT, s = (.ptr q 0, .int .i64 (i : Int), tv, .ptr o 0, wv, .ptr b 0, a1, a0, ()) ∧ (c.1 = 7 ∨ c.1 = 8) ∧ 0 ≤ c.2.2.1 ∧ (i < la.length → withinZ c.2.1 0 1 = 0) ∧ (la.length ≤ i → withinZ c.2.1 0 1 = 1) ∧
      HS h h' (ObjC q (encL c) :: SliC e 1 zs.length wv (zs.map (.int .u64)) :: ObjC o xs :: RowC v4 (ns0.map (·.2)) :: RowC v5 (ns1.map (·.2)) :: SliC 4 1 257 tv (ot.map .bool) :: ObjC b (encL cc) :: [])) ?_ ?_
    · intro j hj
      have Sa : Sl (fun _ => True) h5 4 la.length a0 (la.flatMap encL) := (Rd.arg S0).sl H5
      have Sb : Sl (fun _ => True) h5 4 lb.length a1 (lb.flatMap encL) := (Rd.arg S1).sl H5
      refine ww_len Sa ?_
      by_cases hia : i < la.length
      · have hci : la[i]? = some la[i] := List.getElem?_eq_getElem hia
        have hpc := hp0 la[i] (List.getElem_mem hia)
        refine ww_lssT (by omega) (ww_condT ?_)
        refine ww_idxN (l := encL la[i]) Sa hia (by omega) (enc_row (sz := 4) (fun _ => rfl) hci) ?_
        generalize la[i] = c at *
        refine ww_callZ (by decide) (mine_ok (by omega) H5) ?_
        rintro _ h6 ⟨rfl, H6⟩
        have hwb := within_bounds c.1 (show (7 : Int) ≤ 8 by omega)
        refine ww_stH H6 (b := q) .here rfl (by simp [encL]) rfl fun h7 H7 => ?_
        with_reducible (refine ww_field0 ?_)
        refine ww_st1H H7 (b := q) .here ⟨rfl, rfl⟩ (show (1 : Nat) < 4 by omega) fun h8 H8 => ?_
        exact hj _ _ ⟨(withinZ c.1 7 8, 0, c.2.2), rfl, by dsimp only; omega, hpc, fun _ => (show withinZ 0 0 1 = 0 by decide), fun h => by omega, H8⟩
      · refine ww_lssF (by omega) (ww_condF ?_)
        refine ww_len Sa (ww_subI (by omega) ?_)
        rw [show (i : Int) - (la.length : Int) = ((i - la.length : Nat) : Int) by omega]
        have hib : i - la.length < lb.length := by omega
        have hci : lb[i - la.length]? = some lb[i - la.length] := List.getElem?_eq_getElem hib
        have hpc := hp1 lb[i - la.length] (List.getElem_mem hib)
        refine ww_idxN (l := encL lb[i - la.length]) Sb hib (by omega) (enc_row (sz := 4) (fun _ => rfl) hci) ?_
        generalize lb[i - la.length] = c at *
        refine ww_callZ (by decide) (mine_ok (by omega) H5) ?_
        rintro _ h6 ⟨rfl, H6⟩
        have hwb := within_bounds c.1 (show (7 : Int) ≤ 8 by omega)
        refine ww_stH H6 (b := q) .here rfl (by simp [encL]) rfl fun h7 H7 => ?_
        with_reducible (refine ww_field0 ?_)
        refine ww_st1H H7 (b := q) .here ⟨rfl, rfl⟩ (show (1 : Nat) < 4 by omega) fun h8 H8 => ?_
        exact hj _ _ ⟨(withinZ c.1 7 8, 1, c.2.2), rfl, by dsimp only; omega, hpc, fun h => absurd h hia, fun _ => (show withinZ 1 0 1 = 1 by decide), H8⟩
    clear H5
    rintro s h6 ⟨c, rfl, hw, hkk, hwa, hwb, H6⟩
    dsimp only
    refine ww_ldNH H6 (b := q) (off := 0) .here rfl (by omega) rfl ?_
    refine ww_callZ (by decide) (step25_ok (c := c) (by omega) (H6.sub (L' := SliC e 1 zs.length wv (zs.map (.int .u64)) :: ObjC o xs :: RowC v4 (ns0.map (·.2)) :: RowC v5 (ns1.map (·.2)) :: SliC 4 1 257 tv (ot.map .bool) :: ObjC b (encL cc) :: []) (.drop .refl)) Z hl hx4 hx5 hw hkk) ?_
    rintro _ h7 ⟨wv2, e2, zs2, hd0', ns0', hd1', ns1', xs2, v4', v5', rfl, Z2, hl2, q4, q5, f0, f1, hb5, H7⟩
    obtain ⟨bts, hb1, _, _, hb4, hbm, hbl, _⟩ := Z2.H.blocks
    obtain ⟨gr1, _, gr3⟩ := Z2.H.grid hb1
    obtain ⟨bts0, hb01, _⟩ := Z.H.blocks
    obtain ⟨_, gr2, _⟩ := Z.H.grid hb01
    with_reducible (refine ww_extract (by with_unfolding_all exact rfl) ?_; refine ww_extract (by with_unfolding_all exact rfl) ?_; refine ww_notT ?_; refine ww_condF ?_)
    refine ww_callZ (by decide) (ablocks_ok (by omega) H7 (Rd.own .here) Z2.H.nn) ?_
    rintro _ h8 ⟨bv, rfl, H8⟩
    rw [hb1] at H8 ⊢
    have H8 : HS h h8 (SliC 66 3 bts.length bv (bts.flatMap encB) :: SliC e2 1 zs2.length wv2 (zs2.map (.int .u64)) :: ObjC o xs2 :: RowC v4' (ns0'.map (·.2)) :: RowC v5' (ns1'.map (·.2)) :: SliC 4 1 257 tv (ot.map .bool) :: ObjC b (encL cc) :: []) := H8
    simp only [Option.isSome_some, if_true]
    with_reducible (refine ww_extract (by with_unfolding_all exact rfl) ?_; refine ww_extract (by with_unfolding_all exact rfl) ?_; refine ww_neqF (by omega) ?_; refine ww_condF ?_)
    clear H6 H7
    refine ww_iter (fun m s h' => ∃ (k : Nat) (ot' : List Bool), s = (.int .i64 (k : Int), bv, .int .i64 (i : Int), tv, .ptr o 0, wv2, .ptr b 0, a1, a0, ()) ∧ k ≤ bts.length ∧ m = bts.length - k ∧ Mk ot ot' bts k ∧ (la.length ≤ i → ot' = ot) ∧
      HS h h' (SliC 66 3 bts.length bv (bts.flatMap encB) :: SliC e2 1 zs2.length wv2 (zs2.map (.int .u64)) :: ObjC o xs2 :: RowC v4' (ns0'.map (·.2)) :: RowC v5' (ns1'.map (·.2)) :: SliC 4 1 257 tv (ot'.map .bool) :: ObjC b (encL cc) :: []))
      ?_ (m := bts.length) (by show _ < 1000000000; omega) ⟨0, ot, rfl, by omega, by omega, ⟨hO.1, fun x hx => .inr ⟨hx, fun b hb => by rw [List.take_zero] at hb; cases hb⟩⟩, fun _ => rfl, H8⟩
    clear H8
    rintro m ih2 s h9 hih2 ⟨kk, ot', rfl, hk1, rfl, hMk, hsame, H⟩
    dsimp only
    have Sa : Sl (fun _ => True) h9 4 la.length a0 (la.flatMap encL) := (Rd.arg S0).sl H
    refine ww_len Sa (ww_lss ?_)
    refine ww_join (fun s g' => ∃ (q : AV) (u x : Bool), s = (q, .bool u, .int .i64 (kk : Int), bv, .int .i64 (i : Int), tv, .ptr o 0, wv2, .ptr b 0, a1, a0, ()) ∧ g' = h9 ∧ (u = true → q = .bool x) ∧ ((u && x) = decide (i < la.length ∧ kk < bts.length))) ?_ ?_
    · intro j hj
      refine ww_want (fun hl => ww_lenH H .here (ww_lss (hj _ _ ⟨_, _, decide (kk < bts.length), rfl, rfl, fun _ => (by congr 1; exact decide_eq_decide.2 (by omega)), ?_⟩))) (fun hl => hj _ _ ⟨_, _, false, rfl, rfl, fun h => absurd (of_decide_eq_true h) hl, ?_⟩)
      · have hl' : i < la.length := by omega
        simp [hl']
      · have hl' : ¬ i < la.length := by omega
        simp [hl']
    rintro s h9 ⟨q2, u2, x2, rfl, rfl, hq2, hux2⟩
    refine ww_pickAnd2 hq2 ?_
    rw [hux2]
    dsimp only
    refine ww_cond (fun hkc => ?_) fun hkc => ?_
    · clear hux2 hq2
      have hck : bts[kk]? = some bts[kk] := List.getElem?_eq_getElem hkc.2
      have hbk := hbm bts[kk] (List.getElem_mem hkc.2)
      have hcl := gr1 bts[kk] (List.getElem_mem hkc.2)
      have hnext : bts.take (kk + 1) = bts.take kk ++ [bts[kk]] := List.take_succ_eq_append_getElem hkc.2
      generalize bts[kk] = bb at *
      obtain ⟨y, cl, lv⟩ := bb
      dsimp only at hbk hcl
      subst hcl
      rw [show sizeA 1 = 2 from rfl] at hbk
      obtain ⟨y, rfl⟩ : ∃ y2 : Nat, y = (y2 : Int) := ⟨y.toNat, by omega⟩
      have hcell : ∀ f, f < 3 → (bts.flatMap encB)[kk * 3 + f]? = [AV.int .i64 (y : Int), AV.int .i64 1, AV.bool lv][f]? := by
        intro f hf; rw [flat_get (sz := 3) encB (fun _ => rfl) _ _ _ hf, hck]; rfl
      refine ww_idxF (x := .int .i64 (y : Int)) (H.sl .here) (by omega) hkc.2 (hcell 0 (by omega)) ?_
      have hotl := hMk.1
      refine ww_iter (fun m s h' => ∃ (j : Nat) (o2 : List Bool), s = (.int .i64 ((y + j : Nat) : Int), .int .i64 (kk : Int), bv, .int .i64 (i : Int), tv, .ptr o 0, wv2, .ptr b 0, a1, a0, ()) ∧ j ≤ 2 ∧ m = 2 - j ∧ o2 = (if j = 0 then ot' else if j = 1 then ot'.set y lv else (ot'.set y lv).set (y + 1) lv) ∧
        HS h h' (SliC 66 3 bts.length bv (bts.flatMap encB) :: SliC e2 1 zs2.length wv2 (zs2.map (.int .u64)) :: ObjC o xs2 :: RowC v4' (ns0'.map (·.2)) :: RowC v5' (ns1'.map (·.2)) :: SliC 4 1 257 tv (o2.map .bool) :: ObjC b (encL cc) :: []))
        ?_ (m := 2) (by show 2 < 1000000000; omega) ⟨0, ot', rfl, by omega, by omega, rfl, H⟩
      clear H
      rintro m ih3 s h10 hih3 ⟨j, o2, rfl, hj2, rfl, ho2, H⟩
      dsimp only
      refine ww_joinS ?_
      refine ww_idx (H.sl .here) hkc.2 fun b2 off hb2 _ A => ?_
      have A0 : h10.at b2 (off + 0) = some (.int .i64 (y : Int)) := (A 0 (by omega)).trans (hcell 0 (by omega))
      refine ww_fieldA (ww_load1 A0 ?_)
      refine ww_idxF (x := .int .i64 1) (H.sl .here) (by omega) hkc.2 (hcell 1 (by omega)) ?_
      refine ww_callZ (by decide) (asize_ok (by omega)) ?_
      rintro _ h11 ⟨rfl, rfl⟩
      rw [show sizeA 1 = 2 from rfl]
      refine ww_addI (by omega) ?_
      by_cases hj : j < 2
      · refine ww_lssT (by omega) (ww_wantTT ?_)
        refine ww_lenH H (.there (.there (.there (.there (.there .here))))) ?_
        refine ww_lssT (by omega) ?_
        refine ww_pickT (ww_chk1 A0 A0 hb2 ?_)
        dsimp only
        refine ww_condT ?_
        refine ww_idxF (x := .bool lv) (H.sl .here) (by omega) hkc.2 (hcell 2 (by omega)) ?_
        refine ww_slI (H.sel (.there (.there (.there (.there (.there .here)))))) (by omega) ⟨rfl, rfl⟩ fun h12 H12 => ?_
        refine ww_addI (by omega) ?_
        refine hih3 (2 - (j + 1)) _ _ (by omega) ⟨j + 1, o2.set (y + j) lv, ?_, by omega, rfl, ?_, ?_⟩
        · congr 2
        · rw [ho2]
          have : j = 0 ∨ j = 1 := by omega
          rcases this with rfl | rfl <;> rfl
        · rw [List.map_set]
          exact H12.sub (.cons (.there .here) (.cons (.there .here) (.cons (.there .here) (.cons (.there .here) (.cons (.there .here) (.cons .here .refl))))))
      · obtain rfl : j = 2 := by omega
        refine ww_lssF (by omega) (ww_wantFT ?_)
        refine ww_pickF (ww_chk1 A0 A0 hb2 ?_)
        dsimp only
        refine ww_condF ?_
        refine ww_addI (by omega) ?_
        rw [if_neg (by omega), if_neg (by omega)] at ho2
        refine hih2 (bts.length - (kk + 1)) _ _ (by omega) ⟨kk + 1, o2, rfl, by omega, rfl, ⟨by rw [ho2]; simp; exact hotl, fun x hx => ?_⟩, fun h => by omega, H⟩
        rw [ho2] at hx
        rw [hnext]
        rcases set_true hx with ⟨rfl, hlv⟩ | ⟨hx1, hx⟩
        · exact .inl ⟨_, List.mem_append.2 (.inr (List.mem_singleton.2 rfl)), hlv, .inr (by dsimp only; omega)⟩
        rcases set_true hx with ⟨rfl, hlv⟩ | ⟨hx2, hx⟩
        · exact .inl ⟨_, List.mem_append.2 (.inr (List.mem_singleton.2 rfl)), hlv, .inl rfl⟩
        rcases hMk.2 x hx with ⟨d, hd, h1, h2⟩ | ⟨h1, h2⟩
        · exact .inl ⟨d, List.mem_append.2 (.inl hd), h1, h2⟩
        · refine .inr ⟨h1, fun d hd => ?_⟩
          rcases List.mem_append.1 hd with hd | hd
          · exact h2 d hd
          · rw [List.mem_singleton] at hd
            subst hd
            dsimp only
            omega
    · refine ww_addI (by omega) ?_
      refine hih (24 - (i + 1)) _ _ (by omega) ⟨i + 1, zs2, wv2, v4', v5', e2, hd0', hd1', ns0', ns1', xs2, ot', rfl, by omega, rfl, Z2, hl2, q4, q5, fun h => ?_, ?_, H.drop⟩
      · obtain ⟨g1, g2⟩ := f0 (hwa (by omega))
        obtain ⟨g3, g4⟩ := hB (by omega)
        exact ⟨g1.trans g3, g2.trans g4⟩
      · by_cases hia : i < la.length
        · have hkf : kk = bts.length := by omega
          obtain ⟨g1, g2⟩ := f0 (hwa hia)
          obtain ⟨g3, g4⟩ := hB (by omega)
          have hL2 : ownQ hd0' ns0' ++ ownQ hd1' ns1' = ownQ hd0' ns0' := by rw [g1.trans g3, g2.trans g4]; show _ ++ [] = _; simp
          refine ⟨hMk.1, fun x hx => ?_⟩
          rcases hMk.2 x hx with ⟨d, hd, h1, h2⟩ | ⟨h1, h2⟩
          · rw [hkf, List.take_length] at hd
            have := (hbm d hd).2.2.2.1 h1
            rw [hL2] at this
            exact ⟨d.1, this, h2⟩
          · obtain ⟨y, hy, h3⟩ := hO.2 x h1
            obtain ⟨n3, h4, h5⟩ := gr2 y (List.mem_append.2 (.inl hy))
            obtain ⟨l3, h6⟩ := gr3 n3 (by omega)
            have := h2 _ (by rw [hkf, List.take_length]; exact h6)
            dsimp only at this
            omega
        · rw [hsame (by omega)]
          obtain ⟨g1, g2⟩ := f1 (hwb (by omega))
          rw [g1, g2]
          exact hO
  clear hih hux hq hic Sa Sb hi hB
  have hz := Z.H.size.2.2
  refine ww_ldNH H (b := b) (off := 0) (.there (.there (.there (.there (.there .here))))) rfl (by omega) rfl ?_
  refine ww_callZ (by decide) (mine_ok (c := cc) (by omega) H) ?_
  rintro _ h5 ⟨rfl, H5⟩
  have hwb := within_bounds cc.1 (show (7 : Int) ≤ 8 by omega)
  refine ww_stH H5 (b := b) (.there (.there (.there (.there (.there .here))))) rfl (by simp [encL]) rfl fun h6 H6 => ?_
  with_reducible (refine ww_field0 ?_)
  refine ww_st1H H6 (b := b) .here ⟨rfl, rfl⟩ (show (1 : Nat) < 4 by omega) fun h7 H7 => ?_
  obtain ⟨c, hc⟩ : ∃ c : CallT, c = (withinZ cc.1 7 8, 1, cc.2.2) := ⟨_, rfl⟩
  have H7 : HS h h7 (ObjC b (encL (withinZ cc.1 7 8, 1, cc.2.2)) :: SliC e 1 zs.length wv (zs.map (.int .u64)) :: ObjC o xs :: RowC v4 (ns0.map (·.2)) :: RowC v5 (ns1.map (·.2)) :: SliC 4 1 257 tv (ot.map .bool) :: []) := H7
  rw [← hc] at H7
  have hw : c.1 = 7 ∨ c.1 = 8 := by rw [hc]; dsimp only; omega
  have hkk : 0 ≤ c.2.2.1 := by rw [hc]; exact hcc
  have hr1 : withinZ c.2.1 0 1 = 1 := by rw [hc]; exact (show withinZ 1 0 1 = 1 by decide)
  clear H H5 H6 hc
  have hkb1 := Int.tmod_nonneg 12 hkk
  have hkb2 := Int.tmod_lt_of_pos c.2.2.1 (show (0 : Int) < 12 by omega)
  refine ww_ldNH H7 (b := b) (off := 0) .here rfl (by omega) rfl ?_
  refine ww_callZ (by decide) (kplace_ok (c := c) (by omega) H7 hw) ?_
  rintro _ h8 ⟨rfl, H8⟩
  rw [hr1]
  refine ww_addI (by omega) (ww_subI (by omega) ?_)
  rw [show ((6 : Nat) : Int) + (4 + 1) - ((1 : Nat) : Int) = ((10 : Nat) : Int) from rfl, show ((6 : Nat) : Int) + (4 + 1) = 11 from rfl]
  refine ww_slI (i := 10) (H8.sel (.there (.there (.there (.there (.there .here)))))) (by omega) ⟨rfl, rfl⟩ fun h9 H9 => ?_
  rw [← List.map_set] at H9
  have hOl := hO.1
  have hSq : ∀ q : Int, 1 ≤ q → q < 256 → SqP 10 (ownQ hd0 ns0) q → ((ot.set 10 true).map AV.bool)[q.toNat]? = some (.bool false) := by
    intro q h1 h2 h3
    have hlt : q.toNat < (ot.set 10 true).length := by rw [List.length_set, hOl]; omega
    rw [List.getElem?_map, List.getElem?_eq_getElem hlt]
    cases hv : (ot.set 10 true)[q.toNat]
    · rfl
    · have hv2 : (ot.set 10 true)[q.toNat]? = some true := by rw [List.getElem?_eq_getElem hlt, hv]
      rcases set_true hv2 with ⟨h4, _⟩ | ⟨_, h4⟩
      · exact absurd (by omega) h3.1
      · obtain ⟨y, hy, h5⟩ := hO.2 _ h4
        have := h3.2 y hy
        omega
  have hOl2 : (ot.set 10 true).length = 257 := by rw [List.length_set]; exact hOl
  generalize ot.set 10 true = o3 at *
  obtain ⟨it, er, C', F', CO⟩ := call_out Z.swap hw ⟨hkb1, hkb2⟩
  have hne := CO.ne
  refine ww_lenH H9 (.there (.there .here)) ?_
  rw [hz]
  refine ww_callZ (by decide) (vnew_ok (by omega) H9) ?_
  rintro _ h10 ⟨v, rfl, H10⟩
  rw [new_mv] at H10
  refine ww_ptrN ?_
  with_reducible (refine ww_condF ?_; refine ww_joinS ?_; (try dsimp only))
  have H10 : HS h h10 (ViewC v (Mv [] 0) :: SliC 4 1 257 tv (o3.map .bool) :: ObjC b (encL c) :: SliC e 1 zs.length wv (zs.map (.int .u64)) :: []) := H10.sub (.cons .here (.cons .here (.cons .here (.cons .here (.drop (.drop (.drop .refl)))))))
  clear H7 H8 H9
  refine ww_iter (fun m s h' => ∃ (i : Nat) (K : List Cl) (nd : Int), s = (.int .i64 (i : Int), .ptr v 0, .int .i64 11, tv, wv, .ptr b 0, ()) ∧ i ≤ 256 ∧ m = 256 - i ∧ KnK zs K ∧
    HS h h' (ViewC v (Mv K nd) :: SliC 4 1 257 tv (o3.map .bool) :: ObjC b (encL c) :: SliC e 1 zs.length wv (zs.map (.int .u64)) :: []))
    ?_ (m := 256) (by show 256 < 1000000000; omega) ⟨0, [], 0, rfl, by omega, by omega, KnK.nil, H10⟩
  clear H10
  rintro m ih2 s h13 hih2 ⟨i, K, nd, rfl, hi, rfl, KK, H⟩
  dsimp only
  have GK := KK.good nd
  by_cases hi256 : i < 256
  rotate_left
  · refine ww_lssF (by omega) (ww_condF ?_)
    obtain ⟨V, hV⟩ : ∃ V, V = Mv K nd := ⟨_, rfl⟩
    have GV : GoodV V := hV ▸ GK
    have hml2 : (mergeL V.lv).length < 100000 := by rw [hV]; show (0 : Nat) < _; omega
    have hS : ∀ d ∈ mergeL V.lv, 1 ≤ d.1 ∧ d.1 < 256 ∧ SqP 10 (ownQ hd0 ns0) d.1 := by rw [hV]; intro d hd; cases hd
    rw [← hV] at H
    clear hV hih2
    refine ww_callZ (by decide) (vcells_ok (by omega) H GV.ok) fun cv h12 H12 => ?_
    generalize mergeL V.lv = C at *
    refine ww_iter (fun m s h' => ∃ i : Nat, s = (.int .i64 (i : Int), cv, tv, ()) ∧ i ≤ C.length ∧ m = C.length - i ∧ h' = h12) ?_ (m := C.length) (by show _ < 1000000000; omega) ⟨0, rfl, by omega, by omega, rfl⟩
    rintro m ih4 s h13 hih4 ⟨i, rfl, hi, rfl, rfl⟩
    dsimp only
    refine ww_lenH H12 .here ?_
    by_cases hlt : i < C.length
    · have hci : C[i]? = some C[i] := List.getElem?_eq_getElem hlt
      have hd := hS C[i] (List.getElem_mem hlt)
      generalize C[i] = d at *
      obtain ⟨dp, dx⟩ := d
      dsimp only at hd
      obtain ⟨dp, rfl⟩ : ∃ j : Nat, dp = (j : Int) := ⟨dp.toNat, by omega⟩
      have hcell : (C.flatMap encC)[i * 2 + 0]? = some (.int .i64 (dp : Int)) := by rw [flat_get (sz := 2) encC (fun _ => rfl) _ _ _ (by omega), hci]; rfl
      have hsq := hSq _ hd.1 hd.2.1 hd.2.2
      rw [show ((dp : Int)).toNat = dp by omega] at hsq
      with_reducible (refine ww_lssT (by omega) ?_; refine ww_condT ?_)
      refine ww_idxF (H12.sl .here) (by omega) hlt hcell ?_
      with_reducible (refine ww_lssF (by omega) ?_; refine ww_joinS ?_; (try dsimp only); refine ww_wantFF ?_; (try dsimp only))
      refine ww_idxF (H12.sl .here) (by omega) hlt hcell ?_
      refine ww_lenH H12 (.there (.there .here)) ?_
      with_reducible (refine ww_geqF (by omega) ?_; refine ww_pickF ?_; refine ww_joinS ?_; (try dsimp only); refine ww_wantFF ?_; (try dsimp only))
      refine ww_idxF (H12.sl .here) (by omega) hlt hcell ?_
      refine ww_idx1 (H12.sl (.there (.there .here))) hsq ?_
      with_reducible (refine ww_pickF ?_; refine ww_condF ?_; refine ww_addI (by omega) ?_)
      exact hih4 (C.length - (i + 1)) _ _ (by omega) ⟨i + 1, rfl, by omega, rfl, rfl⟩
    · with_reducible (refine ww_lssF (by omega) ?_; refine ww_condF ?_; refine ww_leave ?_)
      exact ww_ret rfl
  refine ww_lssT (by omega) (ww_condT ?_)
  refine ww_ldNH H (b := b) (off := 0) (.there (.there .here)) rfl (by omega) rfl ?_
  refine ww_callZ (by decide) (qcall_ok (c := c) (by omega) H GK rfl (by omega) hw hkk (CO.sm _ _ KK.sub)) ?_
  rintro _ h14 ⟨rfl, H14⟩
  rcases CO.run K nd KK.sub with ⟨q, g1, g2, gS, g3, it', g4⟩ | g4
  · have g4 : callR (Mv K nd) 11 c.1 (c.2.2.1.tmod 12) = (it', 11, Mv K q) := g4
    rw [g4] at H14 ⊢
    dsimp only at H14 ⊢
    with_reducible (refine ww_extract (by with_unfolding_all exact rfl) ?_; refine ww_extract (by with_unfolding_all exact rfl) ?_)
    refine ww_boxA H14 rfl fun bx h15 H15 => ?_
    refine ww_stH H15 (b := bx) .here rfl (by simp) rfl fun h16 H16 => ?_
    with_reducible (refine ww_neqF (by omega) ?_; refine ww_condF ?_)
    have H16 : HS h h16 (ViewC v (Mv K q) :: SliC 4 1 257 tv (o3.map .bool) :: ObjC b (encL c) :: SliC e 1 zs.length wv (zs.map (.int .u64)) :: []) := H16.drop
    have GQ := KK.good q
    refine ww_callZ (by decide) (vneed_ok (by omega) H16) ?_
    rintro _ h17 ⟨rfl, rfl⟩
    rw [show (Mv K q).need = q from rfl]
    have hsq := hSq _ g1 g2 gS
    obtain ⟨p2, rfl⟩ : ∃ p2 : Nat, q = (p2 : Int) := ⟨q.toNat, by omega⟩
    rw [show ((p2 : Int)).toNat = p2 by omega] at hsq
    with_reducible (refine ww_lssF (by omega) ?_; refine ww_joinS ?_; (try dsimp only); refine ww_wantFF ?_; (try dsimp only); refine ww_lenH (by assumption) (.there (.there (.there .here))) ?_; refine ww_geqF (by omega) ?_; refine ww_pickF ?_; refine ww_joinS ?_; (try dsimp only); refine ww_wantFF ?_; (try dsimp only))
    refine ww_idx1 (H16.sl (.there .here)) hsq ?_
    with_reducible (refine ww_pickF ?_; refine ww_joinS ?_; (try dsimp only); refine ww_wantFF ?_; (try dsimp only))
    refine ww_idx1 (H16.sl (.there (.there (.there .here)))) (wordAt_get (by omega)) ?_
    refine ww_callZ (by decide) (vknow_ok (by omega) H16 GQ.ok) ?_
    rintro _ h21 ⟨rfl, H21⟩
    have hkn := know_mv (zs := zs) (nd := (p2 : Int)) g1 g2 g3
    rw [show ((p2 : Int)).toNat = p2 by omega] at hkn
    rw [hkn] at H21 ⊢
    have KK2 := KK.add Z.H.nn g1 g2 g3
    rw [show ((p2 : Int)).toNat = p2 by omega] at KK2
    with_reducible (refine ww_neqF (by omega) ?_; refine ww_pickF ?_; refine ww_condF ?_; refine ww_addI (by omega) ?_)
    exact hih2 (256 - (i + 1)) _ _ (by omega) ⟨i + 1, K ++ [((p2 : Int), wordAt zs p2)], (p2 : Int), rfl, by omega, rfl, KK2, H21⟩
  · have g4 : callR (Mv K nd) 11 c.1 (c.2.2.1.tmod 12) = (it, er, if er = 0 then lvV 256 K C' F' nd else Mv K nd) := g4
    rw [g4] at H14 ⊢
    dsimp only at H14 ⊢
    have GV : GoodV (if er = 0 then lvV 256 K C' F' nd else Mv K nd) := by
      split
      · rename_i he
        refine good_out (W := []) (F := F') GK CO.un CO.ins CO.few (CO.wd he) ?_
        rcases CO.out with ⟨h, _⟩ | ⟨_, _, _, _, _, _, _, hF⟩
        · omega
        · rcases hF with ⟨rfl, _⟩ | ⟨a, rfl, _⟩ <;> simp
      · exact GK
    have hVS : (mergeL (if er = 0 then lvV 256 K C' F' nd else Mv K nd).lv).length < 100000 ∧ ∀ d ∈ mergeL (if er = 0 then lvV 256 K C' F' nd else Mv K nd).lv, 1 ≤ d.1 ∧ d.1 < 256 ∧ SqP 10 (ownQ hd0 ns0) d.1 := by
      split
      · rename_i he
        refine ⟨?_, fun d hd => ?_⟩
        · show C'.length < _
          have := CO.few
          omega
        · have hd : d ∈ C' := hd
          have h1 := CO.ins d hd
          exact ⟨h1.1, h1.2, CO.S he d hd⟩
      · exact ⟨by show (0 : Nat) < _; omega, fun d hd => (by cases hd)⟩
    generalize (if er = 0 then lvV 256 K C' F' nd else Mv K nd) = V at *
    with_reducible (refine ww_extract (by with_unfolding_all exact rfl) ?_; refine ww_extract (by with_unfolding_all exact rfl) ?_)
    refine ww_boxA H14 rfl fun bx h15 H15 => ?_
    refine ww_stH H15 (b := bx) .here rfl (by simp) rfl fun h16 H16 => ?_
    refine ww_neqT hne (ww_condT ?_)
    have H := H16.drop
    obtain ⟨hml2, hS⟩ := hVS
    clear hih2
    refine ww_callZ (by decide) (vcells_ok (by omega) H GV.ok) fun cv h12 H12 => ?_
    generalize mergeL V.lv = C at *
    refine ww_iter (fun m s h' => ∃ i : Nat, s = (.int .i64 (i : Int), cv, tv, ()) ∧ i ≤ C.length ∧ m = C.length - i ∧ h' = h12) ?_ (m := C.length) (by show _ < 1000000000; omega) ⟨0, rfl, by omega, by omega, rfl⟩
    rintro m ih4 s h13 hih4 ⟨i, rfl, hi, rfl, rfl⟩
    dsimp only
    refine ww_lenH H12 .here ?_
    by_cases hlt : i < C.length
    · have hci : C[i]? = some C[i] := List.getElem?_eq_getElem hlt
      have hd := hS C[i] (List.getElem_mem hlt)
      generalize C[i] = d at *
      obtain ⟨dp, dx⟩ := d
      dsimp only at hd
      obtain ⟨dp, rfl⟩ : ∃ j : Nat, dp = (j : Int) := ⟨dp.toNat, by omega⟩
      have hcell : (C.flatMap encC)[i * 2 + 0]? = some (.int .i64 (dp : Int)) := by rw [flat_get (sz := 2) encC (fun _ => rfl) _ _ _ (by omega), hci]; rfl
      have hsq := hSq _ hd.1 hd.2.1 hd.2.2
      rw [show ((dp : Int)).toNat = dp by omega] at hsq
      with_reducible (refine ww_lssT (by omega) ?_; refine ww_condT ?_)
      refine ww_idxF (H12.sl .here) (by omega) hlt hcell ?_
      with_reducible (refine ww_lssF (by omega) ?_; refine ww_joinS ?_; (try dsimp only); refine ww_wantFF ?_; (try dsimp only))
      refine ww_idxF (H12.sl .here) (by omega) hlt hcell ?_
      refine ww_lenH H12 (.there (.there .here)) ?_
      with_reducible (refine ww_geqF (by omega) ?_; refine ww_pickF ?_; refine ww_joinS ?_; (try dsimp only); refine ww_wantFF ?_; (try dsimp only))
      refine ww_idxF (H12.sl .here) (by omega) hlt hcell ?_
      refine ww_idx1 (H12.sl (.there (.there .here))) hsq ?_
      with_reducible (refine ww_pickF ?_; refine ww_condF ?_; refine ww_addI (by omega) ?_)
      exact hih4 (C.length - (i + 1)) _ _ (by omega) ⟨i + 1, rfl, by omega, rfl, rfl⟩
    · with_reducible (refine ww_lssF (by omega) ?_; refine ww_condF ?_; refine ww_leave ?_)
      exact ww_ret rfl

theorem told {h : AH} {l : List AV} (H : WTs Try.prog h 8 Try.f5.params.toList l) : wp (W5 (withRun 3 (callT tab rtab 60)) l h) fun v _ => v = .bool true := by
  have e : Try.f5.params.toList = [34, 34, 36] := by kernel_rfl
  rw [e] at H
  obtain ⟨a0, a1, a2, rfl, H0, H1, H2⟩ := WTs3 H
  simp only [WTV, Try.underlying3, Try.underlying4, Try.underlying28, Try.underlying34, Try.underlying36] at H0 H1 H2
  obtain ⟨q0, xs0, S0, L0, G0⟩ := WT_slice (sz := 4) Try.underlying34 (by kernel_rfl) (by omega) H0
  obtain ⟨ks0, g10, hp0, rfl⟩ := rows_enc (α := CallT) (Pr := fun c => 0 ≤ c.2.2.1) encL S0.len (fun i hi => by
    have := G0 i hi
    generalize (xs0.drop (i * 4)).take 4 = row at this
    unfold WT at this
    simp only [Try.underlying36] at this
    obtain ⟨g1, g2⟩ := this
    rw [show Try.prog.cellsOf 36 = 4 by kernel_rfl] at g1
    match row, g1 with
    | [x, y, z, u], _ =>
      have f1 := g2 _ (List.mem_cons_self ..)
      have f2 := g2 _ (List.mem_cons_of_mem _ (List.mem_cons_self ..))
      have f3 := g2 _ (List.mem_cons_of_mem _ (List.mem_cons_of_mem _ (List.mem_cons_self ..)))
      have f4 := g2 _ (List.mem_cons_of_mem _ (List.mem_cons_of_mem _ (List.mem_cons_of_mem _ (List.mem_cons_self ..))))
      rw [show Try.prog.cellsOf 3 = 1 by kernel_rfl] at f1 f2
      rw [show Try.prog.cellsOf 28 = 1 by kernel_rfl] at f3 f4
      unfold WT at f1 f2 f3 f4
      simp only [Try.underlying3, List.drop_zero, List.take_succ_cons, List.take_zero, List.drop_succ_cons] at f1 f2
      simp only [Try.underlying28, List.drop_succ_cons, List.drop_zero, List.take_succ_cons, List.take_zero] at f3 f4
      obtain ⟨a, ha, _⟩ := f1
      obtain ⟨b, hb, _⟩ := f2
      obtain ⟨c, hc, hc2⟩ := f3
      obtain ⟨d, hd, _⟩ := f4
      cases ha; cases hb; cases hc; cases hd
      exact ⟨(a, b, c, d), hc2.1, rfl⟩)
  obtain ⟨q1, xs1, S1, L1, G1⟩ := WT_slice (sz := 4) Try.underlying34 (by kernel_rfl) (by omega) H1
  obtain ⟨ks1, g11, hp1, rfl⟩ := rows_enc (α := CallT) (Pr := fun c => 0 ≤ c.2.2.1) encL S1.len (fun i hi => by
    have := G1 i hi
    generalize (xs1.drop (i * 4)).take 4 = row at this
    unfold WT at this
    simp only [Try.underlying36] at this
    obtain ⟨g1, g2⟩ := this
    rw [show Try.prog.cellsOf 36 = 4 by kernel_rfl] at g1
    match row, g1 with
    | [x, y, z, u], _ =>
      have f1 := g2 _ (List.mem_cons_self ..)
      have f2 := g2 _ (List.mem_cons_of_mem _ (List.mem_cons_self ..))
      have f3 := g2 _ (List.mem_cons_of_mem _ (List.mem_cons_of_mem _ (List.mem_cons_self ..)))
      have f4 := g2 _ (List.mem_cons_of_mem _ (List.mem_cons_of_mem _ (List.mem_cons_of_mem _ (List.mem_cons_self ..))))
      rw [show Try.prog.cellsOf 3 = 1 by kernel_rfl] at f1 f2
      rw [show Try.prog.cellsOf 28 = 1 by kernel_rfl] at f3 f4
      unfold WT at f1 f2 f3 f4
      simp only [Try.underlying3, List.drop_zero, List.take_succ_cons, List.take_zero, List.drop_succ_cons] at f1 f2
      simp only [Try.underlying28, List.drop_succ_cons, List.drop_zero, List.take_succ_cons, List.take_zero] at f3 f4
      obtain ⟨a, ha, _⟩ := f1
      obtain ⟨b, hb, _⟩ := f2
      obtain ⟨c, hc, hc2⟩ := f3
      obtain ⟨d, hd, _⟩ := f4
      cases ha; cases hb; cases hc; cases hd
      exact ⟨(a, b, c, d), hc2.1, rfl⟩)
  obtain ⟨cl, rfl, H2⟩ := H2
  unfold WT at H2
  simp only [Try.underlying36] at H2
  obtain ⟨g3, g4⟩ := H2
  rw [show Try.prog.cellsOf 36 = 4 by kernel_rfl] at g3
  match cl, g3 with
  | [x, y, z, u], _ =>
    have f1 := g4 _ (List.mem_cons_self ..)
    have f2 := g4 _ (List.mem_cons_of_mem _ (List.mem_cons_self ..))
    have f3 := g4 _ (List.mem_cons_of_mem _ (List.mem_cons_of_mem _ (List.mem_cons_self ..)))
    have f4 := g4 _ (List.mem_cons_of_mem _ (List.mem_cons_of_mem _ (List.mem_cons_of_mem _ (List.mem_cons_self ..))))
    rw [show Try.prog.cellsOf 3 = 1 by kernel_rfl] at f1 f2
    rw [show Try.prog.cellsOf 28 = 1 by kernel_rfl] at f3 f4
    unfold WT at f1 f2 f3 f4
    simp only [Try.underlying3, List.drop_zero, List.take_succ_cons, List.take_zero, List.drop_succ_cons] at f1 f2
    simp only [Try.underlying28, List.drop_succ_cons, List.drop_zero, List.take_succ_cons, List.take_zero] at f3 f4
    obtain ⟨a, ha, _⟩ := f1
    obtain ⟨b, hb, _⟩ := f2
    obtain ⟨c, hc, hc2⟩ := f3
    obtain ⟨d, hd, _⟩ := f4
    cases ha; cases hb; cases hc; cases hd
    exact law (cc := (a, b, c, d)) (by omega) (g10 ▸ S0) hp0 (g10 ▸ L0) (g11 ▸ S1) hp1 (g11 ▸ L1) hc2.1
end Go.Proofs.Ythajhlachmgdoaa.queueApart
