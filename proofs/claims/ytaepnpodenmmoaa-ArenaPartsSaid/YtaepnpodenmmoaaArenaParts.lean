/- 'ArenaParts' comes to true for every argument: its own walk. -/
import Derived.Test.YtaepnpodenmmoaaParted
namespace Go.Proofs.Ytaepnpodenmmoaa.arenaParts
open Go Go.Ae arenaPlays arenaFull
set_option maxRecDepth 100000

variable {g h : AH} {L R : List SP}

theorem ww_pickAnd {u x : Bool} {r : AV} {K : AV → Go.Ae.R} {Q : AV → AH → Prop} (hr : u = true → r = .bool x) (w : wp (K (.bool (u && x))) Q) : wp (pPick (.bool u) r (.bool false) K) Q := by
  cases u
  · exact w
  · rw [hr rfl]; exact w
theorem st_cell {sts : List Int} (hl : sts.length = 257) {x : Nat} (hx : x < 257) : (sts.map (AV.int .i64))[x]? = some (.int .i64 (wordAt sts x)) := by
  unfold wordAt
  rw [List.getElem?_map, List.getElem?_eq_getElem (by omega)]; rfl

theorem law {k : Nat} (hk : 20 ≤ k) {w : Int} {a1 : AV} {ks : List (Int × Int × Bool)} (S : Sl (fun b => b < h.nx) h 3 ks.length a1 (ks.flatMap encK)) :
    wp (W9 (withRun 3 (callT tab rtab k)) [.int .i64 w, a1] h) fun v _ => v = .bool true := by
  show wp (S9 (withRun _ (callT tab rtab _)) _ _ _) _
  unfold S9
  try simp only [Int.ofNat_eq_natCast]
  refine ww_run ?_
  with_reducible (refine ww_notT ?_; refine ww_condF ?_)
  refine ww_callZ (by decide) (afresh_ok (by omega) (HS.nil h)) ?_
  rintro wv h1 ⟨e1, H⟩
  refine ww_makeN (n := 257) H (by omega) fun sv h2 H2 => ?_
  rw [← freshA_len w] at H2
  have P0 := fresh_part w
  have hl0 := freshA_len w
  refine ww_iter (fun m s h' => ∃ (i : Nat) (zs sts : List Int) (wv : AV) (e : TypeId), s = (.int .i64 (i : Int), sv, wv, a1, ()) ∧ i ≤ 60 ∧ m = 60 - i ∧ PS zs sts (szZ w) ∧
    HS h h' (SliC e 1 zs.length wv (zs.map (.int .u64)) :: SliC 3 1 257 sv (sts.map (.int .i64)) :: []))
    ?_ (m := 60) (by show 60 < 1000000000; omega) ⟨0, freshA w, List.replicate 257 0, wv, e1, rfl, by omega, by omega, P0, by rw [List.map_replicate]; exact H2.sub (.cons (.there .here) (.cons .here .refl))⟩
  clear H H2 P0 hl0
  generalize szZ w = T
  rintro m ih s h3 hih ⟨i, zs, sts, wv, e, rfl, h1, rfl, ⟨bs, ls, P⟩, H⟩
  dsimp only
  have Sa : Sl (fun _ => True) h3 3 ks.length a1 (ks.flatMap encK) := (Rd.arg (L := []) S).sl (H.drop.drop)
  refine ww_len Sa (ww_lss ?_)
  refine ww_join (fun s g' => ∃ (r : AV) (u x : Bool), s = (r, .bool u, .int .i64 (i : Int), sv, wv, a1, ()) ∧ g' = h3 ∧ (u = true → r = .bool x) ∧ ((u && x) = decide (i < ks.length ∧ i < 60))) ?_ ?_
  · intro j hj
    refine ww_want (fun hl => ww_lss (hj _ _ ⟨_, _, decide (i < 60), rfl, rfl, fun _ => (by congr 1; exact decide_eq_decide.2 (by omega)), ?_⟩)) (fun hl => hj _ _ ⟨_, _, false, rfl, rfl, fun h => absurd (of_decide_eq_true h) hl, ?_⟩)
    · have hl' : i < ks.length := by omega
      simp [hl']
    · have hl' : ¬ i < ks.length := by omega
      simp [hl']
  rintro s h3 ⟨r, u, x, rfl, rfl, hr, hux⟩
  refine ww_pickAnd hr ?_
  rw [hux]
  dsimp only
  refine ww_cond (fun hi => ?_) fun hi => ?_
  · clear hr hux
    refine ww_joinD [] (fun s h' => ∃ (zs sts : List Int) (wv : AV) (e : TypeId), s = (.int .i64 (i : Int), sv, wv, a1, ()) ∧ PS zs sts T ∧
      HS h h' (SliC e 1 zs.length wv (zs.map (.int .u64)) :: SliC 3 1 257 sv (sts.map (.int .i64)) :: [])) ?_ ?_
    · intro j20 hj20
      have hci : ks[i]? = some ks[i] := List.getElem?_eq_getElem hi.1
      have hcell : ∀ f, f < 3 → (ks.flatMap encK)[i * 3 + f]? = (encK ks[i])[f]? := by
        intro f hf; rw [flat_get (sz := 3) encK (fun _ => rfl) _ _ _ hf, hci]; rfl
      generalize ks[i] = q at *
      obtain ⟨q1, q2, q3⟩ := q
      have hf0 : (ks.flatMap encK)[i * 3 + 0]? = some (.int .i64 q1) := hcell 0 (by omega)
      have hf1 : (ks.flatMap encK)[i * 3 + 1]? = some (.int .i64 q2) := hcell 1 (by omega)
      have G := whole_good (m := 96) P.nn
      have hsl := P.slen
      refine ww_callZ (by decide) (vwhole_ok (zs := zs) (m := ((96 : Nat) : Int)) (by omega) H (H.rd .here)) ?_
      rintro _ h4 ⟨v, rfl, H4⟩
      rw [show ((96 : Nat) : Int) = 96 from rfl] at H4
      refine ww_ptrN ?_
      with_reducible (refine ww_condF ?_)
      have Sq : ∀ {h' : AH} {P0 : SP} {P1 : SP} {P2 : SP}, HS h h' (P0 :: P1 :: P2 :: []) → Sl (fun _ => True) h' 3 ks.length a1 (ks.flatMap encK) := fun H => (Rd.arg (L := []) S).sl (H.drop.drop.drop)
      refine ww_idxF (Sq H4) (by omega) hi.1 hf1 ?_
      refine ww_callZ (by decide) (within_ok (by omega) (by omega) (by omega) (by omega)) ?_
      rintro _ h4 ⟨rfl, rfl⟩
      have hb := within_bounds q2 (show (1 : Int) ≤ 255 by omega)
      rw [show withinZ q2 ((1 : Nat) : Int) ((255 : Nat) : Int) = withinZ q2 1 255 from rfl]
      obtain ⟨p, hp⟩ : ∃ p : Nat, withinZ q2 1 255 = (p : Int) := ⟨(withinZ q2 1 255).toNat, by omega⟩
      rw [hp] at hb ⊢
      refine ww_idxF (Sq H4) (by omega) hi.1 hf0 ?_
      refine ww_callZ (by decide) (within_ok (by omega) (by omega) (by omega) (by omega)) ?_
      rintro _ h4 ⟨rfl, rfl⟩
      have hq := within_bounds q1 (show (0 : Int) ≤ 5 by omega)
      rw [show withinZ q1 ((0 : Nat) : Int) ((5 : Nat) : Int) = withinZ q1 0 5 from rfl]
      generalize withinZ q1 0 5 = c at *
      refine ww_joinD [] (fun s h' => ∃ (M : VM) (cs : List Cl) (sts' : List Int), s = (.ptr v 0, .int .i64 (i : Int), sv, wv, a1, ()) ∧ cs.length ≤ 2 ∧ mergeL M.lv = cs ∧ GoodV M ∧ PS (applyZ zs cs) sts' T ∧
        HS h h' (ViewC v M :: SliC e 1 zs.length wv (zs.map (.int .u64)) :: SliC 3 1 257 sv (sts'.map (.int .i64)) :: [])) ?_ ?_
      · intro j39 hj39
        by_cases c0 : c = 0
        · subst c0
          refine ww_eqlT rfl (ww_condT ?_)
          refine ww_callZ (by decide) (afree_ok (by omega) H4 G.ok) ?_
          rintro _ h5 ⟨rfl, H5⟩
          have G5 := (G.free (b := (p : Int)) (by simp [wholeV, frS])).1
          obtain ⟨cs, hcl, hcs, hst⟩ := free_step P (b := (p : Int)) (by omega)
          rw [show ((p : Int)).toNat = p by omega] at hst
          generalize freeA (wholeV zs 96) (p : Int) = F at *
          obtain ⟨F1, F2⟩ := F
          dsimp only at *
          rcases hst with ⟨rfl, hs, hP⟩ | ⟨rfl, hs, hP⟩
          · refine ww_eqlT rfl ?_
            refine ww_idx1 (H5.sl (.there (.there .here))) (st_cell hsl (by omega)) ?_
            refine ww_eqlT hs (ww_beqT (t := false) rfl (ww_condF (ww_eqlT rfl (ww_condT ?_))))
            refine ww_slI (H5.sel (.there (.there .here))) (by omega) ⟨rfl, rfl⟩ fun h6 H6 => ?_
            refine hj39 _ _ ⟨F2, cs, sts.set p 2, rfl, hcl, hcs, G5, hP, ?_⟩
            rw [List.map_set]
            exact H6.sub (.cons (.there .here) (.cons (.there .here) (.cons .here .refl)))
          · refine ww_eqlF (by omega) ?_
            refine ww_idx1 (H5.sl (.there (.there .here))) (st_cell hsl (by omega)) ?_
            refine ww_eqlF hs (ww_beqT (t := false) rfl (ww_condF (ww_eqlF (by omega) (ww_condF ?_))))
            exact hj39 _ _ ⟨F2, cs, sts, rfl, hcl, hcs, G5, hP, H5⟩
        · refine ww_eqlF c0 (ww_condF ?_)
          by_cases c1 : c = 1
          · subst c1
            refine ww_eqlT rfl (ww_condT ?_)
            refine ww_idx1 (H4.sl (.there (.there .here))) (st_cell hsl (by omega)) ?_
            by_cases h3s : wordAt sts p = 3
            · refine ww_eqlT h3s (ww_condT ?_)
              exact hj20 _ _ ⟨zs, sts, wv, e, rfl, ⟨bs, ls, P⟩, H4.drop⟩
            · refine ww_eqlF h3s (ww_condF ?_)
              refine ww_callZ (by decide) (agive_ok (by omega) H4 G.ok) ?_
              rintro _ h5 ⟨rfl, H5⟩
              have G5 := (G.give (b := (p : Int))).1
              obtain ⟨cs, hcl, hcs, hst⟩ := give_step P (b := (p : Int)) (by omega) (by rw [show ((p : Int)).toNat = p by omega]; exact h3s)
              rw [show ((p : Int)).toNat = p by omega] at hst
              generalize giveA (wholeV zs 96) (p : Int) = F at *
              obtain ⟨F1, F2⟩ := F
              dsimp only at *
              rcases hst with ⟨rfl, hs, hP⟩ | ⟨rfl, hs, hP⟩
              · refine ww_eqlT rfl ?_
                refine ww_idx1 (H5.sl (.there (.there .here))) (st_cell hsl (by omega)) ?_
                refine ww_eqlT hs (ww_beqT (t := false) rfl (ww_condF (ww_eqlT rfl (ww_condT ?_))))
                refine ww_slI (H5.sel (.there (.there .here))) (by omega) ⟨rfl, rfl⟩ fun h6 H6 => ?_
                refine hj39 _ _ ⟨F2, cs, sts.set p 3, rfl, hcl, hcs, G5, hP, ?_⟩
                rw [List.map_set]
                exact H6.sub (.cons (.there .here) (.cons (.there .here) (.cons .here .refl)))
              · refine ww_eqlF (by omega) ?_
                refine ww_idx1 (H5.sl (.there (.there .here))) (st_cell hsl (by omega)) ?_
                refine ww_eqlF hs (ww_beqT (t := false) rfl (ww_condF (ww_eqlF (by omega) (ww_condF ?_))))
                exact hj39 _ _ ⟨F2, cs, sts, rfl, hcl, hcs, G5, hP, H5⟩
          · refine ww_eqlF c1 (ww_condF ?_)
            refine ww_idxF (Sq H4) (by omega) hi.1 hf1 ?_
            refine ww_callZ (by decide) (within_ok (by omega) (by omega) (by omega) (by omega)) ?_
            rintro _ h4 ⟨rfl, rfl⟩
            have hx := within_bounds q2 (show (1 : Int) ≤ 16 by omega)
            rw [show withinZ q2 ((1 : Nat) : Int) ((16 : Nat) : Int) = withinZ q2 1 16 from rfl]
            generalize withinZ q2 1 16 = x at *
            refine ww_callZ (by decide) (aalloc_ok (x := x) (by omega) H4 G.ok G.wd) ?_
            rintro _ h5 ⟨rfl, H5⟩
            have G5 := (G.alloc (x := x)).1
            obtain ⟨cs, hcl, hcs, hst⟩ := alloc_step P hx
            generalize allocV (wholeV zs 96) x = F at *
            obtain ⟨⟨F0, F1⟩, F2⟩ := F
            dsimp only at *
            rcases hst with ⟨rfl, hx1, hx2, hs1, hs2, hP⟩ | ⟨rfl, rfl, hP⟩
            · obtain ⟨y, rfl⟩ : ∃ y : Nat, F0 = (y : Int) := ⟨F0.toNat, by omega⟩
              rw [show ((y : Int)).toNat = y by omega] at hs1 hs2 hP
              with_reducible (refine ww_extract (by with_unfolding_all exact rfl) ?_; refine ww_extract (by with_unfolding_all exact rfl) ?_; refine ww_eqlT (by omega) ?_; refine ww_joinS ?_; (try dsimp only); refine ww_wantTT ?_; (try dsimp only); refine ww_lssF (by omega) ?_; refine ww_joinS ?_; (try dsimp only); refine ww_wantFF ?_; (try dsimp only); refine ww_geqF (by omega) ?_; refine ww_joinS ?_; (try dsimp only); refine ww_wantTT ?_; (try dsimp only); refine ww_pickF ?_; refine ww_joinS ?_; (try dsimp only); refine ww_wantFF ?_; (try dsimp only))
              refine ww_idx1 (H5.sl (.there (.there .here))) (st_cell hsl (by omega)) ?_
              with_reducible (refine ww_eqlF (by omega) ?_; refine ww_joinS ?_; (try dsimp only); refine ww_wantTT ?_; (try dsimp only); refine ww_pickF ?_; refine ww_joinS ?_; (try dsimp only); refine ww_wantFF ?_; (try dsimp only))
              refine ww_idx1 (H5.sl (.there (.there .here))) (st_cell hsl (by omega)) ?_
              with_reducible (refine ww_eqlF (by omega) ?_; refine ww_joinS ?_; (try dsimp only); refine ww_wantTT ?_; (try dsimp only); refine ww_pickF ?_; refine ww_pickT ?_; refine ww_joinS ?_; (try dsimp only); refine ww_wantFF ?_; (try dsimp only); refine ww_neqF (by omega) ?_; refine ww_joinS ?_; (try dsimp only); refine ww_wantFT ?_; (try dsimp only); refine ww_joinS ?_; (try dsimp only); refine ww_wantFF ?_; (try dsimp only); refine ww_pickF ?_; refine ww_pickF ?_; refine ww_condF ?_; refine ww_eqlT (by omega) ?_; refine ww_condT ?_)
              refine ww_slI (H5.sel (.there (.there .here))) (by omega) ⟨rfl, rfl⟩ fun h6 H6 => ?_
              refine hj39 _ _ ⟨F2, cs, sts.set y 1, rfl, hcl, hcs, G5, hP, ?_⟩
              rw [List.map_set]
              exact H6.sub (.cons (.there .here) (.cons (.there .here) (.cons .here .refl)))
            · with_reducible (refine ww_extract (by with_unfolding_all exact rfl) ?_; refine ww_extract (by with_unfolding_all exact rfl) ?_; refine ww_eqlF (by omega) ?_; refine ww_joinS ?_; (try dsimp only); refine ww_wantFT ?_; (try dsimp only); refine ww_joinS ?_; (try dsimp only); refine ww_wantU ?_; (try dsimp only); refine ww_joinS ?_; (try dsimp only); refine ww_wantFT ?_; (try dsimp only); refine ww_joinS ?_; (try dsimp only); refine ww_wantU ?_; (try dsimp only); refine ww_joinS ?_; (try dsimp only); refine ww_wantFT ?_; (try dsimp only); refine ww_joinS ?_; (try dsimp only); refine ww_wantU ?_; (try dsimp only); refine ww_joinS ?_; (try dsimp only); refine ww_wantFT ?_; (try dsimp only); refine ww_pickF ?_; refine ww_joinS ?_; (try dsimp only); refine ww_wantFF ?_; (try dsimp only); refine ww_neqT (by omega) ?_; refine ww_joinS ?_; (try dsimp only); refine ww_wantTT ?_; (try dsimp only); refine ww_neqF (by omega) ?_; refine ww_joinS ?_; (try dsimp only); refine ww_wantFF ?_; (try dsimp only); refine ww_pickT ?_; refine ww_pickF ?_; refine ww_condF ?_; refine ww_eqlF (by omega) ?_; refine ww_condF ?_)
              exact hj39 _ _ ⟨F2, cs, sts, rfl, hcl, hcs, G5, hP, H5⟩
      · clear P G H H4
        rintro s h5 ⟨M, cs, sts', rfl, hcl, hcs, G, hP, H⟩
        dsimp only
        refine ww_callZ (by decide) (vcells_ok (by omega) H G.ok) fun vc h7 H7 => ?_
        rw [hcs] at H7
        refine ww_callZ (by decide) (rapply_ok (zs := zs) (by omega) H7 (H7.rd (.there (.there .here))) (H7.rd .here) (by omega)) ?_
        rintro wv2 h8 ⟨e8, H8⟩
        exact hj20 _ _ ⟨applyZ zs cs, sts', wv2, e8, rfl, hP, H8.sub (.cons .here (.cons (.there (.there (.there .here))) (.drop (.drop (.drop .refl)))))⟩
    · clear P H
      rintro s h4 ⟨zs, sts, wv, e, rfl, hP, H⟩
      dsimp only
      refine ww_addI (by omega) (hih (60 - (i + 1)) _ _ (by omega) ⟨i + 1, zs, sts, wv, e, rfl, by omega, rfl, hP, H⟩)
  · refine ww_callZ (by decide) (parted_ok (by omega) H P) ?_
    rintro _ h4 rfl
    exact ww_leave (ww_ret rfl)

theorem told {h : AH} {l : List AV} (H : WTs Try.prog h 8 Try.f9.params.toList l) : wp (W9 (withRun 3 (callT tab rtab 60)) l h) fun v _ => v = .bool true := by
  have e : Try.f9.params.toList = [3, 41] := by kernel_rfl
  rw [e] at H
  obtain ⟨a0, a1, rfl, H0, H2⟩ := WTs2 H
  simp only [WTV, Try.underlying3, Try.underlying4, Try.underlying41, Try.underlying49] at H0 H2
  obtain ⟨q, xs, S, _, H2⟩ := WT_slice (sz := 3) Try.underlying41 (by kernel_rfl) (by omega) H2
  obtain ⟨ks, g1, _, rfl⟩ := rows_enc (α := Int × Int × Bool) (Pr := fun _ => True) encK S.len (fun i hi => by
    have := H2 i hi
    generalize (xs.drop (i * 3)).take 3 = row at this
    unfold WT at this
    simp only [Try.underlying49] at this
    obtain ⟨g1, g2⟩ := this
    rw [show Try.prog.cellsOf 49 = 3 by kernel_rfl] at g1
    match row, g1 with
    | [x, y, z], _ =>
      have f1 := g2 _ (List.mem_cons_self ..)
      have f2 := g2 _ (List.mem_cons_of_mem _ (List.mem_cons_self ..))
      have f3 := g2 _ (List.mem_cons_of_mem _ (List.mem_cons_of_mem _ (List.mem_cons_self ..)))
      rw [show Try.prog.cellsOf 3 = 1 by kernel_rfl] at f1 f2
      rw [show Try.prog.cellsOf 4 = 1 by kernel_rfl] at f3
      unfold WT at f1 f2 f3
      simp only [Try.underlying3, List.drop_zero, List.take_succ_cons, List.take_zero, List.drop_succ_cons] at f1 f2
      simp only [Try.underlying4, List.drop_succ_cons, List.drop_zero, List.take_succ_cons, List.take_zero] at f3
      obtain ⟨a, ha, _⟩ := f1
      obtain ⟨b, hb, _⟩ := f2
      obtain ⟨c, hc⟩ := f3
      cases ha; cases hb; cases hc
      exact ⟨(a, b, c), trivial, rfl⟩)
  unfold WT at H0
  simp only [Try.underlying3, Try.underlying4, Try.underlying41, Try.underlying49] at H0
  obtain ⟨w, hw, _⟩ := H0
  cases hw
  exact law (by omega) (g1 ▸ S)
end Go.Proofs.Ytaepnpodenmmoaa.arenaParts
