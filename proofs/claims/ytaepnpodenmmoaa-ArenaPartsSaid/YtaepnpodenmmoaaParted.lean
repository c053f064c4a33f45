/- Do blocks and lists say what the states are? The walk of 'parted'. -/
import Derived.Test.YtaepnpodenmmoaaPartsM
namespace Go.Proofs.Ytaepnpodenmmoaa.arenaParts
open Go Go.Ae arenaPlays arenaFull
set_option maxRecDepth 100000

variable {g h : AH} {L R : List SP} {zs sts : List Int} {T : Nat} {bs : List Bk} {ls : Int → List Int}

/-- the rows are there -/
theorem row_sl {v : AV} {rs : List AV} {Ls : List (List Int)} {i : Nat} {r : AV} {l : List Int} (H : HS g h L) (s : Sel L (.all (List.zipWith RowI rs Ls)) R) (hr : rs[i]? = some r) (hl : Ls[i]? = some l) : Sl (fun _ => True) h 1 l.length r (l.map (.int .i64)) := by
  obtain ⟨T, s2⟩ := zip_selI hr hl
  have H2 := ((H.sel s).allE).sel (Sel.app s2 R)
  exact HS.sl (e := 3) H2 .here
def markL (lt : List Bool) (l : List Int) : List Bool := l.foldl (fun t x => t.set x.toNat true) lt
theorem markL_snoc (lt : List Bool) (l : List Int) (x : Int) : markL lt (l ++ [x]) = (markL lt l).set x.toNat true := by unfold markL; rw [List.foldl_append]; rfl
theorem markL_len : ∀ (l : List Int) (lt : List Bool), (markL lt l).length = lt.length := by
  intro l
  induction l with
  | nil => intro lt; rfl
  | cons x l ih => intro lt; show (markL (lt.set x.toNat true) l).length = _; rw [ih, List.length_set]
theorem markL_get : ∀ (l : List Int) (lt : List Bool) (i : Nat), i < lt.length → (∀ x ∈ l, 0 ≤ x) → (markL lt l)[i]? = some (lt[i]?.getD false || decide ((i : Int) ∈ l)) := by
  intro l
  induction l with
  | nil =>
    intro lt i hi _
    show lt[i]? = _
    rw [List.getElem?_eq_getElem hi]; simp
  | cons x l ih =>
    intro lt i hi hx
    show (markL (lt.set x.toNat true) l)[i]? = _
    rw [ih _ i (by rw [List.length_set]; exact hi) fun y hy => hx y (List.mem_cons_of_mem _ hy)]
    have h0 := hx x (List.mem_cons_self ..)
    rw [List.getElem?_set]
    by_cases h : x.toNat = i
    · rw [if_pos h, if_pos (by omega)]
      have : (i : Int) ∈ x :: l := by rw [show (i : Int) = x by omega]; exact List.mem_cons_self ..
      simp [this]
    · rw [if_neg h]
      have hne : ¬ (i : Int) = x := by omega
      simp [hne]
def rowsOf (ls : Int → List Int) : List (List Int) := [ls 1, ls 2, ls 3, ls 4]
theorem rowsOf_get {i : Nat} {l : List Int} (h : (rowsOf ls)[i]? = some l) : i < 4 ∧ l = ls ((i : Int) + 1) := by
  match i, h with
  | 0, h => exact ⟨by omega, by simpa [rowsOf] using h.symm⟩
  | 1, h => exact ⟨by omega, by simpa [rowsOf] using h.symm⟩
  | 2, h => exact ⟨by omega, by simpa [rowsOf] using h.symm⟩
  | 3, h => exact ⟨by omega, by simpa [rowsOf] using h.symm⟩
  | k + 4, h => simp [rowsOf] at h
theorem PartS.flat (P : PartS zs sts T bs ls) {x : Int} : x ∈ (rowsOf ls).flatten ↔ (∃ c, (x, c) ∈ bs) ∧ wordAt sts x.toNat = 3 := by
  rw [List.mem_flatten]
  constructor
  · rintro ⟨l, hl, hx⟩
    obtain ⟨i, hi⟩ := List.getElem?_of_mem hl
    obtain ⟨h1, rfl⟩ := rowsOf_get hi
    have := (P.listed _ (by omega) (by omega) x).1 hx
    exact ⟨⟨_, this.1⟩, this.2⟩
  · rintro ⟨⟨c, hc⟩, h3⟩
    have hm := P.mem hc
    have hx := (P.listed c hm.2.2.1 hm.2.2.2 x).2 ⟨hc, h3⟩
    refine ⟨ls c, ?_, hx⟩
    have h4 : c = 1 ∨ c = 2 ∨ c = 3 ∨ c = 4 := by omega
    rcases h4 with rfl | rfl | rfl | rfl <;> simp [rowsOf]

theorem parted_ok {n : Nat} (hn : 6 ≤ n) {e1 e2 : TypeId} {wv sv : AV} (H : HS g h (SliC e1 1 zs.length wv (zs.map (.int .u64)) :: SliC e2 1 257 sv (sts.map (.int .i64)) :: [])) (P : PartS zs sts T bs ls) :
    wp (callT tab rtab n (.fn 38 [] []) [wv, sv] h) fun v _ => v = .bool true := by
  (refine ww_fn (g := W38) rfl (by omega) fun k hk => ?_; show wp (S38 (callT tab rtab k) _ _ _) _; unfold S38; try simp only [Int.ofNat_eq_natCast])
  have hlen := P.len
  have hlo := P.lo
  have hhi := P.hi
  have hbl : bs.length ≤ 100 := by
    have := P.tile.le
    have := P.bump
    omega
  refine ww_call (ablocks_ok (by omega) H (Rd.own .here) P.nn) ?_
  rintro _ h1 ⟨bv, rfl, H1⟩
  rw [P.blocks] at H1 ⊢
  have H1 : HS g h1 (SliC 71 3 (bs.map (told1 sts)).length bv ((bs.map (told1 sts)).flatMap encB) :: SliC e1 1 zs.length wv (zs.map (.int .u64)) :: SliC e2 1 257 sv (sts.map (.int .i64)) :: []) := H1
  simp only [Option.isSome_some, if_true]
  with_reducible (refine ww_extract (by with_unfolding_all exact rfl) ?_; refine ww_extract (by with_unfolding_all exact rfl) ?_)
  refine ww_call (alists_ok (by omega) H1 (Rd.own (.there .here)) P.nn) ?_
  rintro _ h2 ⟨lv, rfl, H2⟩
  rw [P.lists] at H2 ⊢
  have H2 : HS g h2 (LlC lv (rowsOf ls) :: SliC 71 3 (bs.map (told1 sts)).length bv ((bs.map (told1 sts)).flatMap encB) :: SliC e1 1 zs.length wv (zs.map (.int .u64)) :: SliC e2 1 257 sv (sts.map (.int .i64)) :: []) := H2
  obtain ⟨rs, hrs, H2⟩ := LlC.E H2
  have hrs4 : rs.length = 4 := hrs
  simp only [Option.isSome_some, if_true]
  with_reducible (refine ww_extract (by with_unfolding_all exact rfl) ?_; refine ww_extract (by with_unfolding_all exact rfl) ?_; refine ww_neqF (by omega) ?_; refine ww_joinS ?_; (try dsimp only); refine ww_wantFF ?_; (try dsimp only); refine ww_neqF (by omega) ?_; refine ww_pickF ?_; refine ww_joinS ?_; (try dsimp only); refine ww_wantFF ?_; (try dsimp only); refine ww_lenH (by assumption) .here ?_; refine ww_neqF (by omega) ?_; refine ww_pickF ?_; refine ww_condF ?_)
  refine ww_makeN (n := 257) H2 (by omega) fun tv h3 H3 => ?_
  generalize hbs' : bs.map (told1 sts) = bts at *
  have hbtl : bts.length = bs.length := by rw [← hbs']; simp
  have hL4 : (rowsOf ls).length = 4 := rfl
  have hcell : ∀ x : Nat, x < 257 → (sts.map (AV.int .i64))[x]? = some (.int .i64 (wordAt sts x)) := by
    intro x hx
    have := P.slen
    unfold wordAt
    rw [List.getElem?_map, List.getElem?_eq_getElem (by omega)]; rfl
  -- what the lists name is marked
  refine ww_iter (fun m s h' => ∃ (k : Nat), s = (.int .i64 (k : Int), tv, lv, bv, sv, wv, ()) ∧ k ≤ 4 ∧ m = 4 - k ∧
    HS g h' (SliC 4 1 257 tv ((markL (List.replicate 257 false) ((rowsOf ls).take k).flatten).map .bool) :: SliC 30 1 4 lv rs :: .all (List.zipWith RowI rs (rowsOf ls)) ::
      SliC 71 3 bts.length bv (bts.flatMap encB) :: SliC e1 1 zs.length wv (zs.map (.int .u64)) :: SliC e2 1 257 sv (sts.map (.int .i64)) :: []))
    ?_ (m := 4) (by show 4 < 1000000000; omega) ⟨0, rfl, by omega, by omega, by
      rw [List.take_zero, List.flatten_nil]
      show HS g h3 (SliC _ 1 257 tv ((List.replicate 257 false).map _) :: _)
      rw [List.map_replicate]; exact H3⟩
  clear H H1 H2 H3
  rintro m ih s h4 hih ⟨k, rfl, hk, rfl, H⟩
  dsimp only
  refine ww_lenH H (.there .here) (ww_lssC (fun hlt => ww_condT ?_) fun hge => ww_condF ?_)
  · have hk4 : k < 4 := by omega
    obtain ⟨l, hl⟩ : ∃ l, (rowsOf ls)[k]? = some l := ⟨_, List.getElem?_eq_getElem (by rw [hL4]; exact hk4)⟩
    have hlc := (rowsOf_get hl).2
    have hll : l.length ≤ 256 := by
      rw [hlc]
      exact row_len (n := T) (P.nodup _) (fun x hx => by have := P.mem ((P.listed _ (by omega) (by omega) x).1 hx).1; omega) P.hi
    have hrk : rs[k]? = some rs[k] := List.getElem?_eq_getElem (by omega)
    have htake : (rowsOf ls).take (k + 1) = (rowsOf ls).take k ++ [l] := by
      rw [List.take_add_one, hl]; rfl
    refine ww_iter (fun m s h' => ∃ (i : Nat), s = (.int .i64 (i : Int), .int .i64 (k : Int), tv, lv, bv, sv, wv, ()) ∧ i ≤ l.length ∧ m = l.length - i ∧
      HS g h' (SliC 4 1 257 tv ((markL (List.replicate 257 false) (((rowsOf ls).take k).flatten ++ l.take i)).map .bool) :: SliC 30 1 4 lv rs :: .all (List.zipWith RowI rs (rowsOf ls)) ::
        SliC 71 3 bts.length bv (bts.flatMap encB) :: SliC e1 1 zs.length wv (zs.map (.int .u64)) :: SliC e2 1 257 sv (sts.map (.int .i64)) :: []))
      ?_ (m := l.length) (by show _ < 1000000000; omega) ⟨0, rfl, by omega, by omega, by rw [List.take_zero, List.append_nil]; exact H⟩
    clear H
    rintro m2 ih2 s h5 hih2 ⟨i, rfl, hi1, rfl, H⟩
    dsimp only
    have SL := row_sl (v := lv) H (.there (.there .here)) hrk hl
    refine ww_idx1 (H.sl (.there .here)) hrk (ww_len SL (ww_lssC (fun hlt => ww_condT ?_) fun hge => ww_condF ?_))
    · have hi : i < l.length := by omega
      have hx : l[i] ∈ ls ((k : Int) + 1) := by rw [← hlc]; exact List.getElem_mem hi
      have hxb := (P.listed _ (by omega) (by omega) _).1 hx
      have hxm := P.mem hxb.1
      have hci : (l.map (AV.int .i64))[i]? = some (.int .i64 l[i]) := by rw [List.getElem?_map, List.getElem?_eq_getElem hi]; rfl
      have hnext : l.take (i + 1) = l.take i ++ [l[i]] := List.take_succ_eq_append_getElem hi
      generalize l[i] = x at *
      obtain ⟨p, rfl⟩ : ∃ p : Nat, x = (p : Int) := ⟨x.toNat, by omega⟩
      have hp3 : wordAt sts p = 3 := hxb.2
      refine ww_idx1 (H.sl (.there .here)) hrk (ww_idx1 SL hci ?_)
      with_reducible (refine ww_lssF (by omega) ?_; refine ww_joinS ?_; (try dsimp only); refine ww_wantFF ?_; (try dsimp only))
      refine ww_idx1 (H.sl (.there .here)) hrk (ww_idx1 SL hci ?_)
      with_reducible (refine ww_gtrF (by omega) ?_; refine ww_pickF ?_; refine ww_joinS ?_; (try dsimp only); refine ww_wantFF ?_; (try dsimp only))
      refine ww_idx1 (H.sl (.there .here)) hrk (ww_idx1 SL hci ?_)
      refine ww_idx1 (H.sl (.there (.there (.there (.there (.there .here)))))) (hcell p (by omega)) ?_
      rw [hp3]
      with_reducible (refine ww_neqF (by omega) ?_; refine ww_pickF ?_; refine ww_condF ?_)
      refine ww_idx1 (H.sl (.there .here)) hrk (ww_idx1 SL hci ?_)
      refine ww_slI H (by omega) ⟨rfl, rfl⟩ fun h6 H6 => ?_
      with_reducible (refine ww_addI (by omega) ?_)
      refine hih2 (l.length - (i + 1)) _ _ (by omega) ⟨i + 1, rfl, by omega, rfl, ?_⟩
      rw [hnext, ← List.append_assoc, markL_snoc, List.map_set]
      exact H6
    · obtain rfl : i = l.length := by omega
      rw [List.take_length] at H
      with_reducible (refine ww_addI (by omega) ?_)
      refine hih (4 - (k + 1)) _ _ (by omega) ⟨k + 1, rfl, by omega, rfl, ?_⟩
      rw [htake, List.flatten_append, show [l].flatten = l by simp]
      exact H
  obtain rfl : k = 4 := by omega
  clear hih ih hge hk
  rw [show (rowsOf ls).take 4 = rowsOf ls from rfl] at H
  have hmark : ∀ x : Nat, x < 257 → ((markL (List.replicate 257 false) (rowsOf ls).flatten).map AV.bool)[x]? = some (.bool (decide ((x : Int) ∈ (rowsOf ls).flatten))) := by
    intro x hx
    rw [List.getElem?_map, markL_get _ _ _ (by simp; omega) (fun y hy => by
      obtain ⟨⟨c, hc⟩, _⟩ := P.flat.1 hy
      have := P.mem hc
      omega)]
    rw [List.getElem?_replicate, if_pos hx]; simp
  -- the blocks, one behind the other
  refine ww_iter (fun m s h' => ∃ (pre post : List Bk) (e : Int), s = (.int .i64 (pre.length : Int), .int .i64 (pre.length : Int), .int .i64 e, tv, bv, sv, wv, ()) ∧ bs = pre ++ post ∧ 14 ≤ e ∧ Tile (wordAt zs 5) e post ∧ m = post.length ∧
    HS g h' (SliC 4 1 257 tv ((markL (List.replicate 257 false) (rowsOf ls).flatten).map .bool) ::
      SliC 71 3 bts.length bv (bts.flatMap encB) :: SliC e1 1 zs.length wv (zs.map (.int .u64)) :: SliC e2 1 257 sv (sts.map (.int .i64)) :: []))
    ?_ (m := bs.length) (by show _ < 1000000000; omega) ⟨[], bs, 14, rfl, rfl, by omega, P.tile, rfl, H.sub (.cons .here (.drop (.drop .refl)))⟩
  clear H
  rintro m ih s h5 hih ⟨pre, post, e, rfl, hbs, he14, ht, rfl, H⟩
  dsimp only
  refine ww_lenH H (.there .here) ?_
  cases post with
  | cons b post =>
    have hpl : pre.length < bts.length := by rw [hbtl, hbs]; simp
    rw [List.append_cons] at hbs
    refine ww_lssT (by omega) (ww_condT ?_)
    have hb : b ∈ bs := by rw [hbs]; simp
    have hget : bts[pre.length]? = some (told1 sts b) := by
      rw [← hbs', hbs, List.map_append, List.map_append, List.append_assoc, List.getElem?_append_right (by simp)]
      simp
    obtain ⟨b1, b2⟩ := b
    obtain ⟨t1, t2, t3⟩ := ht
    dsimp only at t1 t2 t3
    subst t1
    have hm := P.mem hb
    have hst := P.st _ hb
    dsimp only at hst
    have hsb := sizeA_pos t2
    have hsb2 := sizeA_b b2
    have hpb : pre.length ≤ 100 := by omega
    obtain ⟨p, rfl⟩ : ∃ p : Nat, e = (p : Int) := ⟨e.toNat, by omega⟩
    have hpn : (((p : Int) + 1).toNat) = p + 1 := by omega
    rw [hpn] at hst
    have hrow : ((bts.flatMap encB).drop (pre.length * 3)).take 3 = [.int .i64 ((p : Int) + 1), .int .i64 b2, .bool (decide (wordAt sts (p + 1) = 1))] := by
      rw [enc_row (sz := 3) (fun _ => rfl) hget]
      unfold told1 encB
      dsimp only
      rw [hpn]
    refine ww_idxN (H.sl (.there .here)) hpl (by omega) hrow ?_
    refine ww_boxA H rfl fun x h6 H6 => ?_
    refine ww_stH H6 (b := x) .here rfl (by simp) rfl fun h7 H7 => ?_
    have H7 : HS g h7 (ObjC x [.int .i64 ((p : Int) + 1), .int .i64 b2, .bool (decide (wordAt sts (p + 1) = 1))] :: SliC 4 1 257 tv ((markL (List.replicate 257 false) (rowsOf ls).flatten).map .bool) ::
      SliC 71 3 bts.length bv (bts.flatMap encB) :: SliC e1 1 zs.length wv (zs.map (.int .u64)) :: SliC e2 1 257 sv (sts.map (.int .i64)) :: []) := H7
    have hc1 : wordAt sts (p + 1) = 1 ∨ wordAt sts (p + 1) = 2 ∨ wordAt sts (p + 1) = 3 := by omega
    have hmk : decide (((p + 1 : Nat) : Int) ∈ (rowsOf ls).flatten) = decide (wordAt sts (p + 1) = 3) := by
      apply decide_eq_decide.2
      rw [P.flat, show (((p + 1 : Nat) : Int)).toNat = p + 1 by omega]
      exact ⟨fun h => h.2, fun h => ⟨⟨b2, by rw [show ((p + 1 : Nat) : Int) = (p : Int) + 1 by omega]; exact hb⟩, h⟩⟩
    with_reducible (refine ww_field0 ?_; refine ww_ldH (by assumption) .here (by with_unfolding_all exact rfl) ?_; refine ww_addI (by omega) ?_; refine ww_neqF (by omega) ?_; refine ww_joinS ?_; (try dsimp only); refine ww_wantFF ?_; (try dsimp only); refine ww_field0 ?_; refine ww_ldH (by assumption) .here (by with_unfolding_all exact rfl) ?_; refine ww_gtrF (by omega) ?_; refine ww_pickF ?_; refine ww_joinS ?_; (try dsimp only); refine ww_wantFF ?_; (try dsimp only); refine ww_field0 ?_; refine ww_ldH (by assumption) .here (by with_unfolding_all exact rfl) ?_; refine ww_field0 ?_; refine ww_ldH (by assumption) .here (by with_unfolding_all exact rfl) ?_)
    rw [show (p : Int) + 1 = ((p + 1 : Nat) : Int) by omega] at H7 ⊢
    refine ww_idx1 (H7.sl (.there (.there (.there (.there .here))))) (hcell (p + 1) (by omega)) ?_
    refine ww_eql ?_
    refine ww_beqT (t := false) (by simp) ?_
    with_reducible (refine ww_pickF ?_; refine ww_joinS ?_; (try dsimp only); refine ww_wantFF ?_; (try dsimp only); refine ww_field0 ?_; refine ww_ldH (by assumption) .here (by with_unfolding_all exact rfl) ?_)
    refine ww_idx1 (H7.sl (.there .here)) (hmark (p + 1) (by omega)) ?_
    with_reducible (refine ww_field0 ?_; refine ww_ldH (by assumption) .here (by with_unfolding_all exact rfl) ?_)
    refine ww_idx1 (H7.sl (.there (.there (.there (.there .here))))) (hcell (p + 1) (by omega)) ?_
    refine ww_eql ?_
    rw [hmk]
    refine ww_beqT (t := false) (by simp) ?_
    with_reducible (refine ww_pickF ?_; refine ww_joinS ?_; (try dsimp only); refine ww_wantFF ?_; (try dsimp only); refine ww_field0 ?_; refine ww_ldH (by assumption) .here (by with_unfolding_all exact rfl) ?_)
    refine ww_idx1 (H7.sl (.there (.there (.there (.there .here))))) (hcell (p + 1) (by omega)) ?_
    with_reducible (refine ww_eqlF (by omega) ?_; refine ww_pickF ?_; refine ww_condF ?_; refine ww_joinS ?_; (try dsimp only); refine ww_field0 ?_; refine ww_ldH (by assumption) .here (by with_unfolding_all exact rfl) ?_; refine ww_field0 ?_; refine ww_ldH (by assumption) .here (by with_unfolding_all exact rfl) ?_)
    refine ww_call (asize_ok (by omega)) ?_
    rintro _ h8 ⟨rfl, rfl⟩
    with_reducible (refine ww_addI (by omega) ?_; refine ww_chkH (by assumption) .here (by with_unfolding_all exact rfl) (by assumption) .here (by with_unfolding_all exact rfl) (HS.lt (by assumption) .here) ?_; refine ww_addI (by omega) ?_; refine ww_addI (by omega) ?_)
    refine hih post.length _ _ (by simp) ⟨pre ++ [(((p : Int) + 1), b2)], post, (p : Int) + 1 + sizeA b2, ?_, hbs, by omega, t3, rfl, H7.drop⟩
    simp
  | nil =>
    have hlp : pre.length = bs.length := by rw [hbs]; simp
    have ht : e = wordAt zs 5 := ht
    refine ww_lssF (by omega) (ww_condF ?_)
    refine ww_iter (fun m s h' => ∃ k : Nat, s = (.int .i64 (k : Int), .int .i64 ((pre.length : Int) - (cntS sts k : Int)), .int .i64 e, sv, wv, ()) ∧ k ≤ 257 ∧ m = 257 - k ∧ h' = h5) ?_ (m := 257) (by show 257 < 1000000000; omega) ⟨0, by simp [cntS], by omega, by omega, rfl⟩
    clear hih
    rintro m ih s h6 hih ⟨k, rfl, hk, rfl, rfl⟩
    dsimp only
    have hcb : cntS sts k ≤ k := by
      unfold cntS
      exact Nat.le_trans (List.length_filter_le ..) (by simp)
    by_cases hk2 : k ≤ 256
    · refine ww_leqT (by omega) (ww_condT ?_)
      refine ww_joinD [] (fun s h' => s = (.int .i64 (k : Int), .int .i64 ((pre.length : Int) - (cntS sts (k + 1) : Int)), .int .i64 e, sv, wv, ()) ∧ h' = h6) ?_ ?_
      · intro j hj
        refine ww_idx1 (H.sl (.there (.there (.there .here)))) (hcell k (by omega)) ?_
        have hcs := cntS_s sts k
        refine ww_neqC (fun hne => ww_condT (ww_subI (by omega) (hj _ _ ⟨?_, rfl⟩))) fun heq => ww_condF (hj _ _ ⟨?_, rfl⟩)
        · rw [hcs, if_pos (show wordAt sts k ≠ 0 from hne)]
          congr 3
          push_cast
          omega
        · rw [hcs, if_neg (show ¬ wordAt sts k ≠ 0 from fun h => h (by simpa using heq))]; rfl
      · rintro s h6 ⟨rfl, rfl⟩
        dsimp only
        refine ww_addI (by omega) (hih (257 - (k + 1)) _ _ (by omega) ⟨k + 1, rfl, by omega, rfl, rfl⟩)
    · obtain rfl : k = 257 := by omega
      have hcnt := P.count
      have he := P.low
      have hbu := P.bump
      rw [← ht] at he hbu
      rw [hcnt, show (pre.length : Int) - (bs.length : Int) = 0 by omega]
      refine ww_leqF (by omega) (ww_condF ?_)
      with_reducible (refine ww_eqlT (by omega) ?_; refine ww_joinS ?_; (try dsimp only); refine ww_wantTT ?_; (try dsimp only); refine ww_lenH (by assumption) (.there (.there .here)) ?_; refine ww_gtrT (by omega) ?_; refine ww_pickT ?_; refine ww_joinS ?_; (try dsimp only); refine ww_wantTT ?_; (try dsimp only))
      refine ww_idx1 (i := 5) (H.sl (.there (.there .here))) (wordAt_get (by omega)) ?_
      with_reducible (refine ww_convIU (by omega) ?_; refine ww_eqlT (by omega) ?_; refine ww_pickT ?_; refine ww_leave ?_)
      exact ww_ret rfl
end Go.Proofs.Ytaepnpodenmmoaa.arenaParts
