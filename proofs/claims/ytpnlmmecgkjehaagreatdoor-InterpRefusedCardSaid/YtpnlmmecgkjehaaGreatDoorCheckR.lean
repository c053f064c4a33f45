/- May a program run? The walks of the check. -/
import Derived.Test.YtpnlmmecgkjehaaGreatDoorCheckA
namespace Go.Proofs.YtpnlmmecgkjehaaGreatDoor
open Go Go.Ae
set_option maxRecDepth 100000

variable {g h : AH} {L R : List SP}

theorem ins_get {l : List InsT} {i : Nat} (hi : i < l.length) : insAt l (i : Int) = l[i] := by
  unfold insAt
  rw [show ((i : Int)).toNat = i by omega, List.getElem?_eq_getElem hi]; rfl
theorem ww_chkS {sv : AV} {b nx : Nat} {ha : AH} {L2 R2 : List SP} {K0 : Go.Ae.R} {Q : AV → AH → Prop} (H : HS g h L) (s : Sel L (ObjC b [sv]) R) (H2 : HS g ha L2) (s2 : Sel L2 (ObjC b [sv]) R2) (hlt : b < nx) (w : wp K0 Q) : wp (pChk (.ptr b 0) none sv h ha nx K0) Q :=
  ww_chkH H s rfl H2 s2 rfl hlt w

theorem cop_ok {n : Nat} (hn : 2 ≤ n) {l : List InsT} {st : List Int} {sv tv : AV} (H : HS g h R) (S : Rd g R 5 l.length sv (l.flatMap encI)) (T : Rd g R 1 st.length tv (st.map (.int .i64))) (hs : StOk l.length st) (hl : st.length < 1000) :
    wp (callT tab rtab n (.fn 45 [] []) [tv, .agg [sv]] h) fun v h' => v = .int .i64 (opM l st) ∧ HS g h' R := by
  (refine ww_fn (g := W45) rfl (by omega) fun k hk => ?_; show wp (S45 (callT tab rtab k) _ _ _) _; unfold S45; try simp only [Int.ofNat_eq_natCast])
  refine ww_boxA H (one_all1 (sl_one1 (S.sl H))) fun b h1 H1 => ?_
  refine ww_len (T.sl H1.drop) ?_
  unfold opM
  by_cases h0 : st = []
  · subst h0
    rw [if_pos rfl]
    skip
    exact ww_ret ⟨rfl, H1.drop⟩
  · have hl0 : st.length ≠ 0 := fun h => h0 (List.eq_nil_of_length_eq_zero h)
    rw [if_neg h0]
    with_reducible (refine ww_eqlF (by omega) ?_; refine ww_condF ?_; refine ww_joinS ?_; (try dsimp only); refine ww_field0 ?_; refine ww_ldH (by assumption) .here (by with_unfolding_all exact rfl) ?_)
    refine ww_call (cinmost_ok (by omega) (T.sl H1.drop) hl) ?_
    rintro _ h1 ⟨rfl, rfl⟩
    have hi := hs.inmost h0
    generalize inmostM st = p at *
    obtain ⟨p, rfl⟩ : ∃ q : Nat, p = (q : Int) := ⟨p.toNat, by omega⟩
    have hp : p < l.length := by omega
    refine ww_idxF (x := .int .i64 l[p].1) (S.sl H1.drop) (by omega) hp (by rw [flat_get (sz := 5) encI (fun _ => rfl) _ _ _ (by omega), List.getElem?_eq_getElem hp]; rfl) ?_
    with_reducible (refine ww_chkH (by assumption) .here (by with_unfolding_all exact rfl) (by assumption) .here (by with_unfolding_all exact rfl) (HS.lt (by assumption) .here) ?_)
    exact ww_ret ⟨by rw [ins_get hp], H1.drop⟩

theorem cwrong_ok {n : Nat} (hn : 4 ≤ n) {l : List InsT} {st : List Int} {sv tv : AV} {x : InsT} (H : HS g h R) (S : Rd g R 5 l.length sv (l.flatMap encI)) (T : Rd g R 1 st.length tv (st.map (.int .i64))) (hs : StOk l.length st) (hl : st.length < 1000) :
    wp (callT tab rtab n (.fn 27 [] []) [.agg [sv], tv, .agg (encI x)] h) fun v h' => v = .int .i64 (wrongM l st x) ∧ HS g h' R := by
  (refine ww_fn (g := W27) rfl (by omega) fun k hk => ?_; show wp (S27 (callT tab rtab k) _ _ _ _) _; unfold S27; try simp only [Int.ofNat_eq_natCast])
  refine ww_boxA H (one_all1 (sl_one1 (S.sl H))) fun b0 h1 H1 => ?_
  refine ww_boxA H1 rfl fun b2 h2 H2 => ?_
  refine ww_ldNH H2 (b := b2) (off := 0) .here rfl (by omega) rfl ?_
  refine ww_call (cmay_ok (by omega) H2) ?_
  rintro _ h3 ⟨rfl, H3⟩
  clear H H1 H2
  obtain ⟨op, a, b, c, q⟩ := x
  have hW : wrongM l st (op, a, b, c, q) = if mayM (op, a, b, c, q) = false then 8 else if 0 < endsM op ∧ opM l st ≠ endsM op then 12 else if op = 16 ∧ opM l st ≠ 14 then 12 else if beginsM op = true ∧ 5 ≤ st.length then 9 else 0 := rfl
  rw [hW]
  have H3 : HS g h3 (ObjC b2 [.int .i64 op, .int .i64 a, .int .i64 b, .int .i64 c, .int .u64 q] :: ObjC b0 [sv] :: R) := H3
  cases mayM (op, a, b, c, q)
  · with_reducible (refine ww_notF ?_; refine ww_condT ?_)
    exact ww_ret ⟨rfl, H3.drop.drop⟩
  rw [if_neg (by simp)]
  (first | with_reducible refine ww_condT ?_ | with_reducible refine ww_condF ?_ | (with_reducible refine ww_wantTT ?_; try dsimp only) | (with_reducible refine ww_wantTF ?_; try dsimp only) | (with_reducible refine ww_wantFT ?_; try dsimp only) | (with_reducible refine ww_wantFF ?_; try dsimp only) | (with_reducible refine ww_wantU ?_; try dsimp only) | with_reducible refine ww_pickT ?_ | with_reducible refine ww_pickF ?_ | (with_reducible refine ww_joinS ?_; try dsimp only) | with_reducible refine ww_leave ?_ | with_reducible refine ww_notT ?_ | with_reducible refine ww_notF ?_ | with_reducible refine ww_addI (by omega) ?_ | with_reducible refine ww_subI (by omega) ?_ | with_reducible refine ww_addU (by omega) ?_ | with_reducible refine ww_subU (by omega) ?_ | with_reducible refine ww_min ?_ | with_reducible refine ww_max ?_)
  (first | with_reducible refine ww_condT ?_ | with_reducible refine ww_condF ?_ | (with_reducible refine ww_wantTT ?_; try dsimp only) | (with_reducible refine ww_wantTF ?_; try dsimp only) | (with_reducible refine ww_wantFT ?_; try dsimp only) | (with_reducible refine ww_wantFF ?_; try dsimp only) | (with_reducible refine ww_wantU ?_; try dsimp only) | with_reducible refine ww_pickT ?_ | with_reducible refine ww_pickF ?_ | (with_reducible refine ww_joinS ?_; try dsimp only) | with_reducible refine ww_leave ?_ | with_reducible refine ww_notT ?_ | with_reducible refine ww_notF ?_ | with_reducible refine ww_addI (by omega) ?_ | with_reducible refine ww_subI (by omega) ?_ | with_reducible refine ww_addU (by omega) ?_ | with_reducible refine ww_subU (by omega) ?_ | with_reducible refine ww_min ?_ | with_reducible refine ww_max ?_)
  refine ww_join (fun s h' => s = (.bool (decide (0 < endsM op ∧ opM l st ≠ endsM op)), .ptr b2 0, .ptr b0 0, tv, ()) ∧ HS g h' (ObjC b2 [.int .i64 op, .int .i64 a, .int .i64 b, .int .i64 c, .int .u64 q] :: ObjC b0 [sv] :: R)) ?_ ?_
  · intro j hj
    with_reducible (refine ww_field0 ?_; refine ww_ldH (by assumption) .here (by with_unfolding_all exact rfl) ?_)
    refine ww_call (cends_ok (by omega)) ?_
    rintro _ h3 ⟨rfl, rfl⟩
    by_cases h1 : 0 < endsM op
    · with_reducible (refine ww_gtrT (by omega) ?_; refine ww_wantTT ?_; (try dsimp only))
      refine ww_ldNH H3 (b := b0) (off := 0) (.there .here) rfl (by omega) rfl ?_
      refine ww_call (cop_ok (by omega) H3 S.more.more T.more.more hs hl) ?_
      rintro _ h4 ⟨rfl, H4⟩
      with_reducible (refine ww_field0 ?_; refine ww_ldH (by assumption) .here (by with_unfolding_all exact rfl) ?_)
      refine ww_call (cends_ok (by omega)) ?_
      rintro _ h4 ⟨rfl, rfl⟩
      refine ww_neq ?_
      with_reducible (refine ww_pickT ?_; refine ww_chkH (by assumption) .here (by with_unfolding_all exact rfl) (by assumption) .here (by with_unfolding_all exact rfl) (HS.lt (by assumption) .here) ?_)
      refine hj _ _ ⟨?_, H4⟩
      congr 2
      exact decide_eq_decide.2 ⟨fun h => ⟨h1, h⟩, fun h => h.2⟩
    · with_reducible (refine ww_gtrF (by omega) ?_; refine ww_wantFT ?_; (try dsimp only); refine ww_pickF ?_)
      refine hj _ _ ⟨?_, H3⟩
      rw [decide_eq_false (fun h => h1 h.1)]
  clear H3
  rintro s h4 ⟨rfl, H⟩
  dsimp only
  by_cases hA : 0 < endsM op ∧ opM l st ≠ endsM op
  · rw [decide_eq_true hA, if_pos hA]
    with_reducible (refine ww_condT ?_)
    exact ww_ret ⟨rfl, H.drop.drop⟩
  rw [decide_eq_false hA, if_neg hA]
  with_reducible (refine ww_condF ?_; refine ww_field0 ?_; refine ww_ldH (by assumption) .here (by with_unfolding_all exact rfl) ?_)
  refine ww_eql ?_
  refine ww_join (fun s h' => ∃ (r : AV) (u x : Bool), s = (r, .bool u, .ptr b2 0, tv, ()) ∧ (u = true → r = .bool x) ∧ ((u && x) = decide (op = 16 ∧ opM l st ≠ 14)) ∧ HS g h' (ObjC b2 [.int .i64 op, .int .i64 a, .int .i64 b, .int .i64 c, .int .u64 q] :: ObjC b0 [sv] :: R)) ?_ ?_
  · intro j hj
    by_cases h1 : op = 16
    · rw [decide_eq_true (show op = ((16 : Nat) : Int) from h1)]
      with_reducible (refine ww_wantTT ?_; (try dsimp only))
      refine ww_ldNH H (b := b0) (off := 0) (.there .here) rfl (by omega) rfl ?_
      refine ww_call (cop_ok (by omega) H S.more.more T.more.more hs hl) ?_
      rintro _ h4 ⟨rfl, H4⟩
      refine ww_neq (hj _ _ ⟨_, true, decide (¬ opM l st = 14), rfl, fun _ => rfl, ?_, H4⟩)
      rw [Bool.true_and]
      exact decide_eq_decide.2 ⟨fun h => ⟨h1, h⟩, fun h => h.2⟩
    · rw [decide_eq_false (show ¬ op = ((16 : Nat) : Int) from h1)]
      with_reducible (refine ww_wantFT ?_; (try dsimp only))
      refine hj _ _ ⟨_, false, false, rfl, (fun h => by cases h), ?_, H⟩
      rw [decide_eq_false (fun h => h1 h.1)]; rfl
  clear H
  rintro s h4 ⟨r, u, y, rfl, hr, hu, H⟩
  dsimp only
  refine ww_pickAnd2 hr ?_
  rw [hu]
  by_cases hB : op = 16 ∧ opM l st ≠ 14
  · rw [decide_eq_true hB, if_pos hB]
    with_reducible (refine ww_condT ?_)
    exact ww_ret ⟨rfl, H.drop.drop⟩
  rw [decide_eq_false hB, if_neg hB]
  with_reducible (refine ww_condF ?_; refine ww_field0 ?_; refine ww_ldH (by assumption) .here (by with_unfolding_all exact rfl) ?_)
  refine ww_call (cbegins_ok (by omega)) ?_
  rintro _ h4 ⟨rfl, rfl⟩
  cases hb : beginsM op
  · rw [if_neg (by simp)]
    with_reducible (refine ww_joinS ?_; (try dsimp only); refine ww_wantFT ?_; (try dsimp only); refine ww_pickF ?_; refine ww_condF ?_)
    exact ww_ret ⟨rfl, H.drop.drop⟩
  · with_reducible (refine ww_joinS ?_; (try dsimp only); refine ww_wantTT ?_; (try dsimp only))
    refine ww_len (T.sl H.drop.drop) ?_
    by_cases h5 : 5 ≤ st.length
    · rw [if_pos ⟨rfl, h5⟩]
      with_reducible (refine ww_geqT (by omega) ?_; refine ww_pickT ?_; refine ww_condT ?_)
      exact ww_ret ⟨rfl, H.drop.drop⟩
    · rw [if_neg (fun h => h5 h.2)]
      with_reducible (refine ww_geqF (by omega) ?_; refine ww_pickT ?_; refine ww_condF ?_)
      exact ww_ret ⟨rfl, H.drop.drop⟩

/-- the stack of places -/
def StC (v : AV) (st : List Int) : SP := SliC 3 1 st.length v (st.map (.int .i64))
theorem cbehind_ok {n : Nat} (hn : 2 ≤ n) {st : List Int} {tv : AV} {i op : Int} (H : HS g h (StC tv st :: R)) (hs : 0 < endsM op → st ≠ []) (hl : st.length < 1000) :
    wp (callT tab rtab n (.fn 28 [] []) [tv, .int .i64 i, .int .i64 op] h) fun v h' => HS g h' (StC v (behindM st i op) :: R) := by
  (refine ww_fn (g := W28) rfl (by omega) fun k hk => ?_; show wp (S28 (callT tab rtab k) _ _ _ _) _; unfold S28; try simp only [Int.ofNat_eq_natCast])
  refine ww_joinD [] (fun s h' => ∃ v, s = (.int .i64 op, .int .i64 i, v, ()) ∧ HS g h' (StC v (if 0 < endsM op then st.dropLast else st) :: R)) ?_ ?_
  · intro j hj
    refine ww_call (cends_ok (by omega)) ?_
    rintro _ h ⟨rfl, rfl⟩
    by_cases h1 : 0 < endsM op
    · have hne := hs h1
      have hl0 : st.length ≠ 0 := fun h => hne (List.eq_nil_of_length_eq_zero h)
      rw [if_pos h1] at hj
      refine ww_gtrT h1 (ww_condT ?_)
      refine ww_len (H.sl (e := 3) .here) ?_
      refine ww_subI (by omega) ?_
      rw [show (st.length : Int) - ((1 : Nat) : Int) = ((st.length - 1 : Nat) : Int) by omega]
      refine ww_cutH H (by omega) (by omega) fun v H1 => ?_
      refine hj _ _ ⟨v, rfl, ?_⟩
      unfold StC
      rw [List.length_dropLast, List.dropLast_eq_take, List.map_take]
      rw [Nat.mul_one] at H1
      exact H1
    · rw [if_neg h1] at hj
      refine ww_gtrF h1 (ww_condF ?_)
      exact hj _ _ ⟨tv, rfl, H⟩
  clear H
  rintro s h1 ⟨v, rfl, H⟩
  unfold behindM
  have hl2 : (if 0 < endsM op then st.dropLast else st).length < 1000 := by
    split
    · rw [List.length_dropLast]; omega
    · exact hl
  generalize (if 0 < endsM op then st.dropLast else st) = st at *
  dsimp only
  with_reducible (refine ww_joinS ?_; (try dsimp only))
  refine ww_call (cbegins_ok (by omega)) ?_
  rintro _ h1 ⟨rfl, rfl⟩
  have push : ∀ {K : AV → AH → Go.Ae.R} {Q : AV → AH → Prop}, (∀ v' h', HS g h' (StC v' (st ++ [i]) :: R) → wp (K v' h') Q) →
      wp (pBuildS h1 3 [.int .i64 ((0 : Nat) : Int)] 1 [(0, 1, .int .i64 i)] fun v15 h16 => pAppend h16 3 1 v v15 K) Q := by
    intro K Q w
    refine ww_buildSH (n := 1) (l := [.int .i64 i]) (sz := 1) H rfl rfl rfl rfl fun v5 h5 H5 => ?_
    refine ww_appH (H5.sel (.there .here)) (H5.sl .here) (by omega) (by omega) rfl fun v6 h6 H6 => w v6 h6 ?_
    unfold StC
    rw [List.map_append, List.length_append]
    exact H6.sub (.cons .here (.drop .refl))
  cases hb : beginsM op
  · by_cases h18 : op = 18
    · rw [if_pos (.inr h18)]
      with_reducible (refine ww_joinS ?_; (try dsimp only); refine ww_wantFF ?_; (try dsimp only); refine ww_eqlT (by omega) ?_; refine ww_pickF ?_; refine ww_condT ?_)
      exact push fun v' h' H' => ww_leave (ww_ret H')
    · rw [if_neg (by simp; exact h18)]
      with_reducible (refine ww_joinS ?_; (try dsimp only); refine ww_wantFF ?_; (try dsimp only); refine ww_eqlF (by omega) ?_; refine ww_pickF ?_; refine ww_condF ?_; refine ww_leave ?_)
      exact ww_ret H
  · rw [if_pos (.inl rfl)]
    with_reducible (refine ww_joinS ?_; (try dsimp only); refine ww_wantTF ?_; (try dsimp only); refine ww_pickT ?_; refine ww_condT ?_)
    exact push fun v' h' H' => ww_leave (ww_ret H')

theorem goM_drop {l : List InsT} {i : Nat} {st : List Int} (hi : i < l.length) : goM l (l.drop i) i st = if wrongM l st l[i] = 0 then goM l (l.drop (i + 1)) (i + 1) (behindM st i l[i].1) else .inl ((i : Int), wrongM l st l[i]) := by
  rw [List.drop_eq_getElem_cons hi]; rfl
theorem regM_drop {l : List InsT} {i : Nat} {st : List Int} (hi : i < l.length) : regM (l.drop i) i st = inmostM st :: regM (l.drop (i + 1)) (i + 1) (behindM st i l[i].1) := by
  rw [List.drop_eq_getElem_cons hi]; rfl
theorem jumpM_drop {l : List InsT} {a : List Int} {i : Nat} (hi : i < l.length) : jumpM l a (l.drop i) i = if leaves l a i l[i] then ((i : Int), 2) else jumpM l a (l.drop (i + 1)) (i + 1) := by
  rw [List.drop_eq_getElem_cons hi]; rfl
theorem ins_row {l : List InsT} {i : Nat} (hi : i < l.length) : ((l.flatMap encI).drop (i * 5)).take 5 = encI l[i] := enc_row (sz := 5) (fun _ => rfl) (List.getElem?_eq_getElem hi)

theorem cregions_ok {n : Nat} (hn : 3 ≤ n) {l : List InsT} {st' : List Int} {sv : AV} (H : HS g h R) (S : Rd g R 5 l.length sv (l.flatMap encI)) (hg : goM l l 0 [] = .inr st') (hl : l.length ≤ 100) :
    wp (callT tab rtab n (.fn 31 [] []) [.agg [sv]] h) fun v h' => HS g h' (SliC 3 1 l.length v ((regM l 0 []).map (.int .i64)) :: R) := by
  (refine ww_fn (g := W31) rfl (by omega) fun k hk => ?_; show wp (S31 (callT tab rtab k) _ _) _; unfold S31; try simp only [Int.ofNat_eq_natCast])
  refine ww_boxA H (one_all1 (sl_one1 (S.sl H))) fun b0 h1 H1 => ?_
  with_reducible (refine ww_field0 ?_; refine ww_ldH (by assumption) .here (by with_unfolding_all exact rfl) ?_)
  refine ww_len (S.sl H1.drop) ?_
  refine ww_makeN (n := l.length) H1 (by omega) fun ov h2 H2 => ?_
  with_reducible (refine ww_field0 ?_; refine ww_ldH (by assumption) (.there .here) (by with_unfolding_all exact rfl) ?_)
  refine ww_len (S.sl H2.drop.drop) ?_
  refine ww_iter (fun m s h' => ∃ (i : Nat) (st A : List Int) (tv : AV), s = (.int .i64 (i : Int), .int .i64 (l.length : Int), sv, tv, ov, ()) ∧ i ≤ l.length ∧ m = l.length - i ∧ StOk i st ∧ st.length ≤ i ∧ goM l (l.drop i) i st = .inr st' ∧ A.length = i ∧ regM l 0 [] = A ++ regM (l.drop i) i st ∧
    HS g h' (SliC 3 1 l.length ov ((A ++ List.replicate (l.length - i) 0).map (.int .i64)) :: StC tv st :: R))
    ?_ (m := l.length) (by show _ < 1000000000; omega) ⟨0, [], [], .nils, rfl, by omega, by omega, StOk.nil, by simp, hg, rfl, rfl, by
      rw [List.nil_append, List.map_replicate]
      exact (H2.nils (e := 3) (sz := 1)).sub (.cons (.there .here) (.cons .here (.drop .refl)))⟩
  clear H H1 H2
  rintro m ih s h3 hih ⟨i, st, A, tv, rfl, hi, rfl, hs, hsl, hgo, hA, hR, H⟩
  dsimp only
  by_cases hlt : i < l.length
  · rw [goM_drop hlt] at hgo
    rw [regM_drop hlt] at hR
    have hrow := ins_row hlt
    generalize l[i] = x at *
    by_cases hw : wrongM l st x = 0
    rotate_left
    · rw [if_neg hw] at hgo; cases hgo
    rw [if_pos hw] at hgo
    have ho := wrong_open hw
    with_reducible (refine ww_lssT (by omega) ?_; refine ww_condT ?_)
    refine ww_idxN (S.sl H.drop.drop) hlt (by omega) hrow ?_
    refine ww_boxA H rfl fun b h4 H4 => ?_
    refine ww_stH H4 (b := b) .here rfl (by simp [encI]) rfl fun h5 H5 => ?_
    have H5 : HS g h5 (ObjC b (encI x) :: SliC 3 1 l.length ov ((A ++ List.replicate (l.length - i) 0).map (.int .i64)) :: StC tv st :: R) := H5
    unfold encI at H5
    refine ww_call (cinmost_ok (by omega) (H5.sl (e := 3) (.there (.there .here))) (by omega)) ?_
    rintro _ h5 ⟨rfl, rfl⟩
    refine ww_slI (H5.sel (.there .here)) (by omega) ⟨rfl, rfl⟩ fun h6 H6 => ?_
    have hset : ((A ++ List.replicate (l.length - i) 0).map (AV.int .i64)).set i (.int .i64 (inmostM st)) = ((A ++ [inmostM st]) ++ List.replicate (l.length - (i + 1)) 0).map (.int .i64) := by
      rw [← List.map_set]
      congr 1
      rw [List.set_append_right _ _ (by omega), hA, Nat.sub_self, show l.length - i = (l.length - (i + 1)) + 1 by omega, List.replicate_succ]
      simp
    rw [hset] at H6
    with_reducible (refine ww_field0 ?_; refine ww_ldH (by assumption) (.there .here) (by with_unfolding_all exact rfl) ?_)
    refine ww_call (cbehind_ok (by omega) (H6.sub (L' := StC tv st :: ObjC b [.int .i64 x.1, .int .i64 x.2.1, .int .i64 x.2.2.1, .int .i64 x.2.2.2.1, .int .u64 x.2.2.2.2] :: SliC 3 1 l.length ov (((A ++ [inmostM st]) ++ List.replicate (l.length - (i + 1)) 0).map (.int .i64)) :: R) (.cons (.there (.there .here)) (.cons (.there .here) (.cons .here .refl)))) (fun h => ho.2.1 (.inl h)) (by omega)) ?_
    intro tv2 h8 H8
    with_reducible (refine ww_addI (by omega) ?_)
    have hbl := behind_len st i x.1
    exact hih (l.length - (i + 1)) _ _ (by omega) ⟨i + 1, behindM st i x.1, A ++ [inmostM st], tv2, rfl, by omega, rfl, hs.behind, by omega, hgo, by simp [hA], by rw [hR]; simp, H8.sub (.cons (.there (.there .here)) (.cons .here (.drop .refl)))⟩
  · obtain rfl : i = l.length := by omega
    with_reducible (refine ww_lssF (by omega) ?_; refine ww_condF ?_; refine ww_leave ?_)
    refine ww_ret ?_
    rw [hR]
    rw [Nat.sub_self, List.replicate_zero, List.append_nil] at H
    rw [List.drop_length]
    show HS g h3 (SliC _ 1 l.length ov ((A ++ []).map _) :: R)
    rw [List.append_nil]
    exact H.sub (.cons .here (.drop .refl))

theorem may_jump {x : InsT} (h : mayM x = true) (hj : x.1 = 12 ∨ x.1 = 13) : 0 ≤ x.2.2.2.1 ∧ x.2.2.2.1 ≤ 40 := by
  have e : (fieldsM x.1).2.2 = (0, 40) := by
    rcases hj with e | e <;> rw [e] <;> rfl
  unfold mayM at h
  rw [e] at h
  simp only [Bool.and_eq_true, fitsM, decide_eq_true_eq] at h
  exact h.1.2
theorem cjumps_ok {n : Nat} (hn : 2 ≤ n) {l : List InsT} {a : List Int} {sv av : AV} (H : HS g h R) (S : Rd g R 5 l.length sv (l.flatMap encI)) (T : Rd g R 1 a.length av (a.map (.int .i64))) (ha : a.length = l.length) (hm : ∀ x ∈ l, mayM x = true) (hl : l.length ≤ 100) :
    wp (callT tab rtab n (.fn 30 [] []) [.agg [sv], av] h) fun v h' => v = .tup [.int .i64 (jumpM l a l 0).1, .int .i64 (jumpM l a l 0).2] ∧ HS g h' R := by
  (refine ww_fn (g := W30) rfl (by omega) fun k hk => ?_; show wp (S30 (callT tab rtab k) _ _ _) _; unfold S30; try simp only [Int.ofNat_eq_natCast])
  refine ww_boxA H (one_all1 (sl_one1 (S.sl H))) fun b0 h1 H1 => ?_
  have hLV := (S.sl H).lenV
  clear H
  with_reducible (refine ww_field0 ?_; refine ww_ldH (by assumption) .here (by with_unfolding_all exact rfl) ?_; refine ww_lenV (by assumption) ?_)
  refine ww_iter (fun m s h' => ∃ i : Nat, s = (.int .i64 (i : Int), .int .i64 (l.length : Int), sv, .ptr b0 0, av, ()) ∧ i ≤ l.length ∧ m = l.length - i ∧ jumpM l a l 0 = jumpM l a (l.drop i) i ∧ HS g h' (ObjC b0 [sv] :: R))
    ?_ (m := l.length) (by show _ < 1000000000; omega) ⟨0, rfl, by omega, by omega, rfl, H1⟩
  clear H1
  rintro m ih s h2 hih ⟨i, rfl, hi, rfl, hJ, H⟩
  dsimp only
  by_cases hlt : i < l.length
  rotate_left
  · obtain rfl : i = l.length := by omega
    rw [List.drop_length] at hJ
    rw [hJ]
    with_reducible (refine ww_lssF (by omega) ?_; refine ww_condF ?_; refine ww_leave ?_)
    exact ww_ret ⟨rfl, H.drop⟩
  rw [jumpM_drop hlt] at hJ
  have hrow := ins_row hlt
  have hmx := hm l[i] (List.getElem_mem hlt)
  generalize l[i] = x at *
  obtain ⟨op, xa, xb, c, q⟩ := x
  unfold encI at hrow
  refine ww_lssT (by omega) (ww_condT ?_)
  refine ww_joinD [] (fun s h' => s = (.int .i64 (i : Int), .int .i64 (l.length : Int), sv, .ptr b0 0, av, ()) ∧ ¬ leaves l a i (op, xa, xb, c, q) ∧ HS g h' (ObjC b0 [sv] :: R)) ?_ ?_
  rotate_left
  · rintro s h3 ⟨rfl, hno, H3⟩
    rw [if_neg hno] at hJ
    with_reducible (refine ww_addI (by omega) ?_)
    exact hih (l.length - (i + 1)) _ _ (by omega) ⟨i + 1, rfl, by omega, rfl, hJ, H3⟩
  intro j hj
  clear hih
  refine ww_idxN (S.sl H.drop) hlt (by omega) hrow ?_
  refine ww_boxA H rfl fun b h4 H4 => ?_
  refine ww_stH H4 (b := b) .here rfl (by simp) rfl fun h5 H5 => ?_
  have H5 : HS g h5 (ObjC b [.int .i64 op, .int .i64 xa, .int .i64 xb, .int .i64 c, .int .u64 q] :: ObjC b0 [sv] :: R) := H5
  clear H H4
  with_reducible (refine ww_field0 ?_; refine ww_ldH (by assumption) .here (by with_unfolding_all exact rfl) ?_)
  refine ww_call (cjump_ok (by omega)) ?_
  rintro _ h5 ⟨rfl, rfl⟩
  by_cases hjm : op = 12 ∨ op = 13
  rotate_left
  · rw [decide_eq_false hjm]
    with_reducible (refine ww_notF ?_; refine ww_condT ?_)
    exact hj _ _ ⟨rfl, fun h => hjm h.1, H5.drop⟩
  rw [decide_eq_true hjm]
  have hc := may_jump hmx hjm
  dsimp only at hc
  obtain ⟨p, rfl⟩ : ∃ p : Nat, c = (p : Int) := ⟨c.toNat, by omega⟩
  have hcell : ∀ k : Nat, k < l.length → (a.map (AV.int .i64))[k]? = some (.int .i64 (numAt a (k : Int))) := by
    intro k hk
    unfold numAt
    rw [List.getElem?_map, show ((k : Int)).toNat = k by omega, List.getElem?_eq_getElem (by omega)]; rfl
  have Ta : Sl (fun _ => True) h5 1 a.length av (a.map (.int .i64)) := T.sl H5.drop.drop
  by_cases c1 : l.length < p
  · rw [if_pos ⟨hjm, .inl (by dsimp only; omega)⟩] at hJ
    rw [hJ]
    with_reducible (refine ww_notT ?_; refine ww_condF ?_; refine ww_field0 ?_; refine ww_ldH (by assumption) .here (by with_unfolding_all exact rfl) ?_; refine ww_field0 ?_; refine ww_ldH (by assumption) (.there .here) (by with_unfolding_all exact rfl) ?_; refine ww_lenV (by assumption) ?_; refine ww_gtrT (by omega) ?_; refine ww_joinS ?_; (try dsimp only); refine ww_wantTF ?_; (try dsimp only); refine ww_joinS ?_; (try dsimp only); refine ww_wantU ?_; (try dsimp only); refine ww_joinS ?_; (try dsimp only); refine ww_wantTF ?_; (try dsimp only); refine ww_pickT ?_; refine ww_joinS ?_; (try dsimp only); refine ww_wantTF ?_; (try dsimp only); refine ww_joinS ?_; (try dsimp only); refine ww_wantU ?_; (try dsimp only); refine ww_joinS ?_; (try dsimp only); refine ww_wantTF ?_; (try dsimp only); refine ww_pickT ?_; refine ww_condT ?_; refine ww_leave ?_)
    exact ww_ret ⟨rfl, H5.drop.drop⟩
  by_cases c2 : p = l.length
  · subst c2
    with_reducible (refine ww_notT ?_; refine ww_condF ?_; refine ww_field0 ?_; refine ww_ldH (by assumption) .here (by with_unfolding_all exact rfl) ?_; refine ww_field0 ?_; refine ww_ldH (by assumption) (.there .here) (by with_unfolding_all exact rfl) ?_; refine ww_lenV (by assumption) ?_; refine ww_gtrF (by omega) ?_; refine ww_joinS ?_; (try dsimp only); refine ww_wantFF ?_; (try dsimp only); refine ww_field0 ?_; refine ww_ldH (by assumption) .here (by with_unfolding_all exact rfl) ?_; refine ww_field0 ?_; refine ww_ldH (by assumption) (.there .here) (by with_unfolding_all exact rfl) ?_; refine ww_lenV (by assumption) ?_; refine ww_eqlT (by omega) ?_; refine ww_joinS ?_; (try dsimp only); refine ww_wantTT ?_; (try dsimp only))
    refine ww_idx1 Ta (hcell i hlt) ?_
    by_cases c3 : numAt a i = -1
    · refine ww_neqF (by rw [c3]; decide) ?_
      with_reducible (refine ww_joinS ?_; (try dsimp only); refine ww_wantFF ?_; (try dsimp only); refine ww_pickT ?_; refine ww_pickF ?_; refine ww_joinS ?_; (try dsimp only); refine ww_wantFF ?_; (try dsimp only); refine ww_field0 ?_; refine ww_ldH (by assumption) .here (by with_unfolding_all exact rfl) ?_; refine ww_field0 ?_; refine ww_ldH (by assumption) (.there .here) (by with_unfolding_all exact rfl) ?_; refine ww_lenV (by assumption) ?_; refine ww_lssF (by omega) ?_; refine ww_joinS ?_; (try dsimp only); refine ww_wantFT ?_; (try dsimp only); refine ww_joinS ?_; (try dsimp only); refine ww_wantFF ?_; (try dsimp only); refine ww_pickF ?_; refine ww_pickF ?_; refine ww_condF ?_)
      exact hj _ _ ⟨rfl, fun h => by
        rcases h.2 with h | h | h
        · dsimp only at h; omega
        · exact h.2 c3
        · dsimp only at h; omega, H5.drop⟩
    · refine ww_neqT (fun h => c3 (by rw [h]; decide)) ?_
      rw [if_pos ⟨hjm, .inr (.inl ⟨rfl, c3⟩)⟩] at hJ
      rw [hJ]
      with_reducible (refine ww_joinS ?_; (try dsimp only); refine ww_wantFF ?_; (try dsimp only); refine ww_pickT ?_; refine ww_pickF ?_; refine ww_joinS ?_; (try dsimp only); refine ww_wantTF ?_; (try dsimp only); refine ww_joinS ?_; (try dsimp only); refine ww_wantU ?_; (try dsimp only); refine ww_joinS ?_; (try dsimp only); refine ww_wantTF ?_; (try dsimp only); refine ww_pickT ?_; refine ww_condT ?_; refine ww_leave ?_)
      exact ww_ret ⟨rfl, H5.drop.drop⟩
  · with_reducible (refine ww_notT ?_; refine ww_condF ?_; refine ww_field0 ?_; refine ww_ldH (by assumption) .here (by with_unfolding_all exact rfl) ?_; refine ww_field0 ?_; refine ww_ldH (by assumption) (.there .here) (by with_unfolding_all exact rfl) ?_; refine ww_lenV (by assumption) ?_; refine ww_gtrF (by omega) ?_; refine ww_joinS ?_; (try dsimp only); refine ww_wantFF ?_; (try dsimp only); refine ww_field0 ?_; refine ww_ldH (by assumption) .here (by with_unfolding_all exact rfl) ?_; refine ww_field0 ?_; refine ww_ldH (by assumption) (.there .here) (by with_unfolding_all exact rfl) ?_; refine ww_lenV (by assumption) ?_; refine ww_eqlF (by omega) ?_; refine ww_joinS ?_; (try dsimp only); refine ww_wantFT ?_; (try dsimp only); refine ww_joinS ?_; (try dsimp only); refine ww_wantFF ?_; (try dsimp only); refine ww_pickF ?_; refine ww_pickF ?_; refine ww_joinS ?_; (try dsimp only); refine ww_wantFF ?_; (try dsimp only); refine ww_field0 ?_; refine ww_ldH (by assumption) .here (by with_unfolding_all exact rfl) ?_; refine ww_field0 ?_; refine ww_ldH (by assumption) (.there .here) (by with_unfolding_all exact rfl) ?_; refine ww_lenV (by assumption) ?_; refine ww_lssT (by omega) ?_; refine ww_joinS ?_; (try dsimp only); refine ww_wantTT ?_; (try dsimp only); refine ww_field0 ?_; refine ww_ldH (by assumption) .here (by with_unfolding_all exact rfl) ?_)
    refine ww_idx1 Ta (hcell p (by omega)) ?_
    refine ww_idx1 Ta (hcell i hlt) ?_
    by_cases c3 : numAt a p = numAt a i
    · refine ww_neqF c3 ?_
      with_reducible (refine ww_joinS ?_; (try dsimp only); refine ww_wantFF ?_; (try dsimp only); refine ww_pickT ?_; refine ww_pickF ?_; refine ww_condF ?_)
      exact hj _ _ ⟨rfl, fun h => by
        rcases h.2 with h | h | h
        · dsimp only at h; omega
        · have := h.1; dsimp only at this; omega
        · exact h.2 c3, H5.drop⟩
    · refine ww_neqT c3 ?_
      rw [if_pos ⟨hjm, .inr (.inr ⟨by dsimp only; omega, c3⟩)⟩] at hJ
      rw [hJ]
      with_reducible (refine ww_joinS ?_; (try dsimp only); refine ww_wantFF ?_; (try dsimp only); refine ww_pickT ?_; refine ww_pickF ?_; refine ww_condT ?_; refine ww_leave ?_)
      exact ww_ret ⟨rfl, H5.drop.drop⟩

theorem goM_may {l : List InsT} : ∀ {r : List InsT} {i : Nat} {st st' : List Int}, goM l r i st = .inr st' → ∀ x ∈ r, mayM x = true := by
  intro r
  induction r with
  | nil => intro i st st' _ x hx; cases hx
  | cons y r ih =>
    intro i st st' h x hx
    rw [goM_cons] at h
    split at h
    · rename_i hw
      rcases List.mem_cons.1 hx with rfl | hx
      · exact (wrong_open hw).1
      · exact ih h x hx
    · cases h
theorem goM_inl {l : List InsT} : ∀ {r : List InsT} {i : Nat} {st : List Int} {q : Int × Int}, goM l r i st = .inl q → q.2 ≠ 0 := by
  intro r
  induction r with
  | nil => intro i st q h; cases h
  | cons y r ih =>
    intro i st q h
    rw [goM_cons] at h
    split at h
    · exact ih h
    · rename_i hw
      cases h
      exact hw
theorem check_zero {l : List InsT} (h : (checkM l).2 = 0) : goM l l 0 [] = .inr [] := by
  unfold checkM at h
  split at h
  · cases h
  · cases hg : goM l l 0 [] with
    | inl q =>
      rw [hg] at h
      exact absurd h (goM_inl hg)
    | inr st =>
      rw [hg] at h
      dsimp only at h
      split at h
      · rename_i h0; rw [h0]
      · cases h

theorem ccheck_ok {n : Nat} (hn : 6 ≤ n) {l : List InsT} {sv : AV} (H : HS g h R) (S : Rd g R 5 l.length sv (l.flatMap encI)) (hl : l.length ≤ 100) :
    wp (callT tab rtab n (.fn 16 [] []) [.agg [sv]] h) fun v h' => v = .tup [.int .i64 (checkM l).1, .int .i64 (checkM l).2] ∧ HS g h' R := by
  (refine ww_fn (g := W16) rfl (by omega) fun k hk => ?_; show wp (S16 (callT tab rtab k) _ _) _; unfold S16; try simp only [Int.ofNat_eq_natCast])
  refine ww_boxA H (one_all1 (sl_one1 (S.sl H))) fun b0 h1 H1 => ?_
  have hLV := (S.sl H).lenV
  clear H
  have hC : checkM l = if l.length = 0 ∨ 40 < l.length then (0, 4) else match goM l l 0 [] with
    | .inl r => r
    | .inr st => if st = [] then jumpM l (regM l 0 []) l 0 else (inmostM st, 12) := rfl
  generalize checkM l = C at *
  with_reducible (refine ww_field0 ?_; refine ww_ldH (by assumption) .here (by with_unfolding_all exact rfl) ?_; refine ww_lenV (by assumption) ?_)
  by_cases c0 : l.length = 0
  · rw [if_pos (.inl c0)] at hC
    subst hC
    with_reducible (refine ww_eqlT (by omega) ?_; refine ww_joinS ?_; (try dsimp only); refine ww_wantTF ?_; (try dsimp only); refine ww_pickT ?_; refine ww_condT ?_)
    exact ww_ret ⟨rfl, H1.drop⟩
  by_cases c1 : 40 < l.length
  · rw [if_pos (.inr c1)] at hC
    subst hC
    with_reducible (refine ww_eqlF (by omega) ?_; refine ww_joinS ?_; (try dsimp only); refine ww_wantFF ?_; (try dsimp only); refine ww_field0 ?_; refine ww_ldH (by assumption) .here (by with_unfolding_all exact rfl) ?_; refine ww_lenV (by assumption) ?_; refine ww_gtrT (by omega) ?_; refine ww_pickF ?_; refine ww_condT ?_)
    exact ww_ret ⟨rfl, H1.drop⟩
  rw [if_neg (by omega)] at hC
  with_reducible (refine ww_eqlF (by omega) ?_; refine ww_joinS ?_; (try dsimp only); refine ww_wantFF ?_; (try dsimp only); refine ww_field0 ?_; refine ww_ldH (by assumption) .here (by with_unfolding_all exact rfl) ?_; refine ww_lenV (by assumption) ?_; refine ww_gtrF (by omega) ?_; refine ww_pickF ?_; refine ww_condF ?_; refine ww_field0 ?_; refine ww_ldH (by assumption) .here (by with_unfolding_all exact rfl) ?_; refine ww_lenV (by assumption) ?_)
  generalize hG : goM l l 0 [] = G at hC
  refine ww_iter (fun m s h' => ∃ (i : Nat) (st : List Int) (tv : AV), s = (.int .i64 (i : Int), .int .i64 (l.length : Int), sv, tv, .ptr b0 0, ()) ∧ i ≤ l.length ∧ m = l.length - i ∧ StOk i st ∧ st.length ≤ i ∧ goM l (l.drop i) i st = G ∧ HS g h' (StC tv st :: ObjC b0 [sv] :: R))
    ?_ (m := l.length) (by show _ < 1000000000; omega) ⟨0, [], .nils, rfl, by omega, by omega, StOk.nil, by simp, hG, H1.nils (e := 3) (sz := 1)⟩
  clear H1
  rintro m ih s h2 hih ⟨i, st, tv, rfl, hi, rfl, hs, hsl, hgo, H⟩
  dsimp only
  by_cases hlt : i < l.length
  · rw [goM_drop hlt] at hgo
    have hrow := ins_row hlt
    generalize l[i] = x at *
    with_reducible (refine ww_lssT (by omega) ?_; refine ww_condT ?_)
    refine ww_idxN (S.sl H.drop.drop) hlt (by omega) hrow ?_
    refine ww_boxA H rfl fun b h4 H4 => ?_
    refine ww_stH H4 (b := b) .here rfl (by simp [encI]) rfl fun h5 H5 => ?_
    have H5 : HS g h5 (ObjC b (encI x) :: StC tv st :: ObjC b0 [sv] :: R) := H5
    clear H H4
    refine ww_ldNH H5 (b := b0) (off := 0) (.there (.there .here)) rfl (by omega) rfl ?_
    refine ww_ldNH H5 (b := b) (off := 0) .here rfl (by omega) rfl ?_
    refine ww_call (cwrong_ok (by omega) H5 S.more.more.more (Rd.own (e := 3) (.there .here)) (fun y hy => by have := hs y hy; omega) (by omega)) ?_
    rintro _ h6 ⟨rfl, H6⟩
    by_cases hw : wrongM l st x = 0
    · rw [if_pos hw] at hgo
      have ho := wrong_open hw
      refine ww_neqF hw ?_
      unfold encI at H6
      with_reducible (refine ww_condF ?_; refine ww_field0 ?_; refine ww_ldH (by assumption) .here (by with_unfolding_all exact rfl) ?_)
      refine ww_call (cbehind_ok (by omega) (H6.sel (.there .here)) (fun h => ho.2.1 (.inl h)) (by omega)) ?_
      intro tv2 h8 H8
      have hbl := behind_len st i x.1
      with_reducible (refine ww_addI (by omega) ?_)
      exact hih (l.length - (i + 1)) _ _ (by omega) ⟨i + 1, behindM st i x.1, tv2, rfl, by omega, rfl, hs.behind, by omega, hgo, H8.sub (.cons .here (.drop .refl))⟩
    · rw [if_neg hw] at hgo
      subst hgo
      rw [hC]
      refine ww_neqT hw ?_
      with_reducible (refine ww_condT ?_; refine ww_leave ?_)
      exact ww_ret ⟨rfl, H6.drop.drop.drop⟩
  · obtain rfl : i = l.length := by omega
    rw [List.drop_length] at hgo
    have hgo : (Sum.inr st : (Int × Int) ⊕ List Int) = G := hgo
    subst hgo
    dsimp only at hC
    refine ww_lssF (by omega) (ww_condF ?_)
    refine ww_len (H.sl (e := 3) .here) ?_
    by_cases h0 : st = []
    · subst h0
      rw [if_pos rfl] at hC
      rw [show ([] : List Int).length = 0 from rfl]
      with_reducible (refine ww_gtrF (by omega) ?_; refine ww_condF ?_; refine ww_joinS ?_; (try dsimp only))
      refine ww_ldNH H (b := b0) (off := 0) (.there .here) rfl (by omega) rfl ?_
      refine ww_ldNH H (b := b0) (off := 0) (.there .here) rfl (by omega) rfl ?_
      refine ww_call (cregions_ok (by omega) H S.more.more hG hl) ?_
      intro av h3 H3
      refine ww_call (cjumps_ok (a := regM l 0 []) (by omega) H3 S.more.more.more (by rw [regM_len]; exact Rd.own .here) regM_len (goM_may hG) hl) ?_
      rintro _ h4 ⟨rfl, H4⟩
      rw [← hC]
      with_reducible (refine ww_extract (by with_unfolding_all exact rfl) ?_; refine ww_extract (by with_unfolding_all exact rfl) ?_)
      refine ww_chkNH H (b := b0) (.there .here) rfl H3 (.there (.there .here)) rfl rfl (by omega) (HS.lt H (.there .here)) ?_
      with_reducible (refine ww_leave ?_)
      exact ww_ret ⟨rfl, H4.drop.drop.drop⟩
    · rw [if_neg h0] at hC
      subst hC
      have hl0 : st.length ≠ 0 := fun h => h0 (List.eq_nil_of_length_eq_zero h)
      with_reducible (refine ww_gtrT (by omega) ?_; refine ww_condT ?_)
      refine ww_call (cinmost_ok (by omega) (H.sl (e := 3) .here) (by omega)) ?_
      rintro _ h3 ⟨rfl, rfl⟩
      with_reducible (refine ww_leave ?_)
      exact ww_ret ⟨rfl, H.drop.drop⟩

/-- of the inmost part's beginnings: in bounds where they are asked for -/
theorem reg_in {l : List InsT} {st' : List Int} (hg : goM l l 0 [] = .inr st') {i : Nat} (hi : i < l.length) (ho : 0 < endsM l[i].1 ∨ l[i].1 = 16) : ∃ p : Nat, (regM l 0 [])[i]? = some (p : Int) ∧ p < l.length := by
  obtain ⟨s, h1, h2⟩ := regM_get (r := l) (i := 0) (j := i) (st := []) hi
  obtain ⟨h3, h4⟩ := h2 hg StOk.nil
  have hw := h4 l[i] (List.getElem?_eq_getElem hi)
  have hne := (wrong_open hw).2.1 ho
  have hin := h3.inmost hne
  refine ⟨(inmostM s).toNat, ?_, by omega⟩
  rw [h1]
  congr 1
  omega
theorem cmatch_ok {n : Nat} (hn : 7 ≤ n) {l : List InsT} {sv : AV} (H : HS g h R) (S : Rd g R 5 l.length sv (l.flatMap encI)) (hl : l.length ≤ 100) :
    wp (callT tab rtab n (.fn 19 [] []) [.agg [sv]] h) fun v h' => One v ∧ HS g h' R := by
  (refine ww_fn (g := W19) rfl (by omega) fun k hk => ?_; show wp (S19 (callT tab rtab k) _ _) _; unfold S19; try simp only [Int.ofNat_eq_natCast])
  refine ww_boxA H (one_all1 (sl_one1 (S.sl H))) fun b0 h1 H1 => ?_
  have hLV := (S.sl H).lenV
  clear H
  refine ww_ldNH H1 (b := b0) (off := 0) .here rfl (by omega) rfl ?_
  refine ww_call (ccheck_ok (by omega) H1 S.more hl) ?_
  rintro _ h2 ⟨rfl, H2⟩
  clear H1
  with_reducible (refine ww_extract (by with_unfolding_all exact rfl) ?_; refine ww_extract (by with_unfolding_all exact rfl) ?_)
  by_cases c0 : (checkM l).2 = 0
  rotate_left
  · refine ww_neqT c0 ?_
    with_reducible (refine ww_condT ?_)
    exact ww_ret ⟨⟨rfl, rfl⟩, H2.drop⟩
  have hG := check_zero c0
  refine ww_neqF c0 ?_
  with_reducible (refine ww_condF ?_)
  refine ww_ldNH H2 (b := b0) (off := 0) .here rfl (by omega) rfl ?_
  refine ww_call (cregions_ok (by omega) H2 S.more hG hl) ?_
  intro av h3 H3
  clear H2
  with_reducible (refine ww_field0 ?_; refine ww_ldH (by assumption) (.there .here) (by with_unfolding_all exact rfl) ?_; refine ww_lenV (by assumption) ?_)
  refine ww_makeN (n := l.length) H3 (by omega) fun ev h4 H4 => ?_
  refine ww_lenH H4 .here ?_
  clear H3
  have hA : (regM l 0 []).length = l.length := regM_len
  have hin := fun {i : Nat} => reg_in (i := i) hG
  generalize regM l 0 [] = A at *
  refine ww_iter (fun m s h' => ∃ (i : Nat) (es : List Int), s = (.int .i64 (i : Int), .int .i64 (l.length : Int), ev, av, .ptr b0 0, ()) ∧ i ≤ l.length ∧ m = l.length - i ∧ es.length = l.length ∧
    HS g h' (SliC 3 1 l.length ev (es.map (.int .i64)) :: SliC 3 1 l.length av (A.map (.int .i64)) :: ObjC b0 [sv] :: R))
    ?_ (m := l.length) (by show _ < 1000000000; omega) ⟨0, List.replicate l.length 0, rfl, by omega, by omega, by simp, by rw [List.map_replicate]; exact H4⟩
  clear H4
  rintro m ih s h5 hih ⟨i, es, rfl, hi, rfl, hes, H⟩
  dsimp only
  by_cases hlt : i < l.length
  · with_reducible (refine ww_lssT (by omega) ?_; refine ww_condT ?_)
    refine ww_slI H hlt ⟨rfl, rfl⟩ fun h6 H6 => ?_
    with_reducible (refine ww_addI (by omega) ?_)
    have h0 : (AV.int .i64 (Int.negSucc 0)) = .int .i64 (-1) := rfl
    rw [h0, ← List.map_set] at H6
    exact hih (l.length - (i + 1)) _ _ (by omega) ⟨i + 1, es.set i (-1), rfl, by omega, rfl, by rw [List.length_set]; exact hes, H6⟩
  obtain rfl : i = l.length := by omega
  clear hih
  with_reducible (refine ww_lssF (by omega) ?_; refine ww_condF ?_; refine ww_field0 ?_; refine ww_ldH (by assumption) (.there (.there .here)) (by with_unfolding_all exact rfl) ?_; refine ww_lenV (by assumption) ?_)
  refine ww_iter (fun m s h' => ∃ (i : Nat) (es : List Int), s = (.int .i64 (i : Int), .int .i64 (l.length : Int), sv, ev, av, .ptr b0 0, ()) ∧ i ≤ l.length ∧ m = l.length - i ∧ es.length = l.length ∧
    HS g h' (SliC 3 1 l.length ev (es.map (.int .i64)) :: SliC 3 1 l.length av (A.map (.int .i64)) :: ObjC b0 [sv] :: R))
    ?_ (m := l.length) (by show _ < 1000000000; omega) ⟨0, es, rfl, by omega, by omega, hes, H⟩
  clear H hes es
  rintro m ih s h6 hih ⟨i, es, rfl, hi, rfl, hes, H⟩
  dsimp only
  by_cases hlt : i < l.length
  · have hrow := ins_row hlt
    have hini := hin hlt
    generalize l[i] = x at *
    refine ww_lssT (by omega) (ww_condT ?_)
    refine ww_joinD [] (fun s h' => ∃ es : List Int, s = (.int .i64 (i : Int), .int .i64 (l.length : Int), sv, ev, av, .ptr b0 0, ()) ∧ es.length = l.length ∧
      HS g h' (SliC 3 1 l.length ev (es.map (.int .i64)) :: SliC 3 1 l.length av (A.map (.int .i64)) :: ObjC b0 [sv] :: R)) ?_ ?_
    rotate_left
    · rintro s h7 ⟨es, rfl, hes, H7⟩
      with_reducible (refine ww_addI (by omega) ?_)
      exact hih (l.length - (i + 1)) _ _ (by omega) ⟨i + 1, es, rfl, by omega, rfl, hes, H7⟩
    intro j hj
    refine ww_idxN (S.sl H.drop.drop.drop) hlt (by omega) hrow ?_
    refine ww_boxA H rfl fun b h7 H7 => ?_
    refine ww_stH H7 (b := b) .here rfl (by simp [encI]) rfl fun h8 H8 => ?_
    have H8 : HS g h8 (ObjC b [.int .i64 x.1, .int .i64 x.2.1, .int .i64 x.2.2.1, .int .i64 x.2.2.2.1, .int .u64 x.2.2.2.2] :: SliC 3 1 l.length ev (es.map (.int .i64)) :: SliC 3 1 l.length av (A.map (.int .i64)) :: ObjC b0 [sv] :: R) := H8
    clear H H7
    with_reducible (refine ww_field0 ?_; refine ww_ldH (by assumption) .here (by with_unfolding_all exact rfl) ?_)
    refine ww_call (cends_ok (by omega)) ?_
    rintro _ h8 ⟨rfl, rfl⟩
    by_cases he : 0 < endsM x.1
    · obtain ⟨p, hp, hpl⟩ := hini (.inl he)
      refine ww_gtrT he (ww_condT ?_)
      refine ww_idx1 (H8.sl (.there (.there .here))) (x := .int .i64 (p : Int)) (by rw [List.getElem?_map, hp]; rfl) ?_
      refine ww_slI (H8.sel (.there .here)) hpl ⟨rfl, rfl⟩ fun h9 H9 => ?_
      rw [← List.map_set] at H9
      exact hj _ _ ⟨_, rfl, by rw [List.length_set]; exact hes, H9.sub (.cons .here (.cons (.there .here) (.cons (.there .here) (.drop .refl))))⟩
    · refine ww_gtrF he (ww_condF ?_)
      exact hj _ _ ⟨es, rfl, hes, H8.drop⟩
  obtain rfl : i = l.length := by omega
  clear hih
  with_reducible (refine ww_lssF (by omega) ?_; refine ww_condF ?_; refine ww_field0 ?_; refine ww_ldH (by assumption) (.there (.there .here)) (by with_unfolding_all exact rfl) ?_; refine ww_lenV (by assumption) ?_)
  refine ww_iter (fun m s h' => ∃ (i : Nat) (es : List Int), s = (.int .i64 (i : Int), .int .i64 (l.length : Int), sv, ev, av, ()) ∧ i ≤ l.length ∧ m = l.length - i ∧ es.length = l.length ∧
    HS g h' (SliC 3 1 l.length ev (es.map (.int .i64)) :: SliC 3 1 l.length av (A.map (.int .i64)) :: ObjC b0 [sv] :: R))
    ?_ (m := l.length) (by show _ < 1000000000; omega) ⟨0, es, rfl, by omega, by omega, hes, H⟩
  clear H hes es
  rintro m ih s h6 hih ⟨i, es, rfl, hi, rfl, hes, H⟩
  dsimp only
  by_cases hlt : i < l.length
  · have hrow := ins_row hlt
    have hini := hin hlt
    generalize l[i] = x at *
    refine ww_lssT (by omega) (ww_condT ?_)
    refine ww_joinD [] (fun s h' => ∃ es : List Int, s = (.int .i64 (i : Int), .int .i64 (l.length : Int), sv, ev, av, ()) ∧ es.length = l.length ∧
      HS g h' (SliC 3 1 l.length ev (es.map (.int .i64)) :: SliC 3 1 l.length av (A.map (.int .i64)) :: ObjC b0 [sv] :: R)) ?_ ?_
    rotate_left
    · rintro s h7 ⟨es, rfl, hes, H7⟩
      with_reducible (refine ww_addI (by omega) ?_)
      exact hih (l.length - (i + 1)) _ _ (by omega) ⟨i + 1, es, rfl, by omega, rfl, hes, H7⟩
    intro j hj
    refine ww_idxN (S.sl H.drop.drop.drop) hlt (by omega) hrow ?_
    refine ww_boxA H rfl fun b h7 H7 => ?_
    refine ww_stH H7 (b := b) .here rfl (by simp [encI]) rfl fun h8 H8 => ?_
    have H8 : HS g h8 (ObjC b [.int .i64 x.1, .int .i64 x.2.1, .int .i64 x.2.2.1, .int .i64 x.2.2.2.1, .int .u64 x.2.2.2.2] :: SliC 3 1 l.length ev (es.map (.int .i64)) :: SliC 3 1 l.length av (A.map (.int .i64)) :: ObjC b0 [sv] :: R) := H8
    clear H H7
    with_reducible (refine ww_field0 ?_; refine ww_ldH (by assumption) .here (by with_unfolding_all exact rfl) ?_)
    by_cases he : x.1 = 16
    · obtain ⟨p, hp, hpl⟩ := hini (.inr he)
      refine ww_eqlT he (ww_condT ?_)
      refine ww_idx1 (H8.sl (.there (.there .here))) (x := .int .i64 (p : Int)) (by rw [List.getElem?_map, hp]; rfl) ?_
      refine ww_idx1 (H8.sl (.there .here)) (x := .int .i64 (es[p]'(by omega))) (by rw [List.getElem?_map, List.getElem?_eq_getElem (by omega)]; rfl) ?_
      refine ww_slI (H8.sel (.there .here)) hlt ⟨rfl, rfl⟩ fun h9 H9 => ?_
      rw [← List.map_set] at H9
      exact hj _ _ ⟨_, rfl, by rw [List.length_set]; exact hes, H9.sub (.cons .here (.cons (.there .here) (.cons (.there .here) (.drop .refl))))⟩
    · refine ww_eqlF he (ww_condF ?_)
      exact hj _ _ ⟨es, rfl, hes, H8.drop⟩
  obtain rfl : i = l.length := by omega
  with_reducible (refine ww_lssF (by omega) ?_; refine ww_condF ?_; refine ww_leave ?_)
  exact ww_ret ⟨H.one .here, H.drop.drop.drop⟩
end Go.Proofs.YtpnlmmecgkjehaaGreatDoor
