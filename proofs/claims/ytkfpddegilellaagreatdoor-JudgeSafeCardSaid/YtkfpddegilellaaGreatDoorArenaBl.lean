/- The blocks of words: by the program, by the document's own text. -/
import Derived.Test.YtkfpddegilellaaGreatDoorWordsM
import Derived.Test.YtkfpddegilellaaGreatDoorArenaR
namespace Go.Proofs.YtkfpddegilellaaGreatDoor
open Go Go.Ae
set_option maxRecDepth 100000

variable {g h : AH} {L R : List SP}

/-- blocks that were told: none, or their row -/
def BlsC (v : AV) (o : Option (List BlkT)) : SP := match o with
  | none => .pur (v = .nils)
  | some bs => SliC 76 3 bs.length v (bs.flatMap encB)

theorem wordAt_get {zs : List Int} {i : Nat} (hi : i < zs.length) : (zs.map (AV.int .u64))[i]? = some (.int .u64 (wordAt zs i)) := by
  unfold wordAt
  rw [List.getElem?_map, List.getElem?_eq_getElem hi]; rfl
theorem wordAt_b {zs : List Int} (hz : ∀ z ∈ zs, 0 ≤ z ∧ z < 18446744073709551616) (i : Nat) : 0 ≤ wordAt zs i ∧ wordAt zs i < 18446744073709551616 := by
  unfold wordAt
  cases h : zs[i]? with
  | none => simp
  | some z => exact hz z (List.mem_of_getElem? h)

theorem ablocks_ok {n : Nat} (hn : 3 ≤ n) {zs : List Int} {a0 : AV} (H : HS g h R) (S : Rd g R 1 zs.length a0 (zs.map (.int .u64))) (hz : ∀ z ∈ zs, 0 ≤ z ∧ z < 18446744073709551616) :
    wp (callT tab rtab n (.fn 19 [] []) [a0] h) fun r h' => ∃ v, r = .tup [v, .int .i64 (if (blocksM zs).isSome then 0 else 12)] ∧ HS g h' (BlsC v (blocksM zs) :: R) := by
  (refine ww_fn (g := W19) rfl (by omega) fun k hk => ?_; show wp (S19 (callT tab rtab k) _ _) _; unfold S19; try simp only [Int.ofNat_eq_natCast])
  have h5 := wordAt_b hz 5
  have hBM : blocksM zs = if zs.length < 32 ∨ 256 < zs.length ∨ wordAt zs 5 < 14 ∨ (zs.length : Int) < wordAt zs 5 then none else parseM zs (wordAt zs 5) 301 14 [] := rfl
  generalize blocksM zs = oB at *
  refine ww_len (S.sl H) ?_
  by_cases c1 : zs.length < 32
  · rw [if_pos (.inl c1)] at hBM
    subst hBM
    with_reducible (refine ww_lssT (by omega) ?_; refine ww_joinS ?_; (try dsimp only); refine ww_wantTF ?_; (try dsimp only); refine ww_pickT ?_; refine ww_joinS ?_; (try dsimp only); refine ww_wantTF ?_; (try dsimp only); refine ww_pickT ?_; refine ww_joinS ?_; (try dsimp only); refine ww_wantTF ?_; (try dsimp only); refine ww_pickT ?_; refine ww_condT ?_)
    exact ww_ret ⟨.nils, rfl, H.purI rfl⟩
  by_cases c2 : 256 < zs.length
  · rw [if_pos (.inr (.inl c2))] at hBM
    subst hBM
    with_reducible (refine ww_lssF (by omega) ?_; refine ww_joinS ?_; (try dsimp only); refine ww_wantFF ?_; (try dsimp only); refine ww_gtrT (by omega) ?_; refine ww_pickF ?_; refine ww_joinS ?_; (try dsimp only); refine ww_wantTF ?_; (try dsimp only); refine ww_pickT ?_; refine ww_joinS ?_; (try dsimp only); refine ww_wantTF ?_; (try dsimp only); refine ww_pickT ?_; refine ww_condT ?_)
    exact ww_ret ⟨.nils, rfl, H.purI rfl⟩
  with_reducible (refine ww_lssF (by omega) ?_; refine ww_joinS ?_; (try dsimp only); refine ww_wantFF ?_; (try dsimp only); refine ww_gtrF (by omega) ?_; refine ww_pickF ?_; refine ww_joinS ?_; (try dsimp only); refine ww_wantFF ?_; (try dsimp only))
  refine ww_idx1 (i := 5) (S.sl H) (wordAt_get (by omega)) ?_
  by_cases c3 : wordAt zs 5 < 14
  · rw [if_pos (.inr (.inr (.inl c3)))] at hBM
    subst hBM
    with_reducible (refine ww_lssT (by omega) ?_; refine ww_pickF ?_; refine ww_joinS ?_; (try dsimp only); refine ww_wantTF ?_; (try dsimp only); refine ww_pickT ?_; refine ww_condT ?_)
    exact ww_ret ⟨.nils, rfl, H.purI rfl⟩
  with_reducible (refine ww_lssF (by omega) ?_; refine ww_pickF ?_; refine ww_joinS ?_; (try dsimp only); refine ww_wantFF ?_; (try dsimp only))
  refine ww_idx1 (i := 5) (S.sl H) (wordAt_get (by omega)) ?_
  with_reducible (refine ww_convIU (by omega) ?_)
  by_cases c4 : (zs.length : Int) < wordAt zs 5
  · rw [if_pos (.inr (.inr (.inr c4)))] at hBM
    subst hBM
    with_reducible (refine ww_gtrT (by omega) ?_; refine ww_pickF ?_; refine ww_condT ?_)
    exact ww_ret ⟨.nils, rfl, H.purI rfl⟩
  rw [if_neg (by omega)] at hBM
  with_reducible (refine ww_gtrF (by omega) ?_; refine ww_pickF ?_; refine ww_condF ?_)
  refine ww_idx1 (i := 5) (S.sl H) (wordAt_get (by omega)) ?_
  with_reducible (refine ww_convII (by omega) ?_)
  generalize hend : wordAt zs 5 = e at *
  refine ww_iter (fun m s h' => ∃ (a : Int) (acc : List BlkT) (ov : AV), s = (.int .i64 a, ov, .int .i64 e, a0, ()) ∧ 14 + 3 * (acc.length : Int) ≤ a ∧ a ≤ e ∧ m = (e - a).toNat ∧ oB = parseM zs e (301 - acc.length) a acc ∧
    HS g h' (SliC 76 3 acc.length ov (acc.flatMap encB) :: R)) ?_ (m := (e - 14).toNat) (by show _ < 1000000000; omega) ⟨14, [], .nils, rfl, by simp, by omega, rfl, hBM, H.nils⟩
  clear H
  rintro m ih s h' hih ⟨a, acc, ov, rfl, h1, h2, rfl, hP, H⟩
  dsimp only
  obtain ⟨f, hf⟩ : ∃ f, 301 - acc.length = f + 1 := ⟨300 - acc.length, by omega⟩
  rw [hf, parseM_s] at hP
  refine ww_lssC (fun hlt => ww_condT ?_) fun hge => ww_condF (ww_leave (ww_ret ?_))
  · rw [if_neg (by omega)] at hP
    obtain ⟨p, rfl⟩ : ∃ p : Nat, a = (p : Int) := ⟨a.toNat, by omega⟩
    refine ww_idx1 (S.sl H.drop) (wordAt_get (by omega)) ?_
    refine ww_call (aheader_ok (by omega)) ?_
    rintro _ h' ⟨rfl, rfl⟩
    have hhb := headA_b (wordAt zs p)
    have hsb := sizeA_b (headA (wordAt zs p)).1
    have hhd : hd zs (p : Int) = headA (wordAt zs p) := rfl
    rw [hhd] at hP
    generalize headA (wordAt zs p) = q at *
    with_reducible (refine ww_extract (by with_unfolding_all exact rfl) ?_; refine ww_extract (by with_unfolding_all exact rfl) ?_; refine ww_addI (by omega) ?_)
    refine ww_call (asize_ok (by omega)) ?_
    rintro _ h' ⟨rfl, rfl⟩
    with_reducible (refine ww_addI (by omega) ?_)
    by_cases q0 : q.1 = 0
    · rw [if_pos (.inl q0)] at hP
      rw [hP]
      with_reducible (refine ww_eqlT (by omega) ?_; refine ww_joinS ?_; (try dsimp only); refine ww_wantTF ?_; (try dsimp only); refine ww_pickT ?_; refine ww_condT ?_; refine ww_leave ?_)
      exact ww_ret ⟨.nils, rfl, H.drop.purI rfl⟩
    by_cases q1 : e < (p : Int) + 1 + sizeA q.1
    · rw [if_pos (.inr q1)] at hP
      rw [hP]
      with_reducible (refine ww_eqlF (by omega) ?_; refine ww_joinS ?_; (try dsimp only); refine ww_wantFF ?_; (try dsimp only); refine ww_gtrT (by omega) ?_; refine ww_pickF ?_; refine ww_condT ?_; refine ww_leave ?_)
      exact ww_ret ⟨.nils, rfl, H.drop.purI rfl⟩
    rw [if_neg (by omega)] at hP
    have hs2 := sizeA_pos (x := q.1) (by omega)
    with_reducible (refine ww_eqlF (by omega) ?_; refine ww_joinS ?_; (try dsimp only); refine ww_wantFF ?_; (try dsimp only); refine ww_gtrF (by omega) ?_; refine ww_pickF ?_; refine ww_condF ?_; refine ww_addI (by omega) ?_; refine ww_build (by with_unfolding_all exact rfl) ?_)
    refine ww_buildSH (n := 1) (l := [.int .i64 ((p : Int) + 1), .int .i64 q.1, .bool q.2]) (sz := 3) H rfl rfl rfl rfl fun v5 h5 H5 => ?_
    refine ww_appH (H5.sel (.there .here)) (H5.sl .here) (by omega) (by omega) rfl fun v6 h6 H6 => ?_
    refine hih (e - ((p : Int) + 1 + sizeA q.1)).toNat _ _ (by omega) ⟨(p : Int) + 1 + sizeA q.1, acc ++ [((p : Int) + 1, q.1, q.2)], v6, rfl, by simp; omega, by omega, rfl, ?_, ?_⟩
    · rw [hP, show 301 - (acc ++ [((p : Int) + 1, q.1, q.2)]).length = f by simp; omega]
    · rw [List.flatMap_append, List.length_append]
      exact H6.sub (.cons .here (.drop (.refl)))
  · rw [if_pos (by omega)] at hP
    rw [hP]
    exact ⟨ov, rfl, H⟩
theorem rblocks_ok {n : Nat} (hn : 2 ≤ n) {zs : List Int} {a0 : AV} (H : HS g h R) (S : Rd g R 1 zs.length a0 (zs.map (.int .u64))) (hz : ∀ z ∈ zs, 0 ≤ z ∧ z < 18446744073709551616) :
    wp (callT tab rtab n (.fn 24 [] []) [a0] h) fun r h' => ∃ v, r = .tup [v, .bool (blocksM zs).isSome] ∧ HS g h' (BlsC v (blocksM zs) :: R) := by
  (refine ww_fn (g := W24) rfl (by omega) fun k hk => ?_; show wp (S24 (callT tab rtab k) _ _) _; unfold S24; try simp only [Int.ofNat_eq_natCast])
  have h5 := wordAt_b hz 5
  have hBM : blocksM zs = if zs.length < 32 ∨ 256 < zs.length ∨ wordAt zs 5 < 14 ∨ (zs.length : Int) < wordAt zs 5 then none else parseM zs (wordAt zs 5) 301 14 [] := rfl
  generalize blocksM zs = oB at *
  refine ww_len (S.sl H) ?_
  by_cases c1 : zs.length < 32
  · rw [if_pos (.inl c1)] at hBM
    subst hBM
    with_reducible (refine ww_lssT (by omega) ?_; refine ww_joinS ?_; (try dsimp only); refine ww_wantTF ?_; (try dsimp only); refine ww_pickT ?_; refine ww_condT ?_)
    exact ww_ret ⟨.nils, rfl, H.purI rfl⟩
  with_reducible (refine ww_lssF (by omega) ?_; refine ww_joinS ?_; (try dsimp only); refine ww_wantFF ?_; (try dsimp only))
  refine ww_len (S.sl H) ?_
  by_cases c2 : 256 < zs.length
  · rw [if_pos (.inr (.inl c2))] at hBM
    subst hBM
    with_reducible (refine ww_gtrT (by omega) ?_; refine ww_pickF ?_; refine ww_condT ?_)
    exact ww_ret ⟨.nils, rfl, H.purI rfl⟩
  with_reducible (refine ww_gtrF (by omega) ?_; refine ww_pickF ?_; refine ww_condF ?_)
  refine ww_idx1 (i := 5) (S.sl H) (wordAt_get (by omega)) ?_
  refine ww_call (rplaceA_ok (by omega) h5.1) ?_
  rintro _ _ ⟨rfl, rfl⟩
  by_cases c3 : wordAt zs 5 < 14
  · rw [if_pos (.inr (.inr (.inl c3)))] at hBM
    subst hBM
    rw [if_neg (by omega)]
    with_reducible (refine ww_lssT (by omega) ?_; refine ww_joinS ?_; (try dsimp only); refine ww_wantTF ?_; (try dsimp only); refine ww_pickT ?_; refine ww_condT ?_)
    exact ww_ret ⟨.nils, rfl, H.purI rfl⟩
  by_cases c4 : (zs.length : Int) < wordAt zs 5
  · rw [if_pos (.inr (.inr (.inr c4)))] at hBM
    subst hBM
    by_cases c5 : 2147483648 ≤ wordAt zs 5
    · rw [if_pos c5]
      with_reducible (refine ww_lssT (by omega) ?_; refine ww_joinS ?_; (try dsimp only); refine ww_wantTF ?_; (try dsimp only); refine ww_pickT ?_; refine ww_condT ?_)
      exact ww_ret ⟨.nils, rfl, H.purI rfl⟩
    · rw [if_neg c5]
      with_reducible (refine ww_lssF (by omega) ?_; refine ww_joinS ?_; (try dsimp only); refine ww_wantFF ?_; (try dsimp only))
      refine ww_len (S.sl H) ?_
      with_reducible (refine ww_gtrT (by omega) ?_; refine ww_pickF ?_; refine ww_condT ?_)
      exact ww_ret ⟨.nils, rfl, H.purI rfl⟩
  rw [if_neg (by omega)] at hBM
  rw [if_neg (by omega)]
  with_reducible (refine ww_lssF (by omega) ?_; refine ww_joinS ?_; (try dsimp only); refine ww_wantFF ?_; (try dsimp only))
  refine ww_len (S.sl H) ?_
  with_reducible (refine ww_gtrF (by omega) ?_; refine ww_pickF ?_; refine ww_condF ?_)
  generalize hend : wordAt zs 5 = e at *
  refine ww_iter (fun m s h' => ∃ (a : Int) (acc : List BlkT) (ov : AV), s = (.int .i64 a, ov, .int .i64 e, a0, ()) ∧ 14 + 3 * (acc.length : Int) ≤ a ∧ a ≤ e ∧ m = (e - a).toNat ∧ oB = parseM zs e (301 - acc.length) a acc ∧
    HS g h' (SliC 76 3 acc.length ov (acc.flatMap encB) :: R)) ?_ (m := (e - 14).toNat) (by show _ < 1000000000; omega) ⟨14, [], .nils, rfl, by simp, by omega, rfl, hBM, H.nils⟩
  clear H
  rintro m ih s h' hih ⟨a, acc, ov, rfl, h1, h2, rfl, hP, H⟩
  dsimp only
  obtain ⟨f, hf⟩ : ∃ f, 301 - acc.length = f + 1 := ⟨300 - acc.length, by omega⟩
  rw [hf, parseM_s] at hP
  refine ww_lssC (fun hlt => ww_condT ?_) fun hge => ww_condF (ww_leave (ww_ret ?_))
  · rw [if_neg (by omega)] at hP
    obtain ⟨p, rfl⟩ : ∃ p : Nat, a = (p : Int) := ⟨a.toNat, by omega⟩
    have hwb := wordAt_b hz p
    have hhd : hd zs (p : Int) = headA (wordAt zs p) := rfl
    rw [hhd] at hP
    refine ww_idx1 (S.sl H.drop) (wordAt_get (by omega)) ?_
    generalize wordAt zs p = w at *
    refine ww_addI (by omega) (ww_gtr (ww_build rfl ?_))
    refine ww_boxA H rfl fun b h3 H3 => ww_stH H3 .here rfl (by show 0 + 3 ≤ 3; omega) rfl fun h4 H4 => ?_
    have H5 : HS g h4 (ObjC b [.int .i64 ((p : Int) + 1), .int .i64 0, .bool (decide (8 < w))] :: SliC 76 3 acc.length ov (acc.flatMap encB) :: R) := H4
    clear H3 H4 H
    by_cases w1 : 16 < w
    · have hq : (headA w).1 = 0 := by unfold headA; rw [if_neg (by omega), if_neg (by omega)]
      rw [if_pos (.inl hq)] at hP
      rw [hP]
      with_reducible (refine ww_gtrT (by omega) ?_; refine ww_condT ?_; refine ww_leave ?_)
      exact ww_ret ⟨.nils, rfl, H5.drop.drop.purI rfl⟩
    with_reducible (refine ww_gtrF (by omega) ?_; refine ww_condF ?_; refine ww_convII (by omega) ?_; refine ww_field0 ?_)
    refine ww_st1H H5 (b := b) .here ⟨rfl, rfl⟩ (by simp) fun h6 H6 => ?_
    simp only [List.set_cons_zero, List.set_cons_succ] at H6
    refine ww_joinD [] (fun s g' => s = (.ptr b 0, .int .i64 (p : Int), ov, .int .i64 e, a0, ()) ∧ HS g g' (ObjC b [.int .i64 ((p : Int) + 1), .int .i64 (if 8 < w then w - 8 else w), .bool (decide (8 < w))] :: SliC 76 3 acc.length ov (acc.flatMap encB) :: R)) ?_ ?_
    · intro j hj
      by_cases w8 : 8 < w
      · rw [decide_eq_true w8] at H6
        with_reducible (refine ww_field0 ?_; refine ww_ldH (by assumption) .here (by with_unfolding_all exact rfl) ?_; refine ww_condT ?_; refine ww_convII (by omega) ?_; refine ww_subI (by omega) ?_; refine ww_field0 ?_)
        refine ww_st1H H6 (b := b) .here ⟨rfl, rfl⟩ (by simp) fun h7 H7 => hj _ _ ⟨rfl, ?_⟩
        simp only [List.set_cons_zero, List.set_cons_succ] at H7
        rw [decide_eq_true w8, if_pos w8]
        exact H7
      · rw [decide_eq_false w8] at H6
        with_reducible (refine ww_field0 ?_; refine ww_ldH (by assumption) .here (by with_unfolding_all exact rfl) ?_; refine ww_condF ?_)
        refine hj _ _ ⟨rfl, ?_⟩
        rw [decide_eq_false w8, if_neg w8]
        exact H6
    rintro s g' ⟨rfl, H7⟩
    clear H5 H6
    dsimp only
    have hcl : 0 ≤ (if 8 < w then w - 8 else w) ∧ (if 8 < w then w - 8 else w) ≤ 8 := by split <;> omega
    have hc1 : 1 ≤ (if 8 < w then w - 8 else w) ∧ (if 8 < w then w - 8 else w) ≤ 4 → headA w = ((if 8 < w then w - 8 else w), decide (8 < w)) := by
      unfold headA
      by_cases w8 : 8 < w
      · rw [if_pos w8, decide_eq_true w8]; intro hh; rw [if_neg (by omega), if_pos (by omega)]
      · rw [if_neg w8, decide_eq_false w8]; intro hh; rw [if_pos (by omega)]
    have hc0 : ¬ (1 ≤ (if 8 < w then w - 8 else w) ∧ (if 8 < w then w - 8 else w) ≤ 4) → (headA w).1 = 0 := by
      unfold headA
      by_cases w8 : 8 < w
      · rw [if_pos w8]; intro hh; rw [if_neg (by omega), if_neg (by omega)]
      · rw [if_neg w8]; intro hh; rw [if_neg (by omega), if_neg (by omega)]
    generalize (if 8 < w then w - 8 else w) = cl at *
    with_reducible (refine ww_field0 ?_; refine ww_ldH (by assumption) .here (by with_unfolding_all exact rfl) ?_)
    refine ww_call (rsize_ok (by omega)) ?_
    rintro _ h8 ⟨rfl, rfl⟩
    by_cases c5 : 1 ≤ cl ∧ cl ≤ 4
    · rw [hc1 c5] at hP
      dsimp only at hP
      have hs2 := sizeA_pos c5
      have hs3 := sizeA_b cl
      with_reducible (refine ww_eqlF (by omega) ?_; refine ww_joinS ?_; (try dsimp only); refine ww_wantFF ?_; (try dsimp only); refine ww_addI (by omega) ?_; refine ww_field0 ?_; refine ww_ldH (by assumption) .here (by with_unfolding_all exact rfl) ?_)
      refine ww_call (rsize_ok (by omega)) ?_
      rintro _ h8 ⟨rfl, rfl⟩
      with_reducible (refine ww_addI (by omega) ?_)
      by_cases q1 : e < (p : Int) + 1 + sizeA cl
      · rw [if_pos (.inr q1)] at hP
        rw [hP]
        with_reducible (refine ww_gtrT (by omega) ?_; refine ww_pickF ?_; refine ww_condT ?_; refine ww_leave ?_)
        exact ww_ret ⟨.nils, rfl, H7.drop.drop.purI rfl⟩
      rw [if_neg (by omega)] at hP
      with_reducible (refine ww_gtrF (by omega) ?_; refine ww_pickF ?_; refine ww_condF ?_)
      refine ww_ldNH H7 (b := b) (l := [.int .i64 ((p : Int) + 1), .int .i64 cl, .bool (decide (8 < w))]) .here rfl (by omega) rfl ?_
      refine ww_buildSH (n := 1) (l := [.int .i64 ((p : Int) + 1), .int .i64 cl, .bool (decide (8 < w))]) (sz := 3) H7 rfl rfl rfl rfl fun v5 h5 H5 => ?_
      refine ww_appH (H5.sel (.there (.there .here))) (H5.sl .here) (by omega) (by omega) rfl fun v6 h6 H6 => ?_
      with_reducible (refine ww_addI (by omega) ?_; refine ww_field0 ?_; refine ww_ldH (by assumption) (.there (.there .here)) (by with_unfolding_all exact rfl) ?_)
      refine ww_call (rsize_ok (by omega)) ?_
      rintro _ h8 ⟨rfl, rfl⟩
      with_reducible (refine ww_addI (by omega) ?_)
      refine hih (e - ((p : Int) + 1 + sizeA cl)).toNat _ _ (by omega) ⟨(p : Int) + 1 + sizeA cl, acc ++ [((p : Int) + 1, cl, decide (8 < w))], v6, rfl, by simp; omega, by omega, rfl, ?_, ?_⟩
      · rw [hP, show 301 - (acc ++ [((p : Int) + 1, cl, decide (8 < w))]).length = f by simp; omega]
      · rw [List.flatMap_append, List.length_append]
        exact H6.sub (.cons .here (.drop (.drop (.refl))))
    · rw [if_pos (.inl (hc0 c5))] at hP
      rw [hP, sizeA_zero c5]
      with_reducible (refine ww_eqlT (by omega) ?_; refine ww_joinS ?_; (try dsimp only); refine ww_wantTF ?_; (try dsimp only); refine ww_pickT ?_; refine ww_condT ?_; refine ww_leave ?_)
      exact ww_ret ⟨.nils, rfl, H7.drop.drop.purI rfl⟩
  · rw [if_pos (by omega)] at hP
    rw [hP]
    exact ⟨ov, rfl, H⟩
end Go.Proofs.YtkfpddegilellaaGreatDoor
