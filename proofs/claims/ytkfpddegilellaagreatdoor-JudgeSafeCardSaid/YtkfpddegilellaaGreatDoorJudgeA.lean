/- Is an operation safe: both sides tell safeM. -/
import Derived.Test.YtkfpddegilellaaGreatDoorJudgeM
import Derived.Test.YtkfpddegilellaaGreatDoorVwX
namespace Go.Proofs.YtkfpddegilellaaGreatDoor
open Go Go.Ae
set_option maxRecDepth 100000

variable {g h : AH} {L R : List SP}

/-- what the lists show -/
def LsS (h : AH) (v : AV) (ls : List (List Int)) : Prop := ∃ rs : List AV, rs.length = ls.length ∧ Sl (fun _ => True) h 1 ls.length v rs ∧
  ∀ (i : Nat) (r : AV) (l : List Int), rs[i]? = some r → ls[i]? = some l → Sl (fun _ => True) h 1 l.length r (l.map (.int .i64))
theorem lls_sl {v : AV} {o : Option (List (List Int))} (H : HS g h L) (s : Sel L (LlsC v o) R) : LsS h v (o.getD []) := by
  have H := H.sel s
  cases o with
  | none =>
    obtain ⟨e, H9⟩ := HS.purE H
    subst e
    exact ⟨[], rfl, (H9.nils (e := 0) (sz := 1)).sl .here, fun i r l hr => by simp at hr⟩
  | some ls =>
    have H : HS g h (LlC v ls :: R) := H
    obtain ⟨rs, e, H⟩ := LlC.E H
    refine ⟨rs, e, HS.sl (e := 38) H .here, fun i r l hr hl => ?_⟩
    obtain ⟨T, s⟩ := zip_selI hr hl
    have H2 := (H.drop.allE).sel (Sel.app s R)
    exact HS.sl (e := 3) H2 .here
theorem rowM_len {ws : List Int} {bs : List BlkT} {c : Int} : ∀ {m : Nat} {w : Int} {acc r : List Int}, rowM ws bs c m w acc = some r → r.length ≤ acc.length + m := by
  intro m
  induction m with
  | zero => intro w acc r h; cases h
  | succ m ih =>
    intro w acc r h
    rw [rowM_s] at h
    split at h
    · cases h; omega
    · split at h
      · have := ih h
        simp at this
        omega
      · cases h
theorem rowsM_len {ws : List Int} {bs : List BlkT} : ∀ {k : Nat} {c : Int} {ls r : List (List Int)}, (∀ l ∈ ls, l.length ≤ 301) → rowsM ws bs k c ls = some r → r.length = ls.length + k ∧ ∀ l ∈ r, l.length ≤ 301 := by
  intro k
  induction k with
  | zero => intro c ls r hl h; cases h; exact ⟨rfl, hl⟩
  | succ k ih =>
    intro c ls r hl h
    unfold rowsM at h
    cases hr : rowM ws bs c 301 (wordAt ws c.toNat) [] with
    | none => rw [hr] at h; cases h
    | some row =>
      rw [hr] at h
      have h9 := rowM_len hr
      have := ih (fun l hl2 => by
        rcases List.mem_append.1 hl2 with h2 | h2
        · exact hl l h2
        · rw [List.mem_singleton] at h2; subst h2; simpa using h9) h
      refine ⟨?_, this.2⟩
      have h10 := this.1
      simp at h10
      omega
theorem lls_b {zs : List Int} {ls : List (List Int)} (h : listsM zs = some ls) : ls.length = 4 ∧ (∀ l ∈ ls, l.length ≤ 301) ∧ ∀ l ∈ ls, ∀ x ∈ l, 15 ≤ x ∧ x < 256 := by
  obtain ⟨bs, hb, hi⟩ := lists_in h
  obtain ⟨k1, _, k3⟩ := blocksM_ok hb
  refine ⟨?_, ?_, fun l hl x hx => ?_⟩
  · obtain ⟨_, _, h2⟩ := Option.bind_eq_some_iff.1 h
    simpa using (rowsM_len (fun l hl => by simp at hl) h2).1
  · obtain ⟨_, _, h2⟩ := Option.bind_eq_some_iff.1 h
    exact (rowsM_len (fun l hl => by simp at hl) h2).2
  · obtain ⟨b, hm, e, _⟩ := hi l hl x hx
    have := k1 b hm
    omega
/-- an operation -/
structure OpL (xs : List AV) (kd at_ : Int) : Prop where
  len : xs.length = 10
  one : allOne xs = true
  k : xs[0]? = some (.int .i64 kd)
  a : xs[1]? = some (.int .i64 at_)
theorem safe_n {zs : List Int} {kd at_ : Int} (h : listsM zs = none) : safeM zs kd at_ = true := by unfold safeM; rw [h]; split <;> rfl
theorem safe_k {zs : List Int} {kd at_ : Int} (h : kd ≠ 1 ∧ kd ≠ 2) : safeM zs kd at_ = true := by unfold safeM; rw [if_pos h]
theorem safe_s {zs : List Int} {kd at_ : Int} {ls : List (List Int)} (h : ¬ (kd ≠ 1 ∧ kd ≠ 2)) (hs : listsM zs = some ls) : safeM zs kd at_ = !hitLs at_ 1 ls := by unfold safeM; rw [if_neg h, hs]
theorem hitL_c {at_ x : Int} {c : Nat} {l : List Int} : hitL at_ c (x :: l) = (decide (x < at_ ∧ at_ < x + sizeA (c : Int)) || hitL at_ c l) := rfl
theorem hitLs_c {at_ : Int} {c : Nat} {l : List Int} {r : List (List Int)} : hitLs at_ c (l :: r) = (hitL at_ c l || hitLs at_ (c + 1) r) := rfl

theorem asafe_ok {n : Nat} (hn : 7 ≤ n) {zs : List Int} {a0 : AV} {xs : List AV} {kd at_ : Int} (H : HS g h R) (S : Rd g R 1 zs.length a0 (zs.map (.int .u64))) (hz : ∀ z ∈ zs, 0 ≤ z ∧ z < 18446744073709551616) (o : OpL xs kd at_) :
    wp (callT tab rtab n (.fn 10 [] []) [a0, .agg xs] h) fun r h' => r = .bool (safeM zs kd at_) ∧ HS g h' R := by
  (refine ww_fn (g := W10) rfl (by omega) fun k hk => ?_; show wp (S10 (callT tab rtab k) _ _ _) _; unfold S10; try simp only [Int.ofNat_eq_natCast])
  refine ww_boxA H o.one fun b h1 H1 => ?_
  refine ww_field0 (ww_ldH H1 .here o.k (ww_neq ?_))
  refine ww_join (fun s g' => ∃ (r : AV) (u x : Bool), s = (r, .bool u, .ptr b 0, a0, ()) ∧ g' = h1 ∧ (u = true → r = .bool x) ∧ ((u && x) = decide (kd ≠ 1 ∧ kd ≠ 2))) ?_ ?_
  · intro j hj
    refine ww_want (fun hl => ww_field0 (ww_ldH H1 .here o.k (ww_neq (hj _ _ ⟨_, _, decide (kd ≠ 1), rfl, rfl, fun _ => rfl, ?_⟩)))) (fun hl => hj _ _ ⟨_, _, false, rfl, rfl, fun h => absurd hl (not_not_intro (of_decide_eq_true h)), ?_⟩)
    · rw [← Bool.decide_and]; exact decide_eq_decide.2 (by omega)
    · rw [Bool.and_false]; symm; exact decide_eq_false (by omega)
  rintro s h2 ⟨r, u, x, rfl, e2, hr, hux⟩
  rw [e2]
  dsimp only
  refine ww_pickAnd2 hr ?_
  rw [hux]
  refine ww_cond (fun hk => ww_ret ⟨by rw [safe_k hk], H1.drop⟩) fun hk => ?_
  clear hux hr e2
  refine ww_call (alists_ok (by omega) H1 S.more hz) ?_
  rintro _ h3 ⟨v, rfl, H2⟩
  cases ho : listsM zs with
  | none =>
    rw [ho] at H2
    simp only [Option.isSome_none, Bool.false_eq_true, if_false]
    with_reducible (refine ww_extract (by with_unfolding_all exact rfl) ?_; refine ww_extract (by with_unfolding_all exact rfl) ?_; refine ww_neqT (by omega) ?_; refine ww_condT ?_)
    exact ww_ret ⟨by rw [safe_n ho], H2.drop.drop⟩
  | some ls =>
    rw [ho] at H2
    obtain ⟨hb0, hb1, hb2⟩ := lls_b ho
    have hS := safe_s (at_ := at_) hk ho
    simp only [Option.isSome_some, if_true]
    obtain ⟨rs, e, T, M⟩ := lls_sl H2 .here
    have T : Sl (fun _ => True) h3 1 ls.length v rs := T
    have e : rs.length = ls.length := e
    with_reducible (refine ww_extract (by with_unfolding_all exact rfl) ?_; refine ww_extract (by with_unfolding_all exact rfl) ?_; refine ww_neqF (by omega) ?_; refine ww_condF ?_)
    refine ww_len T ?_
    refine ww_iter (fun m s h' => ∃ i : Nat, s = (.int .i64 (i : Int), .int .i64 (ls.length : Int), v, .ptr b 0, ()) ∧ i ≤ ls.length ∧ m = ls.length - i ∧ h' = h3 ∧ safeM zs kd at_ = !hitLs at_ (i + 1) (ls.drop i)) ?_ (m := ls.length) (by show _ < 1000000000; omega) ⟨0, rfl, by omega, by omega, rfl, hS⟩
    rintro m ih s h4 hih ⟨i, rfl, hi1, rfl, e4, hh⟩
    rw [e4]
    dsimp only
    refine ww_lssC (fun hlt => ww_condT ?_) fun hge => ww_condF (ww_leave (ww_ret ⟨?_, H2.drop.drop⟩))
    · have hi : i < ls.length := by omega
      refine ww_idx1 T (x := rs[i]) (List.getElem?_eq_getElem (by omega)) ?_
      have T2 := M i _ _ (List.getElem?_eq_getElem (by omega)) (List.getElem?_eq_getElem hi)
      have T2 : Sl (fun _ => True) h3 1 ls[i].length rs[i] (ls[i].map (.int .i64)) := T2
      have hl1 := hb1 ls[i] (List.getElem_mem hi)
      have hl2 := hb2 ls[i] (List.getElem_mem hi)
      rw [List.drop_eq_getElem_cons hi, hitLs_c] at hh
      generalize ls[i] = l at *
      generalize rs[i] = rv at *
      refine ww_len T2 ?_
      refine ww_iter (fun m s h' => ∃ j : Nat, s = (.int .i64 (j : Int), .int .i64 (l.length : Int), rv, .int .i64 (i : Int), .int .i64 (ls.length : Int), v, .int .i64 (i : Int), .ptr b 0, ()) ∧ j ≤ l.length ∧ m = l.length - j ∧ h' = h3 ∧ safeM zs kd at_ = !(hitL at_ (i + 1) (l.drop j) || hitLs at_ (i + 1 + 1) (ls.drop (i + 1)))) ?_ (m := l.length) (by show _ < 1000000000; omega) ⟨0, rfl, by omega, by omega, rfl, hh⟩
      clear hh
      rintro m2 ih2 s h5 hih2 ⟨j, rfl, hj1, rfl, e5, hh⟩
      rw [e5]
      dsimp only
      refine ww_lssC (fun hlt => ww_condT ?_) fun hge => ww_condF ?_
      · have hj : j < l.length := by omega
        refine ww_idx1 T2 (x := .int .i64 l[j]) (by rw [List.getElem?_map, List.getElem?_eq_getElem hj]; rfl) ?_
        have hx := hl2 l[j] (List.getElem_mem hj)
        rw [List.drop_eq_getElem_cons hj, hitL_c] at hh
        generalize l[j] = x at *
        have hs := sizeA_b ((i + 1 : Nat) : Int)
        refine ww_join (fun s g' => ∃ t : Bool, s = (.bool t, .int .i64 (j : Int), .int .i64 (l.length : Int), rv, .int .i64 (i : Int), .int .i64 (ls.length : Int), v, .int .i64 (i : Int), .ptr b 0, ()) ∧ g' = h3 ∧ t = decide (x < at_ ∧ at_ < x + sizeA ((i + 1 : Nat) : Int))) ?_ ?_
        · intro k hk2
          refine ww_field0 (ww_ldH H2 (.there .here) o.a (ww_gtr ?_))
          refine ww_want (fun hl => ?_) (fun hl => ww_pick (fun h => absurd h hl) fun _ => hk2 _ _ ⟨_, rfl, rfl, by symm; exact decide_eq_false (by omega)⟩)
          refine ww_field0 (ww_ldH H2 (.there .here) o.a (ww_addI (by omega) ?_))
          rw [show (i : Int) + ((1 : Nat) : Int) = ((i + 1 : Nat) : Int) by omega]
          refine ww_call (asize_ok (by omega)) ?_
          rintro _ h6 ⟨rfl, e6⟩
          rw [e6]
          refine ww_addI (by omega) (ww_lss (ww_pick (fun _ => ww_chkH H2 (.there .here) o.a H2 (.there .here) o.a (H2.lt (.there .here)) (hk2 _ _ ⟨_, rfl, rfl, decide_eq_decide.2 (by omega)⟩)) fun h => absurd hl h))
        · rintro s h6 ⟨t, rfl, e6, ht⟩
          rw [e6]
          dsimp only
          rw [← ht] at hh
          cases t
          · refine ww_condF (ww_addI (by omega) (hih2 (l.length - (j + 1)) _ _ (by omega) ⟨j + 1, rfl, by omega, rfl, rfl, ?_⟩))
            rw [hh, Bool.false_or]
          · exact ww_condT (ww_leave (ww_ret ⟨by rw [hh]; rfl, H2.drop.drop⟩))
      · refine ww_addI (by omega) (hih (ls.length - (i + 1)) _ _ (by omega) ⟨i + 1, rfl, by omega, rfl, rfl, ?_⟩)
        rw [hh, List.drop_of_length_le (by omega : l.length ≤ j)]
        rfl
    · rw [hh, List.drop_of_length_le (by omega : ls.length ≤ i)]
      rfl

theorem rsafe_ok {n : Nat} (hn : 7 ≤ n) {zs : List Int} {a0 : AV} {xs : List AV} {kd at_ : Int} (H : HS g h R) (S : Rd g R 1 zs.length a0 (zs.map (.int .u64))) (hz : ∀ z ∈ zs, 0 ≤ z ∧ z < 18446744073709551616) (o : OpL xs kd at_) :
    wp (callT tab rtab n (.fn 13 [] []) [a0, .agg xs] h) fun r h' => r = .bool (safeM zs kd at_) ∧ HS g h' R := by
  (refine ww_fn (g := W13) rfl (by omega) fun k hk => ?_; show wp (S13 (callT tab rtab k) _ _ _) _; unfold S13; try simp only [Int.ofNat_eq_natCast])
  refine ww_boxA H o.one fun b h1 H1 => ?_
  refine ww_call (rlists_ok (by omega) H1 S.more hz) ?_
  rintro _ h3 ⟨v, rfl, H2⟩
  cases ho : listsM zs with
  | none =>
    rw [ho] at H2
    simp only [Option.isSome_none]
    with_reducible (refine ww_extract (by with_unfolding_all exact rfl) ?_; refine ww_extract (by with_unfolding_all exact rfl) ?_; refine ww_notF ?_; refine ww_joinS ?_; (try dsimp only); refine ww_wantTF ?_; (try dsimp only); refine ww_joinS ?_; (try dsimp only); refine ww_wantU ?_; (try dsimp only); refine ww_joinS ?_; (try dsimp only); refine ww_wantTF ?_; (try dsimp only); refine ww_pickT ?_; refine ww_condT ?_)
    exact ww_ret ⟨by rw [safe_n ho], H2.drop.drop⟩
  | some ls =>
    rw [ho] at H2
    obtain ⟨hb0, hb1, hb2⟩ := lls_b ho
    simp only [Option.isSome_some]
    obtain ⟨rs, e, T, M⟩ := lls_sl H2 .here
    have T : Sl (fun _ => True) h3 1 ls.length v rs := T
    have e : rs.length = ls.length := e
    refine ww_extract rfl (ww_extract rfl (ww_notT ?_))
    refine ww_join (fun s g' => s = (.bool (decide (¬ kd = 1)), .bool false, v, .ptr b 0, ()) ∧ g' = h3) ?_ ?_
    · intro j hj
      exact ww_wantFF (ww_field0 (ww_ldH H2 (.there .here) o.k (ww_neq (hj _ _ ⟨rfl, rfl⟩))))
    rintro s h4 ⟨rfl, e4⟩
    rw [e4]
    dsimp only
    refine ww_join (fun s g' => ∃ (r : AV) (x : Bool), s = (r, .bool (decide (¬ kd = 1)), .bool false, v, .ptr b 0, ()) ∧ g' = h3 ∧ (decide (¬ kd = 1) = true → r = .bool x) ∧ (decide (¬ kd = 1) && x) = decide (kd ≠ 1 ∧ kd ≠ 2)) ?_ ?_
    · intro j hj
      refine ww_want (fun hl => ww_field0 (ww_ldH H2 (.there .here) o.k (ww_neq (hj _ _ ⟨_, decide (kd ≠ 2), rfl, rfl, fun _ => rfl, ?_⟩)))) (fun hl => hj _ _ ⟨_, false, rfl, rfl, fun h => absurd hl (not_not_intro (of_decide_eq_true h)), ?_⟩)
      · rw [← Bool.decide_and]
      · rw [Bool.and_false]; symm; exact decide_eq_false (by omega)
    rintro s h5 ⟨r, x, rfl, e5, hr, hux⟩
    rw [e5]
    dsimp only
    refine ww_join (fun s g' => s = (.bool (decide (kd ≠ 1 ∧ kd ≠ 2)), .bool false, v, .ptr b 0, ()) ∧ g' = h3) ?_ ?_
    · intro j hj
      refine ww_wantFF (ww_pickAnd2 hr ?_)
      rw [hux]
      exact hj _ _ ⟨rfl, rfl⟩
    clear hux hr
    rintro s h6 ⟨rfl, e6⟩
    rw [e6]
    dsimp only
    refine ww_pickF (ww_cond (fun hk => ww_ret ⟨by rw [safe_k hk], H2.drop.drop⟩) fun hk => ?_)
    have hS := safe_s (at_ := at_) hk ho
    refine ww_iter (fun m s h' => ∃ i : Nat, s = (.int .i64 (i : Int), v, .ptr b 0, ()) ∧ i ≤ ls.length ∧ m = ls.length - i ∧ h' = h3 ∧ safeM zs kd at_ = !hitLs at_ (i + 1) (ls.drop i)) ?_ (m := ls.length) (by show _ < 1000000000; omega) ⟨0, rfl, by omega, by omega, rfl, hS⟩
    rintro m ih s h4 hih ⟨i, rfl, hi1, rfl, e4, hh⟩
    rw [e4]
    dsimp only
    refine ww_len T (ww_lssC (fun hlt => ww_condT ?_) fun hge => ww_condF (ww_leave (ww_ret ⟨?_, H2.drop.drop⟩)))
    · have hi : i < ls.length := by omega
      have gi : rs[i]? = some rs[i] := List.getElem?_eq_getElem (by omega)
      have T2 := M i _ _ gi (List.getElem?_eq_getElem hi)
      have T2 : Sl (fun _ => True) h3 1 ls[i].length rs[i] (ls[i].map (.int .i64)) := T2
      have hl1 := hb1 ls[i] (List.getElem_mem hi)
      have hl2 := hb2 ls[i] (List.getElem_mem hi)
      rw [List.drop_eq_getElem_cons hi, hitLs_c] at hh
      generalize ls[i] = l at *
      generalize rs[i] = rv at *
      refine ww_iter (fun m s h' => ∃ j : Nat, s = (.int .i64 (j : Int), .int .i64 (i : Int), v, .ptr b 0, ()) ∧ j ≤ l.length ∧ m = l.length - j ∧ h' = h3 ∧ safeM zs kd at_ = !(hitL at_ (i + 1) (l.drop j) || hitLs at_ (i + 1 + 1) (ls.drop (i + 1)))) ?_ (m := l.length) (by show _ < 1000000000; omega) ⟨0, rfl, by omega, by omega, rfl, hh⟩
      clear hh
      rintro m2 ih2 s h5 hih2 ⟨j, rfl, hj1, rfl, e5, hh⟩
      rw [e5]
      dsimp only
      refine ww_idx1 T gi (ww_len T2 (ww_lssC (fun hlt => ww_condT ?_) fun hge => ww_condF ?_))
      · have hj : j < l.length := by omega
        refine ww_idx1 T gi (ww_idx1 T2 (x := .int .i64 l[j]) (by rw [List.getElem?_map, List.getElem?_eq_getElem hj]; rfl) ?_)
        have hx := hl2 l[j] (List.getElem_mem hj)
        rw [List.drop_eq_getElem_cons hj, hitL_c] at hh
        generalize l[j] = x at *
        have hs := sizeA_b ((i + 1 : Nat) : Int)
        refine ww_join (fun s g' => ∃ t : Bool, s = (.bool t, .int .i64 (j : Int), .int .i64 (i : Int), v, .ptr b 0, ()) ∧ g' = h3 ∧ t = decide (x < at_ ∧ at_ < x + sizeA ((i + 1 : Nat) : Int))) ?_ ?_
        · intro k hk2
          refine ww_field0 (ww_ldH H2 (.there .here) o.a (ww_gtr ?_))
          refine ww_want (fun hl => ?_) (fun hl => ww_pick (fun h => absurd h hl) fun _ => hk2 _ _ ⟨_, rfl, rfl, by symm; exact decide_eq_false (by omega)⟩)
          refine ww_field0 (ww_ldH H2 (.there .here) o.a (ww_addI (by omega) ?_))
          rw [show (i : Int) + ((1 : Nat) : Int) = ((i + 1 : Nat) : Int) by omega]
          refine ww_call (rsize_ok (by omega)) ?_
          rintro _ h6 ⟨rfl, e6⟩
          rw [e6]
          refine ww_addI (by omega) (ww_lss (ww_pick (fun _ => ww_chkH H2 (.there .here) o.a H2 (.there .here) o.a (H2.lt (.there .here)) (hk2 _ _ ⟨_, rfl, rfl, decide_eq_decide.2 (by omega)⟩)) fun h => absurd hl h))
        · rintro s h6 ⟨t, rfl, e6, ht⟩
          rw [e6]
          dsimp only
          rw [← ht] at hh
          cases t
          · refine ww_condF (ww_addI (by omega) (hih2 (l.length - (j + 1)) _ _ (by omega) ⟨j + 1, rfl, by omega, rfl, rfl, ?_⟩))
            rw [hh, Bool.false_or]
          · exact ww_condT (ww_leave (ww_ret ⟨by rw [hh]; rfl, H2.drop.drop⟩))
      · refine ww_addI (by omega) (hih (ls.length - (i + 1)) _ _ (by omega) ⟨i + 1, rfl, by omega, rfl, rfl, ?_⟩)
        rw [hh, List.drop_of_length_le (by omega : l.length ≤ j)]
        rfl
    · rw [hh, List.drop_of_length_le (by omega : ls.length ≤ i)]
      rfl
end Go.Proofs.YtkfpddegilellaaGreatDoor
