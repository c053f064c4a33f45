/- The lists of words: by the program, by the document's own text. -/
import Derived.Test.YtkfpddegilellaaGreatDoorArenaBl
namespace Go.Proofs.YtkfpddegilellaaGreatDoor
open Go Go.Ae
set_option maxRecDepth 100000

variable {g h : AH} {L R : List SP}

/-- rows of numbers -/
def RowI (v : AV) (l : List Int) : SP := SliC 3 1 l.length v (l.map (.int .i64))
def LlC (v : AV) (ls : List (List Int)) : SP := .ex fun rs : List AV => .all [.pur (rs.length = ls.length), SliC 38 1 ls.length v rs, .all (List.zipWith RowI rs ls)]
def LlsC (v : AV) (o : Option (List (List Int))) : SP := match o with
  | none => .pur (v = .nils)
  | some ls => LlC v ls
theorem LlC.E {v : AV} {ls : List (List Int)} (H : HS g h (LlC v ls :: R)) : ∃ rs : List AV, rs.length = ls.length ∧ HS g h (SliC 38 1 ls.length v rs :: .all (List.zipWith RowI rs ls) :: R) := by
  obtain ⟨rs, H⟩ := H.exE
  obtain ⟨e, H⟩ := HS.purE (H.allE)
  exact ⟨rs, e, H⟩
theorem LlC.I {v : AV} {ls : List (List Int)} {rs : List AV} (e : rs.length = ls.length) (H : HS g h (SliC 38 1 ls.length v rs :: .all (List.zipWith RowI rs ls) :: R)) : HS g h (LlC v ls :: R) :=
  HS.exI rs (HS.allI (HS.purI e H))
theorem zip_selI : ∀ {rs : List AV} {ls : List (List Int)} {i : Nat} {r : AV} {l : List Int}, rs[i]? = some r → ls[i]? = some l → ∃ T, Sel (List.zipWith RowI rs ls) (RowI r l) T := by
  intro rs
  induction rs with
  | nil => intro ls i r l h; simp at h
  | cons b rs ih =>
    intro ls i r l h1 h2
    cases ls with
    | nil => simp at h2
    | cons y ls =>
      cases i with
      | zero =>
        simp at h1 h2
        subst h1; subst h2
        exact ⟨_, .here⟩
      | succ i =>
        obtain ⟨T, s⟩ := ih (ls := ls) (i := i) (by simpa using h1) (by simpa using h2)
        exact ⟨_, .there s⟩
/-- one row more behind -/
theorem HS.allSnoc {rs : List AV} {ls : List (List Int)} {r : AV} {l : List Int} (e : rs.length = ls.length) (H : HS g h (RowI r l :: .all (List.zipWith RowI rs ls) :: R)) : HS g h (.all (List.zipWith RowI (rs ++ [r]) (ls ++ [l])) :: R) := by
  have e2 : List.zipWith RowI (rs ++ [r]) (ls ++ [l]) = List.zipWith RowI rs ls ++ [RowI r l] := by rw [List.zipWith_append e]; rfl
  rw [e2]
  have H1 : HS g h (.all (List.zipWith RowI rs ls) :: RowI r l :: R) := H.sub (.cons (.there .here) (.refl))
  have H2 := H1.allE
  refine HS.allI ?_
  rw [List.append_assoc]
  exact H2

/-! ### does a number stand in a row? -/
theorem aindexI_ok {D : Nat → Prop} {n : Nat} (hn : 1 ≤ n) {x : Int} {v : AV} {l : List Int} (S : Sl D h 1 l.length v (l.map (.int .i64))) (hl : l.length < 1000000) :
    wp (callT tab rtab n (.fn 49 [] []) [v, .int .i64 x] h) fun r h' => (∃ i : Int, r = .int .i64 i ∧ (0 ≤ i ↔ x ∈ l)) ∧ h' = h := by
  (refine ww_fn (g := W49) rfl (by omega) fun k hk => ?_; show wp (S49 (callT tab rtab k) _ _ _) _; unfold S49; try simp only [Int.ofNat_eq_natCast])
  refine ww_len S ?_
  refine ww_iter (fun m s h' => ∃ i : Nat, s = (.int .i64 (i : Int), .int .i64 (l.length : Int), .int .i64 x, v, ()) ∧ i ≤ l.length ∧ m = l.length - i ∧ h' = h ∧ x ∉ l.take i)
    ?_ (m := l.length) (by show _ < 1000000000; omega) ⟨0, rfl, by omega, by omega, rfl, by simp⟩
  rintro m ih s h' hih ⟨i, rfl, h1, rfl, rfl, hno⟩
  dsimp only
  refine ww_lssC (fun hlt => ww_condT ?_) fun hge => ww_condF (ww_leave (ww_ret ⟨⟨_, rfl, ?_⟩, rfl⟩))
  · have hi : i < l.length := by omega
    refine ww_idx1 (i := i) S (x := .int .i64 l[i]) (by rw [List.getElem?_map, List.getElem?_eq_getElem hi]; rfl) ?_
    refine ww_eqlC (fun he => ww_condT (ww_leave (ww_ret ⟨⟨_, rfl, ⟨fun _ => ?_, fun _ => by omega⟩⟩, rfl⟩))) fun hne => ww_condF (ww_addI (by omega) (hih (l.length - (i + 1)) _ _ (by omega) ⟨i + 1, rfl, by omega, rfl, rfl, ?_⟩))
    · rw [he]; exact List.getElem_mem hi
    · rw [List.take_succ_eq_append_getElem hi, List.mem_append, List.mem_singleton]
      rintro (h | h)
      · exact hno h
      · exact hne h
  · rw [List.take_of_length_le (by omega)] at hno
    exact ⟨fun h => absurd h (by show ¬ (0 : Int) ≤ -1; omega), fun h => absurd h hno⟩
theorem acontains_ok {D : Nat → Prop} {n : Nat} (hn : 2 ≤ n) {x : Int} {v : AV} {l : List Int} (S : Sl D h 1 l.length v (l.map (.int .i64))) (hl : l.length < 1000000) :
    wp (callT tab rtab n (.fn 36 [] []) [v, .int .i64 x] h) fun r h' => r = .bool (decide (x ∈ l)) ∧ h' = h := by
  (refine ww_fn (g := W36) rfl (by omega) fun k hk => ?_; show wp (S36 (callT tab rtab k) _ _ _) _; unfold S36; try simp only [Int.ofNat_eq_natCast])
  refine ww_call (aindexI_ok (by omega) S hl) ?_
  rintro _ _ ⟨⟨i, rfl, hi⟩, rfl⟩
  refine ww_geq (ww_ret ⟨?_, rfl⟩)
  congr 1
  exact decide_eq_decide.2 hi

/-- the first block that is so -/
theorem bindex_ok {n : Nat} (hn : 2 ≤ n) {w c : Int} {v : AV} {bw bc : Nat} {bs : List BlkT} {R1 R2 R3 : List SP} (H : HS g h L) (s : Sel L (SliC 76 3 bs.length v (bs.flatMap encB)) R1) (s1 : Sel L (ObjC bw [.int .u64 w]) R2) (s2 : Sel L (ObjC bc [.int .i64 c]) R3)
    (hb : ∀ b ∈ bs, 0 ≤ b.1 ∧ b.1 < 1000000) (hl : bs.length < 1000000) :
    wp (callT tab rtab n (.fn 34 [] []) [v, .fn 35 [] [.ptr bw 0, .ptr bc 0]] h) fun r h' => HS g h' L ∧
      ((∃ i : Nat, r = .int .i64 (i : Int) ∧ bs[i]? = some (w, c, false)) ∨ (r = .int .i64 (-1) ∧ (w, c, false) ∉ bs)) := by
  (refine ww_fn (g := W34) rfl (by omega) fun k hk => ?_; show wp (S34 (callT tab rtab k) _ _ _) _; unfold S34; try simp only [Int.ofNat_eq_natCast])
  refine ww_len (H.sl s) ?_
  refine ww_iter (fun m st h' => ∃ i : Nat, st = (.int .i64 (i : Int), .int .i64 (bs.length : Int), .fn 35 [] [.ptr bw 0, .ptr bc 0], v, ()) ∧ i ≤ bs.length ∧ m = bs.length - i ∧ HS g h' L ∧ (w, c, false) ∉ bs.take i)
    ?_ (m := bs.length) (by show _ < 1000000000; omega) ⟨0, rfl, by omega, by omega, H, by simp⟩
  rintro m ih st h' hih ⟨i, rfl, h1, rfl, H, h2⟩
  dsimp only
  refine ww_lssC (fun hlt => ww_condT ?_) fun hge => ww_condF (ww_leave (ww_ret ⟨H, .inr ⟨rfl, ?_⟩⟩))
  · have hi : i < bs.length := by omega
    have hc : bs[i]? = some bs[i] := List.getElem?_eq_getElem hi
    have hbi := hb bs[i] (List.getElem_mem hi)
    refine ww_idxN (l := encB bs[i]) (H.sl s) hi (by omega) (enc_row (sz := 3) (fun _ => rfl) hc) ?_
    have hnext : (w, c, false) ≠ bs[i] → (w, c, false) ∉ bs.take (i + 1) := by
      intro hne
      rw [List.take_succ_eq_append_getElem hi, List.mem_append, List.mem_singleton]
      rintro (h | h)
      · exact h2 h
      · exact hne h
    refine ww_call (Q' := fun v h2 => v = .bool (decide (bs[i] = (w, c, false))) ∧ HS g h2 L) (ww_fc (g := W35) rfl (by omega) fun k hk => ?_) ?_
    · show wp (S35 (callT tab rtab k) _ _ _ _) _
      unfold S35
      refine ww_boxA H rfl fun b h3 H3 => ?_
      generalize bs[i] = bb at *
      obtain ⟨x, y, z⟩ := bb
      have H4 : HS g h3 (ObjC b [.int .i64 x, .int .i64 y, .bool z] :: L) := H3
      dsimp only at hbi
      refine ww_field0 (ww_ldH H4 .here rfl (ww_convIU (by omega) (ww_ldH H4 (.there s1) rfl ?_)))
      by_cases e1 : x = w
      · subst e1
        refine ww_eqlT rfl ?_
        with_reducible (refine ww_joinS ?_; (try dsimp only); refine ww_wantTT ?_; (try dsimp only); refine ww_field0 ?_; refine ww_ldH (by assumption) .here (by with_unfolding_all exact rfl) ?_)
        refine ww_ldH H4 (.there s2) rfl ?_
        by_cases e2 : y = c
        · subst e2
          with_reducible (refine ww_eqlT (by omega) ?_; refine ww_pickT ?_; refine ww_joinS ?_; (try dsimp only); refine ww_wantTT ?_; (try dsimp only); refine ww_field0 ?_; refine ww_ldH (by assumption) .here (by with_unfolding_all exact rfl) ?_)
          cases z
          · with_reducible (refine ww_notF ?_; refine ww_pickT ?_)
            exact ww_ret ⟨by simp, H3.drop⟩
          · with_reducible (refine ww_notT ?_; refine ww_pickT ?_)
            exact ww_ret ⟨by simp, H3.drop⟩
        · refine ww_eqlF e2 ?_
          with_reducible (refine ww_pickT ?_; refine ww_joinS ?_; (try dsimp only); refine ww_wantFT ?_; (try dsimp only); refine ww_pickF ?_)
          exact ww_ret ⟨by simp [e2], H3.drop⟩
      · refine ww_eqlF e1 ?_
        with_reducible (refine ww_joinS ?_; (try dsimp only); refine ww_wantFT ?_; (try dsimp only); refine ww_pickF ?_; refine ww_joinS ?_; (try dsimp only); refine ww_wantFT ?_; (try dsimp only); refine ww_pickF ?_)
        exact ww_ret ⟨by simp [e1], H3.drop⟩
    · rintro _ h3 ⟨rfl, H3⟩
      refine ww_cond (fun he => ww_leave (ww_ret ⟨H3, .inl ⟨i, rfl, by rw [hc, he]⟩⟩)) fun hne => ww_addI (by omega) ?_
      exact hih (bs.length - (i + 1)) _ _ (by omega) ⟨i + 1, rfl, by omega, rfl, H3, hnext fun h => hne h.symm⟩
  · rw [List.take_of_length_le (by omega)] at h2
    exact h2

theorem rowsM_s {ws : List Int} {bs : List BlkT} {k : Nat} {c : Int} {ls : List (List Int)} : rowsM ws bs (k + 1) c ls = (rowM ws bs c 301 (wordAt ws c.toNat) []).bind fun r => rowsM ws bs k (c + 1) (ls ++ [r]) := rfl
theorem mid_get {rs tl : List AV} {cv : AV} {k : Nat} (h : rs.length = k) : (rs ++ [cv] ++ tl)[k]? = some cv := by
  rw [List.append_assoc, List.getElem?_append_right (by omega), h, Nat.sub_self]; rfl
theorem mid_set {rs tl : List AV} {cv dv : AV} {k : Nat} (h : rs.length = k) : (rs ++ [cv] ++ tl).set k dv = rs ++ [dv] ++ tl := by
  rw [List.append_assoc, List.set_append_right _ _ (by omega), h, Nat.sub_self]; simp
theorem rep_mid {rs : List AV} {k : Nat} (hk : k < 4) : rs ++ List.replicate (4 - k) AV.nils = rs ++ [AV.nils] ++ List.replicate (3 - k) AV.nils := by
  rw [show 4 - k = (3 - k) + 1 by omega, List.replicate_succ, List.append_assoc]; rfl
theorem row_len {acc : List Int} {n : Nat} (hd : acc.Nodup) (hr : ∀ x ∈ acc, 15 ≤ x ∧ x < (n : Int)) (hn : n ≤ 256) : acc.length ≤ 256 := by
  have := nodup_le n acc hd fun x hx => by have := hr x hx; omega
  omega
theorem nodup_snoc {acc : List Int} {w : Int} (hd : acc.Nodup) (hw : w ∉ acc) : (acc ++ [w]).Nodup := by
  rw [List.nodup_append]
  exact ⟨hd, by simp, fun a ha b hb => by rw [List.mem_singleton] at hb; subst hb; rintro rfl; exact hw ha⟩

theorem alists_ok {n : Nat} (hn : 5 ≤ n) {zs : List Int} {a0 : AV} (H : HS g h R) (S : Rd g R 1 zs.length a0 (zs.map (.int .u64))) (hz : ∀ z ∈ zs, 0 ≤ z ∧ z < 18446744073709551616) :
    wp (callT tab rtab n (.fn 20 [] []) [a0] h) fun r h' => ∃ v, r = .tup [v, .int .i64 (if (listsM zs).isSome then 0 else 12)] ∧ HS g h' (LlsC v (listsM zs) :: R) := by
  (refine ww_fn (g := W20) rfl (by omega) fun k hk => ?_; show wp (S20 (callT tab rtab k) _ _) _; unfold S20; try simp only [Int.ofNat_eq_natCast])
  refine ww_call (ablocks_ok (by omega) H S hz) ?_
  rintro _ h1 ⟨bv, rfl, H⟩
  have hLM : listsM zs = (blocksM zs).bind fun bs => rowsM zs bs 4 1 [] := rfl
  generalize listsM zs = oL at *
  cases hB : blocksM zs with
  | none =>
    rw [hB] at H hLM
    have hLM : oL = none := hLM
    subst hLM
    simp only [Option.isSome_none, Bool.false_eq_true, if_false, Option.bind_none]
    obtain ⟨e, H9⟩ := HS.purE H
    subst e
    with_reducible (refine ww_extract (by with_unfolding_all exact rfl) ?_; refine ww_extract (by with_unfolding_all exact rfl) ?_; refine ww_neqT (by omega) ?_; refine ww_condT ?_)
    exact ww_ret ⟨.nils, rfl, H9.purI rfl⟩
  | some bs =>
    rw [hB] at H hLM
    have hL0 : rowsM zs bs 4 1 [] = oL := hLM.symm
    obtain ⟨hbo, hz1, hz2⟩ := blocksM_ok hB
    have H : HS g h1 (SliC 76 3 bs.length bv (bs.flatMap encB) :: R) := H
    simp only [Option.isSome_some, if_true, Option.bind_some]
    with_reducible (refine ww_extract (by with_unfolding_all exact rfl) ?_; refine ww_extract (by with_unfolding_all exact rfl) ?_; refine ww_neqF (by omega) ?_; refine ww_condF ?_)
    refine ww_makeN (n := 4) H (by omega) fun ov h2 H => ?_
    refine ww_box1 H ⟨rfl, rfl⟩ fun bc h3 H => ww_st1H H (b := bc) .here ⟨rfl, rfl⟩ (by simp) fun h4 H => ?_
    simp only [List.set_cons_zero] at H
    have hbl : bs.length < 1000000 := by
      unfold blocksM at hB
      split at hB
      · cases hB
      · have key : ∀ m a acc bs', (14 : Int) + 3 * acc.length ≤ a → a ≤ wordAt zs 5 → parseM zs (wordAt zs 5) m a acc = some bs' → 14 + 3 * (bs'.length : Int) ≤ wordAt zs 5 := by
          intro m
          induction m with
          | zero => intro a acc bs' _ _ h; cases h
          | succ m ih =>
            intro a acc bs' ha he h
            rw [parseM_s] at h
            split at h
            · cases h; omega
            · split at h
              · cases h
              · rename_i h2
                have hb := headA_b (wordAt zs a.toNat)
                have hp : ¬ (hd zs a).1 = 0 := fun hh => h2 (.inl hh)
                have hs := sizeA_pos (x := (hd zs a).1) (by unfold hd at *; omega)
                exact ih _ _ _ (by simp; omega) (by omega) h
        have := key _ _ _ _ (by simp) (by omega) hB
        omega
    refine ww_iter (fun m s h' => ∃ (k : Nat) (bc : Nat) (rs : List AV) (ls : List (List Int)), s = (.ptr bc 0, ov, bv, a0, ()) ∧ k ≤ 4 ∧ m = 4 - k ∧ rs.length = k ∧ ls.length = k ∧ oL = rowsM zs bs (4 - k) ((k : Int) + 1) ls ∧
      HS g h' (ObjC bc [.int .i64 ((k : Int) + 1)] :: SliC 38 1 4 ov (rs ++ List.replicate (4 - k) .nils) :: .all (List.zipWith RowI rs ls) :: SliC 76 3 bs.length bv (bs.flatMap encB) :: R))
      ?_ (m := 4) (by show 4 < 1000000000; omega) ⟨0, bc, [], [], rfl, by omega, by omega, rfl, rfl, hL0.symm, (HS.allI (A := []) H).sub (.cons (.there .here) (.cons (.there .here) (.cons .here (.cons .here .refl))))⟩
    clear H
    rintro m ih s h5 hih ⟨k, bc, rs, ls, rfl, hk, rfl, hrs, hls, hM, H⟩
    dsimp only
    with_reducible (refine ww_ldH (by assumption) .here (by with_unfolding_all exact rfl) ?_)
    by_cases hk4 : k < 4
    · with_reducible (refine ww_leqT (by omega) ?_; refine ww_condT ?_; refine ww_ldH (by assumption) .here (by with_unfolding_all exact rfl) ?_)
      refine ww_call (ahead_ok (by omega) (by omega)) ?_
      rintro _ h5 ⟨rfl, rfl⟩
      rw [show (k : Int) + 1 = ((k + 1 : Nat) : Int) by omega]
      refine ww_idx1 (S.sl H.drop.drop.drop.drop) (wordAt_get (by omega)) ?_
      have hw0 := wordAt_b hz (k + 1)
      refine ww_box1 H ⟨rfl, rfl⟩ fun bw h6 H => ww_st1H H (b := bw) .here ⟨rfl, rfl⟩ (by simp) fun h7 H => ?_
      simp only [List.set_cons_zero] at H
      rw [rep_mid hk4] at H
      rw [show 4 - k = (3 - k) + 1 by omega, rowsM_s, show ((k : Int) + 1).toNat = k + 1 by omega] at hM
      generalize hR0 : rowM zs bs ((k : Int) + 1) 301 (wordAt zs (k + 1)) [] = oR at hM
      refine ww_iter (fun m s h' => ∃ (bw : Nat) (w : Int) (acc : List Int) (cv : AV), s = (.ptr bw 0, .ptr bc 0, ov, bv, a0, ()) ∧ acc.Nodup ∧ (∀ x ∈ acc, 15 ≤ x ∧ x < (zs.length : Int)) ∧ (0 ≤ w ∧ w < 18446744073709551616) ∧ m = 256 - acc.length ∧
        oR = rowM zs bs ((k : Int) + 1) (301 - acc.length) w acc ∧
        HS g h' (ObjC bw [.int .u64 w] :: ObjC bc [.int .i64 ((k : Int) + 1)] :: SliC 3 1 acc.length cv (acc.map (.int .i64)) :: SliC 38 1 4 ov (rs ++ [cv] ++ List.replicate (3 - k) .nils) ::
          .all (List.zipWith RowI rs ls) :: SliC 76 3 bs.length bv (bs.flatMap encB) :: R))
        ?_ (m := 256) (by show 256 < 1000000000; omega) ⟨bw, _, [], .nils, rfl, List.nodup_nil, (fun x hx => by cases hx), hw0, by simp, hR0.symm, (H.nils).sub (.cons (.there .here) (.cons (.there .here) (.cons .here .refl)))⟩
      clear H
      rintro m2 ih2 s h8 hih2 ⟨bw, w, acc, cv, rfl, hnd, hrg, hw, rfl, hR, H⟩
      dsimp only
      have hal := row_len hnd hrg hz2
      obtain ⟨f, hf⟩ : ∃ f, 301 - acc.length = f + 1 := ⟨300 - acc.length, by omega⟩
      rw [hf, rowM_s] at hR
      with_reducible (refine ww_ldH (by assumption) .here (by with_unfolding_all exact rfl) ?_)
      by_cases w0 : w = 0
      · rw [if_pos w0] at hR
        rw [hR, Option.bind_some] at hM
        with_reducible (refine ww_neqF (by omega) ?_; refine ww_condF ?_; refine ww_ldH (by assumption) (.there .here) (by with_unfolding_all exact rfl) ?_)
        refine ww_box1 H ⟨rfl, rfl⟩ fun bc2 h9 H => ww_st1H H (b := bc2) .here ⟨rfl, rfl⟩ (by simp) fun h10 H => ?_
        simp only [List.set_cons_zero] at H
        with_reducible (refine ww_ldH (by assumption) .here (by with_unfolding_all exact rfl) ?_; refine ww_addI (by omega) ?_)
        refine ww_st1H H (b := bc2) .here ⟨rfl, rfl⟩ (by simp) fun h11 H => ?_
        simp only [List.set_cons_zero] at H
        refine hih (4 - (k + 1)) _ _ (by omega) ⟨k + 1, bc2, rs ++ [cv], ls ++ [acc], rfl, by omega, rfl, by simp [hrs], by simp [hls], ?_, ?_⟩
        · rw [hM, show 4 - (k + 1) = 3 - k by omega]; rfl
        · have H2 : HS g h11 (RowI cv acc :: .all (List.zipWith RowI rs ls) :: ObjC bc2 [.int .i64 ((k : Int) + 1 + ((1 : Nat) : Int))] :: SliC 38 1 4 ov (rs ++ [cv] ++ List.replicate (3 - k) .nils) :: SliC 76 3 bs.length bv (bs.flatMap encB) :: R) :=
            H.sub (.cons (.there (.there (.there .here))) (.cons (.there (.there (.there (.there .here)))) (.cons .here (.cons (.there (.there .here)) (.cons (.there (.there .here)) (.drop (.drop .refl)))))))
          have H3 := HS.allSnoc (hrs.trans hls.symm) H2
          rw [show 4 - (k + 1) = 3 - k by omega, show ((k + 1 : Nat) : Int) + 1 = (k : Int) + 1 + ((1 : Nat) : Int) by omega]
          exact H3.sub (.cons (.there .here) (.cons (.there .here) (.cons .here .refl)))
      · rw [if_neg w0] at hR
        with_reducible (refine ww_neqT (by omega) ?_; refine ww_condT ?_)
        refine ww_call (bindex_ok (by omega) H (.there (.there (.there (.there (.there .here))))) .here (.there .here) (fun b hb => by have := hbo b hb; omega) hbl) ?_
        rintro _ h9 ⟨H, ⟨i, rfl, hi⟩ | ⟨rfl, hno⟩⟩
        · have hmem : (w, (k : Int) + 1, false) ∈ bs := List.mem_of_getElem? hi
          have hil := (List.getElem?_eq_some_iff.1 hi).1
          have hwr := hbo _ hmem
          dsimp only at hwr
          have hcell : (bs.flatMap encB)[i * 3 + 0]? = some (.int .i64 w) := by rw [flat_get (sz := 3) encB (fun _ => rfl) _ _ _ (by omega), hi]; rfl
          obtain ⟨p, rfl⟩ : ∃ p : Nat, w = (p : Int) := ⟨w.toNat, by omega⟩
          with_reducible (refine ww_lssF (by omega) ?_; refine ww_joinS ?_; (try dsimp only); refine ww_wantFF ?_; (try dsimp only); refine ww_ldH (by assumption) (.there .here) (by with_unfolding_all exact rfl) ?_; refine ww_subI (by omega) ?_)
          rw [show (k : Int) + 1 - ((1 : Nat) : Int) = (k : Int) by omega]
          refine ww_idx1 (H.sl (.there (.there (.there .here)))) (mid_get hrs) ?_
          refine ww_idxF (H.sl (.there (.there (.there (.there (.there .here)))))) (by omega) hil hcell ?_
          refine ww_call (acontains_ok (by omega) (H.sl (.there (.there .here))) (by omega)) ?_
          rintro _ h9 ⟨rfl, rfl⟩
          by_cases hin : (p : Int) ∈ acc
          · rw [decide_eq_true hin]
            rw [if_neg (fun h => h.2 hin)] at hR
            rw [hR] at hM
            rw [hM]
            with_reducible (refine ww_pickF ?_; refine ww_condT ?_; refine ww_leave ?_)
            exact ww_ret ⟨.nils, rfl, (H.sub (.drop (.drop (.drop (.drop (.drop (.drop .refl))))))).purI rfl⟩
          · rw [decide_eq_false hin]
            rw [if_pos ⟨hmem, hin⟩] at hR
            with_reducible (refine ww_pickF ?_; refine ww_condF ?_; refine ww_joinS ?_; (try dsimp only); refine ww_ldH (by assumption) (.there .here) (by with_unfolding_all exact rfl) ?_; refine ww_subI (by omega) ?_; refine ww_ldH (by assumption) (.there .here) (by with_unfolding_all exact rfl) ?_; refine ww_subI (by omega) ?_)
            rw [show (k : Int) + 1 - ((1 : Nat) : Int) = (k : Int) by omega]
            refine ww_idx1 (H.sl (.there (.there (.there .here)))) (mid_get hrs) ?_
            refine ww_idxF (H.sl (.there (.there (.there (.there (.there .here)))))) (by omega) hil hcell ?_
            refine ww_buildSH (n := 1) (l := [.int .i64 (p : Int)]) (sz := 1) H rfl rfl rfl rfl fun v10 h10 H10 => ?_
            refine ww_appH (H10.sel (.there (.there (.there .here)))) (H10.sl .here) (by omega) (by omega) rfl fun v11 h11 H11 => ?_
            refine ww_slI (H11.sel (.there (.there (.there (.there .here))))) (by omega) (H11.one .here) fun h12 H12 => ?_
            rw [mid_set hrs] at H12
            with_reducible (refine ww_chkH (by assumption) (.there (.there .here)) (by with_unfolding_all exact rfl) (by assumption) (.there (.there (.there .here))) (by with_unfolding_all exact rfl) (HS.lt (by assumption) (.there .here)) ?_)
            refine ww_idxF (H12.sl (.there (.there (.there (.there (.there (.there .here))))))) (by omega) hil hcell ?_
            have HR : HS g h12 R := H12.sub (.drop (.drop (.drop (.drop (.drop (.drop (.drop .refl)))))))
            refine ww_idx1 (S.sl HR) (wordAt_get (by omega)) ?_
            refine ww_st1H H12 (b := bw) (.there (.there (.there .here))) ⟨rfl, rfl⟩ (by simp) fun h13 H13 => ?_
            simp only [List.set_cons_zero] at H13
            with_reducible (refine ww_ldH (by assumption) .here (by with_unfolding_all exact rfl) ?_)
            refine ww_box1 H13 ⟨rfl, rfl⟩ fun bw2 h14 H14 => ww_st1H H14 (b := bw2) .here ⟨rfl, rfl⟩ (by simp) fun h15 H15 => ?_
            simp only [List.set_cons_zero] at H15
            have hnd2 := nodup_snoc hnd hin
            have hrg2 : ∀ x ∈ acc ++ [(p : Int)], 15 ≤ x ∧ x < (zs.length : Int) := by
              intro x hx
              rcases List.mem_append.1 hx with hx | hx
              · exact hrg x hx
              · rw [List.mem_singleton] at hx; subst hx; exact hwr
            have hal2 := row_len hnd2 hrg2 hz2
            rw [List.length_append, List.length_singleton] at hal2
            refine hih2 (256 - (acc.length + 1)) _ _ (by omega) ⟨bw2, wordAt zs p, acc ++ [(p : Int)], v11, rfl, hnd2, hrg2, wordAt_b hz p, by simp, ?_, ?_⟩
            · rw [hR, show 301 - (acc ++ [(p : Int)]).length = f by simp; omega]; rfl
            · rw [List.map_append, List.length_append]
              exact H15.sub (.cons .here (.cons (.there (.there (.there (.there .here)))) (.cons (.there (.there .here)) (.cons (.there .here) (.cons (.there (.there .here)) (.cons (.there (.there .here)) (.drop (.drop (.refl)))))))))
        · rw [if_neg (fun h => hno h.1)] at hR
          rw [hR] at hM
          rw [hM]
          refine ww_lssT (by show (-1 : Int) < ((0 : Nat) : Int); omega) ?_
          with_reducible (refine ww_joinS ?_; (try dsimp only); refine ww_wantTF ?_; (try dsimp only); refine ww_pickT ?_; refine ww_condT ?_; refine ww_leave ?_)
          exact ww_ret ⟨.nils, rfl, (H.sub (.drop (.drop (.drop (.drop (.drop (.drop .refl))))))).purI rfl⟩
    · obtain rfl : k = 4 := by omega
      with_reducible (refine ww_leqF (by omega) ?_; refine ww_condF ?_; refine ww_leave ?_)
      have hM : oL = some ls := hM
      rw [hM]
      refine ww_ret ⟨ov, rfl, ?_⟩
      rw [show 4 - 4 = 0 from rfl, List.replicate_zero, List.append_nil] at H
      refine LlC.I (rs := rs) (hrs.trans hls.symm) ?_
      rw [hls]
      exact H.sub (.cons (.there .here) (.cons (.there .here) (.drop (.drop .refl))))

theorem blocks_len {zs : List Int} {bs : List BlkT} (hB : blocksM zs = some bs) : bs.length < 1000 := by
  have hz2 := (blocksM_ok hB).2.2
  unfold blocksM at hB
  split at hB
  · cases hB
  · have key : ∀ m a acc bs', (14 : Int) + 3 * (acc.length : Int) ≤ a → a ≤ wordAt zs 5 → parseM zs (wordAt zs 5) m a acc = some bs' → 14 + 3 * (bs'.length : Int) ≤ wordAt zs 5 := by
      intro m
      induction m with
      | zero => intro a acc bs' _ _ h; cases h
      | succ m ih =>
        intro a acc bs' ha he h
        rw [parseM_s] at h
        split at h
        · cases h; omega
        · split at h
          · cases h
          · rename_i h2
            have hb := headA_b (wordAt zs a.toNat)
            have hp : ¬ (hd zs a).1 = 0 := fun hh => h2 (.inl hh)
            have hs := sizeA_pos (x := (hd zs a).1) (by unfold hd at *; omega)
            exact ih _ _ _ (by simp; omega) (by omega) h
    have := key _ _ _ _ (by simp) (by omega) hB
    omega

theorem rlists_ok {n : Nat} (hn : 3 ≤ n) {zs : List Int} {a0 : AV} (H : HS g h R) (S : Rd g R 1 zs.length a0 (zs.map (.int .u64))) (hz : ∀ z ∈ zs, 0 ≤ z ∧ z < 18446744073709551616) :
    wp (callT tab rtab n (.fn 22 [] []) [a0] h) fun r h' => ∃ v, r = .tup [v, .bool (listsM zs).isSome] ∧ HS g h' (LlsC v (listsM zs) :: R) := by
  (refine ww_fn (g := W22) rfl (by omega) fun k hk => ?_; show wp (S22 (callT tab rtab k) _ _) _; unfold S22; try simp only [Int.ofNat_eq_natCast])
  refine ww_call (rblocks_ok (by omega) H S hz) ?_
  rintro _ h1 ⟨bv, rfl, H⟩
  have hLM : listsM zs = (blocksM zs).bind fun bs => rowsM zs bs 4 1 [] := rfl
  generalize listsM zs = oL at *
  cases hB : blocksM zs with
  | none =>
    rw [hB] at H hLM
    have hLM : oL = none := hLM
    subst hLM
    simp only [Option.isSome_none, Option.bind_none]
    obtain ⟨e, H9⟩ := HS.purE H
    subst e
    with_reducible (refine ww_extract (by with_unfolding_all exact rfl) ?_; refine ww_extract (by with_unfolding_all exact rfl) ?_; refine ww_notF ?_; refine ww_condT ?_)
    exact ww_ret ⟨.nils, rfl, H9.purI rfl⟩
  | some bs =>
    rw [hB] at H hLM
    have hL0 : rowsM zs bs 4 1 [] = oL := hLM.symm
    obtain ⟨hbo, hz1, hz2⟩ := blocksM_ok hB
    have hbl := blocks_len hB
    have H : HS g h1 (SliC 76 3 bs.length bv (bs.flatMap encB) :: R) := H
    simp only [Option.isSome_some, Option.bind_some]
    with_reducible (refine ww_extract (by with_unfolding_all exact rfl) ?_; refine ww_extract (by with_unfolding_all exact rfl) ?_; refine ww_notT ?_; refine ww_condF ?_)
    refine ww_iter (fun m s h' => ∃ (k : Nat) (ov : AV) (rs : List AV) (ls : List (List Int)), s = (.int .i64 ((k : Int) + 1), ov, bv, a0, ()) ∧ k ≤ 4 ∧ m = 4 - k ∧ rs.length = k ∧ ls.length = k ∧ oL = rowsM zs bs (4 - k) ((k : Int) + 1) ls ∧
      HS g h' (SliC 38 1 k ov rs :: .all (List.zipWith RowI rs ls) :: SliC 76 3 bs.length bv (bs.flatMap encB) :: R))
      ?_ (m := 4) (by show 4 < 1000000000; omega) ⟨0, .nils, [], [], rfl, by omega, by omega, rfl, rfl, hL0.symm, (HS.allI (A := []) H).nils⟩
    clear H
    rintro m ih s h5 hih ⟨k, ov, rs, ls, rfl, hk, rfl, hrs, hls, hM, H⟩
    dsimp only
    by_cases hk4 : k < 4
    · with_reducible (refine ww_leqT (by omega) ?_; refine ww_condT ?_; refine ww_addI (by omega) ?_; refine ww_subI (by omega) ?_)
      rw [show ((1 : Nat) : Int) + ((k : Int) + 1) - ((1 : Nat) : Int) = ((k + 1 : Nat) : Int) by omega]
      refine ww_idx1 (S.sl H.drop.drop.drop) (wordAt_get (by omega)) ?_
      have hw0 := wordAt_b hz (k + 1)
      rw [show 4 - k = (3 - k) + 1 by omega, rowsM_s, show ((k : Int) + 1).toNat = k + 1 by omega] at hM
      generalize hR0 : rowM zs bs ((k : Int) + 1) 301 (wordAt zs (k + 1)) [] = oR at hM
      refine ww_iter (fun m s h' => ∃ (w : Int) (acc : List Int) (cv : AV), s = (.int .u64 w, cv, .int .i64 ((k : Int) + 1), ov, bv, a0, ()) ∧ acc.Nodup ∧ (∀ x ∈ acc, 15 ≤ x ∧ x < (zs.length : Int)) ∧ (0 ≤ w ∧ w < 18446744073709551616) ∧ m = 256 - acc.length ∧
        oR = rowM zs bs ((k : Int) + 1) (301 - acc.length) w acc ∧
        HS g h' (SliC 3 1 acc.length cv (acc.map (.int .i64)) :: SliC 38 1 k ov rs :: .all (List.zipWith RowI rs ls) :: SliC 76 3 bs.length bv (bs.flatMap encB) :: R))
        ?_ (m := 256) (by show 256 < 1000000000; omega) ⟨_, [], .nils, rfl, List.nodup_nil, (fun x hx => by cases hx), hw0, by simp, hR0.symm, H.nils⟩
      clear H
      rintro m2 ih2 s h8 hih2 ⟨w, acc, cv, rfl, hnd, hrg, hw, rfl, hR, H⟩
      dsimp only
      have hal := row_len hnd hrg hz2
      obtain ⟨f, hf⟩ : ∃ f, 301 - acc.length = f + 1 := ⟨300 - acc.length, by omega⟩
      rw [hf, rowM_s] at hR
      by_cases w0 : w = 0
      · rw [if_pos w0] at hR
        rw [hR, Option.bind_some] at hM
        with_reducible (refine ww_neqF (by omega) ?_; refine ww_condF ?_)
        have o1 := H.one .here
        refine ww_buildSH (n := 1) (l := [cv]) (sz := 1) H rfl rfl (by show (bif Nat.beq cv.cells.length 1 then (lputAt [AV.nils] 0 cv.cells).bind fun cs' => some cs' else none) = _; rw [o1.1]; rfl) (by simp [allOne, o1.2]) fun v9 h9 H9 => ?_
        refine ww_appH (H9.sel (.there (.there .here))) (H9.sl .here) (by omega) (by omega) (by simp [allOne, o1.2]) fun v10 h10 H10 => ?_
        refine ww_addI (by omega) (hih (4 - (k + 1)) _ _ (by omega) ⟨k + 1, v10, rs ++ [cv], ls ++ [acc], rfl, by omega, rfl, by simp [hrs], by simp [hls], ?_, ?_⟩)
        · rw [hM, show 4 - (k + 1) = 3 - k by omega]; rfl
        · have H2 : HS g h10 (RowI cv acc :: .all (List.zipWith RowI rs ls) :: SliC 38 1 (k + 1) v10 (rs ++ [cv]) :: SliC 76 3 bs.length bv (bs.flatMap encB) :: R) :=
            H10.sub (.cons (.there (.there .here)) (.cons (.there (.there .here)) (.cons .here (.drop .refl))))
          exact (HS.allSnoc (hrs.trans hls.symm) H2).sub (.cons (.there .here) (.refl))
      · rw [if_neg w0] at hR
        refine ww_neqT w0 (ww_condT ?_)
        -- is there such a block?
        refine ww_iter (fun m s h' => ∃ i : Nat, s = (.int .i64 (i : Int), .bool (decide ((w, (k : Int) + 1, false) ∈ bs.take i)), .int .u64 w, cv, .int .i64 ((k : Int) + 1), ov, bv, a0, ()) ∧ i ≤ bs.length ∧ m = bs.length - i ∧ h' = h8)
          ?_ (m := bs.length) (by show _ < 1000000000; omega) ⟨0, by simp, by omega, by omega, rfl⟩
        rintro m3 ih3 s h9 hih3 ⟨i, rfl, hi1, rfl, rfl⟩
        dsimp only
        refine ww_len (H.sl (.there (.there (.there .here)))) ?_
        refine ww_lssC (fun hlt => ww_condT ?_) fun hge => ww_condF ?_
        · have hi : i < bs.length := by omega
          have hci : bs[i]? = some bs[i] := List.getElem?_eq_getElem hi
          have hbi := hbo bs[i] (List.getElem_mem hi)
          have hcell : ∀ f, f < 3 → (bs.flatMap encB)[i * 3 + f]? = (encB bs[i])[f]? := by
            intro f hf; rw [flat_get (sz := 3) encB (fun _ => rfl) _ _ _ hf, hci]; rfl
          have hnext : ∀ b : Bool, b = (decide ((w, (k : Int) + 1, false) ∈ bs.take i) || decide (bs[i] = (w, (k : Int) + 1, false))) →
              wp (ih3 (.int .i64 ((i : Int) + ((1 : Nat) : Int)), .bool b, .int .u64 w, cv, .int .i64 ((k : Int) + 1), ov, bv, a0, ()) h9 []) fun r h' => ∃ v, r = .tup [v, .bool oL.isSome] ∧ HS g h' (LlsC v oL :: R) := by
            rintro b rfl
            refine hih3 (bs.length - (i + 1)) _ _ (by omega) ⟨i + 1, ?_, by omega, rfl, rfl⟩
            have : (decide ((w, (k : Int) + 1, false) ∈ bs.take i) || decide (bs[i] = (w, (k : Int) + 1, false))) = decide ((w, (k : Int) + 1, false) ∈ bs.take (i + 1)) := by
              rw [List.take_succ_eq_append_getElem hi]
              simp only [List.mem_append, List.mem_singleton]
              by_cases q : (w, (k : Int) + 1, false) = bs[i]
              · simp [q]
              · have q2 : ¬ bs[i] = (w, (k : Int) + 1, false) := fun h => q h.symm
                simp [q, q2]
            rw [this]; rfl
          generalize hbe : bs[i] = bb at *
          obtain ⟨x, y, z⟩ := bb
          dsimp only at hbi
          refine ww_joinS ?_
          refine ww_idxF (x := .int .i64 x) (H.sl (.there (.there (.there .here)))) (by omega) hi (hcell 0 (by omega)) (ww_convIU (by omega) ?_)
          by_cases e1 : x = w
          · refine ww_eqlT e1 ?_
            with_reducible (refine ww_joinS ?_; (try dsimp only); refine ww_wantTT ?_; (try dsimp only))
            refine ww_idxF (x := .int .i64 y) (H.sl (.there (.there (.there .here)))) (by omega) hi (hcell 1 (by omega)) ?_
            by_cases e2 : y = (k : Int) + 1
            · refine ww_eqlT e2 ?_
              with_reducible (refine ww_pickT ?_; refine ww_joinS ?_; (try dsimp only); refine ww_wantTT ?_; (try dsimp only))
              refine ww_idxF (x := .bool z) (H.sl (.there (.there (.there .here)))) (by omega) hi (hcell 2 (by omega)) ?_
              cases z
              · with_reducible (refine ww_notF ?_; refine ww_pickT ?_; refine ww_condT ?_; refine ww_addI (by omega) ?_)
                exact hnext _ (by simp [e1, e2])
              · with_reducible (refine ww_notT ?_; refine ww_pickT ?_; refine ww_condF ?_; refine ww_addI (by omega) ?_)
                exact hnext _ (by simp)
            · refine ww_eqlF e2 ?_
              with_reducible (refine ww_pickT ?_; refine ww_joinS ?_; (try dsimp only); refine ww_wantFT ?_; (try dsimp only); refine ww_pickF ?_; refine ww_condF ?_; refine ww_addI (by omega) ?_)
              exact hnext _ (by simp [e2])
          · refine ww_eqlF e1 ?_
            with_reducible (refine ww_joinS ?_; (try dsimp only); refine ww_wantFT ?_; (try dsimp only); refine ww_pickF ?_; refine ww_joinS ?_; (try dsimp only); refine ww_wantFT ?_; (try dsimp only); refine ww_pickF ?_; refine ww_condF ?_; refine ww_addI (by omega) ?_)
            exact hnext _ (by simp [e1])
        · obtain rfl : i = bs.length := by omega
          rw [List.take_length]
          clear hih3 ih3
          refine ww_iter (fun m s h' => ∃ i : Nat, s = (.int .i64 (i : Int), .bool (decide ((w, (k : Int) + 1, false) ∈ bs ∧ w ∉ acc.take i)), .int .u64 w, cv, .int .i64 ((k : Int) + 1), ov, bv, a0, ()) ∧ i ≤ acc.length ∧ m = acc.length - i ∧ h' = h9)
            ?_ (m := acc.length) (by show _ < 1000000000; omega) ⟨0, by simp, by omega, by omega, rfl⟩
          rintro m3 ih3 s h9 hih3 ⟨i, rfl, hi1, rfl, rfl⟩
          dsimp only
          refine ww_len (H.sl .here) ?_
          refine ww_lssC (fun hlt => ww_condT ?_) fun hge => ww_condF ?_
          · have hi : i < acc.length := by omega
            have hai := hrg acc[i] (List.getElem_mem hi)
            refine ww_joinS ?_
            refine ww_idx1 (x := .int .i64 acc[i]) (H.sl .here) (by rw [List.getElem?_map, List.getElem?_eq_getElem hi]; rfl) (ww_convIU (by omega) ?_)
            refine ww_eqlC (fun he => ww_condT (ww_addI (by omega) (hih3 (acc.length - (i + 1)) _ _ (by omega) ⟨i + 1, ?_, by omega, rfl, rfl⟩))) fun hne => ww_condF (ww_addI (by omega) (hih3 (acc.length - (i + 1)) _ _ (by omega) ⟨i + 1, ?_, by omega, rfl, rfl⟩))
            · have : w ∈ acc.take (i + 1) := by rw [List.take_succ_eq_append_getElem hi, List.mem_append]; exact .inr (List.mem_singleton.2 he.symm)
              simp [this]
            · have : w ∉ acc.take (i + 1) ↔ w ∉ acc.take i := by
                rw [List.take_succ_eq_append_getElem hi, List.mem_append, List.mem_singleton]
                exact ⟨fun h h' => h (.inl h'), fun h h' => h'.elim h fun h' => hne h'.symm⟩
              simp [this]
          · obtain rfl : i = acc.length := by omega
            rw [List.take_length]
            by_cases hin : (w, (k : Int) + 1, false) ∈ bs ∧ w ∉ acc
            · rw [decide_eq_true hin]
              rw [if_pos hin] at hR
              have hwr := hbo _ hin.1
              dsimp only at hwr
              obtain ⟨p, rfl⟩ : ∃ p : Nat, w = (p : Int) := ⟨w.toNat, by omega⟩
              with_reducible (refine ww_notT ?_; refine ww_condF ?_; refine ww_convII (by omega) ?_)
              refine ww_buildSH (n := 1) (l := [.int .i64 (p : Int)]) (sz := 1) H rfl rfl rfl rfl fun v10 h10 H10 => ?_
              refine ww_appH (H10.sel (.there .here)) (H10.sl .here) (by omega) (by omega) rfl fun v11 h11 H11 => ?_
              with_reducible (refine ww_convII (by omega) ?_)
              refine ww_idx1 (S.sl H11.drop.drop.drop.drop.drop) (wordAt_get (by omega)) ?_
              have hnd2 := nodup_snoc hnd hin.2
              have hrg2 : ∀ x ∈ acc ++ [(p : Int)], 15 ≤ x ∧ x < (zs.length : Int) := by
                intro x hx
                rcases List.mem_append.1 hx with hx | hx
                · exact hrg x hx
                · rw [List.mem_singleton] at hx; subst hx; exact hwr
              have hal2 := row_len hnd2 hrg2 hz2
              rw [List.length_append, List.length_singleton] at hal2
              refine hih2 (256 - (acc.length + 1)) _ _ (by omega) ⟨wordAt zs p, acc ++ [(p : Int)], v11, rfl, hnd2, hrg2, wordAt_b hz p, by simp, ?_, ?_⟩
              · rw [hR, show 301 - (acc ++ [(p : Int)]).length = f by simp; omega]; rfl
              · rw [List.map_append, List.length_append]
                exact H11.sub (.cons .here (.cons (.there .here) (.cons (.there .here) (.cons (.there .here) (.drop (.refl))))))
            · rw [decide_eq_false hin]
              rw [if_neg hin] at hR
              rw [hR] at hM
              have hM : oL = none := hM
              rw [hM]
              with_reducible (refine ww_notF ?_; refine ww_condT ?_; refine ww_leave ?_)
              exact ww_ret ⟨.nils, rfl, (H.sub (.drop (.drop (.drop (.drop .refl))))).purI rfl⟩
    · obtain rfl : k = 4 := by omega
      with_reducible (refine ww_leqF (by omega) ?_; refine ww_condF ?_; refine ww_leave ?_)
      have hM : oL = some ls := hM
      rw [hM]
      refine ww_ret ⟨ov, rfl, ?_⟩
      refine LlC.I (rs := rs) (hrs.trans hls.symm) ?_
      rw [hls]
      exact H.sub (.cons .here (.cons .here (.drop .refl)))
end Go.Proofs.YtkfpddegilellaaGreatDoor
