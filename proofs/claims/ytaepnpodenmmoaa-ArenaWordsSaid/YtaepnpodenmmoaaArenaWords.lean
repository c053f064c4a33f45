/- 'ArenaWords' comes to true for every argument: its own walk. -/
import Derived.Test.YtaepnpodenmmoaaArenaLs
import Derived.Test.YtaepnpodenmmoaaBookSameB
import Derived.Test.YtaepnpodenmmoaaBookSameI
namespace Go.Proofs.Ytaepnpodenmmoaa.arenaWords
open Go Go.Ae
set_option maxRecDepth 100000

variable {g h : AH} {L R : List SP}

theorem ww_beqT {a b neg t : Bool} {K : AV → Go.Ae.R} {Q : AV → AH → Prop} (ht : ((a == b) != neg) = t) (w : wp (K (.bool t)) Q) : wp (pEq .bool neg (.bool a) (.bool b) K) Q := by
  subst ht; exact w
theorem ww_pickAnd {u x : Bool} {r : AV} {K : AV → Go.Ae.R} {Q : AV → AH → Prop} (hr : u = true → r = .bool x) (w : wp (K (.bool (u && x))) Q) : wp (pPick (.bool u) r (.bool false) K) Q := by
  cases u
  · exact w
  · rw [hr rfl]; exact w
def OkN (zs : List Int) : Prop := ∀ z ∈ zs, 0 ≤ z ∧ z < 18446744073709551616
theorem OkN.set {zs : List Int} {i : Nat} {x : Int} (h : OkN zs) (hx : 0 ≤ x ∧ x < 18446744073709551616) : OkN (zs.set i x) := by
  intro z hz
  rcases List.mem_or_eq_of_mem_set hz with h1 | rfl
  · exact h z h1
  · exact hx
theorem OkN.add {zs : List Int} {x : Int} (h : OkN zs) (hx : 0 ≤ x ∧ x < 18446744073709551616) : OkN (zs ++ [x]) := by
  intro z hz
  rcases List.mem_append.1 hz with h1 | h1
  · exact h z h1
  · rw [List.mem_singleton] at h1; subst h1; exact hx
/-- what was told, as slices -/
theorem bls_sl {v : AV} {o : Option (List BlkT)} (H : HS g h L) (s : Sel L (BlsC v o) R) : Sl (fun _ => True) h 3 (o.getD []).length v ((o.getD []).flatMap encB) := by
  have H := H.sel s
  cases o with
  | none =>
    obtain ⟨e, H9⟩ := HS.purE H
    subst e
    exact (H9.nils (e := 0) (sz := 3)).sl .here
  | some bs => exact HS.sl (e := 71) H .here
/-- what the lists show -/
def LsS (h : AH) (v : AV) (ls : List (List Int)) : Prop := ∃ rs : List AV, rs.length = ls.length ∧ Sl (fun _ => True) h 1 ls.length v rs ∧
  ∀ (i : Nat) (r : AV) (l : List Int), rs[i]? = some r → ls[i]? = some l → Sl (fun _ => True) h 1 l.length r (l.map (.int .i64))
theorem lls_sl {v : AV} {o : Option (List (List Int))} (H : HS g h L) (s : Sel L (LlsC v o) R) : LsS h v (o.getD []) := by
  have H := H.sel s
  cases o with
  | none =>
    obtain ⟨e, H9⟩ := HS.purE H
    subst e
    exact ⟨[], rfl, (H9.nils (e := 0) (sz := 1)).sl .here, fun i r l hr => by simp at hr⟩
  | some ls =>
    have H : HS g h (LlC v ls :: R) := H
    obtain ⟨rs, e, H⟩ := LlC.E H
    refine ⟨rs, e, HS.sl (e := 30) H .here, fun i r l hr hl => ?_⟩
    obtain ⟨T, s⟩ := zip_selI hr hl
    have H2 := (H.drop.allE).sel (Sel.app s R)
    exact HS.sl (e := 3) H2 .here
theorem bls_len {zs : List Int} : ((blocksM zs).getD []).length < 1000 := by
  cases hB : blocksM zs with
  | none => simp
  | some bs => exact blocks_len hB
theorem rowM_len {ws : List Int} {bs : List BlkT} {c : Int} : ∀ {m : Nat} {w : Int} {acc r : List Int}, rowM ws bs c m w acc = some r → r.length ≤ acc.length + m := by
  intro m
  induction m with
  | zero => intro w acc r h; cases h
  | succ m ih =>
    intro w acc r h
    rw [rowM_s] at h
    split at h
    · cases h; omega
    · split at h
      · have := ih h
        simp at this
        omega
      · cases h
theorem rowsM_len {ws : List Int} {bs : List BlkT} : ∀ {k : Nat} {c : Int} {ls r : List (List Int)}, (∀ l ∈ ls, l.length ≤ 301) → rowsM ws bs k c ls = some r → r.length = ls.length + k ∧ ∀ l ∈ r, l.length ≤ 301 := by
  intro k
  induction k with
  | zero => intro c ls r hl h; cases h; exact ⟨rfl, hl⟩
  | succ k ih =>
    intro c ls r hl h
    rw [rowsM_s] at h
    cases hr : rowM ws bs c 301 (wordAt ws c.toNat) [] with
    | none => rw [hr] at h; cases h
    | some row =>
      rw [hr] at h
      have h9 := rowM_len hr
      have := ih (fun l hl2 => by
        rcases List.mem_append.1 hl2 with h2 | h2
        · exact hl l h2
        · rw [List.mem_singleton] at h2; subst h2; simpa using h9) h
      refine ⟨?_, this.2⟩
      have h10 := this.1
      simp at h10
      omega
theorem lls_len {zs : List Int} : ((listsM zs).getD []).length < 1000 ∧ ∀ l ∈ (listsM zs).getD [], l.length ≤ 301 := by
  unfold listsM
  cases hB : blocksM zs with
  | none => exact ⟨by simp, fun l hl => by simp at hl⟩
  | some bs =>
    show ((rowsM zs bs 4 1 []).getD []).length < 1000 ∧ ∀ l ∈ (rowsM zs bs 4 1 []).getD [], l.length ≤ 301
    cases hR : rowsM zs bs 4 1 [] with
    | none => exact ⟨by simp, fun l hl => by simp at hl⟩
    | some ls =>
      have := rowsM_len (fun l hl => by simp at hl) hR
      refine ⟨?_, this.2⟩
      have h1 := this.1
      simp at h1 ⊢
      omega

theorem law {k : Nat} (hk : 20 ≤ k) {a0 a1 : AV} {bump : Int} {raw : Bool} {ws hs : List Int} (S0 : Sl (fun b => b < h.nx) h 1 ws.length a0 (ws.map (.int .u64))) (hw : OkN ws) (hb : 0 ≤ bump ∧ bump ≤ 65535)
    (S1 : Sl (fun b => b < h.nx) h 1 hs.length a1 (hs.map (.int .u8))) (hh : ∀ z ∈ hs, 0 ≤ z) :
    wp (W8 (withRun 3 (callT tab rtab k)) [a0, .int .u16 bump, a1, .bool raw] h) fun v _ => v = .bool true := by
  show wp (S8 (withRun _ (callT tab rtab _)) _ _ _ _ _) _
  unfold S8
  try simp only [Int.ofNat_eq_natCast]
  refine ww_run ?_
  with_reducible (refine ww_notT ?_; refine ww_condF ?_)
  refine ww_len S0 (ww_gtrC (fun hg => ww_condT (ww_ret rfl)) fun hg => ww_condF ?_)
  refine ww_appH (HS.nils (HS.nil h)) S0 (by omega) (by omega) (by unfold allOne; rw [List.all_eq_true]; intro v hv; obtain ⟨z, _, rfl⟩ := List.mem_map.1 hv; rfl) fun w1 h1 H => ?_
  rw [Nat.zero_add, List.nil_append] at H
  refine ww_joinD [] (fun s h' => ∃ (wv : AV) (zs : List Int), s = (wv, ()) ∧ OkN zs ∧ HS h h' (SliC 43 1 zs.length wv (zs.map (.int .u64)) :: [])) ?_ ?_
  · intro j hj
    cases raw
    · with_reducible (refine ww_notF ?_; refine ww_condT ?_)
      refine ww_iter (fun m s h' => ∃ (wv : AV) (zs : List Int), s = (wv, a1, .int .u16 bump, ()) ∧ zs.length ≤ 300 ∧ m = 64 - zs.length ∧ OkN zs ∧ HS h h' (SliC 43 1 zs.length wv (zs.map (.int .u64)) :: []))
        ?_ (m := 64 - ws.length) (by show _ < 1000000000; omega) ⟨w1, ws, rfl, by omega, rfl, hw, H⟩
      clear H
      rintro m ih s h2 hih ⟨wv, zs, rfl, hz3, rfl, hz, H⟩
      dsimp only
      refine ww_lenH H .here (ww_lssC (fun hl => ww_condT ?_) fun hl => ww_condF ?_)
      · have hb1 := Int.tmod_nonneg ((5 : Nat) : Int) (show 0 ≤ (zs.length : Int) by omega)
        have hb2 := Int.tmod_lt_of_pos (zs.length : Int) (show 0 < ((5 : Nat) : Int) by omega)
        refine ww_lenH H .here (ww_rem (by omega) (ww_convIU (by omega) ?_))
        generalize Int.tmod (zs.length : Int) ((5 : Nat) : Int) = x at *
        refine ww_buildSH (n := 1) (l := [.int .u64 x]) (sz := 1) H rfl rfl rfl rfl fun v5 h5 H5 => ?_
        refine ww_appH (H5.sel (.there .here)) (H5.sl .here) (by omega) (by omega) rfl fun v6 h6 H6 => ?_
        refine hih (64 - (zs ++ [x]).length) _ _ (by simp; omega) ⟨v6, zs ++ [x], rfl, by simp; omega, rfl, hz.add (by omega), ?_⟩
        rw [List.map_append, List.length_append]
        exact H6.sub (.cons .here (.drop (.refl)))
      obtain ⟨n, hn⟩ : ∃ n, n = zs.length := ⟨_, rfl⟩
      rw [← hn] at hz3 hl H
      refine ww_iter (fun m s h' => ∃ (i : Nat) (zs : List Int), s = (.int .i64 (i : Int), wv, a1, .int .u16 bump, ()) ∧ i ≤ n ∧ n = zs.length ∧ m = n - i ∧ OkN zs ∧ HS h h' (SliC 43 1 n wv (zs.map (.int .u64)) :: []))
        ?_ (m := n) (by show _ < 1000000000; omega) ⟨0, zs, rfl, by omega, hn, by omega, hz, H⟩
      clear H hz hn zs hih ih
      rintro m ih s h3 hih ⟨i, zs, rfl, hi1, hn, rfl, hz, H⟩
      dsimp only
      refine ww_lenH H .here (ww_lssC (fun hl => ww_condT ?_) fun hl => ww_condF ?_)
      · have hi : i < zs.length := by omega
        have hci : (zs.map (AV.int .u64))[i]? = some (.int .u64 zs[i]) := by rw [List.getElem?_map, List.getElem?_eq_getElem hi]; rfl
        have hwi := hz zs[i] (List.getElem_mem hi)
        have hb1 := Int.tmod_nonneg ((14 : Nat) : Int) hwi.1
        have hb2 := Int.tmod_lt_of_pos zs[i] (show 0 < ((14 : Nat) : Int) by omega)
        refine ww_idx1 (H.sl .here) hci (ww_rem (by omega) ?_)
        refine ww_slI H (by omega) ⟨rfl, rfl⟩ fun h4 H4 => ?_
        with_reducible (refine ww_addI (by omega) ?_)
        rw [← List.map_set] at H4
        exact hih (n - (i + 1)) _ _ (by omega) ⟨i + 1, _, rfl, by omega, by rw [List.length_set]; exact hn, rfl, hz.set (by omega), H4⟩
      have hb1 := Int.tmod_nonneg ((70 : Nat) : Int) hb.1
      have hb2 := Int.tmod_lt_of_pos bump (show 0 < ((70 : Nat) : Int) by omega)
      refine ww_rem (by omega) (ww_convIU (by omega) ?_)
      refine ww_slI (i := 5) H (by omega) ⟨rfl, rfl⟩ fun h4 H4 => ?_
      rw [← List.map_set] at H4
      refine ww_iter (fun m s h' => ∃ (i : Nat) (zs : List Int), s = (.int .i64 (i : Int), wv, a1, ()) ∧ i ≤ 4 ∧ n = zs.length ∧ m = 4 - i ∧ OkN zs ∧ HS h h' (SliC 43 1 n wv (zs.map (.int .u64)) :: []))
        ?_ (m := 4) (by show 4 < 1000000000; omega) ⟨0, _, rfl, by omega, by rw [List.length_set]; exact hn, by omega, hz.set (by omega), H4⟩
      clear H H4 hz hn zs hih ih
      rintro m ih s h3 hih ⟨i, zs, rfl, h1, hn, rfl, hz, H⟩
      dsimp only
      have Sa : Sl (fun _ => True) h3 1 hs.length a1 (hs.map (.int .u8)) := (Rd.arg (L := []) S1).sl (H.drop)
      refine ww_len Sa (ww_lss ?_)
      refine ww_join (fun s g' => ∃ (r : AV) (u x : Bool), s = (r, .bool u, .int .i64 (i : Int), wv, a1, ()) ∧ g' = h3 ∧ (u = true → r = .bool x) ∧ ((u && x) = decide (i < hs.length ∧ i < 4))) ?_ ?_
      · intro j hj
        refine ww_want (fun hl => ww_lss (hj _ _ ⟨_, _, decide (i < 4), rfl, rfl, fun _ => (by congr 1; exact decide_eq_decide.2 (by omega)), ?_⟩)) (fun hl => hj _ _ ⟨_, _, false, rfl, rfl, fun h => absurd (of_decide_eq_true h) hl, ?_⟩)
        · have hl' : i < hs.length := by omega
          simp [hl']
        · have hl' : ¬ i < hs.length := by omega
          simp [hl']
      rintro s h3 ⟨r, u, x, rfl, rfl, hr, hux⟩
      refine ww_pickAnd hr ?_
      rw [hux]
      dsimp only
      refine ww_cond (fun hi => ?_) fun hi => ?_
      · have hci : (hs.map (AV.int .u8))[i]? = some (.int .u8 hs[i]) := by rw [List.getElem?_map, List.getElem?_eq_getElem hi.1]; rfl
        have hwi := hh hs[i] (List.getElem_mem hi.1)
        have hb1 := Int.tmod_nonneg ((70 : Nat) : Int) hwi
        have hb2 := Int.tmod_lt_of_pos hs[i] (show 0 < ((70 : Nat) : Int) by omega)
        with_reducible (refine ww_addI (by omega) ?_)
        refine ww_idx1 Sa hci (ww_rem (by omega) (ww_convIU (by omega) ?_))
        rw [show ((1 : Nat) : Int) + (i : Int) = ((1 + i : Nat) : Int) by omega]
        refine ww_slI H (by omega) ⟨rfl, rfl⟩ fun h4 H4 => ?_
        with_reducible (refine ww_addI (by omega) ?_)
        rw [← List.map_set] at H4
        exact hih (4 - (i + 1)) _ _ (by omega) ⟨i + 1, _, rfl, by omega, by rw [List.length_set]; exact hn, rfl, hz.set (by omega), H4⟩
      · rw [hn] at H
        exact hj _ _ ⟨wv, zs, rfl, hz, H⟩
    · with_reducible (refine ww_notT ?_; refine ww_condF ?_)
      exact hj _ _ ⟨w1, ws, rfl, hw, H⟩
  clear H S0 S1 hw hh hb hg
  rintro s h2 ⟨wv, zs, rfl, hz, H⟩
  dsimp only
  refine ww_callZ (by decide) (ablocks_ok (by omega) H (Rd.own .here) hz) ?_
  rintro _ h3 ⟨v1, rfl, H3⟩
  with_reducible (refine ww_extract (by with_unfolding_all exact rfl) ?_; refine ww_extract (by with_unfolding_all exact rfl) ?_)
  refine ww_callZ (by decide) (rblocks_ok (by omega) H3 (Rd.own (.there .here)) hz) ?_
  rintro _ h4 ⟨v2, rfl, H4⟩
  with_reducible (refine ww_extract (by with_unfolding_all exact rfl) ?_; refine ww_extract (by with_unfolding_all exact rfl) ?_)
  refine ww_callZ (by decide) (alists_ok (by omega) H4 (Rd.own (.there (.there .here))) hz) ?_
  rintro _ h5 ⟨v3, rfl, H5⟩
  with_reducible (refine ww_extract (by with_unfolding_all exact rfl) ?_; refine ww_extract (by with_unfolding_all exact rfl) ?_)
  refine ww_callZ (by decide) (rlists_ok (by omega) H5 (Rd.own (.there (.there (.there .here)))) hz) ?_
  rintro _ h6 ⟨v4, rfl, H6⟩
  with_reducible (refine ww_extract (by with_unfolding_all exact rfl) ?_; refine ww_extract (by with_unfolding_all exact rfl) ?_)
  have T1 := bls_sl H6 (.there (.there .here))
  have T2 := bls_sl H6 (.there (.there (.there .here)))
  obtain ⟨r4, e4, L4, M4⟩ := lls_sl H6 .here
  obtain ⟨r3, e3, L3, M3⟩ := lls_sl H6 (.there .here)
  have hbl := bls_len (zs := zs)
  have hll := lls_len (zs := zs)
  clear H H3 H4 H5
  generalize (blocksM zs).isSome = p
  generalize (listsM zs).isSome = q
  generalize (blocksM zs).getD [] = bs at *
  generalize (listsM zs).getD [] = ls at *
  cases p <;> cases q
  · simp only [Bool.false_eq_true, if_false, if_true]
    with_reducible (refine ww_eqlF (by omega) ?_)
    refine ww_beqT (t := false) rfl ?_
    with_reducible (refine ww_joinS ?_; (try dsimp only); refine ww_wantFF ?_; (try dsimp only); refine ww_notF ?_; refine ww_joinS ?_; (try dsimp only); refine ww_wantTT ?_; (try dsimp only); refine ww_neqF (by omega) ?_; refine ww_joinS ?_; (try dsimp only); refine ww_wantFF ?_; (try dsimp only); refine ww_pickT ?_; refine ww_pickF ?_; refine ww_joinS ?_; (try dsimp only); refine ww_wantFF ?_; (try dsimp only))
    refine ww_callZ (by decide) (sameB_ok (by omega) T2 T1 (by omega)) ?_
    rintro _ h6 ⟨rfl, rfl⟩
    rw [decide_eq_true rfl]
    with_reducible (refine ww_notT ?_; refine ww_pickF ?_; refine ww_joinS ?_; (try dsimp only); refine ww_wantFF ?_; (try dsimp only); refine ww_eqlF (by omega) ?_)
    refine ww_beqT (t := false) rfl ?_
    with_reducible (refine ww_pickF ?_; refine ww_joinS ?_; (try dsimp only); refine ww_wantFF ?_; (try dsimp only); refine ww_notF ?_; refine ww_joinS ?_; (try dsimp only); refine ww_wantTT ?_; (try dsimp only); refine ww_neqF (by omega) ?_; refine ww_joinS ?_; (try dsimp only); refine ww_wantFF ?_; (try dsimp only); refine ww_pickT ?_; refine ww_pickF ?_; refine ww_joinS ?_; (try dsimp only); refine ww_wantFF ?_; (try dsimp only))
    refine ww_len L3 (ww_len L4 ?_)
    with_reducible (refine ww_neqF (by omega) ?_; refine ww_pickF ?_; refine ww_condF ?_)
    refine ww_iter (fun m s h' => ∃ i : Nat, s = (.int .i64 (i : Int), v4, v3, ()) ∧ i ≤ ls.length ∧ m = ls.length - i ∧ h' = h6) ?_ (m := ls.length) (by show _ < 1000000000; omega) ⟨0, rfl, by omega, by omega, rfl⟩
    rintro m ih s h7 hih ⟨i, rfl, h1, rfl, rfl⟩
    dsimp only
    refine ww_len L3 (ww_lssC (fun hl => ww_condT ?_) fun hl => ww_condF (ww_leave (ww_ret rfl)))
    have hi : i < ls.length := by omega
    refine ww_idx1 L3 (x := r3[i]) (List.getElem?_eq_getElem (by omega)) ?_
    refine ww_idx1 L4 (x := r4[i]) (List.getElem?_eq_getElem (by omega)) ?_
    have hil := hll.2 ls[i] (List.getElem_mem hi)
    refine ww_callZ (by decide) (sameI_ok (by omega) (M3 i _ _ (List.getElem?_eq_getElem (by omega)) (List.getElem?_eq_getElem hi)) (M4 i _ _ (List.getElem?_eq_getElem (by omega)) (List.getElem?_eq_getElem hi)) (by omega)) ?_
    rintro _ _ ⟨rfl, rfl⟩
    rw [decide_eq_true rfl]
    with_reducible (refine ww_notT ?_; refine ww_condF ?_; refine ww_addI (by omega) ?_)
    exact hih (ls.length - (i + 1)) _ _ (by omega) ⟨i + 1, rfl, by omega, rfl, rfl⟩
  · simp only [Bool.false_eq_true, if_false, if_true]
    with_reducible (refine ww_eqlF (by omega) ?_)
    refine ww_beqT (t := false) rfl ?_
    with_reducible (refine ww_joinS ?_; (try dsimp only); refine ww_wantFF ?_; (try dsimp only); refine ww_notF ?_; refine ww_joinS ?_; (try dsimp only); refine ww_wantTT ?_; (try dsimp only); refine ww_neqF (by omega) ?_; refine ww_joinS ?_; (try dsimp only); refine ww_wantFF ?_; (try dsimp only); refine ww_pickT ?_; refine ww_pickF ?_; refine ww_joinS ?_; (try dsimp only); refine ww_wantFF ?_; (try dsimp only))
    refine ww_callZ (by decide) (sameB_ok (by omega) T2 T1 (by omega)) ?_
    rintro _ h6 ⟨rfl, rfl⟩
    rw [decide_eq_true rfl]
    with_reducible (refine ww_notT ?_; refine ww_pickF ?_; refine ww_joinS ?_; (try dsimp only); refine ww_wantFF ?_; (try dsimp only); refine ww_eqlT (by omega) ?_)
    refine ww_beqT (t := false) rfl ?_
    with_reducible (refine ww_pickF ?_; refine ww_joinS ?_; (try dsimp only); refine ww_wantFF ?_; (try dsimp only); refine ww_notT ?_; refine ww_joinS ?_; (try dsimp only); refine ww_wantFT ?_; (try dsimp only); refine ww_joinS ?_; (try dsimp only); refine ww_wantFF ?_; (try dsimp only); refine ww_pickF ?_; refine ww_pickF ?_; refine ww_joinS ?_; (try dsimp only); refine ww_wantFF ?_; (try dsimp only))
    refine ww_len L3 (ww_len L4 ?_)
    with_reducible (refine ww_neqF (by omega) ?_; refine ww_pickF ?_; refine ww_condF ?_)
    refine ww_iter (fun m s h' => ∃ i : Nat, s = (.int .i64 (i : Int), v4, v3, ()) ∧ i ≤ ls.length ∧ m = ls.length - i ∧ h' = h6) ?_ (m := ls.length) (by show _ < 1000000000; omega) ⟨0, rfl, by omega, by omega, rfl⟩
    rintro m ih s h7 hih ⟨i, rfl, h1, rfl, rfl⟩
    dsimp only
    refine ww_len L3 (ww_lssC (fun hl => ww_condT ?_) fun hl => ww_condF (ww_leave (ww_ret rfl)))
    have hi : i < ls.length := by omega
    refine ww_idx1 L3 (x := r3[i]) (List.getElem?_eq_getElem (by omega)) ?_
    refine ww_idx1 L4 (x := r4[i]) (List.getElem?_eq_getElem (by omega)) ?_
    have hil := hll.2 ls[i] (List.getElem_mem hi)
    refine ww_callZ (by decide) (sameI_ok (by omega) (M3 i _ _ (List.getElem?_eq_getElem (by omega)) (List.getElem?_eq_getElem hi)) (M4 i _ _ (List.getElem?_eq_getElem (by omega)) (List.getElem?_eq_getElem hi)) (by omega)) ?_
    rintro _ _ ⟨rfl, rfl⟩
    rw [decide_eq_true rfl]
    with_reducible (refine ww_notT ?_; refine ww_condF ?_; refine ww_addI (by omega) ?_)
    exact hih (ls.length - (i + 1)) _ _ (by omega) ⟨i + 1, rfl, by omega, rfl, rfl⟩
  · simp only [Bool.false_eq_true, if_false, if_true]
    with_reducible (refine ww_eqlT (by omega) ?_)
    refine ww_beqT (t := false) rfl ?_
    with_reducible (refine ww_joinS ?_; (try dsimp only); refine ww_wantFF ?_; (try dsimp only); refine ww_notT ?_; refine ww_joinS ?_; (try dsimp only); refine ww_wantFT ?_; (try dsimp only); refine ww_joinS ?_; (try dsimp only); refine ww_wantFF ?_; (try dsimp only); refine ww_pickF ?_; refine ww_pickF ?_; refine ww_joinS ?_; (try dsimp only); refine ww_wantFF ?_; (try dsimp only))
    refine ww_callZ (by decide) (sameB_ok (by omega) T2 T1 (by omega)) ?_
    rintro _ h6 ⟨rfl, rfl⟩
    rw [decide_eq_true rfl]
    with_reducible (refine ww_notT ?_; refine ww_pickF ?_; refine ww_joinS ?_; (try dsimp only); refine ww_wantFF ?_; (try dsimp only); refine ww_eqlF (by omega) ?_)
    refine ww_beqT (t := false) rfl ?_
    with_reducible (refine ww_pickF ?_; refine ww_joinS ?_; (try dsimp only); refine ww_wantFF ?_; (try dsimp only); refine ww_notF ?_; refine ww_joinS ?_; (try dsimp only); refine ww_wantTT ?_; (try dsimp only); refine ww_neqF (by omega) ?_; refine ww_joinS ?_; (try dsimp only); refine ww_wantFF ?_; (try dsimp only); refine ww_pickT ?_; refine ww_pickF ?_; refine ww_joinS ?_; (try dsimp only); refine ww_wantFF ?_; (try dsimp only))
    refine ww_len L3 (ww_len L4 ?_)
    with_reducible (refine ww_neqF (by omega) ?_; refine ww_pickF ?_; refine ww_condF ?_)
    refine ww_iter (fun m s h' => ∃ i : Nat, s = (.int .i64 (i : Int), v4, v3, ()) ∧ i ≤ ls.length ∧ m = ls.length - i ∧ h' = h6) ?_ (m := ls.length) (by show _ < 1000000000; omega) ⟨0, rfl, by omega, by omega, rfl⟩
    rintro m ih s h7 hih ⟨i, rfl, h1, rfl, rfl⟩
    dsimp only
    refine ww_len L3 (ww_lssC (fun hl => ww_condT ?_) fun hl => ww_condF (ww_leave (ww_ret rfl)))
    have hi : i < ls.length := by omega
    refine ww_idx1 L3 (x := r3[i]) (List.getElem?_eq_getElem (by omega)) ?_
    refine ww_idx1 L4 (x := r4[i]) (List.getElem?_eq_getElem (by omega)) ?_
    have hil := hll.2 ls[i] (List.getElem_mem hi)
    refine ww_callZ (by decide) (sameI_ok (by omega) (M3 i _ _ (List.getElem?_eq_getElem (by omega)) (List.getElem?_eq_getElem hi)) (M4 i _ _ (List.getElem?_eq_getElem (by omega)) (List.getElem?_eq_getElem hi)) (by omega)) ?_
    rintro _ _ ⟨rfl, rfl⟩
    rw [decide_eq_true rfl]
    with_reducible (refine ww_notT ?_; refine ww_condF ?_; refine ww_addI (by omega) ?_)
    exact hih (ls.length - (i + 1)) _ _ (by omega) ⟨i + 1, rfl, by omega, rfl, rfl⟩
  · simp only [Bool.false_eq_true, if_false, if_true]
    with_reducible (refine ww_eqlT (by omega) ?_)
    refine ww_beqT (t := false) rfl ?_
    with_reducible (refine ww_joinS ?_; (try dsimp only); refine ww_wantFF ?_; (try dsimp only); refine ww_notT ?_; refine ww_joinS ?_; (try dsimp only); refine ww_wantFT ?_; (try dsimp only); refine ww_joinS ?_; (try dsimp only); refine ww_wantFF ?_; (try dsimp only); refine ww_pickF ?_; refine ww_pickF ?_; refine ww_joinS ?_; (try dsimp only); refine ww_wantFF ?_; (try dsimp only))
    refine ww_callZ (by decide) (sameB_ok (by omega) T2 T1 (by omega)) ?_
    rintro _ h6 ⟨rfl, rfl⟩
    rw [decide_eq_true rfl]
    with_reducible (refine ww_notT ?_; refine ww_pickF ?_; refine ww_joinS ?_; (try dsimp only); refine ww_wantFF ?_; (try dsimp only); refine ww_eqlT (by omega) ?_)
    refine ww_beqT (t := false) rfl ?_
    with_reducible (refine ww_pickF ?_; refine ww_joinS ?_; (try dsimp only); refine ww_wantFF ?_; (try dsimp only); refine ww_notT ?_; refine ww_joinS ?_; (try dsimp only); refine ww_wantFT ?_; (try dsimp only); refine ww_joinS ?_; (try dsimp only); refine ww_wantFF ?_; (try dsimp only); refine ww_pickF ?_; refine ww_pickF ?_; refine ww_joinS ?_; (try dsimp only); refine ww_wantFF ?_; (try dsimp only))
    refine ww_len L3 (ww_len L4 ?_)
    with_reducible (refine ww_neqF (by omega) ?_; refine ww_pickF ?_; refine ww_condF ?_)
    refine ww_iter (fun m s h' => ∃ i : Nat, s = (.int .i64 (i : Int), v4, v3, ()) ∧ i ≤ ls.length ∧ m = ls.length - i ∧ h' = h6) ?_ (m := ls.length) (by show _ < 1000000000; omega) ⟨0, rfl, by omega, by omega, rfl⟩
    rintro m ih s h7 hih ⟨i, rfl, h1, rfl, rfl⟩
    dsimp only
    refine ww_len L3 (ww_lssC (fun hl => ww_condT ?_) fun hl => ww_condF (ww_leave (ww_ret rfl)))
    have hi : i < ls.length := by omega
    refine ww_idx1 L3 (x := r3[i]) (List.getElem?_eq_getElem (by omega)) ?_
    refine ww_idx1 L4 (x := r4[i]) (List.getElem?_eq_getElem (by omega)) ?_
    have hil := hll.2 ls[i] (List.getElem_mem hi)
    refine ww_callZ (by decide) (sameI_ok (by omega) (M3 i _ _ (List.getElem?_eq_getElem (by omega)) (List.getElem?_eq_getElem hi)) (M4 i _ _ (List.getElem?_eq_getElem (by omega)) (List.getElem?_eq_getElem hi)) (by omega)) ?_
    rintro _ _ ⟨rfl, rfl⟩
    rw [decide_eq_true rfl]
    with_reducible (refine ww_notT ?_; refine ww_condF ?_; refine ww_addI (by omega) ?_)
    exact hih (ls.length - (i + 1)) _ _ (by omega) ⟨i + 1, rfl, by omega, rfl, rfl⟩

theorem told {h : AH} {l : List AV} (H : WTs Try.prog h 8 Try.f8.params.toList l) : wp (W8 (withRun 3 (callT tab rtab 60)) l h) fun v _ => v = .bool true := by
  have e : Try.f8.params.toList = [24, 58, 52, 4] := by kernel_rfl
  rw [e] at H
  obtain ⟨a0, a1, a2, a3, rfl, H0, H1, H2, H3⟩ := WTs4 H
  simp only [WTV, Try.underlying4, Try.underlying5, Try.underlying24, Try.underlying43, Try.underlying52, Try.underlying58] at H0 H1 H2 H3
  obtain ⟨ws, S0, b0⟩ := WT_ints Try.underlying24 Try.underlying43 (by kernel_rfl) H0
  obtain ⟨hs, S1, b1⟩ := WT_ints Try.underlying52 Try.underlying5 (by kernel_rfl) H2
  unfold WT at H1 H3
  simp only [Try.underlying4, Try.underlying5, Try.underlying24, Try.underlying43, Try.underlying52, Try.underlying58] at H1 H3
  obtain ⟨b, hb, c1⟩ := H1
  obtain ⟨t, ht⟩ := H3
  cases hb; cases ht
  exact law (by omega) S0 (fun z hz => ⟨(b0 z hz).1, Int.lt_of_le_of_lt (b0 z hz).2 (by decide)⟩) c1 S1 (fun z hz => (b1 z hz).1)
end Go.Proofs.Ytaepnpodenmmoaa.arenaWords
