/- May an instruction be? The walks of the code's numbers. -/
import Derived.Test.YtpnlmmecgkjehaaGreatDoorCheckM
namespace Go.Proofs.YtpnlmmecgkjehaaGreatDoor
open Go Go.Ae
set_option maxRecDepth 100000

variable {g h : AH} {L R : List SP}

theorem sl_one1 {D : Nat → Prop} {sz n : Nat} {v : AV} {xs : List AV} (S : Sl D h sz n v xs) : One v := by cases S <;> exact ⟨rfl, rfl⟩
theorem one_all1 {v : AV} (o : One v) : allOne [v] = true := by simp [allOne, o.2]
theorem ww_chkNH {g' ha : AH} {b off n nx : Nat} {xs ys l : List AV} {L2 R2 : List SP} {K0 : Go.Ae.R} {Q : AV → AH → Prop} (H : HS g h L) (s : Sel L (ObjC b xs) R) (hx : (xs.drop off).take n = l) (H2 : HS g' ha L2) (s2 : Sel L2 (ObjC b ys) R2) (hx2 : (ys.drop off).take n = l) (hl : l.length = n) (h0 : 0 < n) (hlt : b < nx)
    (w : wp K0 Q) : wp (pChk (.ptr b off) (some n) (.agg l) h ha nx K0) Q := by
  obtain ⟨e, A⟩ := H.obj s
  obtain ⟨e2, A2⟩ := H2.obj s2
  exact ww_chkN hl h0 (fun i hi => by rw [A.at, ← hx, List.getElem?_take_of_lt hi, List.getElem?_drop]) (fun i hi => by rw [A2.at, ← hx2, List.getElem?_take_of_lt hi, List.getElem?_drop]) hlt w
theorem ww_strN {s : List UInt8} {K : AV → Go.Ae.R} {Q : AV → AH → Prop} {t : Bool} (ht : astr .neq s [] = some (.bool t)) (w : wp (K (.bool t)) Q) : wp (pStr .neq (.str s) (.str []) K) Q := by
  show wp (ob (astr .neq s []) K) Q
  rw [ht]; exact w

theorem ww_pickAnd2 {u x : Bool} {r : AV} {K : AV → Go.Ae.R} {Q : AV → AH → Prop} (hr : u = true → r = .bool x) (w : wp (K (.bool (u && x))) Q) : wp (pPick (.bool u) r (.bool false) K) Q := by
  cases u
  · exact w
  · rw [hr rfl]; exact w
theorem cends_ok {n : Nat} (hn : 1 ≤ n) {x : Int} : wp (callT tab rtab n (.fn 33 [] []) [.int .i64 x] h) fun v h' => v = .int .i64 (endsM x) ∧ h' = h := by
  (refine ww_fn (g := W33) rfl (by omega) fun k hk => ?_; show wp (S33 (callT tab rtab k) _ _) _; unfold S33; try simp only [Int.ofNat_eq_natCast])
  repeat' (first | with_reducible refine ww_condT ?_ | with_reducible refine ww_condF ?_ | (with_reducible refine ww_wantTT ?_; try dsimp only) | (with_reducible refine ww_wantTF ?_; try dsimp only) | (with_reducible refine ww_wantFT ?_; try dsimp only) | (with_reducible refine ww_wantFF ?_; try dsimp only) | (with_reducible refine ww_wantU ?_; try dsimp only) | with_reducible refine ww_pickT ?_ | with_reducible refine ww_pickF ?_ | (with_reducible refine ww_joinS ?_; try dsimp only) | with_reducible refine ww_leave ?_ | with_reducible refine ww_notT ?_ | with_reducible refine ww_notF ?_ | with_reducible refine ww_addI (by omega) ?_ | with_reducible refine ww_subI (by omega) ?_ | with_reducible refine ww_addU (by omega) ?_ | with_reducible refine ww_subU (by omega) ?_ | with_reducible refine ww_min ?_ | with_reducible refine ww_max ?_ | with_reducible refine ww_lssC (fun hc => ?_) (fun hc => ?_) | with_reducible refine ww_leqC (fun hc => ?_) (fun hc => ?_) | with_reducible refine ww_gtrC (fun hc => ?_) (fun hc => ?_) | with_reducible refine ww_geqC (fun hc => ?_) (fun hc => ?_) | with_reducible refine ww_eqlC (fun hc => ?_) (fun hc => ?_) | with_reducible refine ww_neqC (fun hc => ?_) (fun hc => ?_) | with_reducible refine ww_condB (fun hc => ?_) (fun hc => ?_))
  all_goals refine ww_ret ⟨?_, rfl⟩
  all_goals unfold endsM
  all_goals congr 1
  all_goals (repeat' split)
  all_goals omega
theorem cbegins_ok {n : Nat} (hn : 1 ≤ n) {x : Int} : wp (callT tab rtab n (.fn 46 [] []) [.int .i64 x] h) fun v h' => v = .bool (beginsM x) ∧ h' = h := by
  (refine ww_fn (g := W46) rfl (by omega) fun k hk => ?_; show wp (S46 (callT tab rtab k) _ _) _; unfold S46; try simp only [Int.ofNat_eq_natCast])
  unfold beginsM
  by_cases h1 : x = 14
  · with_reducible (refine ww_eqlT (by omega) ?_; refine ww_joinS ?_; (try dsimp only); refine ww_wantTF ?_; (try dsimp only); refine ww_pickT ?_)
    exact ww_ret ⟨by rw [decide_eq_true (.inl h1)], rfl⟩
  · with_reducible (refine ww_eqlF (by omega) ?_; refine ww_joinS ?_; (try dsimp only); refine ww_wantFF ?_; (try dsimp only))
    refine ww_eql ?_
    with_reducible (refine ww_pickF ?_)
    exact ww_ret ⟨by congr 1; exact decide_eq_decide.2 ⟨.inr, fun h => h.resolve_left h1⟩, rfl⟩
theorem cjump_ok {n : Nat} (hn : 1 ≤ n) {x : Int} : wp (callT tab rtab n (.fn 47 [] []) [.int .i64 x] h) fun v h' => v = .bool (decide (x = 12 ∨ x = 13)) ∧ h' = h := by
  (refine ww_fn (g := W47) rfl (by omega) fun k hk => ?_; show wp (S47 (callT tab rtab k) _ _) _; unfold S47; try simp only [Int.ofNat_eq_natCast])
  by_cases h1 : x = 12
  · with_reducible (refine ww_eqlT (by omega) ?_; refine ww_joinS ?_; (try dsimp only); refine ww_wantTF ?_; (try dsimp only); refine ww_pickT ?_)
    exact ww_ret ⟨by rw [decide_eq_true (.inl h1)], rfl⟩
  · with_reducible (refine ww_eqlF (by omega) ?_; refine ww_joinS ?_; (try dsimp only); refine ww_wantFF ?_; (try dsimp only))
    refine ww_eql ?_
    with_reducible (refine ww_pickF ?_)
    exact ww_ret ⟨by congr 1; exact decide_eq_decide.2 ⟨.inr, fun h => h.resolve_left h1⟩, rfl⟩
theorem cinmost_ok {D : Nat → Prop} {n : Nat} (hn : 1 ≤ n) {st : List Int} {v : AV} (S : Sl D h 1 st.length v (st.map (.int .i64))) (hl : st.length < 1000) :
    wp (callT tab rtab n (.fn 29 [] []) [v] h) fun r h' => r = .int .i64 (inmostM st) ∧ h' = h := by
  (refine ww_fn (g := W29) rfl (by omega) fun k hk => ?_; show wp (S29 (callT tab rtab k) _ _) _; unfold S29; try simp only [Int.ofNat_eq_natCast])
  refine ww_len S ?_
  by_cases h0 : st.length = 0
  · obtain rfl := List.eq_nil_of_length_eq_zero h0
    with_reducible (refine ww_eqlT (by omega) ?_; refine ww_condT ?_)
    exact ww_ret ⟨rfl, rfl⟩
  · with_reducible (refine ww_eqlF (by omega) ?_; refine ww_condF ?_)
    refine ww_len S ?_
    refine ww_subI (by omega) ?_
    rw [show (st.length : Int) - ((1 : Nat) : Int) = ((st.length - 1 : Nat) : Int) by omega]
    have hne : st ≠ [] := by rintro rfl; exact h0 rfl
    refine ww_idx1 S (x := .int .i64 (inmostM st)) ?_ (ww_ret ⟨rfl, rfl⟩)
    unfold inmostM
    rw [List.getElem?_map, ← List.getLast?_eq_getElem?, List.getLast?_eq_some_getLast hne]; rfl
theorem cfits_ok {n : Nat} (hn : 1 ≤ n) {f : Int × Int} {x : Int} (H : HS g h R) : wp (callT tab rtab n (.fn 80 [] []) [.agg [.int .i64 f.1, .int .i64 f.2], .int .i64 x] h) fun v h' => v = .bool (fitsM f x) ∧ HS g h' R := by
  (refine ww_fn (g := W80) rfl (by omega) fun k hk => ?_; show wp (S80 (callT tab rtab k) _ _ _) _; unfold S80; try simp only [Int.ofNat_eq_natCast])
  refine ww_boxA H rfl fun b h1 H1 => ?_
  unfold fitsM
  by_cases c1 : f.1 ≤ x
  · with_reducible (refine ww_field0 ?_; refine ww_ldH (by assumption) .here (by with_unfolding_all exact rfl) ?_; refine ww_geqT (by omega) ?_; refine ww_joinS ?_; (try dsimp only); refine ww_wantTT ?_; (try dsimp only); refine ww_field0 ?_; refine ww_ldH (by assumption) .here (by with_unfolding_all exact rfl) ?_)
    refine ww_leq ?_
    with_reducible (refine ww_pickT ?_)
    exact ww_ret ⟨by congr 1; exact decide_eq_decide.2 ⟨fun h => ⟨c1, h⟩, fun h => h.2⟩, H1.drop⟩
  · with_reducible (refine ww_field0 ?_; refine ww_ldH (by assumption) .here (by with_unfolding_all exact rfl) ?_; refine ww_geqF (by omega) ?_; refine ww_joinS ?_; (try dsimp only); refine ww_wantFT ?_; (try dsimp only); refine ww_pickF ?_)
    exact ww_ret ⟨by rw [decide_eq_false (fun h => c1 h.1)], H1.drop⟩

def fldL (f : Int × Int) : List AV := [.int .i64 f.1, .int .i64 f.2]
theorem cfields_ok {n : Nat} (hn : 1 ≤ n) {x : Int} (H : HS g h R) : wp (callT tab rtab n (.fn 78 [] []) [.int .i64 x] h) fun v h' => v = .tup [.agg (fldL (fieldsM x).1), .agg (fldL (fieldsM x).2.1), .agg (fldL (fieldsM x).2.2)] ∧ HS g h' R := by
  (refine ww_fn (g := W78) rfl (by omega) fun k hk => ?_; show wp (S78 (callT tab rtab k) _ _) _; unfold S78; try simp only [Int.ofNat_eq_natCast])
  refine ww_boxA H rfl fun b0 h1 H1 => ?_
  refine ww_boxA H1 rfl fun b2 h2 H2 => ?_
  refine ww_boxA H2 rfl fun b4 h3 H3 => ?_
  refine ww_build (l := [.int .i64 ((0 : Nat) : Int), .int .i64 ((7 : Nat) : Int)]) rfl ?_
  refine ww_boxA H3 rfl fun b7 h4 H4 => ?_
  refine ww_stH H4 (b := b7) .here rfl (by simp) rfl fun h5 H5 => ?_
  have H5 : HS g h5 (ObjC b7 (fldL (0, 7)) :: ObjC b4 (fldL (0, 0)) :: ObjC b2 (fldL (0, 0)) :: ObjC b0 (fldL (0, 0)) :: R) := H5
  clear H H1 H2 H3 H4
  refine ww_joinD [] (fun s h' => s = (.ptr b4 0, .ptr b2 0, .ptr b0 0, ()) ∧ HS g h' (ObjC b0 (fldL (fieldsM x).1) :: ObjC b2 (fldL (fieldsM x).2.1) :: ObjC b4 (fldL (fieldsM x).2.2) :: R)) ?_ ?_
  · intro j hj
    by_cases ha : x = 1 ∨ x = 11 ∨ x = 21
    · have e : fieldsM x = ((0, 7), (0, 0), (0, 0)) := by unfold fieldsM; rw [if_pos ha]
      rw [e] at hj
      rcases ha with rfl | rfl | rfl
      all_goals (first | with_reducible (refine ww_joinS ?_; (try dsimp only); refine ww_eqlF (by omega) ?_; refine ww_condF ?_; refine ww_eqlF (by omega) ?_; refine ww_condF ?_; refine ww_eqlT (by omega) ?_; refine ww_condT ?_) | with_reducible (refine ww_joinS ?_; (try dsimp only); refine ww_eqlF (by omega) ?_; refine ww_condF ?_; refine ww_eqlT (by omega) ?_; refine ww_condT ?_; refine ww_condT ?_) | with_reducible (refine ww_joinS ?_; (try dsimp only); refine ww_eqlT (by omega) ?_; refine ww_condT ?_; refine ww_condT ?_))
      all_goals refine ww_ldNH H5 (b := b7) (off := 0) .here rfl (by omega) rfl ?_
      all_goals refine ww_stH H5 (b := b0) (.there (.there (.there .here))) rfl (by simp [fldL]) rfl fun h6 H6 => ?_
      all_goals exact hj _ _ ⟨rfl, H6.sub (.cons .here (.cons (.there (.there .here)) (.cons (.there .here) (.drop .refl))))⟩
    by_cases hb : x = 2 ∨ x = 10
    · have e : fieldsM x = ((0, 7), (0, 7), (0, 0)) := by unfold fieldsM; rw [if_neg ha, if_pos hb]
      rw [e] at hj
      rcases hb with rfl | rfl
      all_goals (first | with_reducible (refine ww_joinS ?_; (try dsimp only); refine ww_eqlF (by omega) ?_; refine ww_condF ?_; refine ww_eqlF (by omega) ?_; refine ww_condF ?_; refine ww_eqlF (by omega) ?_; refine ww_condF ?_; refine ww_joinS ?_; (try dsimp only); refine ww_eqlF (by omega) ?_; refine ww_condF ?_; refine ww_eqlT (by omega) ?_; refine ww_condT ?_; refine ww_joinS ?_; (try dsimp only)) | with_reducible (refine ww_joinS ?_; (try dsimp only); refine ww_eqlF (by omega) ?_; refine ww_condF ?_; refine ww_eqlF (by omega) ?_; refine ww_condF ?_; refine ww_eqlF (by omega) ?_; refine ww_condF ?_; refine ww_joinS ?_; (try dsimp only); refine ww_eqlT (by omega) ?_; refine ww_condT ?_; refine ww_condT ?_; refine ww_joinS ?_; (try dsimp only)))
      all_goals refine ww_ldNH H5 (b := b7) (off := 0) .here rfl (by omega) rfl ?_
      all_goals refine ww_ldNH H5 (b := b7) (off := 0) .here rfl (by omega) rfl ?_
      all_goals refine ww_stH H5 (b := b0) (.there (.there (.there .here))) rfl (by simp [fldL]) rfl fun h6 H6 => ?_
      all_goals refine ww_stH H6 (b := b2) (.there (.there (.there .here))) rfl (by simp [fldL]) rfl fun h7 H7 => ?_
      all_goals refine ww_chkNH H5 (b := b7) .here rfl H6 (.there .here) rfl rfl (by omega) (HS.lt H5 .here) ?_
      all_goals exact hj _ _ ⟨rfl, H7.sub (.cons (.there .here) (.cons .here (.cons (.there .here) (.drop .refl))))⟩
    by_cases hc : x = 3 ∨ x = 4 ∨ x = 5 ∨ x = 6 ∨ x = 7
    · have e : fieldsM x = ((0, 7), (0, 7), (0, 7)) := by unfold fieldsM; rw [if_neg ha, if_neg hb, if_pos hc]
      rw [e] at hj
      rcases hc with rfl | rfl | rfl | rfl | rfl
      all_goals (first | with_reducible (refine ww_joinS ?_; (try dsimp only); refine ww_eqlF (by omega) ?_; refine ww_condF ?_; refine ww_eqlF (by omega) ?_; refine ww_condF ?_; refine ww_eqlF (by omega) ?_; refine ww_condF ?_; refine ww_joinS ?_; (try dsimp only); refine ww_eqlF (by omega) ?_; refine ww_condF ?_; refine ww_eqlF (by omega) ?_; refine ww_condF ?_; refine ww_joinS ?_; (try dsimp only); refine ww_eqlF (by omega) ?_; refine ww_condF ?_; refine ww_eqlF (by omega) ?_; refine ww_condF ?_; refine ww_eqlF (by omega) ?_; refine ww_condF ?_; refine ww_eqlF (by omega) ?_; refine ww_condF ?_; refine ww_eqlT (by omega) ?_; refine ww_condT ?_; refine ww_joinS ?_; (try dsimp only)) | with_reducible (refine ww_joinS ?_; (try dsimp only); refine ww_eqlF (by omega) ?_; refine ww_condF ?_; refine ww_eqlF (by omega) ?_; refine ww_condF ?_; refine ww_eqlF (by omega) ?_; refine ww_condF ?_; refine ww_joinS ?_; (try dsimp only); refine ww_eqlF (by omega) ?_; refine ww_condF ?_; refine ww_eqlF (by omega) ?_; refine ww_condF ?_; refine ww_joinS ?_; (try dsimp only); refine ww_eqlF (by omega) ?_; refine ww_condF ?_; refine ww_eqlF (by omega) ?_; refine ww_condF ?_; refine ww_eqlF (by omega) ?_; refine ww_condF ?_; refine ww_eqlT (by omega) ?_; refine ww_condT ?_; refine ww_condT ?_; refine ww_joinS ?_; (try dsimp only)) | with_reducible (refine ww_joinS ?_; (try dsimp only); refine ww_eqlF (by omega) ?_; refine ww_condF ?_; refine ww_eqlF (by omega) ?_; refine ww_condF ?_; refine ww_eqlF (by omega) ?_; refine ww_condF ?_; refine ww_joinS ?_; (try dsimp only); refine ww_eqlF (by omega) ?_; refine ww_condF ?_; refine ww_eqlF (by omega) ?_; refine ww_condF ?_; refine ww_joinS ?_; (try dsimp only); refine ww_eqlF (by omega) ?_; refine ww_condF ?_; refine ww_eqlF (by omega) ?_; refine ww_condF ?_; refine ww_eqlT (by omega) ?_; refine ww_condT ?_; refine ww_condT ?_; refine ww_joinS ?_; (try dsimp only)) | with_reducible (refine ww_joinS ?_; (try dsimp only); refine ww_eqlF (by omega) ?_; refine ww_condF ?_; refine ww_eqlF (by omega) ?_; refine ww_condF ?_; refine ww_eqlF (by omega) ?_; refine ww_condF ?_; refine ww_joinS ?_; (try dsimp only); refine ww_eqlF (by omega) ?_; refine ww_condF ?_; refine ww_eqlF (by omega) ?_; refine ww_condF ?_; refine ww_joinS ?_; (try dsimp only); refine ww_eqlF (by omega) ?_; refine ww_condF ?_; refine ww_eqlT (by omega) ?_; refine ww_condT ?_; refine ww_condT ?_; refine ww_joinS ?_; (try dsimp only)) | with_reducible (refine ww_joinS ?_; (try dsimp only); refine ww_eqlF (by omega) ?_; refine ww_condF ?_; refine ww_eqlF (by omega) ?_; refine ww_condF ?_; refine ww_eqlF (by omega) ?_; refine ww_condF ?_; refine ww_joinS ?_; (try dsimp only); refine ww_eqlF (by omega) ?_; refine ww_condF ?_; refine ww_eqlF (by omega) ?_; refine ww_condF ?_; refine ww_joinS ?_; (try dsimp only); refine ww_eqlT (by omega) ?_; refine ww_condT ?_; refine ww_condT ?_; refine ww_joinS ?_; (try dsimp only)))
      all_goals refine ww_ldNH H5 (b := b7) (off := 0) .here rfl (by omega) rfl ?_
      all_goals refine ww_ldNH H5 (b := b7) (off := 0) .here rfl (by omega) rfl ?_
      all_goals refine ww_ldNH H5 (b := b7) (off := 0) .here rfl (by omega) rfl ?_
      all_goals refine ww_stH H5 (b := b0) (.there (.there (.there .here))) rfl (by simp [fldL]) rfl fun h6 H6 => ?_
      all_goals refine ww_stH H6 (b := b2) (.there (.there (.there .here))) rfl (by simp [fldL]) rfl fun h7 H7 => ?_
      all_goals refine ww_stH H7 (b := b4) (.there (.there (.there .here))) rfl (by simp [fldL]) rfl fun h8 H8 => ?_
      all_goals refine ww_chkNH H6 (b := b7) (.there .here) rfl H7 (.there (.there .here)) rfl rfl (by omega) (HS.lt H5 .here) ?_
      all_goals refine ww_chkNH H5 (b := b7) .here rfl H6 (.there .here) rfl rfl (by omega) (HS.lt H5 .here) ?_
      all_goals refine ww_chkNH H5 (b := b7) .here rfl H6 (.there .here) rfl rfl (by omega) (HS.lt H5 .here) ?_
      all_goals exact hj _ _ ⟨rfl, H8.sub (.cons (.there (.there .here)) (.cons (.there .here) (.cons .here (.drop .refl))))⟩
    by_cases hd : x = 8 ∨ x = 9
    · have e : fieldsM x = ((0, 7), (0, 7), (0, 15)) := by unfold fieldsM; rw [if_neg ha, if_neg hb, if_neg hc, if_pos hd]
      rw [e] at hj
      rcases hd with rfl | rfl
      all_goals (first | with_reducible (refine ww_joinS ?_; (try dsimp only); refine ww_eqlF (by omega) ?_; refine ww_condF ?_; refine ww_eqlF (by omega) ?_; refine ww_condF ?_; refine ww_eqlF (by omega) ?_; refine ww_condF ?_; refine ww_joinS ?_; (try dsimp only); refine ww_eqlF (by omega) ?_; refine ww_condF ?_; refine ww_eqlF (by omega) ?_; refine ww_condF ?_; refine ww_joinS ?_; (try dsimp only); refine ww_eqlF (by omega) ?_; refine ww_condF ?_; refine ww_eqlF (by omega) ?_; refine ww_condF ?_; refine ww_eqlF (by omega) ?_; refine ww_condF ?_; refine ww_eqlF (by omega) ?_; refine ww_condF ?_; refine ww_eqlF (by omega) ?_; refine ww_condF ?_; refine ww_joinS ?_; (try dsimp only); refine ww_eqlF (by omega) ?_; refine ww_condF ?_; refine ww_eqlT (by omega) ?_; refine ww_condT ?_; refine ww_joinS ?_; (try dsimp only)) | with_reducible (refine ww_joinS ?_; (try dsimp only); refine ww_eqlF (by omega) ?_; refine ww_condF ?_; refine ww_eqlF (by omega) ?_; refine ww_condF ?_; refine ww_eqlF (by omega) ?_; refine ww_condF ?_; refine ww_joinS ?_; (try dsimp only); refine ww_eqlF (by omega) ?_; refine ww_condF ?_; refine ww_eqlF (by omega) ?_; refine ww_condF ?_; refine ww_joinS ?_; (try dsimp only); refine ww_eqlF (by omega) ?_; refine ww_condF ?_; refine ww_eqlF (by omega) ?_; refine ww_condF ?_; refine ww_eqlF (by omega) ?_; refine ww_condF ?_; refine ww_eqlF (by omega) ?_; refine ww_condF ?_; refine ww_eqlF (by omega) ?_; refine ww_condF ?_; refine ww_joinS ?_; (try dsimp only); refine ww_eqlT (by omega) ?_; refine ww_condT ?_; refine ww_condT ?_; refine ww_joinS ?_; (try dsimp only)))
      all_goals refine ww_ldNH H5 (b := b7) (off := 0) .here rfl (by omega) rfl ?_
      all_goals refine ww_ldNH H5 (b := b7) (off := 0) .here rfl (by omega) rfl ?_
      all_goals refine ww_build (l := fldL (0, 15)) rfl ?_
      all_goals refine ww_stH H5 (b := b0) (.there (.there (.there .here))) rfl (by simp [fldL]) rfl fun h6 H6 => ?_
      all_goals refine ww_stH H6 (b := b2) (.there (.there (.there .here))) rfl (by simp [fldL]) rfl fun h7 H7 => ?_
      all_goals refine ww_stH H7 (b := b4) (.there (.there (.there .here))) rfl (by simp [fldL]) rfl fun h8 H8 => ?_
      all_goals refine ww_chkNH H5 (b := b7) .here rfl H6 (.there .here) rfl rfl (by omega) (HS.lt H5 .here) ?_
      all_goals exact hj _ _ ⟨rfl, H8.sub (.cons (.there (.there .here)) (.cons (.there .here) (.cons .here (.drop .refl))))⟩
    by_cases he : x = 12
    · have e : fieldsM x = ((0, 0), (0, 0), (0, 40)) := by unfold fieldsM; rw [if_neg ha, if_neg hb, if_neg hc, if_neg hd, if_pos he]
      rw [e] at hj
      subst he
      with_reducible (refine ww_joinS ?_; (try dsimp only); refine ww_eqlF (by omega) ?_; refine ww_condF ?_; refine ww_eqlF (by omega) ?_; refine ww_condF ?_; refine ww_eqlF (by omega) ?_; refine ww_condF ?_; refine ww_joinS ?_; (try dsimp only); refine ww_eqlF (by omega) ?_; refine ww_condF ?_; refine ww_eqlF (by omega) ?_; refine ww_condF ?_; refine ww_joinS ?_; (try dsimp only); refine ww_eqlF (by omega) ?_; refine ww_condF ?_; refine ww_eqlF (by omega) ?_; refine ww_condF ?_; refine ww_eqlF (by omega) ?_; refine ww_condF ?_; refine ww_eqlF (by omega) ?_; refine ww_condF ?_; refine ww_eqlF (by omega) ?_; refine ww_condF ?_; refine ww_joinS ?_; (try dsimp only); refine ww_eqlF (by omega) ?_; refine ww_condF ?_; refine ww_eqlF (by omega) ?_; refine ww_condF ?_; refine ww_eqlT (by omega) ?_; refine ww_condT ?_; refine ww_build (by with_unfolding_all exact rfl) ?_)
      refine ww_stH H5 (b := b4) (.there .here) rfl (by simp [fldL]) rfl fun h6 H6 => ?_
      exact hj _ _ ⟨rfl, H6.sub (.cons (.there (.there (.there .here))) (.cons (.there (.there .here)) (.cons .here (.drop .refl))))⟩
    by_cases hf : x = 13
    · have e : fieldsM x = ((0, 7), (0, 0), (0, 40)) := by unfold fieldsM; rw [if_neg ha, if_neg hb, if_neg hc, if_neg hd, if_neg he, if_pos hf]
      rw [e] at hj
      subst hf
      with_reducible (refine ww_joinS ?_; (try dsimp only); refine ww_eqlF (by omega) ?_; refine ww_condF ?_; refine ww_eqlF (by omega) ?_; refine ww_condF ?_; refine ww_eqlF (by omega) ?_; refine ww_condF ?_; refine ww_joinS ?_; (try dsimp only); refine ww_eqlF (by omega) ?_; refine ww_condF ?_; refine ww_eqlF (by omega) ?_; refine ww_condF ?_; refine ww_joinS ?_; (try dsimp only); refine ww_eqlF (by omega) ?_; refine ww_condF ?_; refine ww_eqlF (by omega) ?_; refine ww_condF ?_; refine ww_eqlF (by omega) ?_; refine ww_condF ?_; refine ww_eqlF (by omega) ?_; refine ww_condF ?_; refine ww_eqlF (by omega) ?_; refine ww_condF ?_; refine ww_joinS ?_; (try dsimp only); refine ww_eqlF (by omega) ?_; refine ww_condF ?_; refine ww_eqlF (by omega) ?_; refine ww_condF ?_; refine ww_eqlF (by omega) ?_; refine ww_condF ?_; refine ww_eqlT (by omega) ?_; refine ww_condT ?_)
      refine ww_ldNH H5 (b := b7) (off := 0) .here rfl (by omega) rfl ?_
      refine ww_build (l := fldL (0, 40)) rfl ?_
      refine ww_stH H5 (b := b0) (.there (.there (.there .here))) rfl (by simp [fldL]) rfl fun h6 H6 => ?_
      refine ww_stH H6 (b := b4) (.there (.there .here)) rfl (by simp [fldL]) rfl fun h7 H7 => ?_
      exact hj _ _ ⟨rfl, H7.sub (.cons (.there .here) (.cons (.there (.there .here)) (.cons .here (.drop .refl))))⟩
    by_cases hg : x = 23
    · have e : fieldsM x = ((1, 12), (0, 7), (0, 6)) := by unfold fieldsM; rw [if_neg ha, if_neg hb, if_neg hc, if_neg hd, if_neg he, if_neg hf, if_pos hg]
      rw [e] at hj
      subst hg
      with_reducible (refine ww_joinS ?_; (try dsimp only); refine ww_eqlF (by omega) ?_; refine ww_condF ?_; refine ww_eqlF (by omega) ?_; refine ww_condF ?_; refine ww_eqlF (by omega) ?_; refine ww_condF ?_; refine ww_joinS ?_; (try dsimp only); refine ww_eqlF (by omega) ?_; refine ww_condF ?_; refine ww_eqlF (by omega) ?_; refine ww_condF ?_; refine ww_joinS ?_; (try dsimp only); refine ww_eqlF (by omega) ?_; refine ww_condF ?_; refine ww_eqlF (by omega) ?_; refine ww_condF ?_; refine ww_eqlF (by omega) ?_; refine ww_condF ?_; refine ww_eqlF (by omega) ?_; refine ww_condF ?_; refine ww_eqlF (by omega) ?_; refine ww_condF ?_; refine ww_joinS ?_; (try dsimp only); refine ww_eqlF (by omega) ?_; refine ww_condF ?_; refine ww_eqlF (by omega) ?_; refine ww_condF ?_; refine ww_eqlF (by omega) ?_; refine ww_condF ?_; refine ww_eqlF (by omega) ?_; refine ww_condF ?_; refine ww_eqlT (by omega) ?_; refine ww_condT ?_; refine ww_build (by with_unfolding_all exact rfl) ?_; refine ww_build (by with_unfolding_all exact rfl) ?_; refine ww_build (by with_unfolding_all exact rfl) ?_)
      refine ww_stH H5 (b := b0) (.there (.there (.there .here))) rfl (by simp [fldL]) rfl fun h6 H6 => ?_
      refine ww_stH H6 (b := b2) (.there (.there (.there .here))) rfl (by simp [fldL]) rfl fun h7 H7 => ?_
      refine ww_stH H7 (b := b4) (.there (.there (.there .here))) rfl (by simp [fldL]) rfl fun h8 H8 => ?_
      exact hj _ _ ⟨rfl, H8.sub (.cons (.there (.there .here)) (.cons (.there .here) (.cons .here (.drop .refl))))⟩
    · have e : fieldsM x = ((0, 0), (0, 0), (0, 0)) := by unfold fieldsM; rw [if_neg ha, if_neg hb, if_neg hc, if_neg hd, if_neg he, if_neg hf, if_neg hg]
      rw [e] at hj ⊢
      with_reducible (refine ww_joinS ?_; (try dsimp only); refine ww_eqlF (by omega) ?_; refine ww_condF ?_; refine ww_eqlF (by omega) ?_; refine ww_condF ?_; refine ww_eqlF (by omega) ?_; refine ww_condF ?_; refine ww_joinS ?_; (try dsimp only); refine ww_eqlF (by omega) ?_; refine ww_condF ?_; refine ww_eqlF (by omega) ?_; refine ww_condF ?_; refine ww_joinS ?_; (try dsimp only); refine ww_eqlF (by omega) ?_; refine ww_condF ?_; refine ww_eqlF (by omega) ?_; refine ww_condF ?_; refine ww_eqlF (by omega) ?_; refine ww_condF ?_; refine ww_eqlF (by omega) ?_; refine ww_condF ?_; refine ww_eqlF (by omega) ?_; refine ww_condF ?_; refine ww_joinS ?_; (try dsimp only); refine ww_eqlF (by omega) ?_; refine ww_condF ?_; refine ww_eqlF (by omega) ?_; refine ww_condF ?_; refine ww_eqlF (by omega) ?_; refine ww_condF ?_; refine ww_eqlF (by omega) ?_; refine ww_condF ?_; refine ww_eqlF (by omega) ?_; refine ww_condF ?_)
      exact hj _ _ ⟨rfl, H5.sub (.cons (.there (.there (.there .here))) (.cons (.there (.there .here)) (.cons (.there .here) (.drop .refl))))⟩
  · rintro s h6 ⟨rfl, H6⟩
    dsimp only
    generalize fieldsM x = F at *
    refine ww_joinS ?_
    refine ww_ldNH H6 (b := b0) (off := 0) .here rfl (by omega) rfl ?_
    refine ww_ldNH H6 (b := b2) (off := 0) (.there .here) rfl (by omega) rfl ?_
    refine ww_ldNH H6 (b := b4) (off := 0) (.there (.there .here)) rfl (by omega) rfl ?_
    refine ww_stH H6 (b := b0) .here rfl (by simp [fldL]) rfl fun h7 H7 => ?_
    refine ww_stH H7 (b := b2) (.there .here) rfl (by simp [fldL]) rfl fun h8 H8 => ?_
    refine ww_stH H8 (b := b4) (.there (.there .here)) rfl (by simp [fldL]) rfl fun h9 H9 => ?_
    refine ww_chkNH H7 (b := b4) (.there (.there .here)) rfl H8 (.there (.there .here)) rfl rfl (by omega) (HS.lt H6 (.there (.there .here))) ?_
    refine ww_chkNH H6 (b := b4) (.there (.there .here)) rfl H7 (.there (.there .here)) rfl rfl (by omega) (HS.lt H6 (.there (.there .here))) ?_
    refine ww_chkNH H6 (b := b2) (.there .here) rfl H7 (.there .here) rfl rfl (by omega) (HS.lt H6 (.there .here)) ?_
    refine ww_leave ?_
    refine ww_ldNH H9 (b := b0) (off := 0) (.there (.there .here)) rfl (by omega) rfl ?_
    refine ww_ldNH H9 (b := b2) (off := 0) (.there .here) rfl (by omega) rfl ?_
    refine ww_ldNH H9 (b := b4) (off := 0) .here rfl (by omega) rfl ?_
    exact ww_ret ⟨rfl, H9.drop.drop.drop⟩

def nameL : List (List UInt8) := [[], [115, 101, 116], [109, 111, 118, 101], [97, 100, 100], [115, 117, 98], [109, 117, 108], [108, 101, 115, 115], [101, 113, 117, 97, 108], [108, 111, 97, 100], [115, 116, 111, 114, 101], [97, 108, 108, 111, 99], [102, 114, 101, 101], [106, 117, 109, 112], [122, 101, 114, 111], [111, 112, 101, 110], [99, 108, 111, 115, 101], [117, 110, 100, 111], [101, 105, 116, 104, 101, 114], [111, 114], [100, 111, 110, 101], [114, 101, 116, 114, 121], [101, 109, 105, 116], [102, 97, 105, 108], [99, 97, 108, 108]]
theorem name_at {p : Nat} (hp : p < 24) : ∃ s, nameL[p]? = some s ∧ astr .neq s [] = some (.bool (decide (1 ≤ (p : Int) ∧ (p : Int) ≤ 23))) := by
  match p, hp with
  | 0, _ => exact ⟨_, rfl, rfl⟩
  | 1, _ => exact ⟨_, rfl, rfl⟩
  | 2, _ => exact ⟨_, rfl, rfl⟩
  | 3, _ => exact ⟨_, rfl, rfl⟩
  | 4, _ => exact ⟨_, rfl, rfl⟩
  | 5, _ => exact ⟨_, rfl, rfl⟩
  | 6, _ => exact ⟨_, rfl, rfl⟩
  | 7, _ => exact ⟨_, rfl, rfl⟩
  | 8, _ => exact ⟨_, rfl, rfl⟩
  | 9, _ => exact ⟨_, rfl, rfl⟩
  | 10, _ => exact ⟨_, rfl, rfl⟩
  | 11, _ => exact ⟨_, rfl, rfl⟩
  | 12, _ => exact ⟨_, rfl, rfl⟩
  | 13, _ => exact ⟨_, rfl, rfl⟩
  | 14, _ => exact ⟨_, rfl, rfl⟩
  | 15, _ => exact ⟨_, rfl, rfl⟩
  | 16, _ => exact ⟨_, rfl, rfl⟩
  | 17, _ => exact ⟨_, rfl, rfl⟩
  | 18, _ => exact ⟨_, rfl, rfl⟩
  | 19, _ => exact ⟨_, rfl, rfl⟩
  | 20, _ => exact ⟨_, rfl, rfl⟩
  | 21, _ => exact ⟨_, rfl, rfl⟩
  | 22, _ => exact ⟨_, rfl, rfl⟩
  | 23, _ => exact ⟨_, rfl, rfl⟩
  | k + 24, h => exact absurd h (by omega)
theorem cname_ok {n : Nat} (hn : 2 ≤ n) {x : Int} (H : HS g h R) : wp (callT tab rtab n (.fn 79 [] []) [.int .i64 x] h) fun v h' => ∃ s, v = .str s ∧ astr .neq s [] = some (.bool (decide (1 ≤ x ∧ x ≤ 23))) ∧ HS g h' R := by
  (refine ww_fn (g := W79) rfl (by omega) fun k hk => ?_; show wp (S79 (callT tab rtab k) _ _) _; unfold S79; try simp only [Int.ofNat_eq_natCast])
  refine ww_call (Q' := fun v h' => ∃ e, HS g h' (SliC e 1 24 v (nameL.map .str) :: R)) ?_ ?_
  · (refine ww_fn (g := W137) rfl (by omega) fun k hk => ?_; show wp (S137 (callT tab rtab k) _) _; unfold S137; try simp only [Int.ofNat_eq_natCast])
    exact ww_buildSH (n := 24) (l := nameL.map .str) (sz := 1) H rfl rfl rfl rfl fun v h1 H1 => ww_ret ⟨_, H1⟩
  rintro v h1 ⟨e, H1⟩
  refine ww_call (Q' := fun w h' => ∃ s, w = .str s ∧ astr .neq s [] = some (.bool (decide (1 ≤ x ∧ x ≤ 23))) ∧ h' = h1) ?_ ?_
  · (refine ww_fn (g := W136) rfl (by omega) fun k hk => ?_; show wp (S136 (callT tab rtab k) _ _ _) _; unfold S136; try simp only [Int.ofNat_eq_natCast])
    by_cases c0 : x < 0
    · with_reducible (refine ww_lssT (by omega) ?_; refine ww_joinS ?_; (try dsimp only); refine ww_wantTF ?_; (try dsimp only); refine ww_pickT ?_; refine ww_condT ?_)
      exact ww_ret ⟨[], rfl, by rw [decide_eq_false (by omega)]; rfl, rfl⟩
    · refine ww_lssF (by omega) ?_
      with_reducible (refine ww_joinS ?_; (try dsimp only); refine ww_wantFF ?_; (try dsimp only); refine ww_lenH (by assumption) .here ?_)
      by_cases c1 : x < 24
      · obtain ⟨p, rfl⟩ : ∃ p : Nat, x = (p : Int) := ⟨x.toNat, by omega⟩
        obtain ⟨s, hs, ht⟩ := name_at (show p < 24 by omega)
        with_reducible (refine ww_geqF (by omega) ?_; refine ww_pickF ?_; refine ww_condF ?_)
        refine ww_idx1 (H1.sl .here) (x := .str s) (by rw [List.getElem?_map, hs]; rfl) (ww_ret ⟨s, rfl, ht, rfl⟩)
      · with_reducible (refine ww_geqT (by omega) ?_; refine ww_pickF ?_; refine ww_condT ?_)
        exact ww_ret ⟨[], rfl, by rw [decide_eq_false (by omega)]; rfl, rfl⟩
  · rintro _ h2 ⟨s, rfl, ht, rfl⟩
    exact ww_ret ⟨s, rfl, ht, H1.drop⟩

theorem cmay_ok {n : Nat} (hn : 3 ≤ n) {x : InsT} (H : HS g h R) : wp (callT tab rtab n (.fn 44 [] []) [.agg (encI x)] h) fun v h' => v = .bool (mayM x) ∧ HS g h' R := by
  (refine ww_fn (g := W44) rfl (by omega) fun k hk => ?_; show wp (S44 (callT tab rtab k) _ _) _; unfold S44; try simp only [Int.ofNat_eq_natCast])
  obtain ⟨op, a, b, c, q⟩ := x
  refine ww_boxA H rfl fun b0 h1 H1 => ?_
  have H1 : HS g h1 (ObjC b0 [.int .i64 op, .int .i64 a, .int .i64 b, .int .i64 c, .int .u64 q] :: R) := H1
  with_reducible (refine ww_field0 ?_; refine ww_ldH (by assumption) .here (by with_unfolding_all exact rfl) ?_)
  refine ww_call (cfields_ok (by omega) H1) ?_
  rintro _ h2 ⟨rfl, H2⟩
  have hM : mayM (op, a, b, c, q) = (decide (1 ≤ op ∧ op ≤ 23) && fitsM (fieldsM op).1 a && fitsM (fieldsM op).2.1 b && fitsM (fieldsM op).2.2 c && decide (q = 0 ∨ op = 1)) := rfl
  rw [hM]
  generalize fieldsM op = F at *
  obtain ⟨f1, f2, f3⟩ := F
  dsimp only
  with_reducible (refine ww_extract (by with_unfolding_all exact rfl) ?_; refine ww_extract (by with_unfolding_all exact rfl) ?_; refine ww_extract (by with_unfolding_all exact rfl) ?_)
  refine ww_boxA H2 rfl fun b1 h3 H3 => ?_
  refine ww_boxA H3 rfl fun b2 h4 H4 => ?_
  refine ww_boxA H4 rfl fun b3 h5 H5 => ?_
  refine ww_stH H5 (b := b1) (.there (.there .here)) rfl (by simp) rfl fun h6 H6 => ?_
  refine ww_stH H6 (b := b2) (.there (.there .here)) rfl (by simp) rfl fun h7 H7 => ?_
  refine ww_stH H7 (b := b3) (.there (.there .here)) rfl (by simp) rfl fun h8 H8 => ?_
  have H8 : HS g h8 (ObjC b3 (fldL f3) :: ObjC b2 (fldL f2) :: ObjC b1 (fldL f1) :: ObjC b0 [.int .i64 op, .int .i64 a, .int .i64 b, .int .i64 c, .int .u64 q] :: R) := H8
  clear H H1 H2 H3 H4 H5 H6 H7
  with_reducible (refine ww_field0 ?_; refine ww_ldH (by assumption) (.there (.there (.there .here))) (by with_unfolding_all exact rfl) ?_)
  refine ww_call (cname_ok (by omega) H8) ?_
  rintro _ h9 ⟨s, rfl, ht, H⟩
  refine ww_strN ht ?_
  clear H8
  by_cases c1 : 1 ≤ op ∧ op ≤ 23
  rotate_left
  · rw [decide_eq_false c1]
    with_reducible (refine ww_joinS ?_; (try dsimp only); refine ww_wantFT ?_; (try dsimp only); refine ww_pickF ?_; refine ww_joinS ?_; (try dsimp only); refine ww_wantFT ?_; (try dsimp only); refine ww_pickF ?_; refine ww_joinS ?_; (try dsimp only); refine ww_wantFT ?_; (try dsimp only); refine ww_pickF ?_; refine ww_joinS ?_; (try dsimp only); refine ww_wantFT ?_; (try dsimp only); refine ww_joinS ?_; (try dsimp only); refine ww_wantU ?_; (try dsimp only); refine ww_joinS ?_; (try dsimp only); refine ww_wantFT ?_; (try dsimp only); refine ww_pickF ?_)
    exact ww_ret ⟨rfl, H.drop.drop.drop.drop⟩
  rw [decide_eq_true c1]
  with_reducible (refine ww_joinS ?_; (try dsimp only); refine ww_wantTT ?_; (try dsimp only))
  refine ww_ldNH H (b := b1) (off := 0) (.there (.there .here)) rfl (by omega) rfl ?_
  with_reducible (refine ww_field0 ?_; refine ww_ldH (by assumption) (.there (.there (.there .here))) (by with_unfolding_all exact rfl) ?_)
  refine ww_call (cfits_ok (by omega) H) ?_
  rintro _ h10 ⟨rfl, H10⟩
  cases hf1 : fitsM f1 a
  · with_reducible (refine ww_pickT ?_; refine ww_joinS ?_; (try dsimp only); refine ww_wantFT ?_; (try dsimp only); refine ww_pickF ?_; refine ww_joinS ?_; (try dsimp only); refine ww_wantFT ?_; (try dsimp only); refine ww_pickF ?_; refine ww_joinS ?_; (try dsimp only); refine ww_wantFT ?_; (try dsimp only); refine ww_joinS ?_; (try dsimp only); refine ww_wantU ?_; (try dsimp only); refine ww_joinS ?_; (try dsimp only); refine ww_wantFT ?_; (try dsimp only); refine ww_pickF ?_)
    exact ww_ret ⟨rfl, H10.drop.drop.drop.drop⟩
  with_reducible (refine ww_pickT ?_; refine ww_joinS ?_; (try dsimp only); refine ww_wantTT ?_; (try dsimp only))
  refine ww_ldNH H10 (b := b2) (off := 0) (.there .here) rfl (by omega) rfl ?_
  with_reducible (refine ww_field0 ?_; refine ww_ldH (by assumption) (.there (.there (.there .here))) (by with_unfolding_all exact rfl) ?_)
  refine ww_call (cfits_ok (by omega) H10) ?_
  rintro _ h11 ⟨rfl, H11⟩
  cases hf2 : fitsM f2 b
  · with_reducible (refine ww_pickT ?_; refine ww_joinS ?_; (try dsimp only); refine ww_wantFT ?_; (try dsimp only); refine ww_pickF ?_; refine ww_joinS ?_; (try dsimp only); refine ww_wantFT ?_; (try dsimp only); refine ww_joinS ?_; (try dsimp only); refine ww_wantU ?_; (try dsimp only); refine ww_joinS ?_; (try dsimp only); refine ww_wantFT ?_; (try dsimp only); refine ww_pickF ?_)
    exact ww_ret ⟨rfl, H11.drop.drop.drop.drop⟩
  with_reducible (refine ww_pickT ?_; refine ww_joinS ?_; (try dsimp only); refine ww_wantTT ?_; (try dsimp only))
  refine ww_ldNH H11 (b := b3) (off := 0) .here rfl (by omega) rfl ?_
  with_reducible (refine ww_field0 ?_; refine ww_ldH (by assumption) (.there (.there (.there .here))) (by with_unfolding_all exact rfl) ?_)
  refine ww_call (cfits_ok (by omega) H11) ?_
  rintro _ h12 ⟨rfl, H12⟩
  cases hf3 : fitsM f3 c
  · with_reducible (refine ww_pickT ?_; refine ww_joinS ?_; (try dsimp only); refine ww_wantFT ?_; (try dsimp only); refine ww_joinS ?_; (try dsimp only); refine ww_wantU ?_; (try dsimp only); refine ww_joinS ?_; (try dsimp only); refine ww_wantFT ?_; (try dsimp only); refine ww_pickF ?_)
    exact ww_ret ⟨rfl, H12.drop.drop.drop.drop⟩
  by_cases c2 : q = 0
  · with_reducible (refine ww_pickT ?_; refine ww_joinS ?_; (try dsimp only); refine ww_wantTT ?_; (try dsimp only); refine ww_field0 ?_; refine ww_ldH (by assumption) (.there (.there (.there .here))) (by with_unfolding_all exact rfl) ?_; refine ww_eqlT (by omega) ?_; refine ww_joinS ?_; (try dsimp only); refine ww_wantTF ?_; (try dsimp only); refine ww_joinS ?_; (try dsimp only); refine ww_wantTT ?_; (try dsimp only); refine ww_pickT ?_; refine ww_pickT ?_)
    exact ww_ret ⟨by rw [decide_eq_true (.inl c2)]; rfl, H12.drop.drop.drop.drop⟩
  by_cases c3 : op = 1
  · with_reducible (refine ww_pickT ?_; refine ww_joinS ?_; (try dsimp only); refine ww_wantTT ?_; (try dsimp only); refine ww_field0 ?_; refine ww_ldH (by assumption) (.there (.there (.there .here))) (by with_unfolding_all exact rfl) ?_; refine ww_eqlF (by omega) ?_; refine ww_joinS ?_; (try dsimp only); refine ww_wantFF ?_; (try dsimp only); refine ww_field0 ?_; refine ww_ldH (by assumption) (.there (.there (.there .here))) (by with_unfolding_all exact rfl) ?_; refine ww_eqlT (by omega) ?_; refine ww_joinS ?_; (try dsimp only); refine ww_wantTT ?_; (try dsimp only); refine ww_pickF ?_; refine ww_pickT ?_)
    exact ww_ret ⟨by rw [decide_eq_true (.inr c3)]; rfl, H12.drop.drop.drop.drop⟩
  · with_reducible (refine ww_pickT ?_; refine ww_joinS ?_; (try dsimp only); refine ww_wantTT ?_; (try dsimp only); refine ww_field0 ?_; refine ww_ldH (by assumption) (.there (.there (.there .here))) (by with_unfolding_all exact rfl) ?_; refine ww_eqlF (by omega) ?_; refine ww_joinS ?_; (try dsimp only); refine ww_wantFF ?_; (try dsimp only); refine ww_field0 ?_; refine ww_ldH (by assumption) (.there (.there (.there .here))) (by with_unfolding_all exact rfl) ?_; refine ww_eqlF (by omega) ?_; refine ww_joinS ?_; (try dsimp only); refine ww_wantTT ?_; (try dsimp only); refine ww_pickF ?_; refine ww_pickT ?_)
    exact ww_ret ⟨by rw [decide_eq_false (fun h => h.elim c2 c3)]; rfl, H12.drop.drop.drop.drop⟩
end Go.Proofs.YtpnlmmecgkjehaaGreatDoor
