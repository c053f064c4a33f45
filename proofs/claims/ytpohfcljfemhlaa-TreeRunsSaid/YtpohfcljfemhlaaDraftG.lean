/- A call on a draft of a view that may hold something already: the walks. -/
import Derived.Test.YtpohfcljfemhlaaDraftD
namespace Go.Proofs.Ytpohfcljfemhlaa
open Go Go.Ae
set_option maxRecDepth 100000

variable {g h : AH} {L R : List SP}

def knw (V : VM) (c : Cl) : VM := (knowV V c.1 c.2).2
/-- a draft's view of a view -/
def ofV (M : VM) : VM := M.K.foldl knw ((mergeL M.lv).foldl knw (lvV M.sz [] [] [] 0))
theorem knws_ok : ∀ {l : List Cl} {V : VM}, OkV V → OkV (l.foldl knw V) := by
  intro l
  induction l with
  | nil => intro V O; exact O
  | cons c l ih => intro V O; exact ih (knowV_ok O)
theorem know_sz {V : VM} {p x : Int} : (knowV V p x).2.sz = V.sz := by
  unfold knowV
  repeat' split
  all_goals rfl
theorem knws_sz : ∀ {l : List Cl} {V : VM}, (l.foldl knw V).sz = V.sz := by
  intro l
  induction l with
  | nil => intro V; rfl
  | cons c l ih => intro V; exact ih.trans know_sz
theorem knws_lv : ∀ {l : List Cl} {V : VM}, (l.foldl knw V).lv = V.lv := by
  intro l
  induction l with
  | nil => intro V; rfl
  | cons c l ih =>
    intro V
    refine ih.trans ?_
    unfold knw knowV
    repeat' split
    all_goals rfl
theorem knw_wd {V : VM} {c : Cl} (W : WdV V) (h : 0 ≤ c.2 ∧ c.2 < 18446744073709551616) : WdV (knw V c) := by
  unfold knw knowV
  split
  · split
    · exact W
    · refine ⟨fun d hd => ?_, W.l⟩
      rcases List.mem_append.1 hd with h1 | h1
      · exact W.k d h1
      · rw [List.mem_singleton.1 h1]; exact h
  · exact W
theorem knws_wd : ∀ {l : List Cl} {V : VM}, WdV V → WdC l → WdV (l.foldl knw V) := by
  intro l
  induction l with
  | nil => intro V W _; exact W
  | cons c l ih => intro V W h; exact ih (knw_wd W (h c (List.mem_cons_self ..))) fun d hd => h d (List.mem_cons_of_mem _ hd)
theorem puts_wd : ∀ {cs l : List Cl}, WdC l → WdC cs → WdC (putsC l cs) := by
  intro cs
  induction cs with
  | nil => intro l h _; exact h
  | cons c cs ih => intro l h1 h2; exact ih (l := putC c.1 c.2 l) (h1.put (h2 c (List.mem_cons_self ..))) fun d hd => h2 d (List.mem_cons_of_mem _ hd)
theorem merge_wd : ∀ {lv : List LvM} {out : List Cl}, WdC out → (∀ x ∈ lv, WdC x.1) → WdC (lv.foldl (fun out x => putsC x.1 out) out) := by
  intro lv
  induction lv with
  | nil => intro out h _; exact h
  | cons x r ih => intro out h1 h2; exact ih (puts_wd (h2 x (List.mem_cons_self ..)) h1) fun y hy => h2 y (List.mem_cons_of_mem _ hy)
theorem new_ok {M : VM} (O : OkV M) : OkV (lvV M.sz [] [] [] 0) :=
  ⟨O.lo, O.hi, newL_ok (show (96 : Nat) ≤ 96 by omega), (fun c hc => by cases hc), List.nodup_nil, fun x hx => by rw [List.mem_singleton.1 hx]; show (0 : Nat) < 100000; omega⟩
theorem of_good {M : VM} (G : GoodV M) : GoodV (ofV M) :=
  ⟨knws_ok (knws_ok (new_ok G.ok)), knws_wd (knws_wd ⟨fun c hc => (by cases hc), fun x hx c hc => (by rw [List.mem_singleton.1 hx] at hc; cases hc)⟩ (merge_wd (fun c hc => by cases hc) G.wd.l)) G.wd.k⟩
theorem of_sz {M : VM} : (ofV M).sz = M.sz := knws_sz.trans knws_sz
theorem of_lv {M : VM} : (ofV M).lv = [([], [])] := knws_lv.trans knws_lv
theorem of_draft {M : VM} (G : GoodV M) : GoodD ⟨ofV M, 0, 0⟩ M.sz 5 := ⟨of_good G, of_sz, by show frS (ofV M).lv ≤ 5; rw [of_lv]; simp [frS], by dsimp only; omega⟩

theorem dofG_ok {n : Nat} (hn : 11 ≤ n) {v : Nat} {M : VM} (H : HS g h (ViewC v M :: R)) (O : OkV M) :
    wp (callT tab rtab n (.fn 31 [] []) [.ptr v 0] h) fun r h' => ∃ q, r = .ptr q 0 ∧ HS g h' (ViewC q (ofV M) :: ViewC v M :: R) := by
  (refine ww_fn (g := W31) rfl (by omega) fun k hk => ?_; show wp (S31 (callT tab rtab k) _ _) _; unfold S31; try simp only [Int.ofNat_eq_natCast])
  have hlo := O.lo
  have hhi := O.hi
  have hkl := O.klen
  refine ww_call (vsize_ok (by omega) H) ?_
  rintro _ h1 ⟨rfl, rfl⟩
  refine ww_call (vnew_ok (by omega) H) ?_
  rintro _ h2 ⟨q, rfl, H2⟩
  have e0 : newV (M.sz : Int) ((96 : Nat) : Int) = lvV M.sz [] [] [] 0 := by
    unfold newV lvV
    rw [show szZ (M.sz : Int) = M.sz by unfold szZ; omega]
    rfl
  rw [e0] at H2
  refine ww_call (vcells_ok (by omega) (H2.sel (.there .here)) O) fun cv h3 H3 => ?_
  have hO0 := new_ok O
  have hml : (mergeL M.lv).length < 100000 := by
    have h1 := merge_len (lv := M.lv) (out := [])
    have h2 := O.lvs.held
    have h3 := O.lvs.le
    show ((M.lv.foldl (fun out x => putsC x.1 out) []).length) < _
    simp only [List.length_nil] at h1
    omega
  unfold ofV
  generalize mergeL M.lv = C at *
  refine ww_lenH H3 .here ?_
  refine ww_iter (fun m s h' => ∃ i : Nat, s = (.int .i64 (i : Int), .int .i64 (C.length : Int), cv, .ptr q 0, .ptr v 0, ()) ∧ i ≤ C.length ∧ m = C.length - i ∧
    HS g h' (ViewC q ((C.take i).foldl knw (lvV M.sz [] [] [] 0)) :: SliC 88 2 C.length cv (C.flatMap encC) :: ViewC v M :: R))
    ?_ (m := C.length) (by show _ < 1000000000; omega) ⟨0, rfl, by omega, by omega, by rw [List.take_zero]; exact H3.sub (.cons (.there (.there .here)) (.cons .here (.cons .here .refl)))⟩
  clear H H2 H3
  rintro m ih s h4 hih ⟨i, rfl, hi, rfl, H⟩
  dsimp only
  by_cases hlt : i < C.length
  · have hci : C[i]? = some C[i] := List.getElem?_eq_getElem hlt
    have hnext : (C.take (i + 1)).foldl knw (lvV M.sz [] [] [] 0) = knw ((C.take i).foldl knw (lvV M.sz [] [] [] 0)) C[i] := by rw [List.take_succ_eq_append_getElem hlt, List.foldl_append]; rfl
    have hrow : ((C.flatMap encC).drop (i * 2)).take 2 = encC C[i] := enc_row (sz := 2) (fun _ => rfl) hci
    generalize C[i] = c at *
    obtain ⟨p, x⟩ := c
    with_reducible (refine ww_lssT (by omega) ?_; refine ww_condT ?_)
    refine ww_idxN (H.sl (.there .here)) hlt (by omega) hrow ?_
    refine ww_boxA H rfl fun b h7 H7 => ?_
    refine ww_stH H7 (b := b) .here rfl (by simp [encC]) rfl fun h8 H8 => ?_
    have H8 : HS g h8 (ObjC b [.int .i64 p, .int .u64 x] :: ViewC q ((C.take i).foldl knw (lvV M.sz [] [] [] 0)) :: SliC 88 2 C.length cv (C.flatMap encC) :: ViewC v M :: R) := H8
    with_reducible (refine ww_field0 ?_; refine ww_ldH (by assumption) .here (by with_unfolding_all exact rfl) ?_; refine ww_field0 ?_; refine ww_ldH (by assumption) .here (by with_unfolding_all exact rfl) ?_)
    refine ww_call (vknow_ok (by omega) (H8.sel (.there .here)) (knws_ok hO0)) ?_
    rintro _ h9 ⟨_, H9⟩
    with_reducible (refine ww_addI (by omega) ?_)
    refine hih (C.length - (i + 1)) _ _ (by omega) ⟨i + 1, rfl, by omega, rfl, ?_⟩
    rw [hnext]
    exact H9.sub (.cons .here (.drop .refl))
  obtain rfl : i = C.length := by omega
  clear hih
  rw [List.take_length] at H
  refine ww_lssF (by omega) (ww_condF ?_)
  have hO1 : OkV (C.foldl knw (lvV M.sz [] [] [] 0)) := knws_ok hO0
  generalize C.foldl knw (lvV M.sz [] [] [] 0) = V1 at *
  refine ww_call (vknown_ok (by omega) (H.sel (.there (.there .here))) O) fun kv h5 H5 => ?_
  refine ww_lenH H5 .here ?_
  refine ww_iter (fun m s h' => ∃ i : Nat, s = (.int .i64 (i : Int), .int .i64 (M.K.length : Int), kv, .ptr q 0, ()) ∧ i ≤ M.K.length ∧ m = M.K.length - i ∧
    HS g h' (ViewC q ((M.K.take i).foldl knw V1) :: SliC 88 2 M.K.length kv (M.K.flatMap encC) :: ViewC v M :: R))
    ?_ (m := M.K.length) (by show _ < 1000000000; omega) ⟨0, rfl, by omega, by omega, by rw [List.take_zero]; exact H5.sub (.cons (.there (.there .here)) (.cons .here (.cons .here (.drop .refl))))⟩
  clear H H5
  rintro m ih s h6 hih ⟨i, rfl, hi, rfl, H⟩
  dsimp only
  by_cases hlt : i < M.K.length
  · have hci : M.K[i]? = some M.K[i] := List.getElem?_eq_getElem hlt
    have hnext : (M.K.take (i + 1)).foldl knw V1 = knw ((M.K.take i).foldl knw V1) M.K[i] := by rw [List.take_succ_eq_append_getElem hlt, List.foldl_append]; rfl
    have hrow : ((M.K.flatMap encC).drop (i * 2)).take 2 = encC M.K[i] := enc_row (sz := 2) (fun _ => rfl) hci
    generalize M.K[i] = c at *
    obtain ⟨p, x⟩ := c
    with_reducible (refine ww_lssT (by omega) ?_; refine ww_condT ?_)
    refine ww_idxN (H.sl (.there .here)) hlt (by omega) hrow ?_
    refine ww_boxA H rfl fun b h7 H7 => ?_
    refine ww_stH H7 (b := b) .here rfl (by simp [encC]) rfl fun h8 H8 => ?_
    have H8 : HS g h8 (ObjC b [.int .i64 p, .int .u64 x] :: ViewC q ((M.K.take i).foldl knw V1) :: SliC 88 2 M.K.length kv (M.K.flatMap encC) :: ViewC v M :: R) := H8
    with_reducible (refine ww_field0 ?_; refine ww_ldH (by assumption) .here (by with_unfolding_all exact rfl) ?_; refine ww_field0 ?_; refine ww_ldH (by assumption) .here (by with_unfolding_all exact rfl) ?_)
    refine ww_call (vknow_ok (by omega) (H8.sel (.there .here)) (knws_ok hO1)) ?_
    rintro _ h9 ⟨_, H9⟩
    with_reducible (refine ww_addI (by omega) ?_)
    refine hih (M.K.length - (i + 1)) _ _ (by omega) ⟨i + 1, rfl, by omega, rfl, ?_⟩
    rw [hnext]
    exact H9.sub (.cons .here (.drop .refl))
  · obtain rfl : i = M.K.length := by omega
    rw [List.take_length] at H
    with_reducible (refine ww_lssF (by omega) ?_; refine ww_condF ?_; refine ww_leave ?_)
    exact ww_ret ⟨q, rfl, H.sub (.cons .here (.drop .refl))⟩

/-- what a call on a view comes to that may hold something already -/
def doG {α : Type} (M : VM) (act : Act α) : Int × VM :=
  if (runA act ⟨ofV M, 0, 0⟩).2.err = 11 then ((readV M (runA act ⟨ofV M, 0, 0⟩).2.M.need).1.2, (readV M (runA act ⟨ofV M, 0, 0⟩).2.M.need).2)
  else if (runA act ⟨ofV M, 0, 0⟩).2.err ≠ 0 then ((runA act ⟨ofV M, 0, 0⟩).2.err, M)
  else if (takeV M (mergeL (runA act ⟨ofV M, 0, 0⟩).2.M.lv)).1 ≠ 0 then takeV M (mergeL (runA act ⟨ofV M, 0, 0⟩).2.M.lv)
  else (0, (freesL (runA act ⟨ofV M, 0, 0⟩).2.M.lv).foldl freeV (takeV M (mergeL (runA act ⟨ofV M, 0, 0⟩).2.M.lv)).2)
theorem frS_free {lv : List LvM} {b : Int} : frS (freeL lv b) ≤ frS lv + 1 := by
  cases lv with
  | nil => exact Nat.le_succ _
  | cons y r =>
    show frS ((y.1, y.2 ++ [b]) :: r) ≤ _
    rw [frS_cons, frS_cons, List.length_append]
    show y.2.length + 1 + frS r ≤ _
    omega
theorem ddoG_ok {α : Type} {n : Nat} (hn : 13 ≤ n) {v : Nat} {M : VM} {root : Int} {clo : AV} {act : Act α} {R1 : List SP} {R2 : Option α → List SP} (H : HS g h (ViewC v M :: R1)) (G : GoodV M) (hfr : frS M.lv ≤ 40000) (hr : 6 ≤ root ∧ root < 14)
    (hc : ∀ m h1 d, n = m + 1 → HS g h1 (DrC d ⟨ofV M, 0, 0⟩ :: ViewC v M :: R1) → wp (callT tab rtab m clo [.ptr d 0] h1) fun _ h2 => ∃ (o : Option α) (D' : DM), EqR (runA act ⟨ofV M, 0, 0⟩) (o, D') ∧ GoodD D' M.sz 10 ∧ HS g h2 (DrC d D' :: ViewC v M :: R2 o)) :
    wp (callT tab rtab n (.fn 13 [] []) [.ptr v 0, .int .i64 root, clo] h) fun r h' => r = .int .i64 (doG M act).1 ∧ (GoodV (doG M act).2 ∧ frS (doG M act).2.lv ≤ frS M.lv + 10) ∧ HS g h' (ViewC v (doG M act).2 :: R2 (runA act ⟨ofV M, 0, 0⟩).1) := by
  (refine ww_fn (g := W13) rfl (by omega) fun k hk => ?_; show wp (S13 (callT tab rtab k) _ _ _ _) _; unfold S13; try simp only [Int.ofNat_eq_natCast])
  with_reducible (refine ww_lssF (by omega) ?_; refine ww_joinS ?_; (try dsimp only); refine ww_wantFF ?_; (try dsimp only); refine ww_geqF (by omega) ?_; refine ww_pickF ?_; refine ww_condF ?_)
  refine ww_call (dofG_ok (by omega) H G.ok) ?_
  rintro _ h1 ⟨q, rfl, H1⟩
  refine ww_build (l := [.ptr q 0, .int .i64 ((0 : Nat) : Int), .int .i64 ((0 : Nat) : Int)]) rfl ?_
  refine ww_boxA H1 rfl fun d h2 H2 => ?_
  have H2 := DrC.I (D := ⟨ofV M, 0, 0⟩) H2
  refine ww_call (hc k h2 d hk H2) ?_
  rintro _ h3 ⟨o, D, ⟨e1, e2, e3⟩, GD, H3⟩
  clear H1 H2
  have hD : doG M act = if D.err = 11 then ((readV M D.M.need).1.2, (readV M D.M.need).2) else if D.err ≠ 0 then (D.err, M) else if (takeV M (mergeL D.M.lv)).1 ≠ 0 then takeV M (mergeL D.M.lv) else (0, (freesL D.M.lv).foldl freeV (takeV M (mergeL D.M.lv)).2) := by
    unfold doG
    rw [e2, e3]
  rw [e1]
  dsimp only at e1 ⊢
  generalize doG M act = X at *
  clear e1 e2 e3 hc
  have H30 := H3
  obtain ⟨q, H3⟩ := DrC.E H3
  with_reducible (refine ww_nil ?_; refine ww_field0 ?_; refine ww_ldH (by assumption) .here (by with_unfolding_all exact rfl) ?_)
  by_cases c1 : D.err = 11
  · rw [if_pos c1] at hD
    subst hD
    with_reducible (refine ww_eqlT (by omega) ?_; refine ww_condT ?_; refine ww_nil ?_; refine ww_field0 ?_; refine ww_ldH (by assumption) .here (by with_unfolding_all exact rfl) ?_)
    refine ww_call (vneed_ok (by omega) (H3.sel (.there .here))) ?_
    rintro _ h3 ⟨rfl, rfl⟩
    refine ww_call (vread_ok (by omega) (H3.sel (.there (.there .here))) G.ok) ?_
    rintro _ h4 ⟨rfl, H4⟩
    with_reducible (refine ww_extract (by with_unfolding_all exact rfl) ?_; refine ww_extract (by with_unfolding_all exact rfl) ?_)
    exact ww_ret ⟨rfl, ⟨G.read, by dsimp only; rw [frS_read]; omega⟩, H4.sub (.cons .here (.drop (.drop .refl)))⟩
  rw [if_neg c1] at hD
  with_reducible (refine ww_eqlF (by omega) ?_; refine ww_condF ?_; refine ww_nil ?_; refine ww_field0 ?_; refine ww_ldH (by assumption) .here (by with_unfolding_all exact rfl) ?_)
  by_cases c2 : D.err = 0
  rotate_left
  · rw [if_pos c2] at hD
    subst hD
    with_reducible (refine ww_neqT (by omega) ?_; refine ww_condT ?_; refine ww_nil ?_; refine ww_field0 ?_; refine ww_ldH (by assumption) .here (by with_unfolding_all exact rfl) ?_)
    exact ww_ret ⟨rfl, ⟨G, by dsimp only; omega⟩, H3.sub (.cons (.there (.there .here)) (.drop (.drop .refl)))⟩
  rw [if_neg (by omega)] at hD
  with_reducible (refine ww_neqF (by omega) ?_; refine ww_condF ?_; refine ww_nil ?_; refine ww_field0 ?_; refine ww_ldH (by assumption) .here (by with_unfolding_all exact rfl) ?_)
  refine ww_call (vcells_ok (by omega) (H3.sel (.there .here)) GD.g.ok) fun cv h4 H4 => ?_
  have hml : (mergeL D.M.lv).length < 100000 := by
    have h1 := merge_len (lv := D.M.lv) (out := [])
    have h2 := GD.g.ok.lvs.held
    have h3 := GD.g.ok.lvs.le
    show ((D.M.lv.foldl (fun out x => putsC x.1 out) []).length) < _
    simp only [List.length_nil] at h1
    omega
  have hfl := frees_len (lv := D.M.lv)
  have hff := GD.fr
  refine ww_call (vtake_ok (by omega) (H4.sub (L' := ViewC v M :: SliC 88 2 (mergeL D.M.lv).length cv ((mergeL D.M.lv).flatMap encC) :: ViewC q D.M :: ObjC d [.ptr q 0, .int .i64 D.err, .int .i64 D.stp] :: R2 o) (.cons (.there (.there (.there .here))) (.cons .here (.cons .here (.cons .here .refl))))) G.ok (Rd.own .here) hml) ?_
  rintro _ h5 ⟨rfl, H5⟩
  by_cases c3 : (takeV M (mergeL D.M.lv)).1 = 0
  rotate_left
  · rw [if_pos c3] at hD
    subst hD
    refine ww_neqT c3 ?_
    with_reducible (refine ww_condT ?_)
    exact ww_ret ⟨rfl, ⟨G.take (merge_wd (fun c hc => by cases hc) GD.g.wd.l), by rw [frS_take]; omega⟩, H5.sub (.cons .here (.drop (.drop (.drop .refl))))⟩
  rw [if_neg (by omega)] at hD
  subst hD
  refine ww_neqF c3 ?_
  with_reducible (refine ww_condF ?_; refine ww_nil ?_; refine ww_field0 ?_; refine ww_ldH (by assumption) (.there (.there (.there .here))) (by with_unfolding_all exact rfl) ?_)
  refine ww_call (vfrees_ok (by omega) (H5.sel (.there (.there .here))) GD.g.ok) fun fv h6 H6 => ?_
  refine ww_lenH H6 .here ?_
  have hO := G.take (cs := mergeL D.M.lv) (merge_wd (fun c hc => by cases hc) GD.g.wd.l)
  have hfr0 : frS (takeV M (mergeL D.M.lv)).2.lv = frS M.lv := by rw [frS_take]
  generalize (takeV M (mergeL D.M.lv)).2 = M1 at *
  generalize freesL D.M.lv = F at *
  refine ww_iter (fun m s h' => ∃ i : Nat, s = (.int .i64 (i : Int), .int .i64 (F.length : Int), fv, .ptr v 0, ()) ∧ i ≤ F.length ∧ m = F.length - i ∧ GoodV ((F.take i).foldl freeV M1) ∧ frS ((F.take i).foldl freeV M1).lv ≤ frS M.lv + i ∧
    HS g h' (ViewC v ((F.take i).foldl freeV M1) :: SliC 3 1 F.length fv (F.map (.int .i64)) :: R2 o))
    ?_ (m := F.length) (by show _ < 1000000000; omega) ⟨0, rfl, by omega, by omega, hO, by rw [List.take_zero]; show frS M1.lv ≤ _; omega, by rw [List.take_zero]; exact H6.sub (.cons (.there (.there .here)) (.cons .here (.drop (.drop (.drop .refl)))))⟩
  clear H3 H30 H4 H5 H6
  rintro m ih s h7 hih ⟨i, rfl, hi, rfl, hOi, hfi, H⟩
  dsimp only
  by_cases hlt : i < F.length
  · have hnext : (F.take (i + 1)).foldl freeV M1 = freeV ((F.take i).foldl freeV M1) F[i] := by rw [List.take_succ_eq_append_getElem hlt, List.foldl_append]; rfl
    with_reducible (refine ww_lssT (by omega) ?_; refine ww_condT ?_)
    refine ww_idx1 (H.sl (.there .here)) (x := .int .i64 F[i]) (by rw [List.getElem?_map, List.getElem?_eq_getElem hlt]; rfl) ?_
    refine ww_call (vfree_ok (by omega) H hOi.ok) ?_
    intro _ h8 H8
    with_reducible (refine ww_addI (by omega) ?_)
    refine hih (F.length - (i + 1)) _ _ (by omega) ⟨i + 1, rfl, by omega, rfl, ?_, ?_, ?_⟩
    · rw [hnext]
      exact hOi.freeV (by omega)
    · rw [hnext]
      have := frS_free (lv := ((F.take i).foldl freeV M1).lv) (b := F[i])
      show frS (freeL _ _) ≤ _
      omega
    · rw [hnext]; exact H8
  · obtain rfl : i = F.length := by omega
    with_reducible (refine ww_lssF (by omega) ?_; refine ww_condF ?_; refine ww_leave ?_)
    rw [List.take_length] at H hOi hfi
    exact ww_ret ⟨rfl, ⟨hOi, Nat.le_trans hfi (by omega)⟩, H.sub (.cons .here (.drop .refl))⟩
end Go.Proofs.Ytpohfcljfemhlaa
