/- Levels of cells and frees: by the program. -/
import Derived.Test.YtkfpddegilellaaGreatDoorVwW
namespace Go.Proofs.YtkfpddegilellaaGreatDoor
open Go Go.Ae
set_option maxRecDepth 100000

variable {g h : AH} {L R : List SP}

/-- a level: its write set, its frees -/
def LvC (a : Nat) (x : LvM) : SP := .ex fun w => .ex fun fv => .all [ObjC a [.ptr w 0, fv], WrC w 96 x.1, SliC 3 1 x.2.length fv (x.2.map (.int .i64))]
theorem LvC.E {a : Nat} {x : LvM} (H : HS g h (LvC a x :: R)) : ∃ w fv, HS g h (ObjC a [.ptr w 0, fv] :: WrC w 96 x.1 :: SliC 3 1 x.2.length fv (x.2.map (.int .i64)) :: R) := by
  obtain ⟨w, H⟩ := H.exE
  obtain ⟨fv, H⟩ := H.exE
  exact ⟨w, fv, H.allE⟩
theorem LvC.I {a w : Nat} {fv : AV} {x : LvM} (H : HS g h (ObjC a [.ptr w 0, fv] :: WrC w 96 x.1 :: SliC 3 1 x.2.length fv (x.2.map (.int .i64)) :: R)) : HS g h (LvC a x :: R) :=
  HS.exI w (HS.exI fv (HS.allI H))
def ptrsA (ps : List Nat) : List AV := ps.reverse.map fun a => .ptr a 0
/-- all levels, the inmost first -/
def LgC (q most : Nat) (lv : List LvM) : SP := .ex fun v => .ex fun ps : List Nat => .all (.pur (ps.length = lv.length) :: ObjC q [.int .i64 (most : Int), v] :: SliC 150 1 lv.length v (ptrsA ps) :: List.zipWith LvC ps lv)
theorem LgC.E {q most : Nat} {lv : List LvM} (H : HS g h (LgC q most lv :: R)) : ∃ v ps, ps.length = lv.length ∧ HS g h (ObjC q [.int .i64 (most : Int), v] :: SliC 150 1 lv.length v (ptrsA ps) :: (List.zipWith LvC ps lv ++ R)) := by
  obtain ⟨v, H⟩ := H.exE
  obtain ⟨ps, H⟩ := H.exE
  obtain ⟨e, H⟩ := HS.purE (H.allE)
  exact ⟨v, ps, e, H⟩
theorem LgC.I {q most : Nat} {lv : List LvM} {v : AV} {ps : List Nat} (e : ps.length = lv.length) (H : HS g h (ObjC q [.int .i64 (most : Int), v] :: SliC 150 1 lv.length v (ptrsA ps) :: (List.zipWith LvC ps lv ++ R))) : HS g h (LgC q most lv :: R) :=
  HS.exI v (HS.exI ps (HS.allI (HS.purI e H)))
/-- with its inmost one at hand -/
theorem LgC.E1 {q most : Nat} {x : LvM} {r : List LvM} (H : HS g h (LgC q most (x :: r) :: R)) : ∃ v a ps, ps.length = r.length ∧ HS g h (ObjC q [.int .i64 (most : Int), v] :: SliC 150 1 (r.length + 1) v (ptrsA (a :: ps)) :: LvC a x :: (List.zipWith LvC ps r ++ R)) := by
  obtain ⟨v, ps, e, H⟩ := LgC.E H
  cases ps with
  | nil => simp at e
  | cons a ps => exact ⟨v, a, ps, by simpa using e, H⟩
theorem LgC.I1 {q most : Nat} {x : LvM} {r : List LvM} {v : AV} {a : Nat} {ps : List Nat} (e : ps.length = r.length) (H : HS g h (ObjC q [.int .i64 (most : Int), v] :: SliC 150 1 (r.length + 1) v (ptrsA (a :: ps)) :: LvC a x :: (List.zipWith LvC ps r ++ R))) : HS g h (LgC q most (x :: r) :: R) :=
  LgC.I (ps := a :: ps) (by simp [e]) H
theorem ptrsA_last (a : Nat) (ps : List Nat) : (ptrsA (a :: ps))[ps.length]? = some (.ptr a 0) := by
  unfold ptrsA
  rw [List.reverse_cons, List.map_append, List.getElem?_append_right (by simp)]
  simp
theorem ptrsA_get {ps : List Nat} {i : Nat} (hi : i < ps.length) : (ptrsA ps)[i]? = (ps[ps.length - 1 - i]?).map fun a => .ptr a 0 := by
  unfold ptrsA
  rw [List.getElem?_map, List.getElem?_reverse hi]
theorem zip_sel {ps : List Nat} : ∀ {lv : List LvM} {i a : Nat} {x : LvM}, ps[i]? = some a → lv[i]? = some x → ∃ T, Sel (List.zipWith LvC ps lv ++ R) (LvC a x) T := by
  induction ps with
  | nil => intro lv i a x h; simp at h
  | cons b ps ih =>
    intro lv i a x h1 h2
    cases lv with
    | nil => simp at h2
    | cons y lv =>
      cases i with
      | zero =>
        simp at h1 h2
        subst h1; subst h2
        exact ⟨_, .here⟩
      | succ i =>
        obtain ⟨T, s⟩ := ih (lv := lv) (i := i) (by simpa using h1) (by simpa using h2)
        exact ⟨_, .there s⟩

/-- the inmost one -/
theorem lin_ok {n q : Nat} (hn : 1 ≤ n) {m v : AV} {a : Nat} {ps : List Nat} {R1 R2 : List SP} {e : TypeId} (H : HS g h L) (s1 : Sel L (ObjC q [m, v]) R1) (s2 : Sel L (SliC e 1 (ps.length + 1) v (ptrsA (a :: ps))) R2) (hl : ps.length < 1000000) :
    wp (callT tab rtab n (.fn 96 [] []) [.ptr q 0] h) fun r h' => r = .ptr a 0 ∧ h' = h := by
  (refine ww_fn (g := W96) rfl (by omega) fun k hk => ?_; show wp (S96 (callT tab rtab k) _ _) _; unfold S96; try simp only [Int.ofNat_eq_natCast])
  refine ww_nil (ww_field0 (ww_ldH H s1 rfl (ww_nil (ww_field0 (ww_ldH H s1 rfl (ww_lenH H s2 (ww_subI (by omega) ?_)))))))
  rw [show ((ps.length + 1 : Nat) : Int) - ((1 : Nat) : Int) = ((ps.length : Nat) : Int) by omega]
  exact ww_idx1 (H.sl s2) (ptrsA_last a ps) (ww_ret ⟨rfl, rfl⟩)

theorem lfresh_ok {n : Nat} (hn : 2 ≤ n) (H : HS g h R) : wp (callT tab rtab n (.fn 94 [] []) [] h) fun v h' => ∃ a, v = .ptr a 0 ∧ HS g h' (LvC a ([], []) :: R) := by
  (refine ww_fn (g := W94) rfl (by omega) fun k hk => ?_; show wp (S94 (callT tab rtab k) _) _; unfold S94; try simp only [Int.ofNat_eq_natCast])
  refine ww_call (wnew_ok (m := 96) (by omega) (by omega) H) ?_
  rintro _ h2 ⟨w, rfl, H2⟩
  refine ww_build rfl (ww_boxA H2 rfl fun a h3 H3 => ww_ret ⟨a, rfl, ?_⟩)
  exact LvC.I (w := w) (fv := .nils) ((H3.nils (e := 3) (sz := 1)).sub (.cons (.there .here) (.cons (.there .here) (.cons .here (.refl)))))

theorem lnew_ok {n : Nat} (hn : 3 ≤ n) {m : Int} (H : HS g h R) : wp (callT tab rtab n (.fn 69 [] []) [.int .i64 m] h) fun v h' => ∃ q, v = .ptr q 0 ∧ HS g h' (LgC q (max 0 (min m 96)).toNat [([], [])] :: R) := by
  (refine ww_fn (g := W69) rfl (by omega) fun k hk => ?_; show wp (S69 (callT tab rtab k) _ _) _; unfold S69; try simp only [Int.ofNat_eq_natCast])
  refine ww_min (ww_max (ww_call (lfresh_ok (by omega) H) ?_))
  rintro _ h2 ⟨a, rfl, H2⟩
  refine ww_buildSH (n := 1) (l := [.ptr a 0]) (sz := 1) H2 rfl rfl rfl rfl fun v h3 H3 => ?_
  have h1 := H3.one .here
  refine ww_build (l := [.int .i64 (max ((0 : Nat) : Int) (min m ((96 : Nat) : Int))), v]) (by simp only [afill, h1.1]; rfl) ?_
  refine ww_boxA H3 (by show (true && (v.one && true)) = true; rw [h1.2]; rfl) fun q h4 H4 => ww_ret ⟨q, rfl, ?_⟩
  refine LgC.I1 (v := v) (a := a) (ps := []) rfl ?_
  rw [show (((max 0 (min m 96)).toNat : Nat) : Int) = max ((0 : Nat) : Int) (min m ((96 : Nat) : Int)) by omega]
  exact H4

theorem lfree_ok {n q most : Nat} (hn : 2 ≤ n) {lv : List LvM} {b : Int} (H : HS g h (LgC q most lv :: R)) (O : OkL most lv) (hf : ∀ x ∈ lv, x.2.length < 1000000) :
    wp (callT tab rtab n (.fn 210 [] []) [.ptr q 0, .int .i64 b] h) fun _ h' => HS g h' (LgC q most (freeL lv b) :: R) := by
  cases lv with
  | nil => have := O.one; simp at this
  | cons x r =>
  (refine ww_fn (g := W210) rfl (by omega) fun k hk => ?_; show wp (S210 (callT tab rtab k) _ _ _) _; unfold S210; try simp only [Int.ofNat_eq_natCast])
  obtain ⟨v, a, ps, e, H⟩ := LgC.E1 H
  rw [← e] at H
  refine ww_call (lin_ok (by omega) H .here (.there .here) (by have := O.deep; simp at this; omega)) ?_
  rintro _ _ ⟨rfl, rfl⟩
  obtain ⟨w, fv, H2⟩ := LvC.E (H.sel (.there (.there .here)))
  with_reducible (refine ww_nil ?_; refine ww_field0 ?_; refine ww_ldH (by assumption) .here (by with_unfolding_all exact rfl) ?_)
  refine ww_buildSH (n := 1) (l := [.int .i64 b]) (sz := 1) H2 rfl rfl rfl rfl fun v3 h3 H3 => ?_
  have := hf x (List.mem_cons_self ..)
  refine ww_appH (H3.sel (P := SliC 3 1 x.2.length fv (x.2.map (.int .i64))) (.there (.there (.there .here)))) (H3.sl .here) (by omega) (by omega) rfl fun v4 h4 H4 => ?_
  with_reducible (refine ww_nil ?_; refine ww_field0 ?_)
  refine ww_st1H H4 (.there (.there .here)) (H4.one .here) (by simp) fun h5 H5 => ww_ret ?_
  refine LgC.I1 (v := v) (a := a) (ps := ps) e ?_
  rw [← e]
  have := LvC.I (a := a) (w := w) (fv := v4) (x := (x.1, x.2 ++ [b])) (R := ObjC q [.int .i64 (most : Int), v] :: SliC 150 1 (ps.length + 1) v (ptrsA (a :: ps)) :: (List.zipWith LvC ps r ++ R))
    (by rw [List.map_append, List.length_append]; exact H5.sub (.cons .here (.cons (.there (.there .here)) (.cons .here (.cons (.there .here) (.cons (.there .here) (.drop (.refl))))))))
  exact this.sub (.cons (.there .here) (.cons (.there .here) (.refl)))

theorem lfrees_ok {n q most : Nat} (hn : 1 ≤ n) {lv : List LvM} (H : HS g h (LgC q most lv :: R)) (O : OkL most lv) (hf : (freesL lv).length < 1000000) :
    wp (callT tab rtab n (.fn 67 [] []) [.ptr q 0] h) fun v h' => HS g h' (SliC 3 1 (freesL lv).length v ((freesL lv).map (.int .i64)) :: LgC q most lv :: R) := by
  (refine ww_fn (g := W67) rfl (by omega) fun k hk => ?_; show wp (S67 (callT tab rtab k) _ _) _; unfold S67; try simp only [Int.ofNat_eq_natCast])
  have hd := O.deep
  obtain ⟨v, ps, e, H⟩ := LgC.E H
  with_reducible (refine ww_nil ?_; refine ww_field0 ?_; refine ww_ldH (by assumption) .here (by with_unfolding_all exact rfl) ?_; refine ww_lenH (by assumption) (.there .here) ?_)
  refine ww_iter (fun m s h' => ∃ (i : Nat) (acc : AV), s = (.int .i64 (i : Int), .int .i64 (lv.length : Int), v, acc, ()) ∧ i ≤ lv.length ∧ m = lv.length - i ∧
    HS g h' (SliC 3 1 ((lv.reverse.take i).flatMap (·.2)).length acc (((lv.reverse.take i).flatMap (·.2)).map (.int .i64)) :: ObjC q [.int .i64 (most : Int), v] :: SliC 150 1 lv.length v (ptrsA ps) :: (List.zipWith LvC ps lv ++ R)))
    ?_ (m := lv.length) (by have := O.deep; show _ < 1000000000; omega) ⟨0, .nils, rfl, by omega, by omega, H.nils⟩
  rintro m ih s h' hih ⟨i, acc, rfl, h1, rfl, H⟩
  dsimp only
  refine ww_lssC (fun hlt => ww_condT ?_) fun hge => ww_condF (ww_leave (ww_ret ?_))
  · have hi : i < lv.length := by omega
    have ha : ps[ps.length - 1 - i]? = some (ps[ps.length - 1 - i]'(by omega)) := List.getElem?_eq_getElem _
    have hx : lv[ps.length - 1 - i]? = some (lv[ps.length - 1 - i]'(by omega)) := List.getElem?_eq_getElem _
    generalize ps[ps.length - 1 - i]'(by omega) = a at ha
    have hx2 : lv.reverse[i]? = some (lv[ps.length - 1 - i]'(by omega)) := by rw [List.getElem?_reverse hi, ← hx, e]
    generalize lv[ps.length - 1 - i]'(by omega) = x at hx hx2
    refine ww_idx1 (H.sl (.there (.there .here))) (by rw [ptrsA_get (by omega), ha]; rfl) ?_
    obtain ⟨T, s⟩ := zip_sel (R := R) ha hx
    have H2 := H.sel (.there (.there (.there s)))
    obtain ⟨w, fv, H3⟩ := LvC.E H2
    with_reducible (refine ww_nil ?_; refine ww_field0 ?_; refine ww_ldH (by assumption) .here (by with_unfolding_all exact rfl) ?_)
    have hlen : ((lv.reverse.take i).flatMap (·.2)).length + x.2.length ≤ (freesL lv).length := by
      have e1 : lv.reverse.flatMap (·.2) = (lv.reverse.take (i + 1)).flatMap (·.2) ++ (lv.reverse.drop (i + 1)).flatMap (·.2) := by rw [← List.flatMap_append, List.take_append_drop]
      unfold freesL
      rw [e1, List.take_add_one, hx2]
      simp
    refine ww_appH (H3.sel (P := SliC 3 1 ((lv.reverse.take i).flatMap (·.2)).length acc (((lv.reverse.take i).flatMap (·.2)).map (.int .i64))) (.there (.there (.there .here)))) (H3.sl (.there (.there .here))) (by omega) (by omega) ?_ fun v4 h4 H4 => ww_addI (by omega) ?_
    · simp [allOne, AV.one]
    refine hih (lv.length - (i + 1)) _ _ (by omega) ⟨i + 1, v4, rfl, by omega, rfl, ?_⟩
    rw [List.take_add_one, hx2, Option.toList_some, List.flatMap_append, List.map_append, List.length_append, List.flatMap_cons, List.flatMap_nil, List.append_nil]
    have H5 := LvC.I (a := a) (w := w) (fv := fv) (x := x) (H4.sub (.cons (.there .here) (.cons (.there .here) (.cons (.there .here) .refl))))
    exact HS.unsel (.there (.there (.there s))) (H5.sub (.refl))
  · obtain rfl : i = lv.length := by omega
    rw [List.take_of_length_le (by simp)] at H
    exact (LgC.I (v := v) (ps := ps) e (HS.back (A := _ :: _ :: List.zipWith LvC ps lv) H)).sub (.cons (.there .here) (.refl))

theorem rsum (l : List Nat) : l.reverse.sum = l.sum := by
  induction l with
  | nil => rfl
  | cons a l ih => rw [List.reverse_cons, List.sum_append, ih, List.sum_cons]; simp [Nat.add_comm]
theorem lroom_ok {n q most : Nat} (hn : 2 ≤ n) {lv : List LvM} (H : HS g h (LgC q most lv :: R)) (O : OkL most lv) :
    wp (callT tab rtab n (.fn 134 [] []) [.ptr q 0] h) fun v h' => v = .int .i64 ((most : Int) - (heldL lv : Int)) ∧ h' = h := by
  (refine ww_fn (g := W134) rfl (by omega) fun k hk => ?_; show wp (S134 (callT tab rtab k) _ _) _; unfold S134; try simp only [Int.ofNat_eq_natCast])
  obtain ⟨v, ps, e, H⟩ := LgC.E H
  have hh := O.held
  have hl := O.le
  have hd := O.deep
  with_reducible (refine ww_nil ?_; refine ww_field0 ?_; refine ww_ldH (by assumption) .here (by with_unfolding_all exact rfl) ?_; refine ww_nil ?_; refine ww_field0 ?_; refine ww_ldH (by assumption) .here (by with_unfolding_all exact rfl) ?_; refine ww_lenH (by assumption) (.there .here) ?_)
  refine ww_iter (fun m s h' => ∃ (i : Nat), s = (.int .i64 (i : Int), .int .i64 (lv.length : Int), v, .int .i64 ((most : Int) - (((lv.reverse.take i).map fun x => x.1.length).sum : Nat)), ()) ∧ i ≤ lv.length ∧ m = lv.length - i ∧ h' = h)
    ?_ (m := lv.length) (by show _ < 1000000000; omega) ⟨0, by simp, by omega, by omega, rfl⟩
  rintro m ih s h' hih ⟨i, rfl, h1, rfl, rfl⟩
  dsimp only
  have hsum : ∀ j, ((lv.reverse.take j).map fun x => x.1.length).sum + ((lv.reverse.drop j).map fun x => x.1.length).sum = heldL lv := by
    intro j
    rw [← List.sum_append, ← List.map_append, List.take_append_drop, List.map_reverse, rsum]; rfl
  refine ww_lssC (fun hlt => ww_condT ?_) fun hge => ww_condF (ww_leave (ww_ret ⟨?_, rfl⟩))
  · have hi : i < lv.length := by omega
    have ha : ps[ps.length - 1 - i]? = some (ps[ps.length - 1 - i]'(by omega)) := List.getElem?_eq_getElem _
    have hx : lv[ps.length - 1 - i]? = some (lv[ps.length - 1 - i]'(by omega)) := List.getElem?_eq_getElem _
    generalize ps[ps.length - 1 - i]'(by omega) = a at ha
    have hx2 : lv.reverse[i]? = some (lv[ps.length - 1 - i]'(by omega)) := by rw [List.getElem?_reverse hi, ← hx, e]
    generalize lv[ps.length - 1 - i]'(by omega) = x at hx hx2
    refine ww_idx1 (H.sl (.there .here)) (by rw [ptrsA_get (by omega), ha]; rfl) ?_
    obtain ⟨T, s⟩ := zip_sel (R := R) ha hx
    obtain ⟨w, fv, H3⟩ := LvC.E (H.sel (.there (.there s)))
    with_reducible (refine ww_nil ?_; refine ww_field0 ?_; refine ww_ldH (by assumption) .here (by with_unfolding_all exact rfl) ?_)
    refine ww_call (wlen_ok (by omega) (H3.sel (.there .here))) ?_
    rintro _ _ ⟨rfl, rfl⟩
    have h2 := hsum i
    have h3 := hsum (i + 1)
    have h4 : ((lv.reverse.take (i + 1)).map fun x => x.1.length).sum = ((lv.reverse.take i).map fun x => x.1.length).sum + x.1.length := by
      rw [List.take_add_one, hx2, Option.toList_some, List.map_append, List.sum_append]; simp
    refine ww_subI (by omega) (ww_addI (by omega) (hih (lv.length - (i + 1)) _ _ (by omega) ⟨i + 1, ?_, by omega, rfl, rfl⟩))
    rw [h4]
    refine Prod.ext ?_ (Prod.ext rfl (Prod.ext rfl (Prod.ext ?_ rfl)))
    · show AV.int _ _ = AV.int _ _
      congr 1
    · show AV.int _ _ = AV.int _ _
      congr 1
      omega
  · have h2 := hsum i
    rw [List.drop_of_length_le (by simp; omega)] at h2
    rw [show ((lv.reverse.take i).map fun x => x.1.length).sum = heldL lv by simpa using h2]

/-- from the inmost one outwards -/
theorem back_ok {k b0 l : Nat} {v : AV} {ps : List Nat} {Inv : Nat → AH → Prop} {Fin : AH → Prop}
    (hrd : ∀ i h, Inv i h → h.at b0 0 = some v ∧ Sl (fun _ => True) h 1 ps.length v (ptrsA ps))
    (hy : ∀ i a h, ps[i]? = some a → Inv i h → wp (callT tab rtab k (.yield l) [.int .i64 ((ps.length - 1 - i : Nat) : Int), .ptr a 0] h) fun r h' => (r = .bool true ∧ Inv (i + 1) h') ∨ (r = .bool false ∧ Fin h'))
    (hl : ps.length < 1000000) (h0 : Inv 0 h) : wp (callT tab rtab (k + 1) (.fn 98 [] [.ptr b0 0]) [.yield l] h) fun _ h' => Inv ps.length h' ∨ Fin h' := by
  refine ww_fc (g := W98) rfl (by omega) fun k' hk => ?_
  obtain rfl : k' = k := by omega
  show wp (S98 _ _ _ _) _
  unfold S98
  try simp only [Int.ofNat_eq_natCast]
  obtain ⟨r1, r2⟩ := hrd 0 h h0
  refine ww_load1 r1 (ww_len r2 (ww_subI (by omega) ?_))
  refine ww_iter (fun m s h' => ∃ i : Nat, s = (.int .i64 ((ps.length : Int) - ((1 : Nat) : Int) - (i : Int)), .ptr b0 0, .yield l, ()) ∧ i ≤ ps.length ∧ m = ps.length - i ∧ Inv i h') ?_ (m := ps.length) (by show _ < 1000000000; omega) ⟨0, by simp, by omega, by omega, h0⟩
  rintro m ih s h' hih ⟨i, rfl, h1, rfl, hI⟩
  dsimp only
  obtain ⟨r1, r2⟩ := hrd i h' hI
  refine ww_geqC (fun hlt => ww_condT ?_) fun hge => ww_condF (ww_leave (ww_ret (.inl ?_)))
  · have hi : i < ps.length := by omega
    have ha : ps[i]? = some ps[i] := List.getElem?_eq_getElem hi
    rw [show (ps.length : Int) - ((1 : Nat) : Int) - (i : Int) = ((ps.length - 1 - i : Nat) : Int) by omega]
    refine ww_load1 r1 (ww_idx1 r2 (by rw [ptrsA_get (by omega), show ps.length - 1 - (ps.length - 1 - i) = i by omega, ha]; rfl) ?_)
    refine ww_call (hy i _ h' ha hI) ?_
    rintro _ h2 (⟨rfl, hI2⟩ | ⟨rfl, hF⟩)
    · refine ww_notT (ww_condF (ww_subI (by omega) (hih (ps.length - (i + 1)) _ _ (by omega) ⟨i + 1, ?_, by omega, rfl, hI2⟩)))
      refine Prod.ext ?_ rfl
      show AV.int _ _ = AV.int _ _
      congr 1
      omega
    · exact ww_notF (ww_condT (ww_leave (ww_ret (.inr hF))))
  · obtain rfl : i = ps.length := by omega
    exact hI

theorem getL_none {p : Int} : ∀ {lv : List LvM}, (∀ (j : Nat) x, lv[j]? = some x → getC p x.1 = none) → getL p lv = none := by
  intro lv
  induction lv with
  | nil => intro _; rfl
  | cons x r ih =>
    intro h
    unfold getL
    rw [h 0 x rfl]
    exact ih fun j y hy => h (j + 1) y (by simpa using hy)
theorem getL_some {p v : Int} : ∀ {lv : List LvM} {i : Nat} {x : LvM}, (∀ j, j < i → ∀ x, lv[j]? = some x → getC p x.1 = none) → lv[i]? = some x → getC p x.1 = some v → getL p lv = some v := by
  intro lv
  induction lv with
  | nil => intro i x _ h; simp at h
  | cons y r ih =>
    intro i x h1 h2 h3
    unfold getL
    cases i with
    | zero => simp at h2; subst h2; rw [h3]
    | succ i =>
      rw [h1 0 (by omega) y rfl]
      exact ih (i := i) (x := x) (fun j hj z hz => h1 (j + 1) (by omega) z (by simpa using hz)) (by simpa using h2) h3
theorem OkL.len {most : Nat} {lv : List LvM} (O : OkL most lv) {x : LvM} (hx : x ∈ lv) : x.1.length ≤ 96 := by
  have h1 := O.held
  have h2 := O.le
  have : x.1.length ≤ heldL lv := by
    clear h1 O
    induction lv with
    | nil => cases hx
    | cons y r ih =>
      rw [heldL_cons]
      rcases List.mem_cons.1 hx with rfl | hx
      · omega
      · have := ih hx; omega
  omega

theorem backward_ok {n : Nat} (hn : 1 ≤ n) {v : AV} (h1 : One v) (H : HS g h L) : wp (callT tab rtab n (.fn 73 [] []) [v] h) fun r h' => ∃ b, r = .fn 98 [] [.ptr b 0] ∧ HS g h' (ObjC b [v] :: L) := by
  (refine ww_fn (g := W73) rfl (by omega) fun k hk => ?_; show wp (S73 (callT tab rtab k) _ _) _; unfold S73; try simp only [Int.ofNat_eq_natCast])
  exact ww_box1 H h1 fun b h2 H2 => ww_ret ⟨b, rfl, H2⟩

theorem lget_ok {n q most : Nat} (hn : 8 ≤ n) {lv : List LvM} {p : Int} (H : HS g h (LgC q most lv :: R)) (O : OkL most lv) :
    wp (callT tab rtab n (.fn 71 [] []) [.ptr q 0, .int .i64 p] h) fun v h' => v = .tup [.int .u64 ((getL p lv).getD 0), .bool (getL p lv).isSome] ∧ HS g h' (LgC q most lv :: R) := by
  (refine ww_fn (g := W71) rfl (by omega) fun k hk => ?_; show wp (S71 (callT tab rtab k) _ _ _) _; unfold S71; try simp only [Int.ofNat_eq_natCast])
  obtain ⟨v, ps, e, H⟩ := LgC.E H
  have hd := O.deep
  refine ww_box1 H ⟨rfl, rfl⟩ fun b1 h1 H => ww_box1 H ⟨rfl, rfl⟩ fun b2 h2 H => ww_box1 H ⟨rfl, rfl⟩ fun b3 h3 H => ?_
  with_reducible (refine ww_nil ?_; refine ww_field0 ?_; refine ww_ldH (by assumption) (.there (.there (.there .here))) (by with_unfolding_all exact rfl) ?_)
  refine ww_call (backward_ok (by omega) (H.one (.there (.there (.there (.there .here))))) H) ?_
  rintro _ h4 ⟨b4, rfl, H⟩
  have H5 := (H.newBlk .dfd).newBlk (.loop .ready none 71 [1, 0, 1, 0] [5, 4, 3] [.ptr b3 0, .ptr b2 0, .ptr b1 0] h4.nx)
  generalize (h4.new .dfd).nx = l at H5 ⊢
  generalize h4.nx = d at H5 ⊢
  obtain ⟨k2, rfl⟩ : ∃ k2, k = k2 + 1 := ⟨k - 1, by omega⟩
  refine ww_callF (back_ok (b0 := b4) (v := v) (ps := ps)
    (Inv := fun i h' => HS g h' (BlkC l (.loop .ready none 71 [1, 0, 1, 0] [5, 4, 3] [.ptr b3 0, .ptr b2 0, .ptr b1 0] d) :: BlkC d .dfd :: ObjC b4 [v] :: ObjC b3 [.bool false] :: ObjC b2 [.int .u64 ((0 : Nat) : Int)] :: ObjC b1 [.int .i64 p] ::
      ObjC q [.int .i64 (most : Int), v] :: SliC 150 1 lv.length v (ptrsA ps) :: (List.zipWith LvC ps lv ++ R)) ∧ ∀ j, j < i → ∀ x, lv[j]? = some x → getC p x.1 = none)
    (Fin := fun h' => ∃ x, getL p lv = some x ∧ HS g h' (BlkC l (.loop .done (some .ret) 71 [1, 0, 1, 0] [5, 4, 3] [.ptr b3 0, .ptr b2 0, .ptr b1 0] d) :: BlkC d .dfd :: ObjC b4 [v] :: ObjC b3 [.bool true] :: ObjC b2 [.int .u64 x] :: ObjC b1 [.int .i64 p] ::
      ObjC q [.int .i64 (most : Int), v] :: SliC 150 1 lv.length v (ptrsA ps) :: (List.zipWith LvC ps lv ++ R)))
    ?_ ?_ (by omega) ⟨H5, fun j hj => by omega⟩) ?_
  · rintro i h' ⟨H, _⟩
    obtain ⟨et, A⟩ := H.obj (b := b4) (.there (.there .here))
    exact ⟨A.at 0, e ▸ H.sl (.there (.there (.there (.there (.there (.there (.there .here)))))))⟩
  · rintro i a h' ha ⟨H, hno⟩
    have hi := (List.getElem?_eq_some_iff.1 ha).1
    have hx : lv[i]? = some (lv[i]'(by omega)) := List.getElem?_eq_getElem _
    have hm : lv[i]'(by omega) ∈ lv := List.getElem_mem _
    generalize lv[i]'(by omega) = x at hx hm
    have hxl := O.len hm
    refine ww_yield (H.blk .here) (w := V1) rfl (by omega) fun k3 hk3 => ?_
    show wp (B1 _ _ _ _ _ (.int .i64 ((ps.length - 1 - i : Nat) : Int)) _ _) _
    unfold B1
    try simp only [Int.ofNat_eq_natCast]
    refine ww_begin H .here fun h6 H => ?_
    obtain ⟨T, s⟩ := zip_sel (R := R) ha hx
    obtain ⟨w, fv, H7⟩ := LvC.E (H.sel (.there (.there (.there (.there (.there (.there (.there (.there s)))))))))
    with_reducible (refine ww_nil ?_; refine ww_field0 ?_; refine ww_ldH (by assumption) .here (by with_unfolding_all exact rfl) ?_; refine ww_ldH (by assumption) (.there (.there (.there (.there (.there (.there (.there (.there .here)))))))) (by with_unfolding_all exact rfl) ?_)
    refine ww_call (wget_ok (by omega) (H7.sel (.there .here)) (by omega)) ?_
    rintro _ h8 ⟨rfl, H8⟩
    with_reducible (refine ww_extract (by with_unfolding_all exact rfl) ?_; refine ww_extract (by with_unfolding_all exact rfl) ?_)
    cases hg : getC p x.1 with
    | none =>
      refine ww_condF (ww_endN H8 (.there (.there (.there .here))) fun h9 H9 => .inl ⟨rfl, ?_, fun j hj y hy => ?_⟩)
      · have H10 := LvC.I (a := a) (w := w) (fv := fv) (x := x) (H9.sub (.cons (.there (.there .here)) (.cons (.there .here) (.cons (.there .here) .refl))))
        exact HS.unsel (.there (.there (.there (.there (.there (.there (.there (.there s)))))))) (H10.sub (.refl))
      · by_cases hj' : j < i
        · exact hno j hj' y hy
        · obtain rfl : j = i := by omega
          rw [hx] at hy; cases hy; exact hg
    | some z =>
      refine ww_condT (ww_st1H H8 (b := b2) (.there (.there (.there (.there (.there (.there (.there .here))))))) ⟨rfl, rfl⟩ (by simp) fun h9 H9 => ww_st1H H9 (b := b3) (.there (.there (.there (.there (.there (.there (.there .here))))))) ⟨rfl, rfl⟩ (by simp) fun h10 H10 => ww_endX H10 (.there (.there (.there (.there (.there .here))))) fun h11 H11 => .inr ⟨rfl, z, getL_some hno hx hg, ?_⟩)
      have H12 := LvC.I (a := a) (w := w) (fv := fv) (x := x) (H11.sub (.cons (.there (.there (.there (.there .here)))) (.cons (.there (.there (.there .here))) (.cons (.there (.there (.there .here))) .refl))))
      exact HS.unsel (.there (.there (.there (.there (.there (.there (.there (.there s)))))))) (H12.sub (.cons .here (.cons .here (.cons (.there (.there .here)) (.cons (.there (.there .here)) (.cons .here (.cons .here (.refl))))))))
  · rintro _ h6 (⟨H, hno⟩ | ⟨x, hx, H⟩)
    · have hg : getL p lv = none := getL_none fun j x hj => hno j (by have := (List.getElem?_eq_some_iff.1 hj).1; omega) x hj
      refine ww_endL H .here (fun h => by cases h) fun h7 H => ww_noneN (ww_st1H H (b := b2) (.there (.there (.there (.there .here)))) ⟨rfl, rfl⟩ (by simp) fun h8 H => ww_st1H H (b := b3) (.there (.there (.there (.there .here)))) ⟨rfl, rfl⟩ (by simp) fun h9 H => ww_leave1 H (.there (.there (.there .here))) fun h10 H => ?_)
      with_reducible (refine ww_ldH (by assumption) (.there (.there .here)) (by with_unfolding_all exact rfl) ?_; refine ww_ldH (by assumption) (.there .here) (by with_unfolding_all exact rfl) ?_)
      refine ww_ret ⟨by rw [hg]; rfl, ?_⟩
      exact LgC.I (v := v) (ps := ps) e (H.sub (.cons (.there (.there (.there (.there (.there (.there .here)))))) (.cons (.there (.there (.there (.there (.there (.there .here)))))) (.drop (.drop (.drop (.drop (.drop (.drop (.refl))))))))))
    · refine ww_endL H .here (fun h => by cases h) fun h7 H => ww_noneS (ww_isT rfl (ww_leave1 H (.there .here) fun h8 H => ?_))
      with_reducible (refine ww_ldH (by assumption) (.there (.there (.there (.there .here)))) (by with_unfolding_all exact rfl) ?_; refine ww_ldH (by assumption) (.there (.there (.there .here))) (by with_unfolding_all exact rfl) ?_)
      refine ww_ret ⟨by rw [hx]; rfl, ?_⟩
      exact LgC.I (v := v) (ps := ps) e (H.sub (.cons (.there (.there (.there (.there (.there (.there .here)))))) (.cons (.there (.there (.there (.there (.there (.there .here)))))) (.drop (.drop (.drop (.drop (.drop (.drop (.refl))))))))))

theorem putW_L {x : LvM} {r : List LvM} {most : Nat} {p v : Int} (O : OkL most (x :: r)) (hp : ¬ (p < 1 ∨ 256 ≤ p)) (hf : ¬ (getC p x.1 = none ∧ most ≤ heldL (x :: r))) : putW 96 x.1 p v = (0, putC p v x.1) := by
  have h1 := O.held
  have h2 := O.le
  rw [heldL_cons] at h1 hf
  unfold putW
  rw [if_neg hp, if_neg (fun h => hf ⟨h.1, by omega⟩)]

theorem lput_ok {n q most : Nat} (hn : 5 ≤ n) {lv : List LvM} {p v : Int} (H : HS g h (LgC q most lv :: R)) (O : OkL most lv) :
    wp (callT tab rtab n (.fn 97 [] []) [.ptr q 0, .int .i64 p, .int .u64 v] h) fun r h' => r = .int .i64 (putL most lv p v).1 ∧ HS g h' (LgC q most (putL most lv p v).2 :: R) := by
  cases lv with
  | nil => have := O.one; simp at this
  | cons x r =>
  have hxl := O.len (x := x) (List.mem_cons_self ..)
  (refine ww_fn (g := W97) rfl (by omega) fun k hk => ?_; show wp (S97 (callT tab rtab k) _ _ _ _) _; unfold S97; try simp only [Int.ofNat_eq_natCast])
  unfold putL
  by_cases hp : p < 1 ∨ 256 ≤ p
  · simp only [if_pos hp]
    repeat' (first | with_reducible refine ww_condT ?_ | with_reducible refine ww_condF ?_ | (with_reducible refine ww_wantTT ?_; try dsimp only) | (with_reducible refine ww_wantTF ?_; try dsimp only) | (with_reducible refine ww_wantFT ?_; try dsimp only) | (with_reducible refine ww_wantFF ?_; try dsimp only) | (with_reducible refine ww_wantU ?_; try dsimp only) | with_reducible refine ww_pickT ?_ | with_reducible refine ww_pickF ?_ | (with_reducible refine ww_joinS ?_; try dsimp only) | with_reducible refine ww_leave ?_ | with_reducible refine ww_notT ?_ | with_reducible refine ww_notF ?_ | with_reducible refine ww_addI (by omega) ?_ | with_reducible refine ww_subI (by omega) ?_ | with_reducible refine ww_addU (by omega) ?_ | with_reducible refine ww_subU (by omega) ?_ | with_reducible refine ww_min ?_ | with_reducible refine ww_max ?_ | with_reducible refine ww_eqlT (by omega) ?_ | with_reducible refine ww_eqlF (by omega) ?_ | with_reducible refine ww_neqT (by omega) ?_ | with_reducible refine ww_neqF (by omega) ?_ | with_reducible refine ww_lssT (by omega) ?_ | with_reducible refine ww_lssF (by omega) ?_ | with_reducible refine ww_leqT (by omega) ?_ | with_reducible refine ww_leqF (by omega) ?_ | with_reducible refine ww_gtrT (by omega) ?_ | with_reducible refine ww_gtrF (by omega) ?_ | with_reducible refine ww_geqT (by omega) ?_ | with_reducible refine ww_geqF (by omega) ?_ | with_reducible refine ww_lssC (fun hc => ?_) (fun hc => ?_) | with_reducible refine ww_leqC (fun hc => ?_) (fun hc => ?_) | with_reducible refine ww_gtrC (fun hc => ?_) (fun hc => ?_) | with_reducible refine ww_geqC (fun hc => ?_) (fun hc => ?_) | with_reducible refine ww_eqlC (fun hc => ?_) (fun hc => ?_) | with_reducible refine ww_neqC (fun hc => ?_) (fun hc => ?_) | with_reducible refine ww_condB (fun hc => ?_) (fun hc => ?_))
    all_goals exact ww_ret ⟨rfl, H⟩
  simp only [if_neg hp]
  with_reducible (refine ww_lssF (by omega) ?_; refine ww_joinS ?_; (try dsimp only); refine ww_wantFF ?_; (try dsimp only); refine ww_geqF (by omega) ?_; refine ww_pickF ?_; refine ww_condF ?_)
  have hH := H
  obtain ⟨sv, a, ps, e, H⟩ := LgC.E1 H
  rw [← e] at H
  refine ww_call (lin_ok (by omega) H .here (.there .here) (by have := O.deep; simp at this; omega)) ?_
  rintro _ _ ⟨rfl, rfl⟩
  obtain ⟨w, fv, H2⟩ := LvC.E (H.sel (.there (.there .here)))
  with_reducible (refine ww_nil ?_; refine ww_field0 ?_; refine ww_ldH (by assumption) .here (by with_unfolding_all exact rfl) ?_)
  refine ww_call (wget_ok (by omega) (H2.sel (.there .here)) (by omega)) ?_
  rintro _ h3 ⟨rfl, H3⟩
  with_reducible (refine ww_extract (by with_unfolding_all exact rfl) ?_; refine ww_extract (by with_unfolding_all exact rfl) ?_)
  have H4 : HS g h3 (LgC q most (x :: r) :: R) := by
    have H4 := LvC.I (a := a) (w := w) (fv := fv) (x := x) (H3.sub (.cons (.there .here) (.cons .here .refl)))
    refine LgC.I1 (v := sv) (a := a) (ps := ps) e ?_
    rw [← e]
    exact H4.sub (.cons (.there .here) (.cons (.there .here) (.refl)))
  have fin : ¬ (getC p x.1 = none ∧ most ≤ heldL (x :: r)) → ∀ h5, HS g h5 (WrC w 96 x.1 :: ObjC a [.ptr w 0, fv] :: SliC 3 1 x.2.length fv (x.2.map (.int .i64)) :: ObjC q [.int .i64 (most : Int), sv] :: SliC 150 1 (ps.length + 1) sv (ptrsA (a :: ps)) :: (List.zipWith LvC ps r ++ R)) →
      wp (callT tab rtab k (.fn 99 [] []) [.ptr w 0, .int .i64 p, .int .u64 v] h5) fun r' h' => r' = .int .i64 0 ∧ HS g h' (LgC q most ((putC p v x.1, x.2) :: r) :: R) := by
    intro hf h5 H5
    refine (wput_ok (by omega) H5 (by omega)).mono ?_
    rintro _ h6 ⟨rfl, H6⟩
    rw [putW_L O hp hf] at H6 ⊢
    refine ⟨rfl, LgC.I1 (v := sv) (a := a) (ps := ps) e ?_⟩
    rw [← e]
    have H7 := LvC.I (a := a) (w := w) (fv := fv) (x := (putC p v x.1, x.2)) (H6.sub (.cons (.there .here) (.cons .here .refl)))
    exact H7.sub (.cons (.there .here) (.cons (.there .here) (.refl)))
  cases hg : getC p x.1 with
  | some z =>
    simp only [Option.isSome_some]
    with_reducible (refine ww_notT ?_; refine ww_joinS ?_; (try dsimp only); refine ww_wantFT ?_; (try dsimp only); refine ww_pickF ?_; refine ww_condF ?_)
    rw [if_neg (fun h => by cases h.1)]
    refine ww_call (fin (fun h => by rw [hg] at h; cases h.1) h3 (H3.sub (.refl))) ?_
    rintro _ h6 ⟨rfl, H6⟩
    exact ww_ret ⟨rfl, H6⟩
  | none =>
    simp only [Option.isSome_none]
    with_reducible (refine ww_notF ?_; refine ww_joinS ?_; (try dsimp only); refine ww_wantTT ?_; (try dsimp only))
    refine ww_call (lroom_ok (by omega) H4 O) ?_
    rintro _ _ ⟨rfl, rfl⟩
    have hh := O.held
    refine ww_eqlC (fun h0 => ?_) fun h0 => ?_
    · with_reducible (refine ww_pickT ?_; refine ww_condT ?_)
      rw [if_pos ⟨by trivial, by omega⟩]
      exact ww_ret ⟨rfl, H4⟩
    · with_reducible (refine ww_pickT ?_; refine ww_condF ?_)
      rw [if_neg (fun h => h0 (by omega))]
      refine ww_call (fin (fun h => h0 (by omega)) _ (H3.sub (.refl))) ?_
      rintro _ h6 ⟨rfl, H6⟩
      exact ww_ret ⟨rfl, H6⟩

theorem putL_tail {most : Nat} {x : LvM} {r : List LvM} {p v : Int} : ∃ c, (putL most (x :: r) p v).2 = (c, x.2) :: r := by
  unfold putL
  dsimp only
  split
  · exact ⟨x.1, rfl⟩
  · split
    · exact ⟨x.1, rfl⟩
    · exact ⟨_, rfl⟩

theorem ltake_ok {n q most : Nat} (hn : 7 ≤ n) {lv : List LvM} {cs : List Cl} {c : AV} (H : HS g h (LgC q most lv :: R)) (O : OkL most lv) (S : Rd g R 2 cs.length c (cs.flatMap encC)) (hc : cs.length < 100000) :
    wp (callT tab rtab n (.fn 72 [] []) [.ptr q 0, c] h) fun r h' => r = .int .i64 (takeL most lv lv cs).1 ∧ HS g h' (LgC q most (takeL most lv lv cs).2 :: R) := by
  cases lv with
  | nil => have := O.one; simp at this
  | cons x r =>
  have hxl := O.len (x := x) (List.mem_cons_self ..)
  have hxi := O.ins x (List.mem_cons_self ..)
  have hxu := O.un x (List.mem_cons_self ..)
  (refine ww_fn (g := W72) rfl (by omega) fun k hk => ?_; show wp (S72 (callT tab rtab k) _ _ _) _; unfold S72; try simp only [Int.ofNat_eq_natCast])
  refine ww_call (wnew_ok (m := 96) (by omega) (by omega) H) ?_
  rintro _ h1 ⟨w0, rfl, H1⟩
  obtain ⟨sv, a, ps, e, H2⟩ := LgC.E1 (H1.sel (.there .here))
  rw [← e] at H2
  refine ww_call (lin_ok (by omega) H2 .here (.there .here) (by have := O.deep; simp at this; omega)) ?_
  rintro _ _ ⟨rfl, rfl⟩
  obtain ⟨w, fv, H3⟩ := LvC.E (H2.sel (.there (.there .here)))
  with_reducible (refine ww_nil ?_; refine ww_field0 ?_; refine ww_ldH (by assumption) .here (by with_unfolding_all exact rfl) ?_)
  refine ww_call (wall_ok (by omega) (H3.sel (P := WrC w 96 x.1) (.there .here)) (by omega)) fun va h4 H4 => ?_
  refine ww_call (wtake_ok (cs := x.1) (l := []) (m := 96) (w := w0) (by omega) (H4.sel (.there (.there (.there (.there (.there (.there (Sel.skip _ .here))))))))  (.own .here) (by simp) (by omega)) ?_
  rintro _ h5 ⟨_, H5⟩
  have ht : takeWM 96 [] x.1 = (0, x.1) := by
    unfold takeWM
    rw [takeW_ok hxi (by simpa using hxl), puts_self hxu, if_pos rfl]
  rw [ht] at H5
  have H6 : HS g h5 (LgC q most (x :: r) :: WrC w0 96 x.1 :: R) := by
    have H7 := LvC.I (a := a) (w := w) (fv := fv) (x := x) (H5.sub (.cons (.there (.there (.there .here))) (.cons (.there (.there .here)) (.cons (.there (.there .here)) .refl))))
    refine LgC.I1 (v := sv) (a := a) (ps := ps) e ?_
    rw [← e]
    have H8 : HS g h5 (WrC w0 96 x.1 :: (ObjC q [.int .i64 (most : Int), sv] :: SliC 150 1 (ps.length + 1) sv (ptrsA (a :: ps)) :: LvC a x :: List.zipWith LvC ps r) ++ R) := H7.sub (.cons (.there .here) (.cons (.there (.there .here)) (.cons (.there (.there .here)) (.cons .here (.drop .refl)))))
    exact HS.back H8
  clear H1 H2 H3 H4 H5
  refine ww_len (S.sl H6.drop.drop) ?_
  refine ww_iter (fun k s h' => ∃ (i : Nat) (c' : List Cl), s = (.int .i64 (i : Int), .int .i64 (cs.length : Int), c, .ptr w0 0, .ptr q 0, ()) ∧ i ≤ cs.length ∧ k = cs.length - i ∧ OkL most ((c', x.2) :: r) ∧
    HS g h' (LgC q most ((c', x.2) :: r) :: WrC w0 96 x.1 :: R) ∧ takeL most (x :: r) (x :: r) cs = takeL most (x :: r) ((c', x.2) :: r) (cs.drop i)) ?_ (m := cs.length) (by show _ < 1000000000; omega) ⟨0, x.1, rfl, by omega, by omega, O, H6, rfl⟩
  rintro k2 ih s h2 hih ⟨i, c', rfl, h1, rfl, O', H, hT⟩
  dsimp only
  refine ww_lssC (fun hlt => ww_condT ?_) fun hge => ww_condF (ww_leave (ww_ret ?_))
  · have hi : i < cs.length := by omega
    have hci : cs[i]? = some cs[i] := List.getElem?_eq_getElem hi
    refine ww_idxN (l := encC cs[i]) (S.sl H.drop.drop) hi (by omega) (encC_row hci) ?_
    refine ww_boxA H rfl fun b h3 H3 => ww_stH H3 .here rfl (by show 0 + 2 ≤ 2; omega) rfl fun h4 H4 => ?_
    have H5 : HS g h4 (ObjC b (encC cs[i]) :: LgC q most ((c', x.2) :: r) :: WrC w0 96 x.1 :: R) := H4
    unfold encC at H5
    with_reducible (refine ww_field0 ?_; refine ww_ldH (by assumption) .here (by with_unfolding_all exact rfl) ?_; refine ww_field0 ?_; refine ww_ldH (by assumption) .here (by with_unfolding_all exact rfl) ?_)
    refine ww_call (lput_ok (by omega) H5.drop O') ?_
    rintro _ h6 ⟨rfl, H6⟩
    rw [List.drop_eq_getElem_cons hi, takeL_cons] at hT
    have O2 := (putL_ok (p := cs[i].1) (v := cs[i].2) O').1
    obtain ⟨c2, hc2⟩ := putL_tail (most := most) (x := (c', x.2)) (r := r) (p := cs[i].1) (v := cs[i].2)
    refine ww_neqC (fun hne => ww_condT ?_) fun he => ww_condF (ww_addI (by omega) ?_)
    · have hne : ¬ (putL most ((c', x.2) :: r) cs[i].1 cs[i].2).1 = 0 := by simpa using hne
      rw [if_neg hne] at hT
      rw [hc2] at H6
      obtain ⟨sv, a, ps, e, H7⟩ := LgC.E1 H6
      rw [← e] at H7
      refine ww_call (lin_ok (by omega) H7 .here (.there .here) (by have := O.deep; simp at this; omega)) ?_
      rintro _ _ ⟨rfl, rfl⟩
      obtain ⟨w, fv, H8⟩ := LvC.E (H7.sel (.there (.there .here)))
      with_reducible (refine ww_nil ?_; refine ww_field0 ?_)
      refine ww_st1H H8 .here ⟨rfl, rfl⟩ (by simp) fun h9 H9 => ww_leave (ww_ret ?_)
      rw [hT]
      refine ⟨rfl, LgC.I1 (v := sv) (a := a) (ps := ps) e ?_⟩
      rw [← e]
      obtain ⟨T, sT, uT⟩ : ∃ T, Sel (List.zipWith LvC ps r ++ WrC w0 96 x.1 :: R) (WrC w0 96 x.1) T ∧ T = List.zipWith LvC ps r ++ R := ⟨_, Sel.skip _ .here, rfl⟩
      subst uT
      have H10 := LvC.I (a := a) (w := w0) (fv := fv) (x := x) (H9.sub (.cons .here (.cons (.there (.there (.there (.there sT)))) (.cons (.there .here) (.drop .refl)))))
      exact H10.sub (.cons (.there .here) (.cons (.there .here) (.refl)))
    · have he' : (putL most ((c', x.2) :: r) cs[i].1 cs[i].2).1 = 0 := by simpa using he
      rw [if_pos he', hc2] at hT
      rw [hc2] at H6 O2
      exact hih (cs.length - (i + 1)) _ _ (by omega) ⟨i + 1, c2, rfl, by omega, rfl, O2, H6, hT⟩
  · rw [List.drop_of_length_le (by omega)] at hT
    have hT : takeL most (x :: r) (x :: r) cs = (0, (c', x.2) :: r) := hT
    rw [hT]
    exact ⟨rfl, H.sub (.cons .here (.drop .refl))⟩

theorem ptrsA_cons (a : Nat) (ps : List Nat) : ptrsA (a :: ps) = ptrsA ps ++ [.ptr a 0] := by unfold ptrsA; rw [List.reverse_cons, List.map_append]; rfl
theorem ptrsA_len (ps : List Nat) : (ptrsA ps).length = ps.length := by simp [ptrsA]
theorem lopen_ok {n q most : Nat} (hn : 3 ≤ n) {lv : List LvM} (H : HS g h (LgC q most lv :: R)) (O : OkL most lv) :
    wp (callT tab rtab n (.fn 211 [] []) [.ptr q 0] h) fun v h' => v = .int .i64 (openL lv).1 ∧ HS g h' (LgC q most (openL lv).2 :: R) := by
  (refine ww_fn (g := W211) rfl (by omega) fun k hk => ?_; show wp (S211 (callT tab rtab k) _ _) _; unfold S211; try simp only [Int.ofNat_eq_natCast])
  have hH := H
  obtain ⟨v, ps, e, H⟩ := LgC.E H
  unfold openL
  by_cases h6 : 6 ≤ lv.length
  · rw [if_pos h6]
    with_reducible (refine ww_nil ?_; refine ww_field0 ?_; refine ww_ldH (by assumption) .here (by with_unfolding_all exact rfl) ?_; refine ww_lenH (by assumption) (.there .here) ?_; refine ww_geqT (by omega) ?_; refine ww_condT ?_)
    exact ww_ret ⟨rfl, hH⟩
  · rw [if_neg h6]
    with_reducible (refine ww_nil ?_; refine ww_field0 ?_; refine ww_ldH (by assumption) .here (by with_unfolding_all exact rfl) ?_; refine ww_lenH (by assumption) (.there .here) ?_; refine ww_geqF (by omega) ?_; refine ww_condF ?_; refine ww_joinS ?_; (try dsimp only); refine ww_nil ?_; refine ww_field0 ?_; refine ww_ldH (by assumption) .here (by with_unfolding_all exact rfl) ?_)
    refine ww_call (lfresh_ok (by omega) H) ?_
    rintro _ h2 ⟨a, rfl, H2⟩
    refine ww_buildSH (n := 1) (l := [.ptr a 0]) (sz := 1) H2 rfl rfl rfl rfl fun v3 h3 H3 => ?_
    refine ww_appH (H3.sel (.there (.there (.there .here)))) (H3.sl .here) (by omega) (by omega) rfl fun v4 h4 H4 => ?_
    with_reducible (refine ww_nil ?_; refine ww_field0 ?_)
    refine ww_st1H H4 (b := q) (.there (.there (.there .here))) (H4.one .here) (by simp) fun h5 H5 => ?_
    with_reducible (refine ww_chkH (by assumption) .here (by with_unfolding_all exact rfl) (by assumption) (.there .here) (by with_unfolding_all exact rfl) (HS.lt (by assumption) .here) ?_)
    refine ww_ret ⟨rfl, LgC.I1 (v := v4) (a := a) (ps := ps) e ?_⟩
    rw [ptrsA_cons]
    exact H5.sub (.cons .here (.cons .here (.cons (.there .here) (.drop (.refl)))))

/-- one less, with the rest at hand -/
theorem ldrop_in {n q : Nat} (hn : 1 ≤ n) {m v : AV} {a : Nat} {ps : List Nat} (h1 : 1 ≤ ps.length) (hl : ps.length < 1000) (H : HS g h (ObjC q [m, v] :: SliC 150 1 (ps.length + 1) v (ptrsA (a :: ps)) :: R)) :
    wp (callT tab rtab n (.fn 181 [] []) [.ptr q 0] h) fun r h' => r = .int .i64 0 ∧ ∃ v', HS g h' (ObjC q [m, v'] :: SliC 150 1 ps.length v' (ptrsA ps) :: R) := by
  (refine ww_fn (g := W181) rfl (by omega) fun k hk => ?_; show wp (S181 (callT tab rtab k) _ _) _; unfold S181; try simp only [Int.ofNat_eq_natCast])
  with_reducible (refine ww_nil ?_; refine ww_field0 ?_; refine ww_ldH (by assumption) .here (by with_unfolding_all exact rfl) ?_; refine ww_lenH (by assumption) (.there .here) ?_; refine ww_eqlF (by omega) ?_; refine ww_condF ?_; refine ww_nil ?_; refine ww_field0 ?_; refine ww_ldH (by assumption) .here (by with_unfolding_all exact rfl) ?_; refine ww_nil ?_; refine ww_field0 ?_; refine ww_ldH (by assumption) .here (by with_unfolding_all exact rfl) ?_; refine ww_lenH (by assumption) (.there .here) ?_; refine ww_subI (by omega) ?_)
  rw [show ((ps.length + 1 : Nat) : Int) - ((1 : Nat) : Int) = ((ps.length : Nat) : Int) by omega]
  refine ww_cutH (H.sel (.there .here)) (by omega) (by omega) fun v' H2 => ?_
  with_reducible (refine ww_nil ?_; refine ww_field0 ?_)
  refine ww_st1H H2 (b := q) (.there .here) (H2.one .here) (by simp) fun h3 H3 => ww_ret ⟨rfl, v', ?_⟩
  rw [ptrsA_cons, Nat.mul_one, ← ptrsA_len ps, List.take_left, ptrsA_len] at H3
  exact H3.sub (.cons .here (.refl))
theorem ldrop_ok {n q most : Nat} (hn : 1 ≤ n) {lv : List LvM} (H : HS g h (LgC q most lv :: R)) (O : OkL most lv) :
    wp (callT tab rtab n (.fn 181 [] []) [.ptr q 0] h) fun v h' => v = .int .i64 (dropL lv).1 ∧ HS g h' (LgC q most (dropL lv).2 :: R) := by
  unfold dropL
  by_cases h1 : lv.length = 1
  · rw [if_pos h1]
    (refine ww_fn (g := W181) rfl (by omega) fun k hk => ?_; show wp (S181 (callT tab rtab k) _ _) _; unfold S181; try simp only [Int.ofNat_eq_natCast])
    have hH := H
    obtain ⟨v, ps, e, H⟩ := LgC.E H
    with_reducible (refine ww_nil ?_; refine ww_field0 ?_; refine ww_ldH (by assumption) .here (by with_unfolding_all exact rfl) ?_; refine ww_lenH (by assumption) (.there .here) ?_; refine ww_eqlT (by omega) ?_; refine ww_condT ?_)
    exact ww_ret ⟨rfl, hH⟩
  · rw [if_neg h1]
    cases lv with
    | nil => have := O.one; simp at this
    | cons x r =>
    have hd := O.deep
    simp at h1 hd
    have h1' : 1 ≤ r.length := by cases r with | nil => simp at h1 | cons _ _ => simp
    obtain ⟨v, a, ps, e, H⟩ := LgC.E1 H
    rw [← e] at H
    refine (ldrop_in hn (by omega) (by omega) H).mono ?_
    rintro _ h2 ⟨rfl, v', H2⟩
    refine ⟨rfl, LgC.I (v := v') (ps := ps) e ?_⟩
    show HS g h2 (_ :: SliC 150 1 r.length v' _ :: (List.zipWith LvC ps r ++ R))
    rw [← e]
    exact H2.sub (.cons .here (.cons .here (.drop .refl)))
theorem lkeep_ok {n q most : Nat} (hn : 6 ≤ n) {lv : List LvM} (H : HS g h (LgC q most lv :: R)) (O : OkL most lv) (hf : ∀ x ∈ lv, x.2.length < 1000000) :
    wp (callT tab rtab n (.fn 179 [] []) [.ptr q 0] h) fun v h' => v = .int .i64 (keepL lv).1 ∧ HS g h' (LgC q most (keepL lv).2 :: R) := by
  rcases lv with _ | ⟨x, _ | ⟨y, r⟩⟩
  · have := O.one; simp at this
  ·
    (refine ww_fn (g := W179) rfl (by omega) fun k hk => ?_; show wp (S179 (callT tab rtab k) _ _) _; unfold S179; try simp only [Int.ofNat_eq_natCast])
    obtain ⟨v, a, ps, e, H2⟩ := LgC.E1 H
    rw [← e] at H2
    refine ww_call (lin_ok (by omega) H2 .here (.there .here) (by simp at e; simp [e])) ?_
    rintro _ _ ⟨rfl, rfl⟩
    refine ww_call (ldrop_ok (by omega) H O) ?_
    rintro _ h3 ⟨rfl, H3⟩
    rw [show dropL [x] = (10, [x]) from rfl] at H3 ⊢
    with_reducible (refine ww_neqT (by omega) ?_; refine ww_condT ?_)
    exact ww_ret ⟨rfl, H3⟩
  ·
    have hx := hf x (by simp)
    have hy := hf y (by simp)
    have hxi := O.ins x (by simp)
    have hd := O.deep
    have hh := O.held
    have hle := O.le
    rw [heldL_cons, heldL_cons] at hh
    simp at hd
    (refine ww_fn (g := W179) rfl (by omega) fun k hk => ?_; show wp (S179 (callT tab rtab k) _ _) _; unfold S179; try simp only [Int.ofNat_eq_natCast])
    obtain ⟨v, a, ps, e, H2⟩ := LgC.E1 H
    rw [← e] at H2
    refine ww_call (lin_ok (by omega) H2 .here (.there .here) (by simp at e; omega)) ?_
    rintro _ _ ⟨rfl, rfl⟩
    simp at e
    refine ww_call (ldrop_in (by omega) (by omega) (by omega) H2) ?_
    rintro _ h3 ⟨rfl, v', H3⟩
    cases ps with
    | nil => simp at e
    | cons b ps =>
    simp at e
    with_reducible (refine ww_neqF (by omega) ?_; refine ww_condF ?_)
    refine ww_call (lin_ok (by omega) H3 .here (.there .here) (by omega)) ?_
    rintro _ _ ⟨rfl, rfl⟩
    have H4 : HS g _ (LvC b y :: LvC a x :: ObjC q [.int .i64 (most : Int), v'] :: SliC 150 1 (ps.length + 1) v' (ptrsA (b :: ps)) :: (List.zipWith LvC ps r ++ R)) := H3.sub (.cons (.there (.there (.there .here))) (.cons (.there (.there .here)) (.cons .here (.cons .here .refl))))
    obtain ⟨w1, f1, H4⟩ := LvC.E H4
    obtain ⟨w2, f2, H5⟩ := LvC.E (H4.sel (.there (.there (.there .here))))
    with_reducible (refine ww_nil ?_; refine ww_field0 ?_; refine ww_ldH (by assumption) (.there (.there (.there .here))) (by with_unfolding_all exact rfl) ?_; refine ww_nil ?_; refine ww_field0 ?_; refine ww_ldH (by assumption) .here (by with_unfolding_all exact rfl) ?_)
    refine ww_appH (H5.sel (.there (.there (.there (.there (.there .here)))))) (H5.sl (.there (.there .here))) (by omega) (by omega) ?_ fun v6 h6 H6 => ?_
    · simp [allOne, AV.one]
    with_reducible (refine ww_nil ?_; refine ww_field0 ?_)
    refine ww_st1H H6 (b := b) (.there (.there (.there (.there .here)))) (H6.one .here) (by simp) fun h7 H7 => ?_
    simp only [List.set_cons_zero, List.set_cons_succ] at H7
    with_reducible (refine ww_joinS ?_; (try dsimp only); refine ww_nil ?_; refine ww_field0 ?_; refine ww_ldH (by assumption) .here (by with_unfolding_all exact rfl) ?_; refine ww_nil ?_; refine ww_field0 ?_; refine ww_ldH (by assumption) (.there (.there .here)) (by with_unfolding_all exact rfl) ?_)
    refine ww_call (wall_ok (by omega) (H7.sel (P := WrC w2 96 x.1) (.there (.there (.there .here)))) (by omega)) fun v8 h8 H8 => ?_
    refine ww_call (wtake_ok (cs := x.1) (l := y.1) (m := 96) (w := w1) (by omega) (H8.sel (P := WrC w1 96 y.1) (.there (.there (.there (.there (.there (.there .here))))))) (.own .here) (by omega) (by omega)) ?_
    rintro _ h9 ⟨rfl, H9⟩
    have ht : takeWM 96 y.1 x.1 = (0, putsC y.1 x.1) := by
      unfold takeWM
      rw [takeW_ok hxi (by omega), if_pos rfl]
    rw [ht] at H9 ⊢
    with_reducible (refine ww_chkH (by assumption) .here (by with_unfolding_all exact rfl) (by assumption) (.there (.there .here)) (by with_unfolding_all exact rfl) (HS.lt (by assumption) .here) ?_)
    refine ww_ret ⟨rfl, LgC.I1 (v := v') (a := b) (ps := ps) (by omega) ?_⟩
    show HS g h9 (_ :: SliC 150 1 (r.length + 1) v' _ :: _)
    rw [← e]
    have H10 := LvC.I (a := b) (w := w1) (fv := v6) (x := (putsC y.1 x.1, y.2 ++ x.2)) (R := ObjC q [.int .i64 (most : Int), v'] :: SliC 150 1 (ps.length + 1) v' (ptrsA (b :: ps)) :: (List.zipWith LvC ps r ++ R))
      (by rw [List.map_append, List.length_append]; exact H9.sub (.cons (.there (.there (.there .here))) (.cons .here (.cons (.there (.there .here)) (.cons (.there (.there (.there (.there .here)))) (.cons (.there (.there (.there (.there .here)))) (.drop (.drop (.drop (.drop (.refl)))))))))))
    exact H10.sub (.cons (.there .here) (.cons (.there .here) (.refl)))

theorem mergeL_len : ∀ (lv : List LvM) (out : List Cl), (lv.foldl (fun out x => putsC x.1 out) out).length ≤ out.length + heldL lv := by
  intro lv
  induction lv with
  | nil => intro out; simp
  | cons x r ih =>
    intro out
    have h1 := ih (putsC x.1 out)
    have h2 := puts_len (cs := out) (l := x.1)
    rw [List.foldl_cons, heldL_cons]
    omega
theorem mergeL_in : ∀ (lv : List LvM) (out : List Cl), InC out → (∀ x ∈ lv, InC x.1) → InC (lv.foldl (fun out x => putsC x.1 out) out) := by
  intro lv
  induction lv with
  | nil => intro out h _; exact h
  | cons x r ih => intro out h hx; exact ih _ ((hx x (List.mem_cons_self ..)).puts h) fun y hy => hx y (List.mem_cons_of_mem _ hy)
theorem heldL_app (l1 l2 : List LvM) : heldL (l1 ++ l2) = heldL l1 + heldL l2 := by simp [heldL]

theorem lcells_ok {n q most : Nat} (hn : 9 ≤ n) {lv : List LvM} (H : HS g h (LgC q most lv :: R)) (O : OkL most lv) :
    wp (callT tab rtab n (.fn 58 [] []) [.ptr q 0] h) fun v h' => HS g h' (SliC 35 2 (mergeL lv).length v ((mergeL lv).flatMap encC) :: LgC q most lv :: R) := by
  (refine ww_fn (g := W58) rfl (by omega) fun k hk => ?_; show wp (S58 (callT tab rtab k) _ _) _; unfold S58; try simp only [Int.ofNat_eq_natCast])
  obtain ⟨v, ps, e, H⟩ := LgC.E H
  have hd := O.deep
  have hle := O.le
  have hhe := O.held
  refine ww_box1 (H.nils (e := 35) (sz := 2)) ⟨rfl, rfl⟩ fun b1 h1 H => ?_
  with_reducible (refine ww_nil ?_; refine ww_field0 ?_; refine ww_ldH (by assumption) (.there (.there .here)) (by with_unfolding_all exact rfl) ?_)
  refine ww_call (backward_ok (by omega) (H.one (.there (.there (.there .here)))) H) ?_
  rintro _ h4 ⟨b4, rfl, H⟩
  have H5 := (H.newBlk .dfd).newBlk (.loop .ready none 58 [1, 1, 0, 1, 0] [3] [.ptr b1 0] h4.nx)
  generalize (h4.new .dfd).nx = l at H5 ⊢
  generalize h4.nx = d at H5 ⊢
  obtain ⟨k2, rfl⟩ : ∃ k2, k = k2 + 1 := ⟨k - 1, by omega⟩
  refine ww_callF (back_ok (b0 := b4) (v := v) (ps := ps)
    (Inv := fun i h' => ∃ ov, HS g h' (BlkC l (.loop .ready none 58 [1, 1, 0, 1, 0] [3] [.ptr b1 0] d) :: BlkC d .dfd :: ObjC b4 [v] :: ObjC b1 [ov] :: SliC 35 2 (mergeL (lv.take i)).length ov ((mergeL (lv.take i)).flatMap encC) ::
      ObjC q [.int .i64 (most : Int), v] :: SliC 150 1 lv.length v (ptrsA ps) :: (List.zipWith LvC ps lv ++ R)))
    (Fin := fun _ => False) ?_ ?_ (by omega) ⟨.nils, H5⟩) ?_
  · rintro i h' ⟨ov, H⟩
    obtain ⟨et, A⟩ := H.obj (b := b4) (.there (.there .here))
    exact ⟨A.at 0, e ▸ H.sl (.there (.there (.there (.there (.there (.there .here))))))⟩
  · rintro i a h' ha ⟨ov, H⟩
    have hi := (List.getElem?_eq_some_iff.1 ha).1
    have hx : lv[i]? = some (lv[i]'(by omega)) := List.getElem?_eq_getElem _
    have hm : lv[i]'(by omega) ∈ lv := List.getElem_mem _
    generalize lv[i]'(by omega) = x at hx hm
    have hxl := O.len hm
    have hxi := O.ins x hm
    have hxu := O.un x hm
    have hml : (mergeL (lv.take i)).length + x.1.length ≤ 96 := by
      have h1 := mergeL_len (lv.take i) []
      have h2 : heldL lv = heldL (lv.take i) + (x.1.length + heldL (lv.drop (i + 1))) := by
        rw [← heldL_cons, ← heldL_app]
        congr 1
        have h3 : lv.drop i = x :: lv.drop (i + 1) := by
          have hi' : i < lv.length := by omega
          rw [List.drop_eq_getElem_cons hi']
          rw [List.getElem?_eq_getElem hi'] at hx
          rw [Option.some.inj hx]
        rw [← h3, List.take_append_drop]
      unfold mergeL
      simp at h1
      omega
    have hmi : InC (mergeL (lv.take i)) := mergeL_in _ _ (fun c hc => by cases hc) fun y hy => O.ins y (List.mem_of_mem_take hy)
    have hms : mergeL (lv.take (i + 1)) = putsC x.1 (mergeL (lv.take i)) := by
      unfold mergeL
      rw [List.take_add_one, hx, Option.toList_some, List.foldl_append]; rfl
    refine ww_yield (H.blk .here) (w := V0) rfl (by omega) fun k3 hk3 => ?_
    show wp (B0 _ _ _ (.int .i64 ((ps.length - 1 - i : Nat) : Int)) _ _) _
    unfold B0
    try simp only [Int.ofNat_eq_natCast]
    refine ww_begin H .here fun h6 H => ?_
    refine ww_call (wnew_ok (m := 96) (by omega) (by omega) H) ?_
    rintro _ h7 ⟨w0, rfl, H⟩
    obtain ⟨T, s⟩ := zip_sel (R := R) ha hx
    obtain ⟨w, fv, H7⟩ := LvC.E (H.sel (.there (.there (.there (.there (.there (.there (.there (.there s)))))))))
    with_reducible (refine ww_nil ?_; refine ww_field0 ?_; refine ww_ldH (by assumption) .here (by with_unfolding_all exact rfl) ?_)
    refine ww_call (wall_ok (by omega) (H7.sel (P := WrC w 96 x.1) (.there .here)) (by omega)) fun va h8 H8 => ?_
    refine ww_call (wtake_ok (cs := x.1) (l := []) (m := 96) (w := w0) (by omega) (H8.sel (P := WrC w0 96 []) (.there (.there (.there (.there .here))))) (.own .here) (by simp) (by omega)) ?_
    rintro _ h9 ⟨_, H9⟩
    have ht : takeWM 96 [] x.1 = (0, x.1) := by
      unfold takeWM
      rw [takeW_ok hxi (by simpa using hxl), puts_self hxu, if_pos rfl]
    rw [ht] at H9
    dsimp only at H9
    with_reducible (refine ww_ldH (by assumption) (.there (.there (.there (.there (.there (.there (.there (.there .here)))))))) (by with_unfolding_all exact rfl) ?_)
    have ht2 : takeWM 96 x.1 (mergeL (lv.take i)) = (0, putsC x.1 (mergeL (lv.take i))) := by
      unfold takeWM
      rw [takeW_ok hmi (by omega), if_pos rfl]
    have S2 : Rd g _ 2 (mergeL (lv.take i)).length ov ((mergeL (lv.take i)).flatMap encC) := H9.drop.rd (L := SliC 35 2 x.1.length va (x.1.flatMap encC) :: WrC w 96 x.1 :: ObjC a [.ptr w 0, fv] :: SliC 3 1 x.2.length fv (x.2.map (.int .i64)) ::
      BlkC l (.loop .busy none 58 [1, 1, 0, 1, 0] [3] [.ptr b1 0] d) :: BlkC d .dfd :: ObjC b4 [v] :: ObjC b1 [ov] :: SliC 35 2 (mergeL (lv.take i)).length ov ((mergeL (lv.take i)).flatMap encC) ::
      ObjC q [.int .i64 (most : Int), v] :: SliC 150 1 lv.length v (ptrsA ps) :: T) (.there (.there (.there (.there (.there (.there (.there (.there .here))))))))
    refine ww_call (wtake_ok (by omega) H9 S2 (by omega) (by omega)) ?_
    rintro _ h10 ⟨_, H10⟩
    rw [ht2] at H10
    dsimp only at H10
    have hpl := puts_len (cs := mergeL (lv.take i)) (l := x.1)
    refine ww_call (wall_ok (by omega) H10 (by omega)) fun vb h11 H11 => ?_
    refine ww_st1H H11 (b := b1) (.there (.there (.there (.there (.there (.there (.there (.there (.there .here))))))))) (H11.one .here) (by simp) fun h12 H12 => ww_endN H12 (.there (.there (.there (.there (.there (.there (.there .here))))))) fun h13 H13 => .inl ⟨rfl, vb, ?_⟩
    rw [hms]
    have H14 := LvC.I (a := a) (w := w) (fv := fv) (x := x) (R := BlkC l (.loop .ready none 58 [1, 1, 0, 1, 0] [3] [.ptr b1 0] d) :: BlkC d .dfd :: ObjC b4 [v] :: ObjC b1 [vb] ::
      SliC 35 2 (putsC x.1 (mergeL (lv.take i))).length vb ((putsC x.1 (mergeL (lv.take i))).flatMap encC) :: ObjC q [.int .i64 (most : Int), v] :: SliC 150 1 lv.length v (ptrsA ps) :: T) (H13.sub (.cons (.there (.there (.there (.there (.there (.there .here)))))) (.cons (.there (.there (.there (.there (.there .here))))) (.cons (.there (.there (.there (.there (.there .here))))) (.cons .here (.cons (.there (.there (.there (.there .here)))) (.cons (.there (.there (.there (.there .here)))) (.cons .here (.cons .here (.cons (.there (.there (.there .here))) (.cons (.there (.there (.there .here))) (.drop (.drop (.drop (.refl)))))))))))))))
    exact HS.unsel (.there (.there (.there (.there (.there (.there (.there s))))))) H14
  · rintro _ h6 (⟨ov, H⟩ | hF)
    · rw [List.take_of_length_le (by omega)] at H
      refine ww_endL H .here (fun h => by cases h) fun h7 H => ww_noneN ?_
      with_reducible (refine ww_ldH (by assumption) (.there (.there (.there .here))) (by with_unfolding_all exact rfl) ?_)
      refine ww_leave1 H (.there .here) fun h10 H => ww_ret ?_
      exact (LgC.I (v := v) (ps := ps) e (HS.back (A := _ :: _ :: List.zipWith LvC ps lv) (H.sub (L' := SliC 35 2 (mergeL lv).length ov ((mergeL lv).flatMap encC) :: ObjC q [.int .i64 (most : Int), v] ::
        SliC 150 1 lv.length v (ptrsA ps) :: (List.zipWith LvC ps lv ++ R)) (.cons (.there (.there (.there (.there .here)))) (.cons (.there (.there (.there (.there .here)))) (.cons (.there (.there (.there (.there .here)))) (.drop (.drop (.drop (.drop (.refl))))))))))).sub (.cons (.there .here) (.refl))
    · exact hF.elim
end Go.Proofs.YtkfpddegilellaaGreatDoor
