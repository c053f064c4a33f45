/- Views: by the document's own text. -/
import Derived.Test.YtaepnpodenmmoaaVwV
namespace Go.Proofs.Ytaepnpodenmmoaa
open Go Go.Ae
set_option maxRecDepth 100000

variable {g h : AH} {L R : List SP}

theorem Sel.app {A A' : List SP} {P : SP} (s : Sel A P A') (R : List SP) : Sel (A ++ R) P (A' ++ R) := by
  induction s with
  | here => exact .here
  | there s ih => exact .there ih
theorem HS.allSel {A A' : List SP} {P : SP} (s : Sel A P A') (H : HS g h (.all A :: R)) : HS g h (P :: .all A' :: R) := by
  have H1 := (H.allE).sel (Sel.app s R)
  have H2 := HS.allI (HS.back (A := A') H1)
  exact H2.sub (.cons (.there .here) (.refl))
theorem HS.allUn {A A' : List SP} {P : SP} (s : Sel A P A') (H : HS g h (P :: .all A' :: R)) : HS g h (.all A :: R) := by
  have H1 : HS g h (.all A' :: P :: R) := H.sub (.cons (.there .here) (.refl))
  have H2 := (H1.allE).sel (Sel.skip A' .here)
  exact HS.allI (HS.unsel (Sel.app s R) H2)
theorem HS.slv {e : TypeId} {sz n : Nat} {v : AV} {xs : List AV} (H : HS g h L) (s : Sel L (SliC e sz n v xs) R) (hn : 0 < n) : ∃ b cp o, v = .slice b 0 n cp o := by
  obtain ⟨b, cp, o, ys, hv, _⟩ := (H.sel s).slE hn
  exact ⟨b, cp, o, hv⟩
theorem HS.slat {e : TypeId} {sz n b cp : Nat} {o : Bool} {xs : List AV} (H : HS g h L) (s : Sel L (SliC e sz n (.slice b 0 n cp o) xs) R) : b < h.nx ∧ ∀ j, j < n * sz → h.at b (0 + j) = xs[j]? := by
  have S := H.sl s
  cases S with
  | mk hd hb hr hl ha => exact ⟨hb, ha⟩
theorem ww_appN {e : TypeId} {sz m : Nat} {x : AV} {ys : List AV} {D : Nat → Prop} {K2 : AV → AH → Go.Ae.R} {Q : AV → AH → Prop} (H : HS g h L) (S : Sl D h sz m x ys) (hsz : 0 < sz) (hlim : m ≤ 67108864) (h1 : allOne ys = true)
    (w : ∀ v' h', HS g h' (SliC e sz m v' ys :: L) → wp (K2 v' h') Q) : wp (pAppend h e sz .nils x K2) Q := by
  refine ww_appH (n := 0) H.nils S hsz (by omega) h1 fun v' h' H' => w v' h' ?_
  rw [Nat.zero_add, List.nil_append] at H'
  exact H'
theorem allOne_ints (l : List Int) : allOne (l.map (AV.int .i64)) = true := by
  unfold allOne
  rw [List.all_eq_true]
  intro v hv
  obtain ⟨c, _, rfl⟩ := List.mem_map.1 hv
  rfl

theorem rplace_ok {D : Nat → Prop} {n : Nat} (hn : 1 ≤ n) {p : Int} {c : AV} {l : List Cl} (S : Sl D h 2 l.length c (l.flatMap encC)) (hl : l.length < 1000000) :
    wp (callT tab rtab n (.fn 65 [] []) [c, .int .i64 p] h) fun v h' => v = .int .i64 (zI (idxC p l)) ∧ h' = h := by
  (refine ww_fn (g := W65) rfl (by omega) fun k hk => ?_; show wp (S65 (callT tab rtab k) _ _ _) _; unfold S65; try simp only [Int.ofNat_eq_natCast])
  refine ww_iter (fun m s h' => ∃ i : Nat, s = (.int .i64 (i : Int), .int .i64 p, c, ()) ∧ i ≤ l.length ∧ m = l.length - i ∧ h' = h ∧
    (∀ j, j < i → ∀ c, l[j]? = some c → c.1 ≠ p)) ?_ (m := l.length) (by show _ < 1000000000; omega) ⟨0, rfl, by omega, by omega, rfl, fun j hj => by omega⟩
  rintro m ih s' h' hih ⟨i, rfl, h1, rfl, rfl, h2⟩
  dsimp only
  refine ww_len S ?_
  refine ww_lssC (fun hlt => ww_condT ?_) fun hge => ww_condF (ww_leave (ww_ret ⟨?_, rfl⟩))
  · have hi : i < l.length := by omega
    have hc : l[i]? = some l[i] := List.getElem?_eq_getElem hi
    refine ww_idxF (x := .int .i64 l[i].1) S (by omega) hi (by rw [flat_get (sz := 2) encC (fun _ => rfl) _ _ _ (by omega), hc]; rfl) ?_
    refine ww_eqlC (fun he => ww_condT (ww_leave (ww_ret ⟨?_, rfl⟩))) fun hne => ww_condF (ww_addI (by omega) ?_)
    · rw [idxC_first hi h2 ⟨l[i].2, by rw [hc, ← he]⟩]; rfl
    · refine hih (l.length - (i + 1)) _ _ (by omega) ⟨i + 1, rfl, by omega, rfl, rfl, fun j hj c hc' => ?_⟩
      by_cases h4 : j < i
      · exact h2 j h4 c hc'
      · obtain rfl : j = i := by omega
        rw [hc] at hc'; cases hc'; exact hne
  · rw [idxC_all fun c hc => ?_]
    · rfl
    · obtain ⟨j, hj⟩ := List.getElem?_of_mem hc
      exact h2 j (by have := (List.getElem?_eq_some_iff.1 hj).1; omega) c hj

theorem rput_ok {n : Nat} (hn : 2 ≤ n) {p x : Int} {c : AV} {l : List Cl} (H : HS g h L) (S : Rd g L 2 l.length c (l.flatMap encC)) (hl : l.length < 1000000) :
    wp (callT tab rtab n (.fn 85 [] []) [c, .int .i64 p, .int .u64 x] h) fun v h' => HS g h' (SliC 83 2 (putC p x l).length v ((putC p x l).flatMap encC) :: L) := by
  (refine ww_fn (g := W85) rfl (by omega) fun k hk => ?_; show wp (S85 (callT tab rtab k) _ _ _ _) _; unfold S85; try simp only [Int.ofNat_eq_natCast])
  refine ww_appN H (S.sl H) (by omega) (by omega) (allOne_encC l) fun v0 h1 H1 => ?_
  refine ww_call (rplace_ok (by omega) (H1.sl .here) (by omega)) ?_
  rintro _ _ ⟨rfl, rfl⟩
  cases hi : idxC p l with
  | none =>
    refine ww_geqF (by show ¬ ((0 : Nat) : Int) ≤ -1; omega) ?_
    with_reducible (refine ww_condF ?_; refine ww_build (by with_unfolding_all exact rfl) ?_)
    refine ww_buildSH (n := 1) (sz := 2) (l := [.int .i64 p, .int .u64 x]) H1 rfl rfl rfl rfl fun v5 h5 H5 => ?_
    refine ww_appH (H5.sel (.there .here)) (H5.sl .here) (by omega) (by omega) rfl fun v6 h6 H6 => ww_ret ?_
    rw [putC_none (idxC_none.1 hi), List.flatMap_append, List.length_append]
    exact H6.sub (.cons .here (.drop (.refl)))
  | some i =>
    obtain ⟨h1, ⟨y, h2, h2'⟩, h5⟩ := idxC_some hi
    refine ww_geqT (by show ((0 : Nat) : Int) ≤ (i : Int); omega) ?_
    with_reducible (refine ww_condT ?_)
    refine ww_slF H1 h1 (by omega) ⟨rfl, rfl⟩ fun h6 H6 => ww_ret ?_
    rw [encC_set h2] at H6
    rw [h5, List.length_set]
    exact H6

/-! ### levels -/
def RlC (p : AV × AV) (x : LvM) : SP := .all [SliC 83 2 x.1.length p.1 (x.1.flatMap encC), SliC 3 1 x.2.length p.2 (x.2.map (.int .i64))]
theorem RlC.E {p : AV × AV} {x : LvM} (H : HS g h (RlC p x :: R)) : HS g h (SliC 83 2 x.1.length p.1 (x.1.flatMap encC) :: SliC 3 1 x.2.length p.2 (x.2.map (.int .i64)) :: R) := H.allE
theorem RlC.I {p : AV × AV} {x : LvM} (H : HS g h (SliC 83 2 x.1.length p.1 (x.1.flatMap encC) :: SliC 3 1 x.2.length p.2 (x.2.map (.int .i64)) :: R)) : HS g h (RlC p x :: R) := H.allI
def cellsR (ps : List (AV × AV)) : List AV := ps.reverse.flatMap fun p => [p.1, p.2]
theorem cellsR_cons (p : AV × AV) (ps : List (AV × AV)) : cellsR (p :: ps) = cellsR ps ++ [p.1, p.2] := by unfold cellsR; rw [List.reverse_cons, List.flatMap_append]; rfl
theorem cellsR_len (ps : List (AV × AV)) : (cellsR ps).length = ps.length * 2 := by unfold cellsR; rw [flat_len (sz := 2) _ (fun _ => rfl), List.length_reverse]
theorem cellsR_get {ps : List (AV × AV)} {i f : Nat} (hi : i < ps.length) (hf : f < 2) : (cellsR ps)[i * 2 + f]? = (ps[ps.length - 1 - i]?).bind fun p => [p.1, p.2][f]? := by
  unfold cellsR
  rw [flat_get (sz := 2) (fun p : AV × AV => [p.1, p.2]) (fun _ => rfl) _ _ _ hf, List.getElem?_reverse hi]
def RgC (q most : Nat) (lv : List LvM) : SP := .ex fun v => .ex fun ps : List (AV × AV) => .all [.pur (ps.length = lv.length), ObjC q [.int .i64 (most : Int), v], SliC 96 2 lv.length v (cellsR ps), .all (List.zipWith RlC ps lv)]
theorem RgC.E {q most : Nat} {lv : List LvM} (H : HS g h (RgC q most lv :: R)) : ∃ v ps, ps.length = lv.length ∧ HS g h (ObjC q [.int .i64 (most : Int), v] :: SliC 96 2 lv.length v (cellsR ps) :: .all (List.zipWith RlC ps lv) :: R) := by
  obtain ⟨v, H⟩ := H.exE
  obtain ⟨ps, H⟩ := H.exE
  obtain ⟨e, H⟩ := HS.purE (H.allE)
  exact ⟨v, ps, e, H⟩
theorem RgC.I {q most : Nat} {lv : List LvM} {v : AV} {ps : List (AV × AV)} (e : ps.length = lv.length) (H : HS g h (ObjC q [.int .i64 (most : Int), v] :: SliC 96 2 lv.length v (cellsR ps) :: .all (List.zipWith RlC ps lv) :: R)) : HS g h (RgC q most lv :: R) :=
  HS.exI v (HS.exI ps (HS.allI (HS.purI e H)))
theorem RgC.E1 {q most : Nat} {x : LvM} {r : List LvM} (H : HS g h (RgC q most (x :: r) :: R)) : ∃ (v : AV) (p : AV × AV) (ps : List (AV × AV)), ps.length = r.length ∧ HS g h (ObjC q [.int .i64 (most : Int), v] :: SliC 96 2 (ps.length + 1) v (cellsR ps ++ [p.1, p.2]) ::
    SliC 83 2 x.1.length p.1 (x.1.flatMap encC) :: SliC 3 1 x.2.length p.2 (x.2.map (.int .i64)) :: .all (List.zipWith RlC ps r) :: R) := by
  obtain ⟨v, ps, e, H⟩ := RgC.E H
  cases ps with
  | nil => simp at e
  | cons p ps =>
    have e' : ps.length = r.length := by simpa using e
    refine ⟨v, p, ps, e', ?_⟩
    rw [cellsR_cons] at H
    have H1 : HS g h (.all (RlC p x :: List.zipWith RlC ps r) :: ObjC q [.int .i64 (most : Int), v] :: SliC 96 2 (r.length + 1) v (cellsR ps ++ [p.1, p.2]) :: R) := H.sub (.cons (.there (.there .here)) .refl)
    have H2 := RlC.E (HS.allSel .here H1)
    rw [e']
    exact H2.sub (.cons (.there (.there (.there .here))) (.cons (.there (.there (.there .here))) (.refl)))
theorem RgC.I1 {q most : Nat} {x : LvM} {r : List LvM} {v : AV} {p : AV × AV} {ps : List (AV × AV)} (e : ps.length = r.length) (H : HS g h (ObjC q [.int .i64 (most : Int), v] :: SliC 96 2 (ps.length + 1) v (cellsR ps ++ [p.1, p.2]) ::
    SliC 83 2 x.1.length p.1 (x.1.flatMap encC) :: SliC 3 1 x.2.length p.2 (x.2.map (.int .i64)) :: .all (List.zipWith RlC ps r) :: R)) : HS g h (RgC q most (x :: r) :: R) := by
  refine RgC.I (v := v) (ps := p :: ps) (by simp [e]) ?_
  rw [cellsR_cons]
  have H1 := RlC.I (p := p) (x := x) (R := .all (List.zipWith RlC ps r) :: ObjC q [.int .i64 (most : Int), v] :: SliC 96 2 (ps.length + 1) v (cellsR ps ++ [p.1, p.2]) :: R) (H.sub (.cons (.there (.there .here)) (.cons (.there (.there .here)) (.cons (.there (.there .here)) (.refl)))))
  have H2 := HS.allUn (A := RlC p x :: List.zipWith RlC ps r) .here H1
  show HS g h (_ :: SliC 96 2 (r.length + 1) v _ :: .all (RlC p x :: List.zipWith RlC ps r) :: R)
  rw [← e]
  exact H2.sub (.cons (.there .here) (.cons (.there .here) (.cons .here .refl)))
theorem zip_selR : ∀ {ps : List (AV × AV)} {lv : List LvM} {i : Nat} {a : AV × AV} {x : LvM}, ps[i]? = some a → lv[i]? = some x → ∃ T, Sel (List.zipWith RlC ps lv) (RlC a x) T := by
  intro ps
  induction ps with
  | nil => intro lv i a x h; simp at h
  | cons b ps ih =>
    intro lv i a x h1 h2
    cases lv with
    | nil => simp at h2
    | cons y lv =>
      cases i with
      | zero =>
        simp at h1 h2
        subst h1; subst h2
        exact ⟨_, .here⟩
      | succ i =>
        obtain ⟨T, s⟩ := ih (lv := lv) (i := i) (by simpa using h1) (by simpa using h2)
        exact ⟨_, .there s⟩

theorem rheld_ok {n : Nat} (hn : 1 ≤ n) {x lo hi : Int} (hl : lo ≤ hi) : wp (callT tab rtab n (.fn 18 [] []) [.int .i64 x, .int .i64 lo, .int .i64 hi] h) fun v h' => v = .int .i64 (max lo (min x hi)) ∧ h' = h := by
  (refine ww_fn (g := W18) rfl (by omega) fun k hk => ?_; show wp (S18 (callT tab rtab k) _ _ _ _) _; unfold S18; try simp only [Int.ofNat_eq_natCast])
  repeat' (first | with_reducible refine ww_condT ?_ | with_reducible refine ww_condF ?_ | (with_reducible refine ww_wantTT ?_; try dsimp only) | (with_reducible refine ww_wantTF ?_; try dsimp only) | (with_reducible refine ww_wantFT ?_; try dsimp only) | (with_reducible refine ww_wantFF ?_; try dsimp only) | (with_reducible refine ww_wantU ?_; try dsimp only) | with_reducible refine ww_pickT ?_ | with_reducible refine ww_pickF ?_ | (with_reducible refine ww_joinS ?_; try dsimp only) | with_reducible refine ww_leave ?_ | with_reducible refine ww_notT ?_ | with_reducible refine ww_notF ?_ | with_reducible refine ww_addI (by omega) ?_ | with_reducible refine ww_subI (by omega) ?_ | with_reducible refine ww_addU (by omega) ?_ | with_reducible refine ww_subU (by omega) ?_ | with_reducible refine ww_min ?_ | with_reducible refine ww_max ?_ | with_reducible refine ww_lssC (fun hc => ?_) (fun hc => ?_) | with_reducible refine ww_leqC (fun hc => ?_) (fun hc => ?_) | with_reducible refine ww_gtrC (fun hc => ?_) (fun hc => ?_) | with_reducible refine ww_geqC (fun hc => ?_) (fun hc => ?_) | with_reducible refine ww_eqlC (fun hc => ?_) (fun hc => ?_) | with_reducible refine ww_neqC (fun hc => ?_) (fun hc => ?_) | with_reducible refine ww_condB (fun hc => ?_) (fun hc => ?_))
  all_goals refine ww_ret ⟨?_, rfl⟩
  all_goals congr 1
  all_goals omega

theorem rlnew_ok {n : Nat} (hn : 2 ≤ n) {m : Int} (H : HS g h R) : wp (callT tab rtab n (.fn 63 [] []) [.int .i64 m] h) fun v h' => ∃ q, v = .ptr q 0 ∧ HS g h' (RgC q (max 0 (min m 96)).toNat [([], [])] :: R) := by
  (refine ww_fn (g := W63) rfl (by omega) fun k hk => ?_; show wp (S63 (callT tab rtab k) _ _) _; unfold S63; try simp only [Int.ofNat_eq_natCast])
  refine ww_call (rheld_ok (by omega) (by omega)) ?_
  rintro _ _ ⟨rfl, rfl⟩
  refine ww_makeH (sz := 2) (ln := 1) (cp := 1) H rfl (Nat.le_refl _) (by omega) fun v h3 H3 => ?_
  have h1 := H3.one .here
  refine ww_build (l := [.int .i64 (max ((0 : Nat) : Int) (min m ((96 : Nat) : Int))), v]) (by simp only [afill, h1.1]; rfl) ?_
  refine ww_boxA H3 (by show (true && (v.one && true)) = true; rw [h1.2]; rfl) fun q h4 H4 => ww_ret ⟨q, rfl, ?_⟩
  refine RgC.I1 (v := v) (p := (.nils, .nils)) (ps := []) rfl ?_
  rw [show (((max 0 (min m 96)).toNat : Nat) : Int) = max ((0 : Nat) : Int) (min m ((96 : Nat) : Int)) by omega]
  have H5 := ((HS.allI (A := []) H4).nils (e := 3) (sz := 1)).nils (e := 83) (sz := 2)
  exact H5.sub (.cons (.there (.there (.there .here))) (.cons (.there (.there (.there .here))) (.cons .here (.cons .here (.cons .here .refl)))))

theorem rlroom_ok {n q most : Nat} (hn : 1 ≤ n) {lv : List LvM} (H : HS g h (RgC q most lv :: R)) (O : OkL most lv) :
    wp (callT tab rtab n (.fn 106 [] []) [.ptr q 0] h) fun v h' => v = .int .i64 ((most : Int) - (heldL lv : Int)) ∧ h' = h := by
  (refine ww_fn (g := W106) rfl (by omega) fun k hk => ?_; show wp (S106 (callT tab rtab k) _ _) _; unfold S106; try simp only [Int.ofNat_eq_natCast])
  obtain ⟨v, ps, e, H⟩ := RgC.E H
  have hh := O.held
  have hl := O.le
  have hd := O.deep
  with_reducible (refine ww_nil ?_; refine ww_field0 ?_; refine ww_ldH (by assumption) .here (by with_unfolding_all exact rfl) ?_)
  refine ww_iter (fun m s h' => ∃ (i : Nat), s = (.int .i64 (i : Int), .int .i64 ((most : Int) - (((lv.reverse.take i).map fun x => x.1.length).sum : Nat)), .ptr q 0, ()) ∧ i ≤ lv.length ∧ m = lv.length - i ∧ h' = h)
    ?_ (m := lv.length) (by show _ < 1000000000; omega) ⟨0, by simp, by omega, by omega, rfl⟩
  rintro m ih s h' hih ⟨i, rfl, h1, rfl, rfl⟩
  dsimp only
  have hsum : ∀ j, ((lv.reverse.take j).map fun x => x.1.length).sum + ((lv.reverse.drop j).map fun x => x.1.length).sum = heldL lv := by
    intro j
    rw [← List.sum_append, ← List.map_append, List.take_append_drop, List.map_reverse, rsum]; rfl
  with_reducible (refine ww_nil ?_; refine ww_field0 ?_; refine ww_ldH (by assumption) .here (by with_unfolding_all exact rfl) ?_; refine ww_lenH (by assumption) (.there .here) ?_)
  refine ww_lssC (fun hlt => ww_condT ?_) fun hge => ww_condF (ww_leave (ww_ret ⟨?_, rfl⟩))
  · have hi : i < lv.length := by omega
    have ha : ps[ps.length - 1 - i]? = some (ps[ps.length - 1 - i]'(by omega)) := List.getElem?_eq_getElem _
    have hx : lv[ps.length - 1 - i]? = some (lv[ps.length - 1 - i]'(by omega)) := List.getElem?_eq_getElem _
    generalize ps[ps.length - 1 - i]'(by omega) = a at ha
    have hx2 : lv.reverse[i]? = some (lv[ps.length - 1 - i]'(by omega)) := by rw [List.getElem?_reverse hi, ← hx, e]
    generalize lv[ps.length - 1 - i]'(by omega) = x at hx hx2
    with_reducible (refine ww_nil ?_; refine ww_field0 ?_; refine ww_ldH (by assumption) .here (by with_unfolding_all exact rfl) ?_)
    refine ww_idxF (x := a.1) (H.sl (.there .here)) (by omega) (by omega) (by rw [cellsR_get (by omega) (by omega), ha]; rfl) ?_
    obtain ⟨T, s⟩ := zip_selR ha hx
    have H3 := RlC.E (HS.allSel s (H.sel (.there (.there .here))))
    refine ww_lenH H3 .here ?_
    have h2 := hsum i
    have h3 := hsum (i + 1)
    have h4 : ((lv.reverse.take (i + 1)).map fun x => x.1.length).sum = ((lv.reverse.take i).map fun x => x.1.length).sum + x.1.length := by
      rw [List.take_add_one, hx2, Option.toList_some, List.map_append, List.sum_append]; simp
    refine ww_subI (by omega) (ww_addI (by omega) (hih (lv.length - (i + 1)) _ _ (by omega) ⟨i + 1, ?_, by omega, rfl, rfl⟩))
    rw [h4]
    refine Prod.ext ?_ (Prod.ext ?_ rfl)
    · show AV.int _ _ = AV.int _ _
      congr 1
    · show AV.int _ _ = AV.int _ _
      congr 1
      omega
  · have h2 := hsum i
    rw [List.drop_of_length_le (by simp; omega)] at h2
    rw [show ((lv.reverse.take i).map fun x => x.1.length).sum = heldL lv by simpa using h2]

theorem rlopen_ok {n q most : Nat} (hn : 1 ≤ n) {lv : List LvM} (H : HS g h (RgC q most lv :: R)) (O : OkL most lv) :
    wp (callT tab rtab n (.fn 53 [] []) [.ptr q 0] h) fun v h' => v = .int .i64 (openL lv).1 ∧ HS g h' (RgC q most (openL lv).2 :: R) := by
  (refine ww_fn (g := W53) rfl (by omega) fun k hk => ?_; show wp (S53 (callT tab rtab k) _ _) _; unfold S53; try simp only [Int.ofNat_eq_natCast])
  have hd := O.deep
  unfold openL
  by_cases h6 : 6 ≤ lv.length
  · rw [if_pos h6]
    have hH := H
    obtain ⟨v, ps, e, H⟩ := RgC.E H
    with_reducible (refine ww_nil ?_; refine ww_field0 ?_; refine ww_ldH (by assumption) .here (by with_unfolding_all exact rfl) ?_; refine ww_lenH (by assumption) (.there .here) ?_; refine ww_geqT (by omega) ?_; refine ww_condT ?_)
    exact ww_ret ⟨rfl, hH⟩
  · rw [if_neg h6]
    obtain ⟨v, ps, e, H⟩ := RgC.E H
    with_reducible (refine ww_nil ?_; refine ww_field0 ?_; refine ww_ldH (by assumption) .here (by with_unfolding_all exact rfl) ?_; refine ww_lenH (by assumption) (.there .here) ?_; refine ww_geqF (by omega) ?_; refine ww_condF ?_; refine ww_nil ?_; refine ww_field0 ?_; refine ww_ldH (by assumption) .here (by with_unfolding_all exact rfl) ?_; refine ww_build (by with_unfolding_all exact rfl) ?_)
    refine ww_buildSH (n := 1) (l := [.nils, .nils]) (sz := 2) H rfl rfl rfl rfl fun v3 h3 H3 => ?_
    refine ww_appH (H3.sel (.there (.there .here))) (H3.sl .here) (by omega) (by omega) rfl fun v4 h4 H4 => ?_
    with_reducible (refine ww_nil ?_; refine ww_field0 ?_)
    refine ww_st1H H4 (b := q) (.there (.there .here)) (H4.one .here) (by simp) fun h5 H5 => ww_ret ⟨rfl, RgC.I1 (v := v4) (p := (.nils, .nils)) (ps := ps) e ?_⟩
    have H6 := (H5.nils (e := 3) (sz := 1)).nils (e := 83) (sz := 2)
    rw [e]
    exact H6.sub (.cons (.there (.there .here)) (.cons (.there (.there .here)) (.cons .here (.cons .here (.drop .refl)))))

theorem rldrop_ok {n q most : Nat} (hn : 1 ≤ n) {lv : List LvM} (H : HS g h (RgC q most lv :: R)) (O : OkL most lv) :
    wp (callT tab rtab n (.fn 57 [] []) [.ptr q 0] h) fun v h' => v = .int .i64 (dropL lv).1 ∧ HS g h' (RgC q most (dropL lv).2 :: R) := by
  (refine ww_fn (g := W57) rfl (by omega) fun k hk => ?_; show wp (S57 (callT tab rtab k) _ _) _; unfold S57; try simp only [Int.ofNat_eq_natCast])
  have hd := O.deep
  unfold dropL
  by_cases h1 : lv.length = 1
  · rw [if_pos h1]
    have hH := H
    obtain ⟨v, ps, e, H⟩ := RgC.E H
    with_reducible (refine ww_nil ?_; refine ww_field0 ?_; refine ww_ldH (by assumption) .here (by with_unfolding_all exact rfl) ?_; refine ww_lenH (by assumption) (.there .here) ?_; refine ww_eqlT (by omega) ?_; refine ww_condT ?_)
    exact ww_ret ⟨rfl, hH⟩
  · rw [if_neg h1]
    cases lv with
    | nil => have := O.one; simp at this
    | cons x r =>
    simp at h1 hd
    obtain ⟨v, p, ps, e, H⟩ := RgC.E1 H
    have h1' : r.length ≠ 0 := by intro h; exact h1 (List.eq_nil_of_length_eq_zero h)
    with_reducible (refine ww_nil ?_; refine ww_field0 ?_; refine ww_ldH (by assumption) .here (by with_unfolding_all exact rfl) ?_; refine ww_lenH (by assumption) (.there .here) ?_; refine ww_eqlF (by omega) ?_; refine ww_condF ?_; refine ww_nil ?_; refine ww_field0 ?_; refine ww_ldH (by assumption) .here (by with_unfolding_all exact rfl) ?_; refine ww_nil ?_; refine ww_field0 ?_; refine ww_ldH (by assumption) .here (by with_unfolding_all exact rfl) ?_; refine ww_lenH (by assumption) (.there .here) ?_; refine ww_subI (by omega) ?_)
    rw [show ((ps.length + 1 : Nat) : Int) - ((1 : Nat) : Int) = ((ps.length : Nat) : Int) by omega]
    refine ww_cutH (H.sel (.there .here)) (by omega) (by omega) fun v' H2 => ?_
    with_reducible (refine ww_nil ?_; refine ww_field0 ?_)
    refine ww_st1H H2 (b := q) (.there .here) (H2.one .here) (by simp) fun h3 H3 => ww_ret ⟨rfl, RgC.I (v := v') (ps := ps) e ?_⟩
    rw [← cellsR_len ps, List.take_left, e] at H3
    exact H3.sub (.cons .here (.cons .here (.drop (.drop .refl))))

theorem cells_last (l : List AV) (n f : Nat) (a b : AV) (hl : l.length = n * 2) (hf : f < 2) : (l ++ [a, b])[n * 2 + f]? = [a, b][f]? := by
  rw [List.getElem?_append_right (by omega), hl]
  congr 1; omega
theorem cells_set0 (l : List AV) (n : Nat) (a b c : AV) (hl : l.length = n * 2) : (l ++ [a, b]).set (n * 2 + 0) c = l ++ [c, b] := by
  rw [List.set_append_right _ _ (by omega), hl, show n * 2 + 0 - n * 2 = 0 by omega]; rfl
theorem cells_set1 (l : List AV) (n : Nat) (a b c : AV) (hl : l.length = n * 2) : (l ++ [a, b]).set (n * 2 + 1) c = l ++ [a, c] := by
  rw [List.set_append_right _ _ (by omega), hl, show n * 2 + 1 - n * 2 = 1 by omega]; rfl

theorem rlget_ok {n q most : Nat} (hn : 2 ≤ n) {lv : List LvM} {p : Int} (H : HS g h (RgC q most lv :: R)) (O : OkL most lv) :
    wp (callT tab rtab n (.fn 99 [] []) [.ptr q 0, .int .i64 p] h) fun v h' => v = .tup [.int .u64 ((getL p lv).getD 0), .bool (getL p lv).isSome] ∧ h' = h := by
  (refine ww_fn (g := W99) rfl (by omega) fun k hk => ?_; show wp (S99 (callT tab rtab k) _ _ _) _; unfold S99; try simp only [Int.ofNat_eq_natCast])
  obtain ⟨v, ps, e, H⟩ := RgC.E H
  have hd := O.deep
  with_reducible (refine ww_nil ?_; refine ww_field0 ?_; refine ww_ldH (by assumption) .here (by with_unfolding_all exact rfl) ?_; refine ww_lenH (by assumption) (.there .here) ?_; refine ww_subI (by omega) ?_)
  refine ww_iter (fun m s h' => ∃ (i : Nat), s = (.int .i64 ((lv.length : Int) - ((1 : Nat) : Int) - (i : Int)), .int .i64 p, .ptr q 0, ()) ∧ i ≤ lv.length ∧ m = lv.length - i ∧ h' = h ∧ ∀ j, j < i → ∀ x, lv[j]? = some x → getC p x.1 = none)
    ?_ (m := lv.length) (by show _ < 1000000000; omega) ⟨0, by simp, by omega, by omega, rfl, fun j hj => by omega⟩
  rintro m ih s h' hih ⟨i, rfl, h1, rfl, rfl, hno⟩
  dsimp only
  refine ww_geqC (fun hlt => ww_condT ?_) fun hge => ww_condF (ww_leave (ww_ret ⟨?_, rfl⟩))
  · have hi : i < lv.length := by omega
    have ha : ps[i]? = some (ps[i]'(by omega)) := List.getElem?_eq_getElem _
    have hx : lv[i]? = some (lv[i]'(by omega)) := List.getElem?_eq_getElem _
    have hm : lv[i]'(by omega) ∈ lv := List.getElem_mem _
    generalize ps[i]'(by omega) = a at ha
    generalize lv[i]'(by omega) = x at hx hm
    have hxl := O.len hm
    rw [show (lv.length : Int) - ((1 : Nat) : Int) - (i : Int) = ((lv.length - 1 - i : Nat) : Int) by omega]
    have hcell : ∀ f, f < 2 → (cellsR ps)[(lv.length - 1 - i) * 2 + f]? = [a.1, a.2][f]? := by
      intro f hf
      rw [cellsR_get (by omega) hf, show ps.length - 1 - (lv.length - 1 - i) = i by omega, ha]; rfl
    with_reducible (refine ww_nil ?_; refine ww_field0 ?_; refine ww_ldH (by assumption) .here (by with_unfolding_all exact rfl) ?_)
    refine ww_idxF (x := a.1) (H.sl (.there .here)) (by omega) (by omega) (hcell 0 (by omega)) ?_
    obtain ⟨T, s⟩ := zip_selR ha hx
    have H3 := RlC.E (HS.allSel s (H.sel (.there (.there .here))))
    refine ww_call (rplace_ok (by omega) (H3.sl .here) (by omega)) ?_
    rintro _ _ ⟨rfl, rfl⟩
    cases hi2 : idxC p x.1 with
    | none =>
      refine ww_geqF (by show ¬ ((0 : Nat) : Int) ≤ -1; omega) (ww_condF (ww_subI (by omega) (hih (lv.length - (i + 1)) _ _ (by omega) ⟨i + 1, ?_, by omega, rfl, rfl, fun j hj y hy => ?_⟩)))
      · refine Prod.ext ?_ rfl
        show AV.int _ _ = AV.int _ _
        congr 1
        omega
      · by_cases hj' : j < i
        · exact hno j hj' y hy
        · obtain rfl : j = i := by omega
          rw [hx] at hy; cases hy; exact idxC_none.1 hi2
    | some t =>
      obtain ⟨h1, ⟨y, h2, h2'⟩, _⟩ := idxC_some hi2
      refine ww_geqT (by show ((0 : Nat) : Int) ≤ (t : Int); omega) (ww_condT ?_)
      refine ww_nil (ww_field0 (ww_ldH H .here rfl ?_))
      refine ww_idxF (x := a.1) (H.sl (.there .here)) (by omega) (by omega) (hcell 0 (by omega)) ?_
      refine ww_idxF (x := .int .u64 y) (H3.sl .here) (by omega) h1 ?_ (ww_leave (ww_ret ⟨?_, rfl⟩))
      · rw [flat_get (sz := 2) encC (fun _ => rfl) _ _ _ (by omega), h2]; rfl
      · rw [getL_some hno hx h2']; rfl
  · rw [getL_none fun j x hj => hno j (by have := (List.getElem?_eq_some_iff.1 hj).1; omega) x hj]; rfl

theorem rlput_ok {n q most : Nat} (hn : 3 ≤ n) {lv : List LvM} {p v : Int} (H : HS g h (RgC q most lv :: R)) (O : OkL most lv) :
    wp (callT tab rtab n (.fn 102 [] []) [.ptr q 0, .int .i64 p, .int .u64 v] h) fun r h' => r = .int .i64 (putL most lv p v).1 ∧ HS g h' (RgC q most (putL most lv p v).2 :: R) := by
  cases lv with
  | nil => have := O.one; simp at this
  | cons x r =>
  have hxl := O.len (x := x) (List.mem_cons_self ..)
  have hd := O.deep
  have hh := O.held
  simp at hd
  (refine ww_fn (g := W102) rfl (by omega) fun k hk => ?_; show wp (S102 (callT tab rtab k) _ _ _ _) _; unfold S102; try simp only [Int.ofNat_eq_natCast])
  unfold putL
  by_cases hp : p < 1 ∨ 256 ≤ p
  · simp only [if_pos hp]
    repeat' (first | with_reducible refine ww_condT ?_ | with_reducible refine ww_condF ?_ | (with_reducible refine ww_wantTT ?_; try dsimp only) | (with_reducible refine ww_wantTF ?_; try dsimp only) | (with_reducible refine ww_wantFT ?_; try dsimp only) | (with_reducible refine ww_wantFF ?_; try dsimp only) | (with_reducible refine ww_wantU ?_; try dsimp only) | with_reducible refine ww_pickT ?_ | with_reducible refine ww_pickF ?_ | (with_reducible refine ww_joinS ?_; try dsimp only) | with_reducible refine ww_leave ?_ | with_reducible refine ww_notT ?_ | with_reducible refine ww_notF ?_ | with_reducible refine ww_addI (by omega) ?_ | with_reducible refine ww_subI (by omega) ?_ | with_reducible refine ww_addU (by omega) ?_ | with_reducible refine ww_subU (by omega) ?_ | with_reducible refine ww_min ?_ | with_reducible refine ww_max ?_ | with_reducible refine ww_eqlT (by omega) ?_ | with_reducible refine ww_eqlF (by omega) ?_ | with_reducible refine ww_neqT (by omega) ?_ | with_reducible refine ww_neqF (by omega) ?_ | with_reducible refine ww_lssT (by omega) ?_ | with_reducible refine ww_lssF (by omega) ?_ | with_reducible refine ww_leqT (by omega) ?_ | with_reducible refine ww_leqF (by omega) ?_ | with_reducible refine ww_gtrT (by omega) ?_ | with_reducible refine ww_gtrF (by omega) ?_ | with_reducible refine ww_geqT (by omega) ?_ | with_reducible refine ww_geqF (by omega) ?_ | with_reducible refine ww_lssC (fun hc => ?_) (fun hc => ?_) | with_reducible refine ww_leqC (fun hc => ?_) (fun hc => ?_) | with_reducible refine ww_gtrC (fun hc => ?_) (fun hc => ?_) | with_reducible refine ww_geqC (fun hc => ?_) (fun hc => ?_) | with_reducible refine ww_eqlC (fun hc => ?_) (fun hc => ?_) | with_reducible refine ww_neqC (fun hc => ?_) (fun hc => ?_) | with_reducible refine ww_condB (fun hc => ?_) (fun hc => ?_))
    all_goals exact ww_ret ⟨rfl, H⟩
  simp only [if_neg hp]
  have hH := H
  obtain ⟨sv, pr, ps, e, H⟩ := RgC.E1 H
  have hcl := cellsR_len ps
  with_reducible (refine ww_lssF (by omega) ?_; refine ww_joinS ?_; (try dsimp only); refine ww_wantFF ?_; (try dsimp only); refine ww_geqF (by omega) ?_; refine ww_pickF ?_; refine ww_condF ?_; refine ww_nil ?_; refine ww_field0 ?_; refine ww_ldH (by assumption) .here (by with_unfolding_all exact rfl) ?_; refine ww_lenH (by assumption) (.there .here) ?_; refine ww_subI (by omega) ?_; refine ww_nil ?_; refine ww_field0 ?_; refine ww_ldH (by assumption) .here (by with_unfolding_all exact rfl) ?_)
  rw [show ((ps.length + 1 : Nat) : Int) - ((1 : Nat) : Int) = ((ps.length : Nat) : Int) by omega]
  refine ww_idxF (x := pr.1) (H.sl (.there .here)) (by omega) (by omega) (cells_last _ _ 0 _ _ hcl (by omega)) ?_
  refine ww_call (rplace_ok (by omega) (H.sl (.there (.there .here))) (by omega)) ?_
  rintro _ _ ⟨rfl, rfl⟩
  have fin : ∀ (K : AV → AH → Go.Ae.R) (Q : AV → AH → Prop) (h5 : AH), h5 = h5 → HS g h5 (ObjC q [.int .i64 (most : Int), sv] :: SliC 96 2 (ps.length + 1) sv (cellsR ps ++ [pr.1, pr.2]) ::
    SliC 83 2 x.1.length pr.1 (x.1.flatMap encC) :: SliC 3 1 x.2.length pr.2 (x.2.map (.int .i64)) :: .all (List.zipWith RlC ps r) :: R) →
      (∀ v' h6, HS g h6 (SliC 83 2 (putC p v x.1).length v' ((putC p v x.1).flatMap encC) :: ObjC q [.int .i64 (most : Int), sv] :: SliC 96 2 (ps.length + 1) sv (cellsR ps ++ [pr.1, pr.2]) ::
        SliC 83 2 x.1.length pr.1 (x.1.flatMap encC) :: SliC 3 1 x.2.length pr.2 (x.2.map (.int .i64)) :: .all (List.zipWith RlC ps r) :: R) → wp (K v' h6) Q) →
      wp (pCall (callT tab rtab k) (.fn 85 [] []) [pr.1, .int .i64 p, .int .u64 v] h5 K) Q := by
    intro K Q h5 _ H5 hK
    exact ww_call (rput_ok (by omega) H5 (H5.rd (.there (.there .here))) (by omega)) hK
  have put : ∀ h5, HS g h5 (ObjC q [.int .i64 (most : Int), sv] :: SliC 96 2 (ps.length + 1) sv (cellsR ps ++ [pr.1, pr.2]) ::
    SliC 83 2 x.1.length pr.1 (x.1.flatMap encC) :: SliC 3 1 x.2.length pr.2 (x.2.map (.int .i64)) :: .all (List.zipWith RlC ps r) :: R) → True := fun _ _ => trivial
  cases hi : idxC p x.1 with
  | some t =>
    have hg : ¬ (getC p x.1 = none ∧ most ≤ heldL (x :: r)) := fun h => by
      obtain ⟨_, ⟨y, _, h2'⟩, _⟩ := idxC_some hi
      rw [h2'] at h; cases h.1
    refine ww_lssF (by show ¬ ((t : Nat) : Int) < ((0 : Nat) : Int); omega) ?_
    with_reducible (refine ww_joinS ?_; (try dsimp only); refine ww_wantFT ?_; (try dsimp only); refine ww_pickF ?_; refine ww_condF ?_; refine ww_joinS ?_; (try dsimp only); refine ww_nil ?_; refine ww_field0 ?_; refine ww_ldH (by assumption) .here (by with_unfolding_all exact rfl) ?_; refine ww_nil ?_; refine ww_field0 ?_; refine ww_ldH (by assumption) .here (by with_unfolding_all exact rfl) ?_)
    rw [if_neg hg]
    refine ww_idxF (x := pr.1) (H.sl (.there .here)) (by omega) (by omega) (cells_last _ _ 0 _ _ hcl (by omega)) ?_
    refine fin _ _ _ rfl H fun v' h6 H6 => ?_
    refine ww_slF (H6.sel (.there (.there .here))) (by omega) (by omega) (H6.one .here) fun h7 H7 => ?_
    with_reducible (refine ww_chkH (by assumption) .here (by with_unfolding_all exact rfl) (by assumption) (.there .here) (by with_unfolding_all exact rfl) (HS.lt (by assumption) .here) ?_)
    rw [cells_set0 _ _ _ _ _ hcl] at H7
    refine ww_ret ⟨rfl, RgC.I1 (v := sv) (p := (v', pr.2)) (ps := ps) e ?_⟩
    exact H7.sub (.cons (.there (.there .here)) (.cons .here (.cons .here (.cons (.there .here) (.cons (.there .here) (.drop (.refl)))))))
  | none =>
    refine ww_lssT (by show (-1 : Int) < ((0 : Nat) : Int); omega) ?_
    with_reducible (refine ww_joinS ?_; (try dsimp only); refine ww_wantTT ?_; (try dsimp only))
    refine ww_call (rlroom_ok (by omega) hH O) ?_
    rintro _ _ ⟨rfl, rfl⟩
    refine ww_leqC (fun h0 => ?_) fun h0 => ?_
    · with_reducible (refine ww_pickT ?_; refine ww_condT ?_)
      rw [if_pos ⟨idxC_none.1 hi, by omega⟩]
      exact ww_ret ⟨rfl, hH⟩
    · with_reducible (refine ww_pickT ?_; refine ww_condF ?_; refine ww_joinS ?_; (try dsimp only); refine ww_nil ?_; refine ww_field0 ?_; refine ww_ldH (by assumption) .here (by with_unfolding_all exact rfl) ?_; refine ww_nil ?_; refine ww_field0 ?_; refine ww_ldH (by assumption) .here (by with_unfolding_all exact rfl) ?_)
      rw [if_neg (fun h => h0 (by omega))]
      refine ww_idxF (x := pr.1) (H.sl (.there .here)) (by omega) (by omega) (cells_last _ _ 0 _ _ hcl (by omega)) ?_
      refine fin _ _ _ rfl H fun v' h6 H6 => ?_
      refine ww_slF (H6.sel (.there (.there .here))) (by omega) (by omega) (H6.one .here) fun h7 H7 => ?_
      with_reducible (refine ww_chkH (by assumption) .here (by with_unfolding_all exact rfl) (by assumption) (.there .here) (by with_unfolding_all exact rfl) (HS.lt (by assumption) .here) ?_)
      rw [cells_set0 _ _ _ _ _ hcl] at H7
      refine ww_ret ⟨rfl, RgC.I1 (v := sv) (p := (v', pr.2)) (ps := ps) e ?_⟩
      exact H7.sub (.cons (.there (.there .here)) (.cons .here (.cons .here (.cons (.there .here) (.cons (.there .here) (.drop (.refl)))))))

theorem rlfree_ok {n q most : Nat} (hn : 1 ≤ n) {lv : List LvM} {b : Int} (H : HS g h (RgC q most lv :: R)) (O : OkL most lv) (hf : ∀ x ∈ lv, x.2.length < 1000000) :
    wp (callT tab rtab n (.fn 81 [] []) [.ptr q 0, .int .i64 b] h) fun _ h' => HS g h' (RgC q most (freeL lv b) :: R) := by
  cases lv with
  | nil => have := O.one; simp at this
  | cons x r =>
  have hd := O.deep
  have hx := hf x (List.mem_cons_self ..)
  simp at hd
  (refine ww_fn (g := W81) rfl (by omega) fun k hk => ?_; show wp (S81 (callT tab rtab k) _ _ _) _; unfold S81; try simp only [Int.ofNat_eq_natCast])
  obtain ⟨sv, pr, ps, e, H⟩ := RgC.E1 H
  have hcl := cellsR_len ps
  with_reducible (refine ww_nil ?_; refine ww_field0 ?_; refine ww_ldH (by assumption) .here (by with_unfolding_all exact rfl) ?_; refine ww_lenH (by assumption) (.there .here) ?_; refine ww_subI (by omega) ?_; refine ww_joinS ?_; (try dsimp only); refine ww_nil ?_; refine ww_field0 ?_; refine ww_ldH (by assumption) .here (by with_unfolding_all exact rfl) ?_; refine ww_nil ?_; refine ww_field0 ?_; refine ww_ldH (by assumption) .here (by with_unfolding_all exact rfl) ?_)
  rw [show ((ps.length + 1 : Nat) : Int) - ((1 : Nat) : Int) = ((ps.length : Nat) : Int) by omega]
  refine ww_idxF (x := pr.2) (H.sl (.there .here)) (by omega) (by omega) (cells_last _ _ 1 _ _ hcl (by omega)) ?_
  refine ww_appN H (H.sl (.there (.there (.there .here)))) (by omega) (by omega) (allOne_ints _) fun v1 h1 H1 => ?_
  refine ww_buildSH (n := 1) (l := [.int .i64 b]) (sz := 1) H1 rfl rfl rfl rfl fun v2 h2 H2 => ?_
  refine ww_appH (H2.sel (.there .here)) (H2.sl .here) (by omega) (by omega) rfl fun v3 h3 H3 => ?_
  refine ww_slF (H3.sel (.there (.there (.there .here)))) (by omega) (by omega) (H3.one .here) fun h4 H4 => ?_
  rw [cells_set1 _ _ _ _ _ hcl] at H4
  with_reducible (refine ww_chkH (by assumption) (.there (.there .here)) (by with_unfolding_all exact rfl) (by assumption) (.there (.there .here)) (by with_unfolding_all exact rfl) (HS.lt (by assumption) .here) ?_; refine ww_chkH (by assumption) .here (by with_unfolding_all exact rfl) (by assumption) (.there .here) (by with_unfolding_all exact rfl) (HS.lt (by assumption) .here) ?_)
  refine ww_ret ?_
  refine RgC.I1 (v := sv) (p := (pr.1, v3)) (ps := ps) e ?_
  rw [List.map_append, List.length_append]
  exact H4.sub (.cons (.there (.there (.there .here))) (.cons .here (.cons (.there (.there .here)) (.cons .here (.cons (.there (.there .here)) (.drop (.drop (.refl))))))))
end Go.Proofs.Ytaepnpodenmmoaa
