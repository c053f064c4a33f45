/- Views: by the document's own text. -/
import Derived.Test.YthajhlachmgdoaaVwV
namespace Go.Proofs.Ythajhlachmgdoaa
open Go Go.Ae
set_option maxRecDepth 100000

variable {g h : AH} {L R : List SP}

theorem Sel.app {A A' : List SP} {P : SP} (s : Sel A P A') (R : List SP) : Sel (A ++ R) P (A' ++ R) := by
  induction s with
  | here => exact .here
  | there s ih => exact .there ih
theorem HS.allSel {A A' : List SP} {P : SP} (s : Sel A P A') (H : HS g h (.all A :: R)) : HS g h (P :: .all A' :: R) := by
  have H1 := (H.allE).sel (Sel.app s R)
  have H2 := HS.allI (HS.back (A := A') H1)
  exact H2.sub (.cons (.there .here) (.refl))
theorem HS.allUn {A A' : List SP} {P : SP} (s : Sel A P A') (H : HS g h (P :: .all A' :: R)) : HS g h (.all A :: R) := by
  have H1 : HS g h (.all A' :: P :: R) := H.sub (.cons (.there .here) (.refl))
  have H2 := (H1.allE).sel (Sel.skip A' .here)
  exact HS.allI (HS.unsel (Sel.app s R) H2)
theorem HS.slv {e : TypeId} {sz n : Nat} {v : AV} {xs : List AV} (H : HS g h L) (s : Sel L (SliC e sz n v xs) R) (hn : 0 < n) : ∃ b cp o, v = .slice b 0 n cp o := by
  obtain ⟨b, cp, o, ys, hv, _⟩ := (H.sel s).slE hn
  exact ⟨b, cp, o, hv⟩
theorem HS.slat {e : TypeId} {sz n b cp : Nat} {o : Bool} {xs : List AV} (H : HS g h L) (s : Sel L (SliC e sz n (.slice b 0 n cp o) xs) R) : b < h.nx ∧ ∀ j, j < n * sz → h.at b (0 + j) = xs[j]? := by
  have S := H.sl s
  cases S with
  | mk hd hb hr hl ha => exact ⟨hb, ha⟩
theorem ww_appN {e : TypeId} {sz m : Nat} {x : AV} {ys : List AV} {D : Nat → Prop} {K2 : AV → AH → Go.Ae.R} {Q : AV → AH → Prop} (H : HS g h L) (S : Sl D h sz m x ys) (hsz : 0 < sz) (hlim : m ≤ 67108864) (h1 : allOne ys = true)
    (w : ∀ v' h', HS g h' (SliC e sz m v' ys :: L) → wp (K2 v' h') Q) : wp (pAppend h e sz .nils x K2) Q := by
  refine ww_appH (n := 0) H.nils S hsz (by omega) h1 fun v' h' H' => w v' h' ?_
  rw [Nat.zero_add, List.nil_append] at H'
  exact H'
theorem allOne_ints (l : List Int) : allOne (l.map (AV.int .i64)) = true := by
  unfold allOne
  rw [List.all_eq_true]
  intro v hv
  obtain ⟨c, _, rfl⟩ := List.mem_map.1 hv
  rfl

/-! ### levels -/
def RlC (p : AV × AV) (x : LvM) : SP := .all [SliC 53 2 x.1.length p.1 (x.1.flatMap encC), SliC 3 1 x.2.length p.2 (x.2.map (.int .i64))]
theorem RlC.E {p : AV × AV} {x : LvM} (H : HS g h (RlC p x :: R)) : HS g h (SliC 53 2 x.1.length p.1 (x.1.flatMap encC) :: SliC 3 1 x.2.length p.2 (x.2.map (.int .i64)) :: R) := H.allE
theorem RlC.I {p : AV × AV} {x : LvM} (H : HS g h (SliC 53 2 x.1.length p.1 (x.1.flatMap encC) :: SliC 3 1 x.2.length p.2 (x.2.map (.int .i64)) :: R)) : HS g h (RlC p x :: R) := H.allI
def cellsR (ps : List (AV × AV)) : List AV := ps.reverse.flatMap fun p => [p.1, p.2]
theorem cellsR_cons (p : AV × AV) (ps : List (AV × AV)) : cellsR (p :: ps) = cellsR ps ++ [p.1, p.2] := by unfold cellsR; rw [List.reverse_cons, List.flatMap_append]; rfl
theorem cellsR_len (ps : List (AV × AV)) : (cellsR ps).length = ps.length * 2 := by unfold cellsR; rw [flat_len (sz := 2) _ (fun _ => rfl), List.length_reverse]
theorem cellsR_get {ps : List (AV × AV)} {i f : Nat} (hi : i < ps.length) (hf : f < 2) : (cellsR ps)[i * 2 + f]? = (ps[ps.length - 1 - i]?).bind fun p => [p.1, p.2][f]? := by
  unfold cellsR
  rw [flat_get (sz := 2) (fun p : AV × AV => [p.1, p.2]) (fun _ => rfl) _ _ _ hf, List.getElem?_reverse hi]
def RgC (q most : Nat) (lv : List LvM) : SP := .ex fun v => .ex fun ps : List (AV × AV) => .all [.pur (ps.length = lv.length), ObjC q [.int .i64 (most : Int), v], SliC 171 2 lv.length v (cellsR ps), .all (List.zipWith RlC ps lv)]
theorem RgC.E {q most : Nat} {lv : List LvM} (H : HS g h (RgC q most lv :: R)) : ∃ v ps, ps.length = lv.length ∧ HS g h (ObjC q [.int .i64 (most : Int), v] :: SliC 171 2 lv.length v (cellsR ps) :: .all (List.zipWith RlC ps lv) :: R) := by
  obtain ⟨v, H⟩ := H.exE
  obtain ⟨ps, H⟩ := H.exE
  obtain ⟨e, H⟩ := HS.purE (H.allE)
  exact ⟨v, ps, e, H⟩
theorem RgC.I {q most : Nat} {lv : List LvM} {v : AV} {ps : List (AV × AV)} (e : ps.length = lv.length) (H : HS g h (ObjC q [.int .i64 (most : Int), v] :: SliC 171 2 lv.length v (cellsR ps) :: .all (List.zipWith RlC ps lv) :: R)) : HS g h (RgC q most lv :: R) :=
  HS.exI v (HS.exI ps (HS.allI (HS.purI e H)))
theorem RgC.E1 {q most : Nat} {x : LvM} {r : List LvM} (H : HS g h (RgC q most (x :: r) :: R)) : ∃ (v : AV) (p : AV × AV) (ps : List (AV × AV)), ps.length = r.length ∧ HS g h (ObjC q [.int .i64 (most : Int), v] :: SliC 171 2 (ps.length + 1) v (cellsR ps ++ [p.1, p.2]) ::
    SliC 53 2 x.1.length p.1 (x.1.flatMap encC) :: SliC 3 1 x.2.length p.2 (x.2.map (.int .i64)) :: .all (List.zipWith RlC ps r) :: R) := by
  obtain ⟨v, ps, e, H⟩ := RgC.E H
  cases ps with
  | nil => simp at e
  | cons p ps =>
    have e' : ps.length = r.length := by simpa using e
    refine ⟨v, p, ps, e', ?_⟩
    rw [cellsR_cons] at H
    have H1 : HS g h (.all (RlC p x :: List.zipWith RlC ps r) :: ObjC q [.int .i64 (most : Int), v] :: SliC 171 2 (r.length + 1) v (cellsR ps ++ [p.1, p.2]) :: R) := H.sub (.cons (.there (.there .here)) .refl)
    have H2 := RlC.E (HS.allSel .here H1)
    rw [e']
    exact H2.sub (.cons (.there (.there (.there .here))) (.cons (.there (.there (.there .here))) (.refl)))
theorem RgC.I1 {q most : Nat} {x : LvM} {r : List LvM} {v : AV} {p : AV × AV} {ps : List (AV × AV)} (e : ps.length = r.length) (H : HS g h (ObjC q [.int .i64 (most : Int), v] :: SliC 171 2 (ps.length + 1) v (cellsR ps ++ [p.1, p.2]) ::
    SliC 53 2 x.1.length p.1 (x.1.flatMap encC) :: SliC 3 1 x.2.length p.2 (x.2.map (.int .i64)) :: .all (List.zipWith RlC ps r) :: R)) : HS g h (RgC q most (x :: r) :: R) := by
  refine RgC.I (v := v) (ps := p :: ps) (by simp [e]) ?_
  rw [cellsR_cons]
  have H1 := RlC.I (p := p) (x := x) (R := .all (List.zipWith RlC ps r) :: ObjC q [.int .i64 (most : Int), v] :: SliC 171 2 (ps.length + 1) v (cellsR ps ++ [p.1, p.2]) :: R) (H.sub (.cons (.there (.there .here)) (.cons (.there (.there .here)) (.cons (.there (.there .here)) (.refl)))))
  have H2 := HS.allUn (A := RlC p x :: List.zipWith RlC ps r) .here H1
  show HS g h (_ :: SliC 171 2 (r.length + 1) v _ :: .all (RlC p x :: List.zipWith RlC ps r) :: R)
  rw [← e]
  exact H2.sub (.cons (.there .here) (.cons (.there .here) (.cons .here .refl)))
theorem zip_selR : ∀ {ps : List (AV × AV)} {lv : List LvM} {i : Nat} {a : AV × AV} {x : LvM}, ps[i]? = some a → lv[i]? = some x → ∃ T, Sel (List.zipWith RlC ps lv) (RlC a x) T := by
  intro ps
  induction ps with
  | nil => intro lv i a x h; simp at h
  | cons b ps ih =>
    intro lv i a x h1 h2
    cases lv with
    | nil => simp at h2
    | cons y lv =>
      cases i with
      | zero =>
        simp at h1 h2
        subst h1; subst h2
        exact ⟨_, .here⟩
      | succ i =>
        obtain ⟨T, s⟩ := ih (lv := lv) (i := i) (by simpa using h1) (by simpa using h2)
        exact ⟨_, .there s⟩

theorem rheld_ok {n : Nat} (hn : 1 ≤ n) {x lo hi : Int} (hl : lo ≤ hi) : wp (callT tab rtab n (.fn 100 [] []) [.int .i64 x, .int .i64 lo, .int .i64 hi] h) fun v h' => v = .int .i64 (max lo (min x hi)) ∧ h' = h := by
  (refine ww_fn (g := W100) rfl (by omega) fun k hk => ?_; show wp (S100 (callT tab rtab k) _ _ _ _) _; unfold S100; try simp only [Int.ofNat_eq_natCast])
  repeat' (first | with_reducible refine ww_condT ?_ | with_reducible refine ww_condF ?_ | (with_reducible refine ww_wantTT ?_; try dsimp only) | (with_reducible refine ww_wantTF ?_; try dsimp only) | (with_reducible refine ww_wantFT ?_; try dsimp only) | (with_reducible refine ww_wantFF ?_; try dsimp only) | (with_reducible refine ww_wantU ?_; try dsimp only) | with_reducible refine ww_pickT ?_ | with_reducible refine ww_pickF ?_ | (with_reducible refine ww_joinS ?_; try dsimp only) | with_reducible refine ww_leave ?_ | with_reducible refine ww_notT ?_ | with_reducible refine ww_notF ?_ | with_reducible refine ww_addI (by omega) ?_ | with_reducible refine ww_subI (by omega) ?_ | with_reducible refine ww_addU (by omega) ?_ | with_reducible refine ww_subU (by omega) ?_ | with_reducible refine ww_min ?_ | with_reducible refine ww_max ?_ | with_reducible refine ww_lssC (fun hc => ?_) (fun hc => ?_) | with_reducible refine ww_leqC (fun hc => ?_) (fun hc => ?_) | with_reducible refine ww_gtrC (fun hc => ?_) (fun hc => ?_) | with_reducible refine ww_geqC (fun hc => ?_) (fun hc => ?_) | with_reducible refine ww_eqlC (fun hc => ?_) (fun hc => ?_) | with_reducible refine ww_neqC (fun hc => ?_) (fun hc => ?_) | with_reducible refine ww_condB (fun hc => ?_) (fun hc => ?_))
  all_goals refine ww_ret ⟨?_, rfl⟩
  all_goals congr 1
  all_goals omega

theorem rlnew_ok {n : Nat} (hn : 2 ≤ n) {m : Int} (H : HS g h R) : wp (callT tab rtab n (.fn 101 [] []) [.int .i64 m] h) fun v h' => ∃ q, v = .ptr q 0 ∧ HS g h' (RgC q (max 0 (min m 96)).toNat [([], [])] :: R) := by
  (refine ww_fn (g := W101) rfl (by omega) fun k hk => ?_; show wp (S101 (callT tab rtab k) _ _) _; unfold S101; try simp only [Int.ofNat_eq_natCast])
  refine ww_call (rheld_ok (by omega) (by omega)) ?_
  rintro _ _ ⟨rfl, rfl⟩
  refine ww_makeH (sz := 2) (ln := 1) (cp := 1) H rfl (Nat.le_refl _) (by omega) fun v h3 H3 => ?_
  have h1 := H3.one .here
  refine ww_build (l := [.int .i64 (max ((0 : Nat) : Int) (min m ((96 : Nat) : Int))), v]) (by simp only [afill, h1.1]; rfl) ?_
  refine ww_boxA H3 (by show (true && (v.one && true)) = true; rw [h1.2]; rfl) fun q h4 H4 => ww_ret ⟨q, rfl, ?_⟩
  refine RgC.I1 (v := v) (p := (.nils, .nils)) (ps := []) rfl ?_
  rw [show (((max 0 (min m 96)).toNat : Nat) : Int) = max ((0 : Nat) : Int) (min m ((96 : Nat) : Int)) by omega]
  have H5 := ((HS.allI (A := []) H4).nils (e := 3) (sz := 1)).nils (e := 53) (sz := 2)
  exact H5.sub (.cons (.there (.there (.there .here))) (.cons (.there (.there (.there .here))) (.cons .here (.cons .here (.cons .here .refl)))))

theorem cells_last (l : List AV) (n f : Nat) (a b : AV) (hl : l.length = n * 2) (hf : f < 2) : (l ++ [a, b])[n * 2 + f]? = [a, b][f]? := by
  rw [List.getElem?_append_right (by omega), hl]
  congr 1; omega
theorem cells_set0 (l : List AV) (n : Nat) (a b c : AV) (hl : l.length = n * 2) : (l ++ [a, b]).set (n * 2 + 0) c = l ++ [c, b] := by
  rw [List.set_append_right _ _ (by omega), hl, show n * 2 + 0 - n * 2 = 0 by omega]; rfl
theorem cells_set1 (l : List AV) (n : Nat) (a b c : AV) (hl : l.length = n * 2) : (l ++ [a, b]).set (n * 2 + 1) c = l ++ [a, c] := by
  rw [List.set_append_right _ _ (by omega), hl, show n * 2 + 1 - n * 2 = 1 by omega]; rfl

end Go.Proofs.Ythajhlachmgdoaa
