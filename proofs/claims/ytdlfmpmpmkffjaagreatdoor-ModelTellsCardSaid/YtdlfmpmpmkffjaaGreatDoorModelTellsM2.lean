/- Lemmas for 'quietus/quietuslaw22.ModelTells': Views: by the documents own text; Views: by the documents own text: copies, kept levels, the views; Blocks of words: by the program; Blocks of words: by the ... No condition. -/
import Derived.Test.YtdlfmpmpmkffjaaGreatDoorModelTellsM1
import Derived.Test.YtdlfmpmpmkffjaaGreatDoorModelTellsAe7
import Derived.Test.YtdlfmpmpmkffjaaGreatDoorModelTellsT
import Derived.KernelRfl
import Derived.Lib.ItoaLen
namespace Go.Proofs.YtdlfmpmpmkffjaaGreatDoor
open Go Go.Ae
set_option maxRecDepth 100000
variable {g h : AH} {L R : List SP}
theorem Sel.app {A A' : List SP} {P : SP} (s : Sel A P A') (R : List SP) : Sel (A ++ R) P (A' ++ R) := by
 induction s with
 | here => exact .here
 | there s ih => exact .there ih
theorem HS.allSel {A A' : List SP} {P : SP} (s : Sel A P A') (H : HS g h (.all A :: R)) : HS g h (P :: .all A' :: R) := by
 have H1 := (H.allE).sel (Sel.app s R)
 have H2 := HS.allI (HS.back (A := A') H1)
 exact H2.sub (.cons e_1 (.refl))
theorem HS.allUn {A A' : List SP} {P : SP} (s : Sel A P A') (H : HS g h (P :: .all A' :: R)) : HS g h (.all A :: R) := by
 have H1 : HS g h (.all A' :: P :: R) := H.sub (.cons e_1 (.refl))
 have H2 := (H1.allE).sel (Sel.skip A' .here)
 exact HS.allI (HS.unsel (Sel.app s R) H2)
theorem HS.slv {e : TypeId} {sz n : Nat} {v : AV} {xs : List AV} (H : HS g h L) (s : Sel L (qz e sz n v xs) R) (hn : 0 < n) : ∃ b cp o, v = .slice b 0 n cp o := by
 obtain ⟨b, cp, o, ys, hv, _⟩ := (H.sel s).slE hn
 exact ⟨b, cp, o, hv⟩
theorem HS.slat {e : TypeId} {sz n b cp : Nat} {o : Bool} {xs : List AV} (H : HS g h L) (s : Sel L (qz e sz n (.slice b 0 n cp o) xs) R) : b < h.nx ∧ ∀ j, j < n * sz → h.at b (0 + j) = xs[j]? := by
 have S := H.sl s
 cases S with
 | mk hd hb hr hl ha => exact ⟨hb, ha⟩
theorem Jj {e : TypeId} {sz m : Nat} {x : AV} {ys : List AV} {D : Nat → Prop} {K2 : AV → AH → Go.Ae.R} {Q : AV → AH → Prop} (H : HS g h L) (S : Sl D h sz m x ys) (hsz : 0 < sz) (hlim : m ≤ 67108864) (h1 : q9 ys = true)
  (w : ∀ v' h', HS g h' (qz e sz m v' ys :: L) → wp (K2 v' h') Q) : wp (zQ h e sz .nils x K2) Q := by
 refine je (n := 0) H.nils S hsz (by omega) h1 fun v' h' H' => w v' h' ?_
 rw [Nat.zero_add, List.nil_append] at H'
 exact H'
theorem vH (l : List Int) : q9 (l.map (AV.int .i64)) = true := by
 unfold q9
 rw [List.all_eq_true]
 intro v hv
 obtain ⟨c, _, rfl⟩ := List.mem_map.1 hv
 rfl
theorem kI {D : Nat → Prop} {n : Nat} (hn : 1 ≤ n) {p : Int} {c : AV} {l : List Cl} (S : Sl D h 2 l.length c (l.flatMap jJ)) (hl : l.length < 1000000) :
  wp (callT tab qA n (.fn 66 [] []) [c, .int .i64 p] h) fun v h' => v = .int .i64 (zI (g9 p l)) ∧ h' = h := by
 (refine qP (g := (tD2 S66)) rfl (by omega) fun k hk => ?_; show wp (S66 (callT tab qA k) _ _ _).1 _; unfold S66; try simp only [ Int.ofNat_eq_natCast])
 refine jz (fun m s h' => ∃ i : Nat, s = (.int .i64 (i : Int), .int .i64 p, c, ()) ∧ i ≤ l.length ∧ m = l.length - i ∧ h' = h ∧
  (∀ j, j < i → ∀ c, l[j]? = some c → c.1 ≠ p)) ?_ (m := l.length) (by show _ < 1000000000; omega) ⟨0, rfl, by omega, by omega, rfl, fun j hj => by omega⟩
 rintro m ih s' h' hih ⟨i, rfl, h1, rfl, rfl, h2⟩
 dsimp only
 refine jb S ?_
 refine jA (fun hlt => qV ?_) fun hge => qQ (qj (qW ⟨?_, rfl⟩))
 ·have hi : i < l.length := by omega
  have hc : l[i]? = some l[i] := List.getElem?_eq_getElem hi
  refine js (x := .int .i64 l[i].1) S (by omega) hi (by rw [zD (sz := 2) jJ (fun _ => rfl) _ _ _ (by omega), hc]; rfl) ?_
  refine xG (fun he => qV (qj (qW ⟨?_, rfl⟩))) fun hne => qQ (qD (by omega) ?_)
  ·rw [YY hi h2 ⟨l[i].2, by rw [hc, ← he]⟩]; rfl
  ·refine hih (l.length - (i + 1)) _ _ (by omega) ⟨i + 1, rfl, by omega, rfl, rfl, fun j hj c hc' => ?_⟩
   by_cases h4 : j < i
   ·exact h2 j h4 c hc'
   ·obtain rfl : j = i := by omega
    rw [hc] at hc'; cases hc'; exact hne
 ·rw [Uh fun c hc => ?_]
  ·rfl
  ·obtain ⟨j, hj⟩ := List.getElem?_of_mem hc
   exact h2 j (by have := (List.getElem?_eq_some_iff.1 hj).1; omega) c hj
theorem Mh {n : Nat} (hn : 2 ≤ n) {p x : Int} {c : AV} {l : List Cl} (H : HS g h L) (S : Rd g L 2 l.length c (l.flatMap jJ)) (hl : l.length < 1000000) :
  wp (callT tab qA n (.fn 98 [] []) [c, .int .i64 p, .int .u64 x] h) fun v h' => HS g h' (qz 67 2 (xF p x l).length v ((xF p x l).flatMap jJ) :: L) := by
 (refine qP (g := (tD3 S98)) rfl (by omega) fun k hk => ?_; show wp (S98 (callT tab qA k) _ _ _ _).1 _; unfold S98; try simp only [ Int.ofNat_eq_natCast])
 refine Jj H (S.sl H) (by omega) (by omega) (kZ l) fun v0 h1 H1 => ?_
 refine qY (kI (by omega) (H1.sl .here) (by omega)) ?_
 rintro _ _ ⟨rfl, rfl⟩
 cases hi : g9 p l with
 | none =>
  refine jQ (by show ¬ ((0 : Nat) : Int) ≤ -1; omega) ?_
  with_reducible (refine qQ ?_; refine qF rfl ?_)
  refine qf (n := 1) (sz := 2) (l := [.int .i64 p, .int .u64 x]) H1 rfl rfl rfl rfl fun v5 h5 H5 => ?_
  refine je (H5.sel e_1) (H5.sl .here) (by omega) (by omega) rfl fun v6 h6 H6 => qW ?_
  rw [kS (gX.1 hi), List.flatMap_append, List.length_append]
  exact H6.sub (.cons .here (.drop (.refl)))
 | some i =>
  obtain ⟨h1, ⟨y, h2, h2'⟩, h5⟩ := gJ hi
  refine jV (by show ((0 : Nat) : Int) ≤ (i : Int); omega) ?_
  refine qV ?_
  refine XY H1 h1 (by omega) ⟨rfl, rfl⟩ fun h6 H6 => qW ?_
  rw [Uk h2] at H6
  rw [h5, List.length_set]
  exact H6
def RlC (p : AV × AV) (x : LvM) : SP := .all [qz 67 2 x.1.length p.1 (x.1.flatMap jJ), qz 3 1 x.2.length p.2 (x.2.map (.int .i64))]
theorem RlC.E {p : AV × AV} {x : LvM} (H : HS g h (RlC p x :: R)) : HS g h (qz 67 2 x.1.length p.1 (x.1.flatMap jJ) :: qz 3 1 x.2.length p.2 (x.2.map (.int .i64)) :: R) := H.allE
theorem RlC.I {p : AV × AV} {x : LvM} (H : HS g h (qz 67 2 x.1.length p.1 (x.1.flatMap jJ) :: qz 3 1 x.2.length p.2 (x.2.map (.int .i64)) :: R)) : HS g h (RlC p x :: R) := H.allI
def jh (ps : List (AV × AV)) : List AV := ps.reverse.flatMap fun p => [p.1, p.2]
theorem gS (p : AV × AV) (ps : List (AV × AV)) : jh (p :: ps) = jh ps ++ [p.1, p.2] := by unfold jh; rw [List.reverse_cons, List.flatMap_append]; rfl
theorem ww (ps : List (AV × AV)) : (jh ps).length = ps.length * 2 := by unfold jh; rw [xm (sz := 2) _ (fun _ => rfl), List.length_reverse]
theorem wI {ps : List (AV × AV)} {i f : Nat} (hi : i < ps.length) (hf : f < 2) : (jh ps)[i * 2 + f]? = (ps[ps.length - 1 - i]?).bind fun p => [p.1, p.2][f]? := by
 unfold jh
 rw [zD (sz := 2) (fun p : AV × AV => [p.1, p.2]) (fun _ => rfl) _ _ _ hf, List.getElem?_reverse hi]
def RgC (q most : Nat) (lv : List LvM) : SP := .ex fun v => .ex fun ps : List (AV × AV) => .all [.pur (ps.length = lv.length), qw q [.int .i64 (most : Int), v], qz 63 2 lv.length v (jh ps), .all (List.zipWith RlC ps lv)]
theorem RgC.E {q most : Nat} {lv : List LvM} (H : HS g h (RgC q most lv :: R)) : ∃ v ps, ps.length = lv.length ∧ HS g h (qw q [.int .i64 (most : Int), v] :: qz 63 2 lv.length v (jh ps) :: .all (List.zipWith RlC ps lv) :: R) := by
 obtain ⟨v, H⟩ := H.exE
 obtain ⟨ps, H⟩ := H.exE
 obtain ⟨e, H⟩ := HS.purE (H.allE)
 exact ⟨v, ps, e, H⟩
theorem RgC.I {q most : Nat} {lv : List LvM} {v : AV} {ps : List (AV × AV)} (e : ps.length = lv.length) (H : HS g h (qw q [.int .i64 (most : Int), v] :: qz 63 2 lv.length v (jh ps) :: .all (List.zipWith RlC ps lv) :: R)) : HS g h (RgC q most lv :: R) :=
 HS.exI v (HS.exI ps (HS.allI (HS.purI e H)))
theorem RgC.E1 {q most : Nat} {x : LvM} {r : List LvM} (H : HS g h (RgC q most (x :: r) :: R)) : ∃ (v : AV) (p : AV × AV) (ps : List (AV × AV)), ps.length = r.length ∧ HS g h (qw q [.int .i64 (most : Int), v] :: qz 63 2 (ps.length + 1) v (jh ps ++ [p.1, p.2]) ::
  qz 67 2 x.1.length p.1 (x.1.flatMap jJ) :: qz 3 1 x.2.length p.2 (x.2.map (.int .i64)) :: .all (List.zipWith RlC ps r) :: R) := by
 obtain ⟨v, ps, e, H⟩ := RgC.E H
 cases ps with
 | nil => simp at e
 | cons p ps =>
  have e' : ps.length = r.length := by simpa using e
  refine ⟨v, p, ps, e', ?_⟩
  rw [gS] at H
  have H1 : HS g h (.all (RlC p x :: List.zipWith RlC ps r) :: qw q [.int .i64 (most : Int), v] :: qz 63 2 (r.length + 1) v (jh ps ++ [p.1, p.2]) :: R) := H.sub (.cons e_2 .refl)
  have H2 := RlC.E (HS.allSel .here H1)
  rw [e']
  exact H2.sub (.cons e_3 (.cons e_3 (.refl)))
theorem RgC.I1 {q most : Nat} {x : LvM} {r : List LvM} {v : AV} {p : AV × AV} {ps : List (AV × AV)} (e : ps.length = r.length) (H : HS g h (qw q [.int .i64 (most : Int), v] :: qz 63 2 (ps.length + 1) v (jh ps ++ [p.1, p.2]) ::
  qz 67 2 x.1.length p.1 (x.1.flatMap jJ) :: qz 3 1 x.2.length p.2 (x.2.map (.int .i64)) :: .all (List.zipWith RlC ps r) :: R)) : HS g h (RgC q most (x :: r) :: R) := by
 refine RgC.I (v := v) (ps := p :: ps) (by simp [e]) ?_
 rw [gS]
 have H1 := RlC.I (p := p) (x := x) (R := .all (List.zipWith RlC ps r) :: qw q [.int .i64 (most : Int), v] :: qz 63 2 (ps.length + 1) v (jh ps ++ [p.1, p.2]) :: R) (H.sub (.cons e_2 (.cons e_2 (.cons e_2 (.refl)))))
 have H2 := HS.allUn (A := RlC p x :: List.zipWith RlC ps r) .here H1
 show HS g h (_ :: qz 63 2 (r.length + 1) v _ :: .all (RlC p x :: List.zipWith RlC ps r) :: R)
 rw [← e]
 exact H2.sub (.cons e_1 (.cons e_1 (.cons .here .refl)))
theorem Qd : ∀ {ps : List (AV × AV)} {lv : List LvM} {i : Nat} {a : AV × AV} {x : LvM}, ps[i]? = some a → lv[i]? = some x → ∃ T, Sel (List.zipWith RlC ps lv) (RlC a x) T := by
 intro ps
 induction ps with
 | nil => intro lv i a x h; simp at h
 | cons b ps ih =>
  intro lv i a x h1 h2
  cases lv with
  | nil => simp at h2
  | cons y lv =>
   cases i with
   | zero =>
    simp at h1 h2
    subst h1; subst h2
    exact ⟨_, .here⟩
   | succ i =>
    obtain ⟨T, s⟩ := ih (lv := lv) (i := i) (by simpa using h1) (by simpa using h2)
    exact ⟨_, .there s⟩
theorem KL {n : Nat} (hn : 1 ≤ n) {x lo hi : Int} (hl : lo ≤ hi) : wp (callT tab qA n (.fn 60 [] []) [.int .i64 x, .int .i64 lo, .int .i64 hi] h) fun v h' => v = .int .i64 (max lo (min x hi)) ∧ h' = h := by
 (refine qP (g := (tD3 S60)) rfl (by omega) fun k hk => ?_; show wp (S60 (callT tab qA k) _ _ _ _).1 _; unfold S60; try simp only [ Int.ofNat_eq_natCast])
 repeat' (first | with_reducible refine qV ?_ | with_reducible refine qQ ?_ | (with_reducible refine qR ?_; try dsimp only) | (with_reducible refine qS ?_; try dsimp only) | (with_reducible refine qO ?_; try dsimp only) | (with_reducible refine qB ?_; try dsimp only) | (with_reducible refine jW ?_; try dsimp only) | with_reducible refine qC ?_ | with_reducible refine qv ?_ | (with_reducible refine qX ?_; try dsimp only) | with_reducible refine qj ?_ | with_reducible refine qo ?_ | with_reducible refine jq ?_ | with_reducible refine qD (by omega) ?_ | with_reducible refine qb (by omega) ?_ | with_reducible refine zk (by omega) ?_ | with_reducible refine zy (by omega) ?_ | with_reducible refine zx ?_ | with_reducible refine zg ?_ | with_reducible refine jA (fun hc => ?_) (fun hc => ?_) | with_reducible refine xg (fun hc => ?_) (fun hc => ?_) | with_reducible refine zi (fun hc => ?_) (fun hc => ?_) | with_reducible refine xW (fun hc => ?_) (fun hc => ?_) | with_reducible refine xG (fun hc => ?_) (fun hc => ?_) | with_reducible refine zA (fun hc => ?_) (fun hc => ?_) | with_reducible refine xZ (fun hc => ?_) (fun hc => ?_))
 all_goals refine qW ⟨?_, rfl⟩
 all_goals congr 1
 all_goals omega
theorem qQF {n : Nat} (hn : 2 ≤ n) {m : Int} (H : HS g h R) : wp (callT tab qA n (.fn 61 [] []) [.int .i64 m] h) fun v h' => ∃ q, v = .ptr q 0 ∧ HS g h' (RgC q (max 0 (min m 96)).toNat [([], [])] :: R) := by
 (refine qP (g := (tD1 S61)) rfl (by omega) fun k hk => ?_; show wp (S61 (callT tab qA k) _ _).1 _; unfold S61; try simp only [ Int.ofNat_eq_natCast])
 refine qY (KL (by omega) (by omega)) ?_
 rintro _ _ ⟨rfl, rfl⟩
 refine XO (sz := 2) (ln := 1) (cp := 1) H rfl (Nat.le_refl _) (by omega) fun v h3 H3 => ?_
 have h1 := H3.one .here
 refine qF (l := [.int .i64 (max ((0 : Nat) : Int) (min m ((96 : Nat) : Int))), v]) (by simp only [yd, h1.1]; rfl) ?_
 refine qU H3 (by show (true && (v.one && true)) = true; rw [h1.2]; rfl) fun q h4 H4 => qW ⟨q, rfl, ?_⟩
 refine RgC.I1 (v := v) (p := (.nils, .nils)) (ps := []) rfl ?_
 rw [show (((max 0 (min m 96)).toNat : Nat) : Int) = max ((0 : Nat) : Int) (min m ((96 : Nat) : Int)) by omega]
 have H5 := ((HS.allI (A := []) H4).nils (e := 3) (sz := 1)).nils (e := 67) (sz := 2)
 exact H5.sub (.cons e_3 (.cons e_3 (.cons .here (.cons .here (.cons .here .refl)))))
theorem Ng {n q most : Nat} (hn : 1 ≤ n) {lv : List LvM} (H : HS g h (RgC q most lv :: R)) (O : OkL most lv) :
  wp (callT tab qA n (.fn 211 [] []) [.ptr q 0] h) fun v h' => v = .int .i64 ((most : Int) - (xk lv : Int)) ∧ h' = h := by
 (refine qP (g := (tD1 S211)) rfl (by omega) fun k hk => ?_; show wp (S211 (callT tab qA k) _ _).1 _; unfold S211; try simp only [ Int.ofNat_eq_natCast])
 obtain ⟨v, ps, e, H⟩ := RgC.E H
 have hh := O.held
 have hl := O.le
 have hd := O.deep
 with_reducible (refine qq ?_; refine qJ ?_; refine qG (by assumption) .here rfl ?_)
 refine jz (fun m s h' => ∃ (i : Nat), s = (.int .i64 (i : Int), .int .i64 ((most : Int) - (((lv.reverse.take i).map fun x => x.1.length).sum : Nat)), .ptr q 0, ()) ∧ i ≤ lv.length ∧ m = lv.length - i ∧ h' = h)
  ?_ (m := lv.length) (by show _ < 1000000000; omega) ⟨0, by simp, by omega, by omega, rfl⟩
 rintro m ih s h' hih ⟨i, rfl, h1, rfl, rfl⟩
 dsimp only
 have hsum : ∀ j, ((lv.reverse.take j).map fun x => x.1.length).sum + ((lv.reverse.drop j).map fun x => x.1.length).sum = xk lv := by
  intro j
  rw [← List.sum_append, ← List.map_append, List.take_append_drop, List.map_reverse, rsum]; rfl
 with_reducible (refine qq ?_; refine qJ ?_; refine qG (by assumption) .here rfl ?_; refine qd (by assumption) e_1 ?_)
 refine jA (fun hlt => qV ?_) fun hge => qQ (qj (qW ⟨?_, rfl⟩))
 ·have hi : i < lv.length := by omega
  have ha : ps[ps.length - 1 - i]? = some (ps[ps.length - 1 - i]'(by omega)) := List.getElem?_eq_getElem _
  have hx : lv[ps.length - 1 - i]? = some (lv[ps.length - 1 - i]'(by omega)) := List.getElem?_eq_getElem _
  generalize ps[ps.length - 1 - i]'(by omega) = a at ha
  have hx2 : lv.reverse[i]? = some (lv[ps.length - 1 - i]'(by omega)) := by rw [List.getElem?_reverse hi, ← hx, e]
  generalize lv[ps.length - 1 - i]'(by omega) = x at hx hx2
  with_reducible (refine qq ?_; refine qJ ?_; refine qG (by assumption) .here rfl ?_)
  refine js (x := a.1) (H.sl e_1) (by omega) (by omega) (by rw [wI (by omega) (by omega), ha]; rfl) ?_
  obtain ⟨T, s⟩ := Qd ha hx
  have H3 := RlC.E (HS.allSel s (H.sel e_2))
  refine qd H3 .here ?_
  have h2 := hsum i
  have h3 := hsum (i + 1)
  have h4 : ((lv.reverse.take (i + 1)).map fun x => x.1.length).sum = ((lv.reverse.take i).map fun x => x.1.length).sum + x.1.length := by
   rw [List.take_add_one, hx2, Option.toList_some, List.map_append, List.sum_append]; simp
  refine qb (by omega) (qD (by omega) (hih (lv.length - (i + 1)) _ _ (by omega) ⟨i + 1, ?_, by omega, rfl, rfl⟩))
  rw [h4]
  refine Prod.ext ?_ (Prod.ext ?_ rfl)
  ·show AV.int _ _ = AV.int _ _
   congr 1
  ·show AV.int _ _ = AV.int _ _
   congr 1
   omega
 ·have h2 := hsum i
  rw [List.drop_of_length_le (by simp; omega)] at h2
  rw [show ((lv.reverse.take i).map fun x => x.1.length).sum = xk lv by simpa using h2]
theorem Nv {n q most : Nat} (hn : 1 ≤ n) {lv : List LvM} (H : HS g h (RgC q most lv :: R)) (O : OkL most lv) :
  wp (callT tab qA n (.fn 147 [] []) [.ptr q 0] h) fun v h' => v = .int .i64 (yY lv).1 ∧ HS g h' (RgC q most (yY lv).2 :: R) := by
 (refine qP (g := (tD1 S147)) rfl (by omega) fun k hk => ?_; show wp (S147 (callT tab qA k) _ _).1 _; unfold S147; try simp only [ Int.ofNat_eq_natCast])
 have hd := O.deep
 unfold yY
 by_cases h6 : 6 ≤ lv.length
 ·rw [if_pos h6]
  have hH := H
  obtain ⟨v, ps, e, H⟩ := RgC.E H
  with_reducible (refine qq ?_; refine qJ ?_; refine qG (by assumption) .here rfl ?_; refine qd (by assumption) e_1 ?_; refine jV (by omega) ?_; refine qV ?_)
  exact qW ⟨rfl, hH⟩
 ·rw [if_neg h6]
  obtain ⟨v, ps, e, H⟩ := RgC.E H
  with_reducible (refine qq ?_; refine qJ ?_; refine qG (by assumption) .here rfl ?_; refine qd (by assumption) e_1 ?_; refine jQ (by omega) ?_; refine qQ ?_; refine qq ?_; refine qJ ?_; refine qG (by assumption) .here rfl ?_; refine qF rfl ?_)
  refine qf (n := 1) (l := [.nils, .nils]) (sz := 2) H rfl rfl rfl rfl fun v3 h3 H3 => ?_
  refine je (H3.sel e_2) (H3.sl .here) (by omega) (by omega) rfl fun v4 h4 H4 => ?_
  refine qq ?_; refine qJ ?_
  refine qc H4 (b := q) e_2 (H4.one .here) (by simp) fun h5 H5 => qW ⟨rfl, RgC.I1 (v := v4) (p := (.nils, .nils)) (ps := ps) e ?_⟩
  have H6 := (H5.nils (e := 3) (sz := 1)).nils (e := 67) (sz := 2)
  rw [e]
  exact H6.sub (.cons e_2 (.cons e_2 (.cons .here (.cons .here (.drop .refl)))))
theorem Oj {n q most : Nat} (hn : 1 ≤ n) {lv : List LvM} (H : HS g h (RgC q most lv :: R)) (O : OkL most lv) :
  wp (callT tab qA n (.fn 148 [] []) [.ptr q 0] h) fun v h' => v = .int .i64 (vk lv).1 ∧ HS g h' (RgC q most (vk lv).2 :: R) := by
 (refine qP (g := (tD1 S148)) rfl (by omega) fun k hk => ?_; show wp (S148 (callT tab qA k) _ _).1 _; unfold S148; try simp only [ Int.ofNat_eq_natCast])
 have hd := O.deep
 unfold vk
 by_cases h1 : lv.length = 1
 ·rw [if_pos h1]
  have hH := H
  obtain ⟨v, ps, e, H⟩ := RgC.E H
  with_reducible (refine qq ?_; refine qJ ?_; refine qG (by assumption) .here rfl ?_; refine qd (by assumption) e_1 ?_; refine qy (by omega) ?_; refine qV ?_)
  exact qW ⟨rfl, hH⟩
 ·rw [if_neg h1]
  cases lv with
  | nil => have := O.one; simp at this
  | cons x r =>
  simp at h1 hd
  obtain ⟨v, p, ps, e, H⟩ := RgC.E1 H
  have h1' : r.length ≠ 0 := by intro h; exact h1 (List.eq_nil_of_length_eq_zero h)
  with_reducible (refine qq ?_; refine qJ ?_; refine qG (by assumption) .here rfl ?_; refine qd (by assumption) e_1 ?_; refine qK (by omega) ?_; refine qQ ?_; refine qq ?_; refine qJ ?_; refine qG (by assumption) .here rfl ?_; refine qq ?_; refine qJ ?_; refine qG (by assumption) .here rfl ?_; refine qd (by assumption) e_1 ?_; refine qb (by omega) ?_)
  rw [show ((ps.length + 1 : Nat) : Int) - ((1 : Nat) : Int) = ((ps.length : Nat) : Int) by omega]
  refine yx (H.sel e_1) (by omega) (by omega) fun v' H2 => ?_
  refine qq ?_; refine qJ ?_
  refine qc H2 (b := q) e_1 (H2.one .here) (by simp) fun h3 H3 => qW ⟨rfl, RgC.I (v := v') (ps := ps) e ?_⟩
  rw [← ww ps, List.take_left, e] at H3
  exact H3.sub (.cons .here (.cons .here (.drop (.drop .refl))))
theorem wg (l : List AV) (n f : Nat) (a b : AV) (hl : l.length = n * 2) (hf : f < 2) : (l ++ [a, b])[n * 2 + f]? = [a, b][f]? := by
 rw [List.getElem?_append_right (by omega), hl]
 congr 1; omega
theorem Xn (l : List AV) (n : Nat) (a b c : AV) (hl : l.length = n * 2) : (l ++ [a, b]).set (n * 2 + 0) c = l ++ [c, b] := by
 rw [List.set_append_right _ _ (by omega), hl, show n * 2 + 0 - n * 2 = 0 by omega]; rfl
theorem Vo (l : List AV) (n : Nat) (a b c : AV) (hl : l.length = n * 2) : (l ++ [a, b]).set (n * 2 + 1) c = l ++ [a, c] := by
 rw [List.set_append_right _ _ (by omega), hl, show n * 2 + 1 - n * 2 = 1 by omega]; rfl
theorem Of {n q most : Nat} (hn : 2 ≤ n) {lv : List LvM} {p : Int} (H : HS g h (RgC q most lv :: R)) (O : OkL most lv) :
  wp (callT tab qA n (.fn 210 [] []) [.ptr q 0, .int .i64 p] h) fun v h' => v = .tup [.int .u64 ((ku p lv).getD 0), .bool (ku p lv).isSome] ∧ h' = h := by
 (refine qP (g := (tD2 S210)) rfl (by omega) fun k hk => ?_; show wp (S210 (callT tab qA k) _ _ _).1 _; unfold S210; try simp only [ Int.ofNat_eq_natCast])
 obtain ⟨v, ps, e, H⟩ := RgC.E H
 have hd := O.deep
 with_reducible (refine qq ?_; refine qJ ?_; refine qG (by assumption) .here rfl ?_; refine qd (by assumption) e_1 ?_; refine qb (by omega) ?_)
 refine jz (fun m s h' => ∃ (i : Nat), s = (.int .i64 ((lv.length : Int) - ((1 : Nat) : Int) - (i : Int)), .int .i64 p, .ptr q 0, ()) ∧ i ≤ lv.length ∧ m = lv.length - i ∧ h' = h ∧ ∀ j, j < i → ∀ x, lv[j]? = some x → zR p x.1 = none)
  ?_ (m := lv.length) (by show _ < 1000000000; omega) ⟨0, by simp, by omega, by omega, rfl, fun j hj => by omega⟩
 rintro m ih s h' hih ⟨i, rfl, h1, rfl, rfl, hno⟩
 dsimp only
 refine xW (fun hlt => qV ?_) fun hge => qQ (qj (qW ⟨?_, rfl⟩))
 ·have hi : i < lv.length := by omega
  have ha : ps[i]? = some (ps[i]'(by omega)) := List.getElem?_eq_getElem _
  have hx : lv[i]? = some (lv[i]'(by omega)) := List.getElem?_eq_getElem _
  have hm : lv[i]'(by omega) ∈ lv := List.getElem_mem _
  generalize ps[i]'(by omega) = a at ha
  generalize lv[i]'(by omega) = x at hx hm
  have hxl := O.len hm
  rw [show (lv.length : Int) - ((1 : Nat) : Int) - (i : Int) = ((lv.length - 1 - i : Nat) : Int) by omega]
  have hcell : ∀ f, f < 2 → (jh ps)[(lv.length - 1 - i) * 2 + f]? = [a.1, a.2][f]? := by
   intro f hf
   rw [wI (by omega) hf, show ps.length - 1 - (lv.length - 1 - i) = i by omega, ha]; rfl
  with_reducible (refine qq ?_; refine qJ ?_; refine qG (by assumption) .here rfl ?_)
  refine js (x := a.1) (H.sl e_1) (by omega) (by omega) (hcell 0 (by omega)) ?_
  obtain ⟨T, s⟩ := Qd ha hx
  have H3 := RlC.E (HS.allSel s (H.sel e_2))
  refine qY (kI (by omega) (H3.sl .here) (by omega)) ?_
  rintro _ _ ⟨rfl, rfl⟩
  cases hi2 : g9 p x.1 with
  | none =>
   refine jQ (by show ¬ ((0 : Nat) : Int) ≤ -1; omega) (qQ (qb (by omega) (hih (lv.length - (i + 1)) _ _ (by omega) ⟨i + 1, ?_, by omega, rfl, rfl, fun j hj y hy => ?_⟩)))
   ·refine Prod.ext ?_ rfl
    show AV.int _ _ = AV.int _ _
    congr 1
    omega
   ·by_cases hj' : j < i
    ·exact hno j hj' y hy
    ·obtain rfl : j = i := by omega
     rw [hx] at hy; cases hy; exact gX.1 hi2
  | some t =>
   obtain ⟨h1, ⟨y, h2, h2'⟩, _⟩ := gJ hi2
   refine jV (by show ((0 : Nat) : Int) ≤ (t : Int); omega) (qV ?_)
   refine qq (qJ (qG H .here rfl ?_))
   refine js (x := a.1) (H.sl e_1) (by omega) (by omega) (hcell 0 (by omega)) ?_
   refine js (x := .int .u64 y) (H3.sl .here) (by omega) h1 ?_ (qj (qW ⟨?_, rfl⟩))
   ·rw [zD (sz := 2) jJ (fun _ => rfl) _ _ _ (by omega), h2]; rfl
   ·rw [Yo hno hx h2']; rfl
 ·rw [GL fun j x hj => hno j (by have := (List.getElem?_eq_some_iff.1 hj).1; omega) x hj]; rfl
theorem KF {n q most : Nat} (hn : 3 ≤ n) {lv : List LvM} {p v : Int} (H : HS g h (RgC q most lv :: R)) (O : OkL most lv) :
  wp (callT tab qA n (.fn 144 [] []) [.ptr q 0, .int .i64 p, .int .u64 v] h) fun r h' => r = .int .i64 (xH most lv p v).1 ∧ HS g h' (RgC q most (xH most lv p v).2 :: R) := by
 cases lv with
 | nil => have := O.one; simp at this
 | cons x r =>
 have hxl := O.len (x := x) (List.mem_cons_self ..)
 have hd := O.deep
 have hh := O.held
 simp at hd
 (refine qP (g := (tD3 S144)) rfl (by omega) fun k hk => ?_; show wp (S144 (callT tab qA k) _ _ _ _).1 _; unfold S144; try simp only [ Int.ofNat_eq_natCast])
 unfold xH
 by_cases hp : p < 1 ∨ 256 ≤ p
 ·simp only [if_pos hp]
  repeat' (first | with_reducible refine qV ?_ | with_reducible refine qQ ?_ | (with_reducible refine qR ?_; try dsimp only) | (with_reducible refine qS ?_; try dsimp only) | (with_reducible refine qO ?_; try dsimp only) | (with_reducible refine qB ?_; try dsimp only) | (with_reducible refine jW ?_; try dsimp only) | with_reducible refine qC ?_ | with_reducible refine qv ?_ | (with_reducible refine qX ?_; try dsimp only) | with_reducible refine qj ?_ | with_reducible refine qo ?_ | with_reducible refine jq ?_ | with_reducible refine qD (by omega) ?_ | with_reducible refine qb (by omega) ?_ | with_reducible refine zk (by omega) ?_ | with_reducible refine zy (by omega) ?_ | with_reducible refine zx ?_ | with_reducible refine zg ?_ | with_reducible refine qy (by omega) ?_ | with_reducible refine qK (by omega) ?_ | with_reducible refine jk (by omega) ?_ | with_reducible refine jj (by omega) ?_ | with_reducible refine jC (by omega) ?_ | with_reducible refine jv (by omega) ?_ | with_reducible refine z7 (by omega) ?_ | with_reducible refine z6 (by omega) ?_ | with_reducible refine jl (by omega) ?_ | with_reducible refine ja (by omega) ?_ | with_reducible refine jV (by omega) ?_ | with_reducible refine jQ (by omega) ?_ | with_reducible refine jA (fun hc => ?_) (fun hc => ?_) | with_reducible refine xg (fun hc => ?_) (fun hc => ?_) | with_reducible refine zi (fun hc => ?_) (fun hc => ?_) | with_reducible refine xW (fun hc => ?_) (fun hc => ?_) | with_reducible refine xG (fun hc => ?_) (fun hc => ?_) | with_reducible refine zA (fun hc => ?_) (fun hc => ?_) | with_reducible refine xZ (fun hc => ?_) (fun hc => ?_))
  all_goals exact qW ⟨rfl, H⟩
 simp only [if_neg hp]
 have hH := H
 obtain ⟨sv, pr, ps, e, H⟩ := RgC.E1 H
 have hcl := ww ps
 with_reducible (refine jv (by omega) ?_; refine qX ?_; (try dsimp only); refine qB ?_; (try dsimp only); refine jQ (by omega) ?_; refine qv ?_; refine qQ ?_; refine qq ?_; refine qJ ?_; refine qG (by assumption) .here rfl ?_; refine qd (by assumption) e_1 ?_; refine qb (by omega) ?_; refine qq ?_; refine qJ ?_; refine qG (by assumption) .here rfl ?_)
 rw [show ((ps.length + 1 : Nat) : Int) - ((1 : Nat) : Int) = ((ps.length : Nat) : Int) by omega]
 refine js (x := pr.1) (H.sl e_1) (by omega) (by omega) (wg _ _ 0 _ _ hcl (by omega)) ?_
 refine qY (kI (by omega) (H.sl e_2) (by omega)) ?_
 rintro _ _ ⟨rfl, rfl⟩
 have fin : ∀ (K : AV → AH → Go.Ae.R) (Q : AV → AH → Prop) (h5 : AH), h5 = h5 → HS g h5 (qw q [.int .i64 (most : Int), sv] :: qz 63 2 (ps.length + 1) sv (jh ps ++ [pr.1, pr.2]) ::
  qz 67 2 x.1.length pr.1 (x.1.flatMap jJ) :: qz 3 1 x.2.length pr.2 (x.2.map (.int .i64)) :: .all (List.zipWith RlC ps r) :: R) →
   (∀ v' h6, HS g h6 (qz 67 2 (xF p v x.1).length v' ((xF p v x.1).flatMap jJ) :: qw q [.int .i64 (most : Int), sv] :: qz 63 2 (ps.length + 1) sv (jh ps ++ [pr.1, pr.2]) ::
    qz 67 2 x.1.length pr.1 (x.1.flatMap jJ) :: qz 3 1 x.2.length pr.2 (x.2.map (.int .i64)) :: .all (List.zipWith RlC ps r) :: R) → wp (K v' h6) Q) →
   wp (jf (callT tab qA k) (.fn 98 [] []) [pr.1, .int .i64 p, .int .u64 v] h5 K) Q := by
  intro K Q h5 _ H5 hK
  exact qY (Mh (by omega) H5 (H5.rd e_2) (by omega)) hK
 have put : ∀ h5, HS g h5 (qw q [.int .i64 (most : Int), sv] :: qz 63 2 (ps.length + 1) sv (jh ps ++ [pr.1, pr.2]) ::
  qz 67 2 x.1.length pr.1 (x.1.flatMap jJ) :: qz 3 1 x.2.length pr.2 (x.2.map (.int .i64)) :: .all (List.zipWith RlC ps r) :: R) → True := fun _ _ => trivial
 cases hi : g9 p x.1 with
 | some t =>
  have hg : ¬ (zR p x.1 = none ∧ most ≤ xk (x :: r)) := fun h => by
   obtain ⟨_, ⟨y, _, h2'⟩, _⟩ := gJ hi
   rw [h2'] at h; cases h.1
  refine jv (by show ¬ ((t : Nat) : Int) < ((0 : Nat) : Int); omega) ?_
  with_reducible (refine qX ?_; (try dsimp only); refine qO ?_; (try dsimp only); refine qv ?_; refine qQ ?_; refine qX ?_; (try dsimp only); refine qq ?_; refine qJ ?_; refine qG (by assumption) .here rfl ?_; refine qq ?_; refine qJ ?_; refine qG (by assumption) .here rfl ?_)
  rw [if_neg hg]
  refine js (x := pr.1) (H.sl e_1) (by omega) (by omega) (wg _ _ 0 _ _ hcl (by omega)) ?_
  refine fin _ _ _ rfl H fun v' h6 H6 => ?_
  refine XY (H6.sel e_2) (by omega) (by omega) (H6.one .here) fun h7 H7 => ?_
  with_reducible (refine jc (by assumption) .here rfl (by assumption) e_1 rfl (HS.lt (by assumption) .here) ?_)
  rw [Xn _ _ _ _ _ hcl] at H7
  refine qW ⟨rfl, RgC.I1 (v := sv) (p := (v', pr.2)) (ps := ps) e ?_⟩
  exact H7.sub (.cons e_2 (.cons .here (.cons .here (.cons e_1 (.cons e_1 (.drop (.refl)))))))
 | none =>
  refine jC (by show (-1 : Int) < ((0 : Nat) : Int); omega) ?_
  with_reducible (refine qX ?_; (try dsimp only); refine qR ?_; (try dsimp only))
  refine qY (Ng (by omega) hH O) ?_
  rintro _ _ ⟨rfl, rfl⟩
  refine xg (fun h0 => ?_) fun h0 => ?_
  ·refine qC ?_; refine qV ?_
   rw [if_pos ⟨gX.1 hi, by omega⟩]
   exact qW ⟨rfl, hH⟩
  ·with_reducible (refine qC ?_; refine qQ ?_; refine qX ?_; (try dsimp only); refine qq ?_; refine qJ ?_; refine qG (by assumption) .here rfl ?_; refine qq ?_; refine qJ ?_; refine qG (by assumption) .here rfl ?_)
   rw [if_neg (fun h => h0 (by omega))]
   refine js (x := pr.1) (H.sl e_1) (by omega) (by omega) (wg _ _ 0 _ _ hcl (by omega)) ?_
   refine fin _ _ _ rfl H fun v' h6 H6 => ?_
   refine XY (H6.sel e_2) (by omega) (by omega) (H6.one .here) fun h7 H7 => ?_
   with_reducible (refine jc (by assumption) .here rfl (by assumption) e_1 rfl (HS.lt (by assumption) .here) ?_)
   rw [Xn _ _ _ _ _ hcl] at H7
   refine qW ⟨rfl, RgC.I1 (v := sv) (p := (v', pr.2)) (ps := ps) e ?_⟩
   exact H7.sub (.cons e_2 (.cons .here (.cons .here (.cons e_1 (.cons e_1 (.drop (.refl)))))))
theorem OY {n q most : Nat} (hn : 1 ≤ n) {lv : List LvM} {b : Int} (H : HS g h (RgC q most lv :: R)) (O : OkL most lv) (hf : ∀ x ∈ lv, x.2.length < 1000000) :
  wp (callT tab qA n (.fn 217 [] []) [.ptr q 0, .int .i64 b] h) fun _ h' => HS g h' (RgC q most (k8 lv b) :: R) := by
 cases lv with
 | nil => have := O.one; simp at this
 | cons x r =>
 have hd := O.deep
 have hx := hf x (List.mem_cons_self ..)
 simp at hd
 (refine qP (g := (tD2 S217)) rfl (by omega) fun k hk => ?_; show wp (S217 (callT tab qA k) _ _ _).1 _; unfold S217; try simp only [ Int.ofNat_eq_natCast])
 obtain ⟨sv, pr, ps, e, H⟩ := RgC.E1 H
 have hcl := ww ps
 with_reducible (refine qq ?_; refine qJ ?_; refine qG (by assumption) .here rfl ?_; refine qd (by assumption) e_1 ?_; refine qb (by omega) ?_; refine qX ?_; (try dsimp only); refine qq ?_; refine qJ ?_; refine qG (by assumption) .here rfl ?_; refine qq ?_; refine qJ ?_; refine qG (by assumption) .here rfl ?_)
 rw [show ((ps.length + 1 : Nat) : Int) - ((1 : Nat) : Int) = ((ps.length : Nat) : Int) by omega]
 refine js (x := pr.2) (H.sl e_1) (by omega) (by omega) (wg _ _ 1 _ _ hcl (by omega)) ?_
 refine Jj H (H.sl e_3) (by omega) (by omega) (vH _) fun v1 h1 H1 => ?_
 refine qf (n := 1) (l := [.int .i64 b]) (sz := 1) H1 rfl rfl rfl rfl fun v2 h2 H2 => ?_
 refine je (H2.sel e_1) (H2.sl .here) (by omega) (by omega) rfl fun v3 h3 H3 => ?_
 refine XY (H3.sel e_3) (by omega) (by omega) (H3.one .here) fun h4 H4 => ?_
 rw [Vo _ _ _ _ _ hcl] at H4
 with_reducible (refine jc (by assumption) e_2 rfl (by assumption) e_2 rfl (HS.lt (by assumption) .here) ?_; refine jc (by assumption) .here rfl (by assumption) e_1 rfl (HS.lt (by assumption) .here) ?_)
 refine qW ?_
 refine RgC.I1 (v := sv) (p := (pr.1, v3)) (ps := ps) e ?_
 rw [List.map_append, List.length_append]
 exact H4.sub (.cons e_3 (.cons .here (.cons e_2 (.cons .here (.cons e_2 (.drop (.drop (.refl))))))))
end Go.Proofs.YtdlfmpmpmkffjaaGreatDoor
namespace Go.Proofs.YtdlfmpmpmkffjaaGreatDoor
open Go Go.Ae
set_option maxRecDepth 100000
variable {g h : AH} {L R : List SP}
theorem Yr {n q most : Nat} (hn : 1 ≤ n) {lv : List LvM} (H : HS g h (RgC q most lv :: R)) (O : OkL most lv) (hf : ∀ x ∈ lv, x.2.length < 1000000) :
  wp (callT tab qA n (.fn 67 [] []) [.ptr q 0] h) fun r h' => ∃ o, r = .ptr o 0 ∧ HS g h' (RgC o most lv :: RgC q most lv :: R) := by
 have hd := O.deep
 have ho := O.one
 (refine qP (g := (tD1 S67)) rfl (by omega) fun k hk => ?_; show wp (S67 (callT tab qA k) _ _).1 _; unfold S67; try simp only [ Int.ofNat_eq_natCast])
 obtain ⟨v, ps, e, H⟩ := RgC.E H
 obtain ⟨b, cp, oo, rfl⟩ := HS.slv H e_1 (by omega)
 with_reducible (refine qq ?_; refine qJ ?_; refine qG (by assumption) .here rfl ?_; refine qF rfl ?_)
 refine qU H rfl fun o h1 H1 => ?_
 refine jz (fun m s h' => ∃ (i : Nat) (kv : AV) (qs : List (AV × AV)), s = (.int .i64 (i : Int), .ptr o 0, .ptr q 0, ()) ∧ i ≤ lv.length ∧ m = lv.length - i ∧ qs.length = i ∧
  HS g h' (qw o [.int .i64 (most : Int), kv] :: qz 63 2 i kv (jh qs) :: .all (List.zipWith RlC qs (lv.drop (lv.length - i))) ::
   qw q [.int .i64 (most : Int), .slice b 0 lv.length cp oo] :: qz 63 2 lv.length (.slice b 0 lv.length cp oo) (jh ps) :: .all (List.zipWith RlC ps lv) :: R))
  ?_ (m := lv.length) (by show _ < 1000000000; omega) ⟨0, .nils, [], rfl, by omega, by omega, rfl, ?_⟩
 ·rintro m ih s h' hih ⟨i, kv, qs, rfl, h1, rfl, hq, H⟩
  dsimp only
  with_reducible (refine qq ?_; refine qJ ?_; refine qG (by assumption) e_3 rfl ?_; refine qd (by assumption) e_4 ?_)
  refine jA (fun hlt => qV ?_) fun hge => qQ (qj (qW ⟨o, rfl, ?_⟩))
  ·have hi : i < lv.length := by omega
   have ha : ps[lv.length - 1 - i]? = some (ps[lv.length - 1 - i]'(by omega)) := List.getElem?_eq_getElem _
   have hx : lv[lv.length - 1 - i]? = some (lv[lv.length - 1 - i]'(by omega)) := List.getElem?_eq_getElem _
   have hdrop : lv.drop (lv.length - (i + 1)) = (lv[lv.length - 1 - i]'(by omega)) :: lv.drop (lv.length - i) := by
    rw [show lv.length - (i + 1) = lv.length - 1 - i by omega, List.drop_eq_getElem_cons (by omega), show lv.length - 1 - i + 1 = lv.length - i by omega]
   have hm : lv[lv.length - 1 - i]'(by omega) ∈ lv := List.getElem_mem _
   generalize ps[lv.length - 1 - i]'(by omega) = a at ha
   generalize lv[lv.length - 1 - i]'(by omega) = x at hx hm hdrop
   have hxl := O.len hm
   have hxf := hf x hm
   have hcell : ∀ f, f < 2 → (jh ps)[i * 2 + f]? = [a.1, a.2][f]? := by
    intro f hf
    rw [wI (by omega) hf, e, ha]; rfl
   with_reducible (refine qX ?_; (try dsimp only); refine qq ?_; refine qJ ?_; refine qG (by assumption) .here rfl ?_; refine qq ?_; refine qJ ?_; refine qG (by assumption) e_3 rfl ?_)
   obtain ⟨T, s⟩ := Qd ha hx
   have H3 := RlC.E (HS.allSel s (H.sel e_5))
   have hat : ∀ (h2 : AH) (L2 R2 : List SP), HS g h2 L2 → Sel L2 (qz 63 2 lv.length (.slice b 0 lv.length cp oo) (jh ps)) R2 → b < h2.nx ∧ ∀ f, f < 2 → h2.at b (0 + i * 2 + f) = [a.1, a.2][f]? := by
    intro h2 L2 R2 H2 s2
    obtain ⟨b1, b2⟩ := HS.slat H2 s2
    exact ⟨b1, fun f hf => by rw [Nat.add_assoc, b2 _ (by omega)]; exact hcell f hf⟩
   obtain ⟨b0, b1⟩ := hat _ _ _ H3 e_7
   refine gH (by omega) (gV (vM (x := a.1) (b1 0 (by omega)) ?_))
   refine Jj H3 (H3.sl .here) (by omega) (by omega) (kZ _) fun v4 h4 H4 => ?_
   with_reducible (refine qq ?_; refine qJ ?_; refine qG (by assumption) e_7 rfl ?_)
   obtain ⟨b2, b3⟩ := hat _ _ _ H4 e_8
   refine gH (by omega) (gV (vM (x := a.2) (b3 1 (by omega)) ?_))
   refine Jj H4 (H4.sl e_2) (by omega) (by omega) (vH _) fun v5 h5 H5 => ?_
   have o5 := H5.one .here
   have o4 := H5.one e_1
   refine qF (l := [v4, v5]) (by simp only [yd, o4.1, o5.1]; rfl) ?_
   refine qf (n := 1) (l := [v4, v5]) (sz := 2) H5 rfl rfl rfl (by simp [q9, o4.2, o5.2]) fun v6 h6 H6 => ?_
   refine je (H6.sel e_7) (H6.sl .here) (by omega) (by omega) (by simp [q9, o4.2, o5.2]) fun v7 h7 H7 => ?_
   refine qq ?_; refine qJ ?_
   refine qc H7 (b := o) e_7 (H7.one .here) (by simp) fun h8 H8 => ?_
   simp only [List.set_cons_zero, List.set_cons_succ] at H8
   refine Mg (b1 1 (by omega)) (b3 1 (by omega)) b0 ?_
   with_reducible (refine jc (by assumption) e_6 rfl (by assumption) e_7 rfl (HS.lt (by assumption) e_6) ?_; refine jc (by assumption) e_4 rfl (by assumption) e_5 rfl (HS.lt (by assumption) e_3) ?_; refine jc (by assumption) e_3 rfl (by assumption) e_4 rfl (HS.lt (by assumption) e_3) ?_; refine qD (by omega) ?_)
   refine hih (lv.length - (i + 1)) _ _ (by omega) ⟨i + 1, v7, (v4, v5) :: qs, rfl, by omega, rfl, by simp [hq], ?_⟩
   have H9 := RlC.I (p := (v4, v5)) (x := x) (R := .all (List.zipWith RlC qs (lv.drop (lv.length - i))) :: qz 67 2 x.1.length a.1 (x.1.flatMap jJ) :: qz 3 1 x.2.length a.2 (x.2.map (.int .i64)) :: .all T ::
    qw o [.int .i64 (most : Int), v7] :: qz 63 2 (i + 1) v7 (jh qs ++ [v4, v5]) ::
    qw q [.int .i64 (most : Int), .slice b 0 lv.length cp oo] :: qz 63 2 lv.length (.slice b 0 lv.length cp oo) (jh ps) :: R) (H8.sub (.cons e_4 (.cons e_3 (.cons e_6 (.cons e_3 (.cons e_3 (.cons e_3 (.cons .here (.cons .here (.cons e_1 (.cons e_1 (.drop (.refl)))))))))))))
   have H10 := HS.allUn (A := RlC (v4, v5) x :: List.zipWith RlC qs (lv.drop (lv.length - i))) .here H9
   have H11 := RlC.I (p := a) (x := x) (R := .all T :: .all (RlC (v4, v5) x :: List.zipWith RlC qs (lv.drop (lv.length - i))) ::
    qw o [.int .i64 (most : Int), v7] :: qz 63 2 (i + 1) v7 (jh qs ++ [v4, v5]) ::
    qw q [.int .i64 (most : Int), .slice b 0 lv.length cp oo] :: qz 63 2 lv.length (.slice b 0 lv.length cp oo) (jh ps) :: R) (H10.sub (.cons e_1 (.cons e_1 (.cons e_1 (.refl)))))
   have H12 := HS.allUn s H11
   rw [gS, hdrop]
   exact H12.sub (.cons e_2 (.cons e_2 (.cons e_1 (.cons e_1 (.cons e_1 (.cons .here .refl))))))
  ·obtain rfl : i = lv.length := by omega
   rw [show lv.length - lv.length = 0 by omega, List.drop_zero] at H
   have H2 := RgC.I (q := o) (v := kv) (ps := qs) hq (H.sub (.cons .here (.cons .here (.cons .here .refl))))
   have H3 := RgC.I (q := q) (most := most) (lv := lv) (v := .slice b 0 lv.length cp oo) (ps := ps) (R := RgC o most lv :: R) e (H2.sub (.cons e_1 (.cons e_1 (.cons e_1 (.refl)))))
   exact H3.sub (.cons e_1 (.refl))
 ·have H2 := (HS.allI (A := []) (H1.nils (e := 63) (sz := 2)))
  exact H2.sub (.cons e_2 (.cons e_1 (.cons .here .refl)))
theorem Nj {n q most : Nat} (hn : 4 ≤ n) {lv : List LvM} {cs : List Cl} {c : AV} (H : HS g h (RgC q most lv :: R)) (O : OkL most lv) (hf : ∀ x ∈ lv, x.2.length < 1000000) (S : Rd g R 2 cs.length c (cs.flatMap jJ)) (hc : cs.length < 100000) :
  wp (callT tab qA n (.fn 248 [] []) [.ptr q 0, c] h) fun r h' => r = .int .i64 (xC most lv lv cs).1 ∧ HS g h' (RgC q most (xC most lv lv cs).2 :: R) := by
 (refine qP (g := (tD2 S248)) rfl (by omega) fun k hk => ?_; show wp (S248 (callT tab qA k) _ _ _).1 _; unfold S248; try simp only [ Int.ofNat_eq_natCast])
 refine qY (Yr (by omega) H O hf) ?_
 rintro _ h1 ⟨o, rfl, H1⟩
 refine jz (fun k s h' => ∃ (i : Nat) (lv' : List LvM), s = (.int .i64 (i : Int), .ptr o 0, c, .ptr q 0, ()) ∧ i ≤ cs.length ∧ k = cs.length - i ∧ OkL most lv' ∧
  HS g h' (RgC o most lv' :: RgC q most lv :: R) ∧ xC most lv lv cs = xC most lv lv' (cs.drop i)) ?_ (m := cs.length) (by show _ < 1000000000; omega) ⟨0, lv, rfl, by omega, by omega, O, H1, rfl⟩
 rintro k2 ih s h2 hih ⟨i, lv', rfl, h1, rfl, O', H, hT⟩
 dsimp only
 refine jb (S.sl H.drop.drop) ?_
 refine jA (fun hlt => qV ?_) fun hge => qQ ?_
 ·have hi : i < cs.length := by omega
  have hci : cs[i]? = some cs[i] := List.getElem?_eq_getElem hi
  refine js (x := .int .i64 cs[i].1) (S.sl H.drop.drop) (by omega) hi (by rw [zD (sz := 2) jJ (fun _ => rfl) _ _ _ (by omega), hci]; rfl) ?_
  refine js (x := .int .u64 cs[i].2) (S.sl H.drop.drop) (by omega) hi (by rw [zD (sz := 2) jJ (fun _ => rfl) _ _ _ (by omega), hci]; rfl) ?_
  refine qY (KF (by omega) H O') ?_
  rintro _ h6 ⟨rfl, H6⟩
  rw [List.drop_eq_getElem_cons hi, xl] at hT
  have O2 := (J3 (p := cs[i].1) (v := cs[i].2) O').1
  refine zA (fun hne => qV ?_) fun he => qQ (qD (by omega) ?_)
  ·have hne : ¬ (xH most lv' cs[i].1 cs[i].2).1 = 0 := by simpa using hne
   rw [if_neg hne] at hT
   rw [hT]
   exact qj (qW ⟨rfl, H6.drop⟩)
  ·have he' : (xH most lv' cs[i].1 cs[i].2).1 = 0 := by simpa using he
   rw [if_pos he'] at hT
   exact hih (cs.length - (i + 1)) _ _ (by omega) ⟨i + 1, _, rfl, by omega, rfl, O2, H6, hT⟩
 ·rw [List.drop_of_length_le (by omega)] at hT
  have hT : xC most lv lv cs = (0, lv') := hT
  rw [hT]
  obtain ⟨v1, ps1, e1, H3⟩ := RgC.E H
  obtain ⟨v2, ps2, e2, H4⟩ := RgC.E (H3.sel e_3)
  with_reducible (refine qq ?_; refine qJ ?_; refine qG (by assumption) e_3 rfl ?_; refine qq ?_; refine qJ ?_)
  refine qc H4 (b := q) .here (H4.one e_4) (by simp) fun h8 H8 => ?_
  simp only [List.set_cons_zero, List.set_cons_succ] at H8
  refine qj ?_
  refine qW ⟨rfl, RgC.I (v := v1) (ps := ps1) e1 (H8.sub (.cons .here (.cons e_3 (.cons e_3 ?_))))⟩
  exact .drop (.drop (.drop .refl))
def frS (lv : List LvM) : Nat := (lv.map fun x => x.2.length).sum
theorem yV (x : LvM) (r : List LvM) : frS (x :: r) = x.2.length + frS r := by simp [frS]
theorem Gq (l : List AV) (n : Nat) (a b : AV) (tl : List AV) (hl : l.length = n * 2) : ((l ++ [a, b] ++ tl).drop (n * 2)).take 2 = [a, b] := by
 rw [List.append_assoc, ← hl, List.drop_left]; rfl
theorem Y8 (l : List AV) (n : Nat) (a b c d : AV) (hl : l.length = n * 2) : vX (l ++ [a, b]) (n * 2) [c, d] = l ++ [c, d] := by
 unfold vX
 rw [← hl, List.take_left, List.drop_of_length_le (by simp)]; simp
theorem Gw {n q most : Nat} (hn : 3 ≤ n) {lv : List LvM} (H : HS g h (RgC q most lv :: R)) (O : OkL most lv) (hf : frS lv < 1000000) :
  wp (callT tab qA n (.fn 68 [] []) [.ptr q 0] h) fun v h' => v = .int .i64 (vU lv).1 ∧ HS g h' (RgC q most (vU lv).2 :: R) := by
 have hd := O.deep
 rcases lv with _ | ⟨x, _ | ⟨y, r⟩⟩
 ·have := O.one; simp at this
 ·(refine qP (g := (tD1 S68)) rfl (by omega) fun k hk => ?_; show wp (S68 (callT tab qA k) _ _).1 _; unfold S68; try simp only [ Int.ofNat_eq_natCast])
  have hH := H
  obtain ⟨v, ps, e, H⟩ := RgC.E H
  with_reducible (refine qq ?_; refine qJ ?_; refine qG (by assumption) .here rfl ?_; refine qd (by assumption) e_1 ?_)
  exact qW ⟨rfl, hH⟩
 ·rw [yV, yV] at hf
  have hxi := O.ins x (by simp)
  have hxl := O.len (x := x) (by simp)
  have hyl := O.len (x := y) (by simp)
  simp at hd
  (refine qP (g := (tD1 S68)) rfl (by omega) fun k hk => ?_; show wp (S68 (callT tab qA k) _ _).1 _; unfold S68; try simp only [ Int.ofNat_eq_natCast])
  obtain ⟨v, p, ps, e, H⟩ := RgC.E1 H
  cases ps with
  | nil => simp at e
  | cons p2 ps =>
  have e : ps.length = r.length := by simpa using e
  have H := RlC.E (HS.allSel .here (H.sel e_4))
  rw [gS] at H
  have hcl := ww ps
  have hcl2 : (jh ps ++ [p2.1, p2.2]).length = (ps.length + 1) * 2 := by simp [hcl, Nat.add_mul]
  simp only [List.length_cons] at H
  have o1 := H.one .here
  have o2 := H.one e_1
  have o3 := H.one e_5
  have o4 := H.one e_6
  with_reducible (refine qq ?_; refine qJ ?_; refine qG (by assumption) e_3 rfl ?_; refine qd (by assumption) e_4 ?_; refine qK (by omega) ?_; refine qQ ?_; refine qq ?_; refine qJ ?_; refine qG (by assumption) e_3 rfl ?_; refine qb (by omega) ?_)
  rw [show ((ps.length + 1 + 1 : Nat) : Int) - ((1 : Nat) : Int) = ((ps.length + 1 : Nat) : Int) by omega]
  refine zJ (l := [p.1, p.2]) (H.sl e_4) (by omega) (by omega) (by have := Gq _ _ p.1 p.2 [] hcl2; rw [List.append_nil] at this; exact this) ?_
  refine qU H rfl fun b1 h1 H => jG H .here rfl (by show 0 + 2 ≤ 2; omega) (by simp [q9, AV.cells, o3.2, o4.2]) fun h2 H => ?_
  have H : HS g h2 (qw b1 [p.1, p.2] :: qz 67 2 y.1.length p2.1 (y.1.flatMap jJ) :: qz 3 1 y.2.length p2.2 (y.2.map (.int .i64)) :: .all (List.zipWith RlC ps r) ::
   qw q [.int .i64 (most : Int), v] :: qz 63 2 (ps.length + 1 + 1) v (jh ps ++ [p2.1, p2.2] ++ [p.1, p.2]) ::
   qz 67 2 x.1.length p.1 (x.1.flatMap jJ) :: qz 3 1 x.2.length p.2 (x.2.map (.int .i64)) :: R) := H
  with_reducible (refine qq ?_; refine qJ ?_; refine qG (by assumption) e_4 rfl ?_; refine qb (by omega) ?_)
  rw [show ((ps.length + 1 + 1 : Nat) : Int) - ((2 : Nat) : Int) = ((ps.length : Nat) : Int) by omega]
  refine zJ (l := [p2.1, p2.2]) (H.sl e_5) (by omega) (by omega) (Gq _ _ p2.1 p2.2 [p.1, p.2] hcl) ?_
  refine qU H rfl fun b2 h3 H => jG H .here rfl (by show 0 + 2 ≤ 2; omega) (by simp [q9, AV.cells, o1.2, o2.2]) fun h4 H => ?_
  have H : HS g h4 (qz 67 2 y.1.length p2.1 (y.1.flatMap jJ) :: qw b2 [p2.1, p2.2] :: qw b1 [p.1, p.2] :: qz 3 1 y.2.length p2.2 (y.2.map (.int .i64)) :: .all (List.zipWith RlC ps r) ::
   qw q [.int .i64 (most : Int), v] :: qz 63 2 (ps.length + 1 + 1) v (jh ps ++ [p2.1, p2.2] ++ [p.1, p.2]) ::
   qz 67 2 x.1.length p.1 (x.1.flatMap jJ) :: qz 3 1 x.2.length p.2 (x.2.map (.int .i64)) :: R) := HS.sub (L := qw b2 [p2.1, p2.2] :: qw b1 [p.1, p.2] :: qz 67 2 y.1.length p2.1 (y.1.flatMap jJ) :: _) H (.cons e_2 (.cons .here (.cons .here .refl)))
  refine jz (fun m s h' => ∃ (i : Nat) (cv : AV), s = (.int .i64 (i : Int), .ptr b2 0, .ptr b1 0, .int .i64 ((ps.length + 1 + 1 : Nat) : Int), .ptr q 0, ()) ∧ i ≤ x.1.length ∧ m = x.1.length - i ∧
   HS g h' (qz 67 2 (xx y.1 (x.1.take i)).length cv ((xx y.1 (x.1.take i)).flatMap jJ) :: qw b2 [cv, p2.2] :: qw b1 [p.1, p.2] :: qz 3 1 y.2.length p2.2 (y.2.map (.int .i64)) :: .all (List.zipWith RlC ps r) ::
   qw q [.int .i64 (most : Int), v] :: qz 63 2 (ps.length + 1 + 1) v (jh ps ++ [p2.1, p2.2] ++ [p.1, p.2]) ::
   qz 67 2 x.1.length p.1 (x.1.flatMap jJ) :: qz 3 1 x.2.length p.2 (x.2.map (.int .i64)) :: R))
   ?_ (m := x.1.length) (by show _ < 1000000000; omega) ⟨0, p2.1, rfl, by omega, by omega, H⟩
  clear H
  rintro m ih s h5 hih ⟨i, cv, rfl, h1, rfl, H⟩
  dsimp only
  with_reducible (refine qJ ?_; refine qG (by assumption) e_2 rfl ?_; refine qd (by assumption) e_7 ?_)
  have hpl := Q5 (cs := x.1.take i) (l := y.1)
  rw [List.length_take] at hpl
  refine jA (fun hlt => qV ?_) fun hge => qQ ?_
  ·have hi : i < x.1.length := by omega
   have hci : x.1[i]? = some x.1[i] := List.getElem?_eq_getElem hi
   with_reducible (refine qJ ?_; refine qG (by assumption) e_1 rfl ?_; refine qJ ?_; refine qG (by assumption) e_2 rfl ?_)
   refine js (x := .int .i64 x.1[i].1) (H.sl e_7) (by omega) hi (by rw [zD (sz := 2) jJ (fun _ => rfl) _ _ _ (by omega), hci]; rfl) ?_
   with_reducible (refine qJ ?_; refine qG (by assumption) e_2 rfl ?_)
   refine js (x := .int .u64 x.1[i].2) (H.sl e_7) (by omega) hi (by rw [zD (sz := 2) jJ (fun _ => rfl) _ _ _ (by omega), hci]; rfl) ?_
   refine qY (Mh (by omega) H (H.rd .here) (by omega)) fun v6 h6 H6 => ?_
   refine qJ ?_
   refine qc H6 (b := b2) e_2 (H6.one .here) (by simp) fun h7 H7 => ?_
   simp only [List.set_cons_zero, List.set_cons_succ] at H7
   refine qD (by omega) (hih (x.1.length - (i + 1)) _ _ (by omega) ⟨i + 1, v6, rfl, by omega, rfl, ?_⟩)
   have hp : xx y.1 (x.1.take (i + 1)) = xF x.1[i].1 x.1[i].2 (xx y.1 (x.1.take i)) := by
    rw [List.take_succ_eq_append_getElem hi]
    unfold xx
    rw [List.foldl_append]; rfl
   rw [hp]
   exact H7.sub (.cons e_1 (.cons .here (.cons e_1 (.cons e_1 (.cons e_1 (.cons e_1 (.cons e_1 (.cons e_1 (.cons e_1 (.drop (.refl)))))))))))
  ·obtain rfl : i = x.1.length := by omega
   rw [List.take_length] at H
   with_reducible (refine qX ?_; (try dsimp only); refine qJ ?_; refine qG (by assumption) e_1 rfl ?_)
   refine Jj H (H.sl e_3) (by omega) (by omega) (vH _) fun v7 h7 H7 => ?_
   with_reducible (refine qJ ?_; refine qG (by assumption) e_3 rfl ?_)
   refine je H7 (H7.sl e_9) (by omega) (by omega) (vH _) fun v8 h8 H8 => ?_
   have o8 := H8.one .here
   have o9 := H8.one e_1
   refine qJ ?_
   refine qc H8 (b := b2) e_2 o8 (by simp) fun h9 H9 => ?_
   simp only [List.set_cons_zero, List.set_cons_succ] at H9
   with_reducible (refine jc (by assumption) e_2 rfl (by assumption) e_3 rfl (HS.lt (by assumption) e_2) ?_; refine qq ?_; refine qJ ?_; refine qG (by assumption) e_6 rfl ?_; refine qb (by omega) ?_)
   rw [show ((ps.length + 1 + 1 : Nat) : Int) - ((1 : Nat) : Int) = ((ps.length + 1 : Nat) : Int) by omega]
   refine yx (H9.sel e_7) (by omega) (by omega) fun v10 H10 => ?_
   rw [← hcl2, List.take_left] at H10
   refine qq ?_; refine qJ ?_
   refine qc H10 (b := q) e_7 (H10.one .here) (by simp) fun h11 H11 => ?_
   simp only [List.set_cons_zero, List.set_cons_succ] at H11
   with_reducible (refine qq ?_; refine qJ ?_; refine qG (by assumption) .here rfl ?_; refine qb (by omega) ?_)
   rw [show ((ps.length + 1 + 1 : Nat) : Int) - ((2 : Nat) : Int) = ((ps.length : Nat) : Int) by omega]
   refine qh H11 (b := b2) (l := [cv, v8]) e_2 rfl (by omega) rfl ?_
   refine VC (H11.sel e_1) (by omega) rfl (by simp [q9, o8.2, o9.2]) fun h12 H12 => ?_
   rw [Y8 _ _ _ _ _ _ hcl] at H12
   refine qj ?_
   refine qW ⟨rfl, RgC.I1 (v := v10) (p := (cv, v8)) (ps := ps) e ?_⟩
   rw [List.map_append, List.length_append]
   exact H12.sub (.cons e_1 (.cons .here (.cons e_2 (.cons e_1 (.cons e_3 (.drop (.drop (.drop (.drop (.drop (.refl)))))))))))
theorem mergeL_keep {x y : LvM} {r : List LvM} : jY (vU (x :: y :: r)).2 = jY (x :: y :: r) := by
 unfold jY vU
 simp only [List.foldl_cons]
 rfl
theorem frS_keep {x y : LvM} {r : List LvM} : frS (vU (x :: y :: r)).2 = frS (x :: y :: r) := by
 unfold frS vU
 simp
 omega
theorem XE (lv : List LvM) : (zE lv).length = frS lv := by
 unfold zE frS
 rw [List.length_flatMap, List.map_reverse, rsum]
theorem Vv {n q most : Nat} (hn : 4 ≤ n) {lv : List LvM} (H : HS g h (RgC q most lv :: R)) (O : OkL most lv) (hf : frS lv < 1000000) :
  wp (callT tab qA n (.fn 29 [] []) [.ptr q 0] h) fun v h' => ∃ cv fv, v = .agg [cv, fv] ∧
   HS g h' (qz 67 2 (jY lv).length cv ((jY lv).flatMap jJ) :: qz 3 1 (zE lv).length fv ((zE lv).map (.int .i64)) :: RgC q most lv :: R) := by
 have hfx : ∀ (l : List LvM), ∀ x ∈ l, x.2.length ≤ frS l := by
  intro l
  induction l with
  | nil => intro x hx; cases hx
  | cons y r ih =>
   intro x hx
   rw [yV]
   rcases List.mem_cons.1 hx with rfl | hx
   ·omega
   ·have := ih x hx; omega
 have hd := O.deep
 (refine qP (g := (tD1 S29)) rfl (by omega) fun k hk => ?_; show wp (S29 (callT tab qA k) _ _).1 _; unfold S29; try simp only [ Int.ofNat_eq_natCast])
 refine qU H rfl fun b0 h1 H => ?_
 refine qY (Yr (by omega) (H.sel e_1) O fun x hx => by have := hfx lv x hx; omega) ?_
 rintro _ h2 ⟨o, rfl, H⟩
 refine jz (fun m s h' => ∃ (lv' : List LvM), s = (.ptr o 0, .ptr b0 0, .ptr q 0, ()) ∧ m = lv'.length ∧ OkL most lv' ∧ jY lv' = jY lv ∧ frS lv' = frS lv ∧ HS g h' (RgC o most lv' :: RgC q most lv :: qw b0 [.nils, .nils] :: R))
  ?_ (m := lv.length) (by show _ < 1000000000; omega) ⟨lv, rfl, rfl, O, rfl, rfl, H⟩
 clear H
 rintro m ih s h3 hih ⟨lv', rfl, rfl, O', hm, hs, H⟩
 dsimp only
 have hH := H
 have hd' := O'.deep
 obtain ⟨v, ps, e, H⟩ := RgC.E H
 with_reducible (refine qq ?_; refine qJ ?_; refine qG (by assumption) .here rfl ?_; refine qd (by assumption) e_1 ?_)
 refine zi (fun hgt => qV ?_) fun hle => qQ ?_
 ·rcases lv' with _ | ⟨x, _ | ⟨y, r⟩⟩
  ·simp at hgt
  ·simp at hgt
  refine qY (Gw (by omega) hH O' (by omega)) ?_
  rintro _ h4 ⟨rfl, H4⟩
  exact hih _ _ _ (by simp [vU]) ⟨_, rfl, rfl, Uz O', mergeL_keep.trans hm, frS_keep.trans hs, H4⟩
 ·rcases lv' with _ | ⟨x, _ | ⟨y, r⟩⟩
  ·have := O'.one; simp at this
  ·have hmx : x.1 = jY lv := hm
   clear hih
   obtain ⟨v, p, ps, e, H⟩ := RgC.E1 hH
   have e : ps = [] := List.eq_nil_of_length_eq_zero (by simpa using e)
   subst e
   have oC := H.one e_2
   with_reducible (refine qq ?_; refine qJ ?_; refine qG (by assumption) .here rfl ?_)
   refine js (i := 0) (x := p.1) (H.sl e_1) (by omega) (by simp) rfl ?_
   refine qF (l := [p.1, .nils]) (by simp only [yd, oC.1]; rfl) ?_
   refine qU H rfl fun b1 h4 H => jG H .here rfl (by show 0 + 2 ≤ 2; omega) (by show (p.1.one && (true && true)) = true; rw [oC.2]; rfl) fun h5 H => ?_
   rw [hmx] at H
   have H : HS g h5 (qw b1 [p.1, .nils] :: qz 67 2 (jY lv).length p.1 ((jY lv).flatMap jJ) :: RgC q most lv :: qw b0 [.nils, .nils] :: R) := H.sub (.cons .here (.cons e_2 (.drop (.drop (.drop (.drop .refl))))))
   obtain ⟨v2, ps2, e2, H⟩ := RgC.E (H.sel e_2)
   refine jz (fun m s h' => ∃ (i : Nat) (acc : AV), s = (.int .i64 (i : Int), .ptr b1 0, .ptr b0 0, .ptr q 0, ()) ∧ i ≤ lv.length ∧ m = lv.length - i ∧
    HS g h' (qz 3 1 ((lv.reverse.take i).flatMap (·.2)).length acc (((lv.reverse.take i).flatMap (·.2)).map (.int .i64)) :: qw b1 [p.1, acc] :: qw q [.int .i64 (most : Int), v2] :: qz 63 2 lv.length v2 (jh ps2) ::
     .all (List.zipWith RlC ps2 lv) :: qz 67 2 (jY lv).length p.1 ((jY lv).flatMap jJ) :: qw b0 [.nils, .nils] :: R))
    ?_ (m := lv.length) (by show _ < 1000000000; omega) ⟨0, .nils, rfl, by omega, by omega, ?_⟩
   ·clear H
    rintro m ih s h' hih ⟨i, acc, rfl, h1, rfl, H⟩
    dsimp only
    with_reducible (refine qq ?_; refine qJ ?_; refine qG (by assumption) e_2 rfl ?_; refine qd (by assumption) e_3 ?_)
    refine jA (fun hlt => qV ?_) fun hge => qQ ?_
    ·have hi : i < lv.length := by omega
     have ha : ps2[ps2.length - 1 - i]? = some (ps2[ps2.length - 1 - i]'(by omega)) := List.getElem?_eq_getElem _
     have hx : lv[ps2.length - 1 - i]? = some (lv[ps2.length - 1 - i]'(by omega)) := List.getElem?_eq_getElem _
     generalize ps2[ps2.length - 1 - i]'(by omega) = a at ha
     have hx2 : lv.reverse[i]? = some (lv[ps2.length - 1 - i]'(by omega)) := by rw [List.getElem?_reverse hi, ← hx, e2]
     generalize lv[ps2.length - 1 - i]'(by omega) = z at hx hx2
     with_reducible (refine qJ ?_; refine qG (by assumption) e_1 rfl ?_; refine qq ?_; refine qJ ?_; refine qG (by assumption) e_2 rfl ?_)
     refine js (x := a.2) (H.sl e_3) (by omega) (by omega) (by rw [wI (by omega) (by omega), ha]; rfl) ?_
     obtain ⟨T, s⟩ := Qd ha hx
     have H3 := RlC.E (HS.allSel s (H.sel e_4))
     have hlen : ((lv.reverse.take i).flatMap (·.2)).length + z.2.length ≤ (zE lv).length := by
      have e1 : lv.reverse.flatMap (·.2) = (lv.reverse.take (i + 1)).flatMap (·.2) ++ (lv.reverse.drop (i + 1)).flatMap (·.2) := by rw [← List.flatMap_append, List.take_append_drop]
      unfold zE
      rw [e1, List.take_add_one, hx2]
      simp
     rw [XE] at hlen
     refine je (H3.sel e_3) (H3.sl e_1) (by omega) (by omega) (vH _) fun v4 h4 H4 => ?_
     refine qJ ?_
     refine qc H4 (b := b1) e_4 (H4.one .here) (by simp) fun h5 H5 => ?_
     simp only [List.set_cons_zero, List.set_cons_succ] at H5
     refine qD (by omega) (hih (lv.length - (i + 1)) _ _ (by omega) ⟨i + 1, v4, rfl, by omega, rfl, ?_⟩)
     rw [List.take_add_one, hx2, Option.toList_some, List.flatMap_append, List.map_append, List.length_append, List.flatMap_cons, List.flatMap_nil, List.append_nil]
     have H6 := HS.allUn s (RlC.I (p := a) (x := z) (H5.sub (.cons e_2 (.cons e_2 (.cons e_2 .refl)))))
     exact H6.sub (.cons e_2 (.cons e_1 (.cons e_1 (.cons e_1 (.refl)))))
    ·obtain rfl : i = lv.length := by omega
     rw [List.take_of_length_le (by simp)] at H
     have oF := H.one .here
     refine qh H (b := b1) (l := [p.1, acc]) e_1 rfl (by omega) rfl ?_
     refine jG H (b := b0) e_6 rfl (by show 0 + 2 ≤ 2; omega) (by simp [q9, AV.cells, oC.2, oF.2]) fun h6 H6 => ?_
     have H7 : HS g h6 (qw b0 [p.1, acc] :: qz 3 1 (lv.reverse.flatMap (·.2)).length acc ((lv.reverse.flatMap (·.2)).map (.int .i64)) :: qw b1 [p.1, acc] :: qw q [.int .i64 (most : Int), v2] :: qz 63 2 lv.length v2 (jh ps2) ::
      .all (List.zipWith RlC ps2 lv) :: qz 67 2 (jY lv).length p.1 ((jY lv).flatMap jJ) :: R) := H6
     refine qj (qh H7 (b := b0) (l := [p.1, acc]) .here rfl (by omega) rfl (qW ⟨p.1, acc, rfl, ?_⟩))
     have H8 := RgC.I (q := q) (most := most) (v := v2) (ps := ps2) e2 (R := qz 3 1 (zE lv).length acc ((zE lv).map (.int .i64)) :: qz 67 2 (jY lv).length p.1 ((jY lv).flatMap jJ) :: R)
      (H7.sub (.cons e_3 (.cons e_3 (.cons e_3 (.cons e_1 (.cons e_2 (.drop (.drop .refl))))))))
     exact H8.sub (.cons e_2 (.cons e_1 (.refl)))
   ·have H2 := H.nils (e := 3) (sz := 1)
    exact H2.sub (.cons .here (.cons e_3 (.cons .here (.cons .here (.cons .here .refl)))))
  ·simp at hle
   omega
def RvC (o : Nat) (M : VM) : SP := .ex fun kv => .ex fun q => .all [qw o [.int .i64 (M.sz : Int), kv, .ptr q 0, .int .i64 M.need], qz 67 2 M.K.length kv (M.K.flatMap jJ), RgC q M.most M.lv]
theorem RvC.E {o : Nat} {M : VM} (H : HS g h (RvC o M :: R)) : ∃ kv q, HS g h (qw o [.int .i64 (M.sz : Int), kv, .ptr q 0, .int .i64 M.need] :: qz 67 2 M.K.length kv (M.K.flatMap jJ) :: RgC q M.most M.lv :: R) := by
 obtain ⟨kv, H⟩ := H.exE
 obtain ⟨q, H⟩ := H.exE
 exact ⟨kv, q, H.allE⟩
theorem RvC.I {o : Nat} {M : VM} {kv : AV} {q : Nat} (H : HS g h (qw o [.int .i64 (M.sz : Int), kv, .ptr q 0, .int .i64 M.need] :: qz 67 2 M.K.length kv (M.K.flatMap jJ) :: RgC q M.most M.lv :: R)) : HS g h (RvC o M :: R) :=
 HS.exI kv (HS.exI q (HS.allI H))
theorem Z6 {n : Nat} (hn : 3 ≤ n) {w m : Int} (H : HS g h R) : wp (callT tab qA n (.fn 24 [] []) [.int .i64 w, .int .i64 m] h) fun r h' => ∃ o, r = .ptr o 0 ∧ HS g h' (RvC o (newV w m) :: R) := by
 (refine qP (g := (tD2 S24)) rfl (by omega) fun k hk => ?_; show wp (S24 (callT tab qA k) _ _ _).1 _; unfold S24; try simp only [ Int.ofNat_eq_natCast])
 refine qY (KL (by omega) (by omega)) ?_
 rintro _ _ ⟨rfl, rfl⟩
 refine qY (qQF (by omega) H) ?_
 rintro _ h2 ⟨q, rfl, H2⟩
 refine qF rfl (qU H2 rfl fun o h4 H4 => qW ⟨o, rfl, ?_⟩)
 rw [show max ((32 : Nat) : Int) (min w ((256 : Nat) : Int)) = ((szZ w : Nat) : Int) by unfold szZ; omega] at H4
 have H5 := H4.nils (e := 67) (sz := 2)
 exact RvC.I (M := newV w m) (kv := .nils) (q := q) (H5.sub (.cons e_1 (.cons .here (.cons .here .refl))))
theorem J5 {n : Nat} (hn : 1 ≤ n) {o : Nat} {M : VM} {p : Int} (H : HS g h (RvC o M :: R)) : wp (callT tab qA n (.fn 65 [] []) [.ptr o 0, .int .i64 p] h) fun r h' => r = .bool (decide (1 ≤ p ∧ p < M.sz)) ∧ h' = h := by
 (refine qP (g := (tD2 S65)) rfl (by omega) fun k hk => ?_; show wp (S65 (callT tab qA k) _ _ _).1 _; unfold S65; try simp only [ Int.ofNat_eq_natCast])
 obtain ⟨kv, q, H⟩ := RvC.E H
 by_cases h1 : 1 ≤ p
 ·with_reducible (refine jV (by omega) ?_; refine qX ?_; (try dsimp only); refine qR ?_; (try dsimp only); refine qq ?_; refine qJ ?_; refine qG (by assumption) .here rfl ?_)
  refine gn ?_
  refine qC ?_
  refine qW ⟨?_, rfl⟩
  congr 1
  exact decide_eq_decide.2 ⟨fun h2 => ⟨h1, h2⟩, fun h2 => h2.2⟩
 ·with_reducible (refine jQ (by omega) ?_; refine qX ?_; (try dsimp only); refine qO ?_; (try dsimp only); refine qv ?_)
  exact qW ⟨by rw [decide_eq_false (fun h2 => h1 h2.1)], rfl⟩
theorem gG {n : Nat} (hn : 3 ≤ n) {o : Nat} {M : VM} {p : Int} (H : HS g h (RvC o M :: R)) (O : OkV M) :
  wp (callT tab qA n (.fn 143 [] []) [.ptr o 0, .int .i64 p] h) fun r h' => r = .tup [.int .u64 (qT M p).1.1, .int .i64 (qT M p).1.2] ∧ HS g h' (RvC o (qT M p).2 :: R) := by
 (refine qP (g := (tD2 S143)) rfl (by omega) fun k hk => ?_; show wp (S143 (callT tab qA k) _ _ _).1 _; unfold S143; try simp only [ Int.ofNat_eq_natCast])
 refine qY (J5 (by omega) H) ?_
 rintro _ _ ⟨rfl, rfl⟩
 have hO := O.hi
 have hkl := O.klen
 unfold qT
 by_cases hp : 1 ≤ p ∧ p < M.sz
 ·rw [if_pos hp]
  rw [decide_eq_true hp]
  have hH := H
  obtain ⟨kv, q, H⟩ := RvC.E H
  with_reducible (refine qo ?_; refine qQ ?_; refine qq ?_; refine qJ ?_; refine qG (by assumption) .here rfl ?_)
  refine qY (Of (by omega) (H.sel e_2) O.lvs) ?_
  rintro _ _ ⟨rfl, rfl⟩
  with_reducible (refine qx rfl ?_; refine qx rfl ?_)
  cases hl : ku p M.lv with
  | some y =>
   simp only [Option.isSome_some, Option.getD_some]
   refine qV ?_
   exact qW ⟨rfl, hH⟩
  | none =>
   simp only [Option.isSome_none]
   with_reducible (refine qQ ?_; refine qq ?_; refine qJ ?_; refine qG (by assumption) .here rfl ?_)
   refine qY (kI (by omega) (H.sl e_1) (by omega)) ?_
   rintro _ _ ⟨rfl, rfl⟩
   cases hi : g9 p M.K with
   | none =>
    refine jQ (by show ¬ ((0 : Nat) : Int) ≤ -1; omega) ?_
    rw [gX.1 hi]
    refine qQ ?_; refine qq ?_; refine qJ ?_
    refine qc H (b := o) .here ⟨rfl, rfl⟩ (by simp) fun h9 H9 => qW ⟨rfl, RvC.I (M := { M with need := p }) (kv := kv) (q := q) (H9.sub (.cons .here (.refl)))⟩
   | some i =>
    obtain ⟨h1, ⟨y, h2, h2'⟩, h5⟩ := gJ hi
    refine jV (by show ((0 : Nat) : Int) ≤ (i : Int); omega) ?_
    rw [h2']
    with_reducible (refine qV ?_; refine qq ?_; refine qJ ?_; refine qG (by assumption) .here rfl ?_)
    refine js (x := .int .u64 y) (H.sl e_1) (by omega) h1 (by rw [zD (sz := 2) jJ (fun _ => rfl) _ _ _ (by omega), h2]; rfl) ?_
    exact qW ⟨rfl, hH⟩
 ·rw [if_neg hp, decide_eq_false hp]
  refine jq ?_; refine qV ?_
  exact qW ⟨rfl, H⟩
theorem JU {n : Nat} (hn : 5 ≤ n) {o : Nat} {M : VM} {cs : List Cl} {c : AV} (H : HS g h (RvC o M :: R)) (O : OkV M) (S : Rd g R 2 cs.length c (cs.flatMap jJ)) (hc : cs.length < 100000) :
  wp (callT tab qA n (.fn 214 [] []) [.ptr o 0, c] h) fun r h' => r = .int .i64 (jU M cs).1 ∧ HS g h' (RvC o (jU M cs).2 :: R) := by
 (refine qP (g := (tD2 S214)) rfl (by omega) fun k hk => ?_; show wp (S214 (callT tab qA k) _ _ _).1 _; unfold S214; try simp only [ Int.ofNat_eq_natCast])
 refine jz (fun k s h' => ∃ i : Nat, s = (.int .i64 (i : Int), c, .ptr o 0, ()) ∧ i ≤ cs.length ∧ k = cs.length - i ∧ h' = h ∧ ∀ j, j < i → ∀ d, cs[j]? = some d → 1 ≤ d.1 ∧ d.1 < M.sz)
  ?_ (m := cs.length) (by show _ < 1000000000; omega) ⟨0, rfl, by omega, by omega, rfl, fun j hj => by omega⟩
 rintro k2 ih s h2 hih ⟨i, rfl, h1, rfl, rfl, hno⟩
 dsimp only
 refine jb (S.sl H.drop) ?_
 refine jA (fun hlt => qV ?_) fun hge => qQ ?_
 ·have hi : i < cs.length := by omega
  have hci : cs[i]? = some cs[i] := List.getElem?_eq_getElem hi
  refine js (x := .int .i64 cs[i].1) (S.sl H.drop) (by omega) hi (by rw [zD (sz := 2) jJ (fun _ => rfl) _ _ _ (by omega), hci]; rfl) ?_
  refine qY (J5 (by omega) H) ?_
  rintro _ _ ⟨rfl, rfl⟩
  by_cases hin : 1 ≤ cs[i].1 ∧ cs[i].1 < M.sz
  ·rw [decide_eq_true hin]
   with_reducible (refine qo ?_; refine qQ ?_; refine qD (by omega) ?_)
   refine hih (cs.length - (i + 1)) _ _ (by omega) ⟨i + 1, rfl, by omega, rfl, rfl, fun j hj d hd => ?_⟩
   by_cases hj' : j < i
   ·exact hno j hj' d hd
   ·obtain rfl : j = i := by omega
    rw [hci] at hd; cases hd; exact hin
  ·rw [decide_eq_false hin]
   refine jq ?_; refine qV ?_; refine qj ?_
   unfold jU
   rw [if_neg (fun h => hin (h _ (List.getElem_mem hi)))]
   exact qW ⟨rfl, H⟩
 ·have hall : ∀ d ∈ cs, 1 ≤ d.1 ∧ d.1 < M.sz := by
   intro d hd
   obtain ⟨j, hj⟩ := List.getElem?_of_mem hd
   exact hno j (by have := (List.getElem?_eq_some_iff.1 hj).1; omega) d hj
  obtain ⟨kv, q, H⟩ := RvC.E H
  with_reducible (refine qq ?_; refine qJ ?_; refine qG (by assumption) .here rfl ?_)
  refine qY (Nj (by omega) (H.sel e_2) O.lvs (fun x hx => Nat.lt_trans (O.fr x hx) (by omega)) (S.more.more) hc) ?_
  rintro _ h4 ⟨rfl, H4⟩
  unfold jU
  rw [if_pos hall]
  exact qj (qW ⟨rfl, RvC.I (M := { M with lv := (xC M.most M.lv M.lv cs).2 }) (kv := kv) (q := q) (H4.sub (.cons e_1 (.cons e_1 (.refl))))⟩)
theorem Yx {n : Nat} (hn : 4 ≤ n) {zs : List Int} {a0 : AV} {m : Int} (H : HS g h R) (S : Rd g R 1 zs.length a0 (zs.map (.int .u64))) :
  wp (callT tab qA n (.fn 79 [] []) [a0, .int .i64 m] h) fun r h' => ∃ o, r = .ptr o 0 ∧ HS g h' (RvC o (zz zs m) :: R) := by
 (refine qP (g := (tD2 S79)) rfl (by omega) fun k hk => ?_; show wp (S79 (callT tab qA k) _ _ _).1 _; unfold S79; try simp only [ Int.ofNat_eq_natCast])
 have hb := Yh (zs.length : Int)
 refine jb (S.sl H) ?_
 refine qY (Z6 (by omega) H) ?_
 rintro _ h1 ⟨o, rfl, H1⟩
 refine jz (fun k s h' => ∃ i : Nat, s = (.int .i64 ((i + 1 : Nat) : Int), .ptr o 0, a0, ()) ∧ i + 1 ≤ szZ zs.length ∧ k = szZ zs.length - (i + 1) ∧ HS g h' (RvC o (wc zs m i) :: R)) ?_ (m := szZ zs.length - 1) (by show _ < 1000000000; omega) ⟨0, rfl, by omega, by omega, H1⟩
 rintro k2 ih s h' hih ⟨i, rfl, h1, rfl, H⟩
 dsimp only
 have hH := H
 obtain ⟨kv, q, H⟩ := RvC.E H
 with_reducible (refine qq ?_; refine qJ ?_; refine qG (by assumption) .here rfl ?_)
 show wp (jZ .lss _ (.int .i64 ((szZ zs.length : Nat) : Int)) _) _
 refine jA (fun hlt => qV ?_) fun hge => qQ (qj (qW ⟨o, rfl, ?_⟩))
 ·have hi : i + 1 < szZ zs.length := by omega
  have hkt : ((kW zs).take i).length = i := by rw [List.length_take, JB]; omega
  refine zB [] (fun s g' => s = (.int .u64 (zU zs (i + 1)), .int .i64 ((i + 1 : Nat) : Int), .ptr o 0, a0, ()) ∧ g' = h') ?_ ?_
  ·intro j hj
   refine jb (S.sl hH.drop) ?_
   refine jA (fun hl => qV ?_) fun hl => qQ ?_
   ·refine jF (S.sl hH.drop) (x := .int .u64 (zU zs (i + 1))) ?_ (hj _ _ ⟨rfl, rfl⟩)
    unfold zU
    rw [List.getElem?_map, List.getElem?_eq_getElem (by omega)]; rfl
   ·refine hj _ _ ⟨?_, rfl⟩
    unfold zU
    rw [List.getElem?_eq_none (by omega)]; rfl
  ·rintro s g' ⟨rfl, rfl⟩
   dsimp only
   with_reducible (refine qq ?_; refine qJ ?_; refine qG (by assumption) .here rfl ?_; refine qF rfl ?_)
   refine qf (n := 1) (l := [.int .i64 ((i + 1 : Nat) : Int), .int .u64 (zU zs (i + 1))]) (sz := 2) H rfl rfl rfl rfl fun v7 h7 H7 => ?_
   have H7' : HS g h7 (qz 67 2 1 v7 [.int .i64 ((i + 1 : Nat) : Int), .int .u64 (zU zs (i + 1))] :: qw o [.int .i64 ((szZ zs.length : Nat) : Int), kv, .ptr q 0, .int .i64 0] ::
    qz 67 2 ((kW zs).take i).length kv (((kW zs).take i).flatMap jJ) :: RgC q (wc zs m i).most (wc zs m i).lv :: R) := H7
   refine je (H7'.sel e_2) (H7'.sl .here) (by omega) (by omega) rfl fun v8 h8 H8 => ?_
   refine qq ?_; refine qJ ?_
   refine qc H8 (b := o) e_2 (H8.one .here) (by simp) fun h9 H9 => ?_
   simp only [List.set_cons_zero, List.set_cons_succ] at H9
   refine qD (by omega) (hih (szZ zs.length - (i + 1 + 1)) _ _ (by omega) ⟨i + 1, rfl, by omega, rfl, RvC.I (kv := v8) (q := q) ?_⟩)
   have e1 : (wc zs m (i + 1)).K = (kW zs).take i ++ [(((i + 1 : Nat) : Int), zU zs (i + 1))] := by
    show (kW zs).take (i + 1) = _
    rw [List.take_add_one, JO zs hi]; rfl
   rw [e1, List.flatMap_append, List.length_append]
   exact H9.sub (.cons .here (.cons .here (.drop .refl)))
 ·have hi : i = (kW zs).length := by rw [JB]; omega
  subst hi
  unfold wc at hH
  rw [List.take_length] at hH
  exact hH
end Go.Proofs.YtdlfmpmpmkffjaaGreatDoor
namespace Go.Proofs.YtdlfmpmpmkffjaaGreatDoor
open Go Go.Ae
set_option maxRecDepth 100000
variable {g h : AH} {L R : List SP}
def xY (x : Int) : Int := if x = 1 then 2 else if x = 2 then 4 else if x = 3 then 8 else if x = 4 then 16 else 0
def jg (x : Int) : Int := if x < 1 then 0 else if x ≤ 2 then 1 else if x ≤ 4 then 2 else if x ≤ 8 then 3 else if x ≤ 16 then 4 else 0
theorem J2 (x : Int) : 0 ≤ xY x ∧ xY x ≤ 16 := by unfold xY; repeat' split <;> omega
theorem Xf (x : Int) : 0 ≤ jg x ∧ jg x ≤ 4 := by unfold jg; repeat' split <;> omega
structure WdV (M : VM) : Prop where
  k : ∀ c ∈ M.K, 0 ≤ c.2 ∧ c.2 < 18446744073709551616
  l : ∀ x ∈ M.lv, ∀ c ∈ x.1, 0 ≤ c.2 ∧ c.2 < 18446744073709551616
theorem Yi {P : Int → Prop} {p x : Int} : ∀ {l : List Cl}, (∀ c ∈ l, P c.2) → zR p l = some x → P x := by
 intro l
 induction l with
 | nil => intro _ h; cases h
 | cons c l ih =>
  intro h e
  unfold zR at e
  split at e
  ·cases e; exact h c (List.mem_cons_self ..)
  ·exact ih (fun d hd => h d (List.mem_cons_of_mem _ hd)) e
theorem OB {P : Int → Prop} {p x : Int} : ∀ {lv : List LvM}, (∀ y ∈ lv, ∀ c ∈ y.1, P c.2) → ku p lv = some x → P x := by
 intro lv
 induction lv with
 | nil => intro _ h; cases h
 | cons y r ih =>
  intro h e
  unfold ku at e
  split at e
  ·rename_i v hv
   cases e; exact Yi (h y (List.mem_cons_self ..)) hv
  ·exact ih (fun z hz => h z (List.mem_cons_of_mem _ hz)) e
theorem WdV.read {M : VM} {p : Int} (W : WdV M) : 0 ≤ (qT M p).1.1 ∧ (qT M p).1.1 < 18446744073709551616 := by
 unfold qT
 split
 ·split
  ·rename_i x hx
   exact OB (P := fun x => 0 ≤ x ∧ x < 18446744073709551616) W.l hx
  ·split
   ·rename_i x hx
    exact Yi (P := fun x => 0 ≤ x ∧ x < 18446744073709551616) W.k hx
   ·show (0 : Int) ≤ 0 ∧ (0 : Int) < 18446744073709551616; omega
 ·show (0 : Int) ≤ 0 ∧ (0 : Int) < 18446744073709551616; omega
theorem WdV.read2 {M : VM} {p : Int} (W : WdV M) : WdV (qT M p).2 := by
 unfold qT
 repeat' split
 all_goals exact ⟨W.k, W.l⟩
def WdC (cs : List Cl) : Prop := ∀ c ∈ cs, 0 ≤ c.2 ∧ c.2 < 18446744073709551616
theorem WdC.put {l : List Cl} {p v : Int} (h : WdC l) (hv : 0 ≤ v ∧ v < 18446744073709551616) : WdC (xF p v l) := by
 induction l with
 | nil => intro c hc; simp [xF] at hc; subst hc; exact hv
 | cons a l ih =>
  unfold xF
  split
  ·intro c hc
   rcases List.mem_cons.1 hc with rfl | hc
   ·exact hv
   ·exact h c (List.mem_cons_of_mem _ hc)
  ·intro c hc
   rcases List.mem_cons.1 hc with rfl | hc
   ·exact h _ (List.mem_cons_self ..)
   ·exact ih (fun c hc => h c (List.mem_cons_of_mem _ hc)) c hc
theorem WdC.puts : ∀ {cs l : List Cl}, WdC l → WdC cs → WdC (xx l cs) := by
 intro cs
 induction cs with
 | nil => intro l h _; exact h
 | cons c cs ih => intro l h hc; exact ih (h.put (hc c (List.mem_cons_self ..))) fun d hd => hc d (List.mem_cons_of_mem _ hd)
theorem qJR {most : Nat} {was : List LvM} (hw : ∀ x ∈ was, WdC x.1) : ∀ {cs : List Cl} {lv : List LvM}, WdC cs → (∀ x ∈ lv, WdC x.1) → ∀ x ∈ (xC most was lv cs).2, WdC x.1 := by
 intro cs
 induction cs with
 | nil => intro lv _ h; exact h
 | cons c cs ih =>
  intro lv hc h
  rw [xl]
  split
  ·refine ih (fun d hd => hc d (List.mem_cons_of_mem _ hd)) ?_
   cases lv with
   | nil => exact h
   | cons y r =>
    unfold xH
    dsimp only
    split
    ·exact h
    ·split
     ·exact h
     ·intro x hx
      rcases List.mem_cons.1 hx with rfl | hx
      ·exact (show WdC y.1 from h y (List.mem_cons_self ..)).put (hc c (List.mem_cons_self ..))
      ·exact h x (List.mem_cons_of_mem _ hx)
  ·exact hw
theorem WdV.take {M : VM} {cs : List Cl} (W : WdV M) (hc : WdC cs) : WdV (jU M cs).2 := by
 unfold jU
 split
 ·exact ⟨W.k, qJR W.l hc W.l⟩
 ·exact W
def yA (M : VM) (c b : Int) : (Int × Int) × VM :=
 if 2147483648 ≤ b then ((0, 2), M) else
 if (qT M b).1.2 = 0 then
  (if (jU (qT M b).2 [(c, (qT M b).1.1), (b - 1, c + 8)]).1 = 0 then ((b, 0), (jU (qT M b).2 [(c, (qT M b).1.1), (b - 1, c + 8)]).2)
   else ((0, (jU (qT M b).2 [(c, (qT M b).1.1), (b - 1, c + 8)]).1), (jU (qT M b).2 [(c, (qT M b).1.1), (b - 1, c + 8)]).2))
 else ((0, (qT M b).1.2), (qT M b).2)
def yy (M : VM) (c : Int) : (Int × Int) × VM :=
 if (qT M 5).1.2 = 0 then
  (if (qT M 5).1.1 < 14 ∨ 2147483648 ≤ (qT M 5).1.1 ∨ (M.sz : Int) < (qT M 5).1.1 + 1 + xY c then ((0, 4), (qT M 5).2)
   else if (jU (qT M 5).2 [(5, (qT M 5).1.1 + 1 + xY c), ((qT M 5).1.1, c + 8)]).1 = 0 then (((qT M 5).1.1 + 1, 0), (jU (qT M 5).2 [(5, (qT M 5).1.1 + 1 + xY c), ((qT M 5).1.1, c + 8)]).2)
   else ((0, (jU (qT M 5).2 [(5, (qT M 5).1.1 + 1 + xY c), ((qT M 5).1.1, c + 8)]).1), (jU (qT M 5).2 [(5, (qT M 5).1.1 + 1 + xY c), ((qT M 5).1.1, c + 8)]).2))
 else ((0, (qT M 5).1.2), (qT M 5).2)
def zM (M : VM) (n : Int) : (Int × Int) × VM :=
 if jg n = 0 then ((0, 3), M) else
 if (qT M (jg n)).1.2 = 0 then
  (if (qT M (jg n)).1.1 = 0 then yy (qT M (jg n)).2 (jg n) else yA (qT M (jg n)).2 (jg n) (qT M (jg n)).1.1)
 else ((0, (qT M (jg n)).1.2), (qT M (jg n)).2)
def xz (w : Int) : Int × Bool := if 1 ≤ w ∧ w ≤ 4 then (w, false) else if 9 ≤ w ∧ w ≤ 12 then (w - 8, true) else (0, false)
def zv (M : VM) (b : Int) : (Int × Bool × Int) × VM :=
 if b ≤ 14 ∨ M.sz ≤ b then ((0, false, 2), M) else
 if (qT M (b - 1)).1.2 = 0 then
  (if (xz (qT M (b - 1)).1.1).1 = 0 then ((0, false, 2), (qT M (b - 1)).2) else (((xz (qT M (b - 1)).1.1).1, (xz (qT M (b - 1)).1.1).2, 0), (qT M (b - 1)).2))
 else ((0, false, (qT M (b - 1)).1.2), (qT M (b - 1)).2)
def ve (M : VM) (b : Int) : Int × VM :=
 if (zv M b).1.2.2 = 0 then
  (if (zv M b).1.2.1 = true then
   (if (jU (zv M b).2 [(b - 1, (zv M b).1.1)]).1 = 0 then (0, freeV (jU (zv M b).2 [(b - 1, (zv M b).1.1)]).2 b) else jU (zv M b).2 [(b - 1, (zv M b).1.1)])
  else (2, (zv M b).2))
 else ((zv M b).1.2.2, (zv M b).2)
theorem Ua {M : VM} {p : Int} : (qT M p).2.sz = M.sz := by
 unfold qT
 repeat' split
 all_goals rfl
theorem qJr (w : Int) : 0 ≤ (xz w).1 ∧ (xz w).1 ≤ 4 := by
 unfold xz
 repeat' split
 all_goals dsimp only
 all_goals omega
theorem VT (M : VM) (b : Int) : 0 ≤ (zv M b).1.1 ∧ (zv M b).1.1 ≤ 4 ∧ ((zv M b).1.2.2 = 0 → 14 < b ∧ b < M.sz) := by
 unfold zv
 split
 ·exact ⟨Int.le_refl 0, by show (0 : Int) ≤ 4; omega, fun h => by cases h⟩
 ·split
  ·split
   ·exact ⟨Int.le_refl 0, by show (0 : Int) ≤ 4; omega, fun h => by cases h⟩
   ·have := qJr (qT M (b - 1)).1.1
    exact ⟨this.1, this.2, fun _ => by omega⟩
  ·exact ⟨Int.le_refl 0, by show (0 : Int) ≤ 4; omega, fun _ => by omega⟩
theorem QR {M : VM} {b : Int} (O : OkV M) : OkV (zv M b).2 := by
 unfold zv
 split
 ·exact O
 ·split
  ·split <;> exact ze O
  ·exact ze O
theorem qXd {M : VM} {b : Int} (O : WdV M) : WdV (zv M b).2 := by
 unfold zv
 split
 ·exact O
 ·split
  ·split <;> exact O.read2
  ·exact O.read2
theorem O5 {M : VM} {b : Int} (O : OkV M) (hf : ∀ x ∈ M.lv, x.2.length + 1 < 100000) : OkV (freeV M b) := by
 refine ⟨O.lo, O.hi, Z3 O.lvs, O.ins, O.un, ?_⟩
 show ∀ x ∈ k8 M.lv b, x.2.length < 100000
 cases hl : M.lv with
 | nil => intro x hx; cases hx
 | cons y r =>
  rw [hl] at hf
  intro x hx
  rcases List.mem_cons.1 hx with rfl | hx
  ·have := hf y (List.mem_cons_self ..); simpa using this
  ·have := hf x (List.mem_cons_of_mem _ hx); omega
theorem Q3 {n : Nat} (hn : 1 ≤ n) {x : Int} : wp (callT tab qA n (.fn 240 [] []) [.int .i64 x] h) fun v h' => v = .int .i64 (xY x) ∧ h' = h := by
 (refine qP (g := (tD1 S240)) rfl (by omega) fun k hk => ?_; show wp (S240 (callT tab qA k) _ _).1 _; unfold S240; try simp only [ Int.ofNat_eq_natCast])
 repeat' (first | with_reducible refine qV ?_ | with_reducible refine qQ ?_ | (with_reducible refine qR ?_; try dsimp only) | (with_reducible refine qS ?_; try dsimp only) | (with_reducible refine qO ?_; try dsimp only) | (with_reducible refine qB ?_; try dsimp only) | (with_reducible refine jW ?_; try dsimp only) | with_reducible refine qC ?_ | with_reducible refine qv ?_ | (with_reducible refine qX ?_; try dsimp only) | with_reducible refine qj ?_ | with_reducible refine qo ?_ | with_reducible refine jq ?_ | with_reducible refine qD (by omega) ?_ | with_reducible refine qb (by omega) ?_ | with_reducible refine zk (by omega) ?_ | with_reducible refine zy (by omega) ?_ | with_reducible refine zx ?_ | with_reducible refine zg ?_ | with_reducible refine jA (fun hc => ?_) (fun hc => ?_) | with_reducible refine xg (fun hc => ?_) (fun hc => ?_) | with_reducible refine zi (fun hc => ?_) (fun hc => ?_) | with_reducible refine xW (fun hc => ?_) (fun hc => ?_) | with_reducible refine xG (fun hc => ?_) (fun hc => ?_) | with_reducible refine zA (fun hc => ?_) (fun hc => ?_) | with_reducible refine xZ (fun hc => ?_) (fun hc => ?_))
 ·refine qW ⟨?_, rfl⟩
  unfold xY; congr 1; repeat' split <;> omega
 ·refine qW ⟨?_, rfl⟩
  unfold xY; congr 1; repeat' split <;> omega
 ·refine Ge (by omega) ?_
  refine qW ⟨?_, rfl⟩
  rcases (show x = 1 ∨ x = 2 ∨ x = 3 ∨ x = 4 by omega) with rfl | rfl | rfl | rfl <;> rfl
theorem M9 {n : Nat} (hn : 2 ≤ n) {x : Int} : wp (callT tab qA n (.fn 195 [] []) [.int .i64 x] h) fun v h' => v = .int .i64 (jg x) ∧ h' = h := by
 (refine qP (g := (tD1 S195)) rfl (by omega) fun k hk => ?_; show wp (S195 (callT tab qA k) _ _).1 _; unfold S195; try simp only [ Int.ofNat_eq_natCast])
 repeat' (first | with_reducible refine qV ?_ | with_reducible refine qQ ?_ | (with_reducible refine qR ?_; try dsimp only) | (with_reducible refine qS ?_; try dsimp only) | (with_reducible refine qO ?_; try dsimp only) | (with_reducible refine qB ?_; try dsimp only) | (with_reducible refine jW ?_; try dsimp only) | with_reducible refine qC ?_ | with_reducible refine qv ?_ | (with_reducible refine qX ?_; try dsimp only) | with_reducible refine qj ?_ | with_reducible refine qo ?_ | with_reducible refine jq ?_ | with_reducible refine qD (by omega) ?_ | with_reducible refine qb (by omega) ?_ | with_reducible refine zk (by omega) ?_ | with_reducible refine zy (by omega) ?_ | with_reducible refine zx ?_ | with_reducible refine zg ?_ | with_reducible refine jA (fun hc => ?_) (fun hc => ?_) | with_reducible refine xg (fun hc => ?_) (fun hc => ?_) | with_reducible refine zi (fun hc => ?_) (fun hc => ?_) | with_reducible refine xW (fun hc => ?_) (fun hc => ?_) | with_reducible refine xG (fun hc => ?_) (fun hc => ?_) | with_reducible refine zA (fun hc => ?_) (fun hc => ?_) | with_reducible refine xZ (fun hc => ?_) (fun hc => ?_))
 ·refine qW ⟨?_, rfl⟩
  unfold jg; congr 1; repeat' split <;> omega
 ·refine jz (fun m s g => ∃ i : Int, s = (.int .i64 i, .int .i64 x, ()) ∧ 1 ≤ i ∧ i ≤ 5 ∧ (m : Int) = 5 - i ∧ g = h ∧ (1 < i → 2 < x) ∧ (2 < i → 4 < x) ∧ (3 < i → 8 < x) ∧ (4 < i → 16 < x)) ?_ (m := 4) (by decide) ⟨1, rfl, by omega, by omega, by omega, rfl, by omega, by omega, by omega, by omega⟩
  rintro m ih s g hih ⟨i, rfl, h1, h2, h3, rfl, h4, h5, h6, h7⟩
  dsimp only
  repeat' (first | with_reducible refine qV ?_ | with_reducible refine qQ ?_ | (with_reducible refine qR ?_; try dsimp only) | (with_reducible refine qS ?_; try dsimp only) | (with_reducible refine qO ?_; try dsimp only) | (with_reducible refine qB ?_; try dsimp only) | (with_reducible refine jW ?_; try dsimp only) | with_reducible refine qC ?_ | with_reducible refine qv ?_ | (with_reducible refine qX ?_; try dsimp only) | with_reducible refine qj ?_ | with_reducible refine qo ?_ | with_reducible refine jq ?_ | with_reducible refine qD (by omega) ?_ | with_reducible refine qb (by omega) ?_ | with_reducible refine zk (by omega) ?_ | with_reducible refine zy (by omega) ?_ | with_reducible refine zx ?_ | with_reducible refine zg ?_ | with_reducible refine jA (fun hc => ?_) (fun hc => ?_) | with_reducible refine xg (fun hc => ?_) (fun hc => ?_) | with_reducible refine zi (fun hc => ?_) (fun hc => ?_) | with_reducible refine xW (fun hc => ?_) (fun hc => ?_) | with_reducible refine xG (fun hc => ?_) (fun hc => ?_) | with_reducible refine zA (fun hc => ?_) (fun hc => ?_) | with_reducible refine xZ (fun hc => ?_) (fun hc => ?_))
  ·refine qY (Q3 (by omega)) ?_
   rintro v g' ⟨rfl, rfl⟩
   repeat' (first | with_reducible refine qV ?_ | with_reducible refine qQ ?_ | (with_reducible refine qR ?_; try dsimp only) | (with_reducible refine qS ?_; try dsimp only) | (with_reducible refine qO ?_; try dsimp only) | (with_reducible refine qB ?_; try dsimp only) | (with_reducible refine jW ?_; try dsimp only) | with_reducible refine qC ?_ | with_reducible refine qv ?_ | (with_reducible refine qX ?_; try dsimp only) | with_reducible refine qj ?_ | with_reducible refine qo ?_ | with_reducible refine jq ?_ | with_reducible refine qD (by omega) ?_ | with_reducible refine qb (by omega) ?_ | with_reducible refine zk (by omega) ?_ | with_reducible refine zy (by omega) ?_ | with_reducible refine zx ?_ | with_reducible refine zg ?_ | with_reducible refine jA (fun hc => ?_) (fun hc => ?_) | with_reducible refine xg (fun hc => ?_) (fun hc => ?_) | with_reducible refine zi (fun hc => ?_) (fun hc => ?_) | with_reducible refine xW (fun hc => ?_) (fun hc => ?_) | with_reducible refine xG (fun hc => ?_) (fun hc => ?_) | with_reducible refine zA (fun hc => ?_) (fun hc => ?_) | with_reducible refine xZ (fun hc => ?_) (fun hc => ?_))
   ·refine qW ⟨?_, rfl⟩
    unfold xY at *; unfold jg; congr 1; repeat' split <;> omega
   ·refine hih (m - 1) _ _ (by omega) ⟨i + 1, rfl, by omega, by omega, by omega, rfl, ?_, ?_, ?_, ?_⟩ <;> (unfold xY at *; repeat' split at * <;> omega)
  ·refine qW ⟨?_, rfl⟩
   unfold jg; congr 1; repeat' split <;> omega
theorem Ks {n : Nat} (hn : 1 ≤ n) {c : Int} (hc : 0 ≤ c ∧ c ≤ 4) : wp (callT tab qA n (.fn 110 [] []) [.int .i64 c] h) fun v h' => v = .int .i64 c ∧ h' = h := by
 (refine qP (g := (tD1 S110)) rfl (by omega) fun k hk => ?_; show wp (S110 (callT tab qA k) _ _).1 _; unfold S110; try simp only [ Int.ofNat_eq_natCast])
 with_reducible (refine qD (by omega) ?_)
 exact qW ⟨by congr 1; omega, rfl⟩
theorem VA {n : Nat} (hn : 1 ≤ n) {w : Int} : wp (callT tab qA n (.fn 156 [] []) [.int .u64 w] h) fun v h' => v = .tup [.int .i64 (xz w).1, .bool (xz w).2] ∧ h' = h := by
 (refine qP (g := (tD1 S156)) rfl (by omega) fun k hk => ?_; show wp (S156 (callT tab qA k) _ _).1 _; unfold S156; try simp only [ Int.ofNat_eq_natCast])
 unfold xz
 by_cases h1 : 1 ≤ w ∧ w ≤ 4
 ·rw [if_pos h1]
  with_reducible (refine jV (by omega) ?_; refine qX ?_; (try dsimp only); refine qR ?_; (try dsimp only); refine z7 (by omega) ?_; refine qC ?_; refine qV ?_; refine jI (by omega) ?_)
  exact qW ⟨rfl, rfl⟩
 ·rw [if_neg h1]
  by_cases h2 : 9 ≤ w ∧ w ≤ 12
  ·rw [if_pos h2]
   with_reducible (refine jV (by omega) ?_; refine qX ?_; (try dsimp only); refine qR ?_; (try dsimp only); refine z6 (by omega) ?_; refine qC ?_; refine qQ ?_; refine jV (by omega) ?_; refine qX ?_; (try dsimp only); refine qR ?_; (try dsimp only); refine z7 (by omega) ?_; refine qC ?_; refine qV ?_; refine zy (by omega) ?_; refine jI (by omega) ?_)
   exact qW ⟨rfl, rfl⟩
  ·rw [if_neg h2]
   repeat' (first | with_reducible refine qV ?_ | with_reducible refine qQ ?_ | (with_reducible refine qR ?_; try dsimp only) | (with_reducible refine qS ?_; try dsimp only) | (with_reducible refine qO ?_; try dsimp only) | (with_reducible refine qB ?_; try dsimp only) | (with_reducible refine jW ?_; try dsimp only) | with_reducible refine qC ?_ | with_reducible refine qv ?_ | (with_reducible refine qX ?_; try dsimp only) | with_reducible refine qj ?_ | with_reducible refine qo ?_ | with_reducible refine jq ?_ | with_reducible refine qD (by omega) ?_ | with_reducible refine qb (by omega) ?_ | with_reducible refine zk (by omega) ?_ | with_reducible refine zy (by omega) ?_ | with_reducible refine zx ?_ | with_reducible refine zg ?_ | with_reducible refine qy (by omega) ?_ | with_reducible refine qK (by omega) ?_ | with_reducible refine jk (by omega) ?_ | with_reducible refine jj (by omega) ?_ | with_reducible refine jC (by omega) ?_ | with_reducible refine jv (by omega) ?_ | with_reducible refine z7 (by omega) ?_ | with_reducible refine z6 (by omega) ?_ | with_reducible refine jl (by omega) ?_ | with_reducible refine ja (by omega) ?_ | with_reducible refine jV (by omega) ?_ | with_reducible refine jQ (by omega) ?_ | with_reducible refine jA (fun hc => ?_) (fun hc => ?_) | with_reducible refine xg (fun hc => ?_) (fun hc => ?_) | with_reducible refine zi (fun hc => ?_) (fun hc => ?_) | with_reducible refine xW (fun hc => ?_) (fun hc => ?_) | with_reducible refine xG (fun hc => ?_) (fun hc => ?_) | with_reducible refine zA (fun hc => ?_) (fun hc => ?_) | with_reducible refine xZ (fun hc => ?_) (fun hc => ?_))
   all_goals exact qW ⟨rfl, rfl⟩
theorem Ox {n : Nat} (hn : 10 ≤ n) {v : Nat} {M : VM} {b : Int} (H : HS g h (ViewC v M :: R)) (O : OkV M) :
  wp (callT tab qA n (.fn 108 [] []) [.ptr v 0, .int .i64 b] h) fun r h' => r = .tup [.int .i64 (zv M b).1.1, .bool (zv M b).1.2.1, .int .i64 (zv M b).1.2.2] ∧ HS g h' (ViewC v (zv M b).2 :: R) := by
 (refine qP (g := (tD2 S108)) rfl (by omega) fun k hk => ?_; show wp (S108 (callT tab qA k) _ _ _).1 _; unfold S108; try simp only [ Int.ofNat_eq_natCast])
 unfold zv
 by_cases h1 : b ≤ 14
 ·rw [if_pos (.inl h1)]
  with_reducible (refine z7 (by omega) ?_; refine qX ?_; (try dsimp only); refine qS ?_; (try dsimp only); refine qC ?_; refine qV ?_)
  exact qW ⟨rfl, H⟩
 ·with_reducible (refine z6 (by omega) ?_; refine qX ?_; (try dsimp only); refine qB ?_; (try dsimp only))
  refine qY (JW (by omega) H) ?_
  rintro _ _ ⟨rfl, rfl⟩
  by_cases h2 : (M.sz : Int) ≤ b
  ·rw [if_pos (.inr h2)]
   with_reducible (refine jV (by omega) ?_; refine qv ?_; refine qV ?_)
   exact qW ⟨rfl, H⟩
  ·rw [if_neg (by omega)]
   with_reducible (refine jQ (by omega) ?_; refine qv ?_; refine qQ ?_)
   have := O.hi
   refine qb (by omega) (qY (wu (by omega) H O) ?_)
   rintro _ h3 ⟨rfl, H3⟩
   simp only [show ((1 : Nat) : Int) = 1 from rfl] at H3 ⊢
   with_reducible (refine qx rfl ?_; refine qx rfl ?_)
   by_cases h4 : (qT M (b - 1)).1.2 = 0
   ·rw [if_pos h4]
    with_reducible (refine jj (by omega) ?_; refine qQ ?_)
    refine qY (VA (by omega)) ?_
    rintro _ _ ⟨rfl, rfl⟩
    with_reducible (refine qx rfl ?_; refine qx rfl ?_)
    by_cases h5 : (xz (qT M (b - 1)).1.1).1 = 0
    ·rw [if_pos h5]
     with_reducible (refine qy (by omega) ?_; refine qV ?_)
     exact qW ⟨rfl, H3⟩
    ·rw [if_neg h5]
     with_reducible (refine qK (by omega) ?_; refine qQ ?_)
     exact qW ⟨rfl, H3⟩
   ·rw [if_neg h4]
    with_reducible (refine jk (by omega) ?_; refine qV ?_)
    exact qW ⟨rfl, H3⟩
theorem Zx {n : Nat} (hn : 11 ≤ n) {v : Nat} {M : VM} {b : Int} (H : HS g h (ViewC v M :: R)) (O : OkV M) :
  wp (callT tab qA n (.fn 130 [] []) [.ptr v 0, .int .i64 b] h) fun r h' => r = .int .i64 (ve M b).1 ∧ HS g h' (ViewC v (ve M b).2 :: R) := by
 (refine qP (g := (tD2 S130)) rfl (by omega) fun k hk => ?_; show wp (S130 (callT tab qA k) _ _ _).1 _; unfold S130; try simp only [ Int.ofNat_eq_natCast])
 refine qY (Ox (by omega) H O) ?_
 rintro _ h1 ⟨rfl, H1⟩
 have hb := VT M b
 have hO := QR (b := b) O
 have := O.hi
 unfold ve
 with_reducible (refine qx rfl ?_; refine qx rfl ?_; refine qx rfl ?_; refine qX ?_; (try dsimp only))
 by_cases h2 : (zv M b).1.2.2 = 0
 ·rw [if_pos h2]
  with_reducible (refine qy (by omega) ?_; refine qX ?_; (try dsimp only); refine qR ?_; (try dsimp only))
  cases h3 : (zv M b).1.2.1
  ·rw [if_neg (by simp)]
   with_reducible (refine jq ?_; refine qC ?_; refine qV ?_; refine qX ?_; (try dsimp only); refine qK (by omega) ?_; refine qQ ?_; refine qX ?_; (try dsimp only); refine qK (by omega) ?_; refine qQ ?_; refine qj ?_)
   exact qW ⟨rfl, H1⟩
  ·rw [if_pos rfl]
   with_reducible (refine qo ?_; refine qC ?_; refine qQ ?_; refine qX ?_; (try dsimp only); refine qy (by omega) ?_; refine qV ?_; refine qb (by omega) ?_; refine zW (by omega) ?_; refine qF rfl ?_)
   simp only [show ((1 : Nat) : Int) = 1 from rfl]
   refine (qf (n := 1) (l := [.int .i64 (b - 1), .int .u64 (zv M b).1.1]) (sz := 2) H1 rfl rfl rfl rfl fun v3 h3 H3 => ?_)
   refine qY (XA (cs := [(b - 1, (zv M b).1.1)]) (by omega) (H3.sel e_1) hO (.own .here) (by simp)) ?_
   rintro _ h4 ⟨rfl, H4⟩
   by_cases h5 : (jU (zv M b).2 [(b - 1, (zv M b).1.1)]).1 = 0
   ·rw [if_pos h5]
    with_reducible (refine qX ?_; (try dsimp only); refine qy (by omega) ?_; refine qV ?_)
    refine qY (ZM (by omega) H4 (JQ hO)) ?_
    intro _ h6 H6
    refine qj ?_
    exact qW ⟨by rw [h5], H6.sub (.cons .here (.drop (.refl)))⟩
   ·rw [if_neg h5]
    with_reducible (refine qX ?_; (try dsimp only); refine qK (by omega) ?_; refine qQ ?_; refine qj ?_)
    exact qW ⟨rfl, H4.sub (.cons .here (.drop (.refl)))⟩
 ·rw [if_neg h2]
  with_reducible (refine qK (by omega) ?_; refine qX ?_; (try dsimp only); refine qO ?_; (try dsimp only); refine qv ?_; refine qQ ?_; refine qX ?_; (try dsimp only); refine qK (by omega) ?_; refine qQ ?_; refine qX ?_; (try dsimp only); refine qK (by omega) ?_; refine qQ ?_; refine qj ?_)
  exact qW ⟨rfl, H1⟩
theorem Mr {n : Nat} (hn : 10 ≤ n) {v : Nat} {M : VM} {c b : Int} (H : HS g h (ViewC v M :: R)) (O : OkV M) (hc : 1 ≤ c ∧ c ≤ 4) (hb : 0 ≤ b) :
  wp (callT tab qA n (.fn 196 [] []) [.ptr v 0, .int .i64 c, .int .u64 b] h) fun r h' => r = .tup [.int .i64 (yA M c b).1.1, .int .i64 (yA M c b).1.2] ∧ HS g h' (ViewC v (yA M c b).2 :: R) := by
 (refine qP (g := (tD3 S196)) rfl (by omega) fun k hk => ?_; show wp (S196 (callT tab qA k) _ _ _ _).1 _; unfold S196; try simp only [ Int.ofNat_eq_natCast])
 unfold yA
 by_cases h1 : 2147483648 ≤ b
 ·rw [if_pos h1]
  with_reducible (refine jV (by omega) ?_; refine qV ?_)
  exact qW ⟨rfl, H⟩
 ·rw [if_neg h1]
  with_reducible (refine jQ (by omega) ?_; refine qQ ?_; refine jI (by omega) ?_)
  refine qY (wu (by omega) H O) ?_
  rintro _ h3 ⟨rfl, H3⟩
  with_reducible (refine qx rfl ?_; refine qx rfl ?_; refine qX ?_; (try dsimp only))
  by_cases h4 : (qT M b).1.2 = 0
  ·rw [if_pos h4]
   with_reducible (refine qy (by omega) ?_; refine qV ?_)
   refine qY (Ks (by omega) (by omega)) ?_
   rintro _ _ ⟨rfl, rfl⟩
   refine qF rfl (qb (by omega) (qD (by omega) (zW (by omega) (qF rfl ?_))))
   refine qf (n := 2) (l := [.int .i64 c, .int .u64 (qT M b).1.1, .int .i64 (b - 1), .int .u64 (c + 8)]) (sz := 2) H3 rfl rfl rfl rfl fun v5 h5 H5 => ?_
   refine qY (XA (cs := [(c, (qT M b).1.1), (b - 1, c + 8)]) (by omega) (H5.sel e_1) (ze O) (.own .here) (by simp)) ?_
   rintro _ h6 ⟨rfl, H6⟩
   by_cases h7 : (jU (qT M b).2 [(c, (qT M b).1.1), (b - 1, c + 8)]).1 = 0
   ·rw [if_pos h7]
    with_reducible (refine jj (by omega) ?_; refine qQ ?_; refine qj ?_)
    exact qW ⟨rfl, H6.sub (.cons .here (.drop (.refl)))⟩
   ·rw [if_neg h7]
    with_reducible (refine jk (by omega) ?_; refine qV ?_; refine qj ?_)
    exact qW ⟨rfl, H6.sub (.cons .here (.drop (.refl)))⟩
  ·rw [if_neg h4]
   with_reducible (refine qK (by omega) ?_; refine qQ ?_; refine jk (by omega) ?_; refine qV ?_; refine qj ?_)
   exact qW ⟨rfl, H3⟩
theorem Mo {n : Nat} (hn : 10 ≤ n) {v : Nat} {M : VM} {c : Int} (H : HS g h (ViewC v M :: R)) (O : OkV M) (W : WdV M) (hc : 1 ≤ c ∧ c ≤ 4) :
  wp (callT tab qA n (.fn 197 [] []) [.ptr v 0, .int .i64 c] h) fun r h' => r = .tup [.int .i64 (yy M c).1.1, .int .i64 (yy M c).1.2] ∧ HS g h' (ViewC v (yy M c).2 :: R) := by
 (refine qP (g := (tD2 S197)) rfl (by omega) fun k hk => ?_; show wp (S197 (callT tab qA k) _ _ _).1 _; unfold S197; try simp only [ Int.ofNat_eq_natCast])
 unfold yy
 refine qY (wu (by omega) H O) ?_
 rintro _ h3 ⟨rfl, H3⟩
 have hw := W.read (p := 5)
 simp only [show ((5 : Nat) : Int) = 5 from rfl] at H3 ⊢
 have hs := J2 c
 have hO := O.hi
 with_reducible (refine qx rfl ?_; refine qx rfl ?_)
 by_cases h4 : (qT M 5).1.2 = 0
 ·rw [if_pos h4]
  with_reducible (refine jj (by omega) ?_; refine qQ ?_)
  have hsz : (qT M 5).2.sz = M.sz := Ua
  by_cases h5 : (qT M 5).1.1 < 14 ∨ 2147483648 ≤ (qT M 5).1.1 ∨ (M.sz : Int) < (qT M 5).1.1 + 1 + xY c
  ·rw [if_pos h5]
   by_cases h6 : (qT M 5).1.1 < 14
   ·with_reducible (refine jC (by omega) ?_; refine qX ?_; (try dsimp only); refine qS ?_; (try dsimp only); refine qC ?_; refine qX ?_; (try dsimp only); refine qS ?_; (try dsimp only); refine qC ?_; refine qV ?_)
    exact qW ⟨rfl, H3⟩
   ·by_cases h7 : 2147483648 ≤ (qT M 5).1.1
    ·with_reducible (refine jv (by omega) ?_; refine qX ?_; (try dsimp only); refine qB ?_; (try dsimp only); refine jV (by omega) ?_; refine qv ?_; refine qX ?_; (try dsimp only); refine qS ?_; (try dsimp only); refine qC ?_; refine qV ?_)
     exact qW ⟨rfl, H3⟩
    ·with_reducible (refine jv (by omega) ?_; refine qX ?_; (try dsimp only); refine qB ?_; (try dsimp only); refine jQ (by omega) ?_; refine qv ?_; refine qX ?_; (try dsimp only); refine qB ?_; (try dsimp only); refine jI (by omega) ?_; refine qD (by omega) ?_)
     refine qY (Q3 (by omega)) ?_
     rintro _ _ ⟨rfl, rfl⟩
     with_reducible (refine qD (by omega) ?_)
     refine qY (JW (by omega) H3) ?_
     rintro _ _ ⟨rfl, rfl⟩
     rw [hsz]
     with_reducible (refine jl (by omega) ?_; refine qv ?_; refine qV ?_)
     exact qW ⟨rfl, H3⟩
  ·rw [if_neg h5]
   with_reducible (refine jv (by omega) ?_; refine qX ?_; (try dsimp only); refine qB ?_; (try dsimp only); refine jQ (by omega) ?_; refine qv ?_; refine qX ?_; (try dsimp only); refine qB ?_; (try dsimp only); refine jI (by omega) ?_; refine qD (by omega) ?_)
   refine qY (Q3 (by omega)) ?_
   rintro _ _ ⟨rfl, rfl⟩
   with_reducible (refine qD (by omega) ?_)
   refine qY (JW (by omega) H3) ?_
   rintro _ _ ⟨rfl, rfl⟩
   rw [hsz]
   with_reducible (refine ja (by omega) ?_; refine qv ?_; refine qQ ?_; refine jI (by omega) ?_; refine qD (by omega) ?_)
   refine qY (Q3 (by omega)) ?_
   rintro _ _ ⟨rfl, rfl⟩
   refine qD (by omega) (zW (by omega) (qF rfl (qD (by omega) (zW (by omega) (qF rfl ?_)))))
   refine qf (n := 2) (l := [.int .i64 5, .int .u64 ((qT M 5).1.1 + 1 + xY c), .int .i64 (qT M 5).1.1, .int .u64 (c + 8)]) (sz := 2) H3 rfl rfl rfl rfl fun v5 h5 H5 => ?_
   refine qY (XA (cs := [(5, (qT M 5).1.1 + 1 + xY c), ((qT M 5).1.1, c + 8)]) (by omega) (H5.sel e_1) (ze O) (.own .here) (by simp)) ?_
   rintro _ h6 ⟨rfl, H6⟩
   by_cases h7 : (jU (qT M 5).2 [(5, (qT M 5).1.1 + 1 + xY c), ((qT M 5).1.1, c + 8)]).1 = 0
   ·rw [if_pos h7]
    with_reducible (refine jj (by omega) ?_; refine qQ ?_; refine qD (by omega) ?_)
    exact qW ⟨rfl, H6.sub (.cons .here (.drop (.refl)))⟩
   ·rw [if_neg h7]
    with_reducible (refine jk (by omega) ?_; refine qV ?_)
    exact qW ⟨rfl, H6.sub (.cons .here (.drop (.refl)))⟩
 ·rw [if_neg h4]
  with_reducible (refine jk (by omega) ?_; refine qV ?_)
  exact qW ⟨rfl, H3⟩
theorem OC {n : Nat} (hn : 11 ≤ n) {v : Nat} {M : VM} {x : Int} (H : HS g h (ViewC v M :: R)) (O : OkV M) (W : WdV M) :
  wp (callT tab qA n (.fn 129 [] []) [.ptr v 0, .int .i64 x] h) fun r h' => r = .tup [.int .i64 (zM M x).1.1, .int .i64 (zM M x).1.2] ∧ HS g h' (ViewC v (zM M x).2 :: R) := by
 (refine qP (g := (tD2 S129)) rfl (by omega) fun k hk => ?_; show wp (S129 (callT tab qA k) _ _ _).1 _; unfold S129; try simp only [ Int.ofNat_eq_natCast])
 refine qY (M9 (by omega)) ?_
 rintro _ _ ⟨rfl, rfl⟩
 have hc := Xf x
 unfold zM
 by_cases h1 : jg x = 0
 ·rw [if_pos h1]
  with_reducible (refine qy (by omega) ?_; refine qV ?_)
  exact qW ⟨rfl, H⟩
 ·rw [if_neg h1]
  with_reducible (refine qK (by omega) ?_; refine qQ ?_)
  refine qY (Ks (by omega) hc) ?_
  rintro _ _ ⟨rfl, rfl⟩
  refine qY (wu (by omega) H O) ?_
  rintro _ h3 ⟨rfl, H3⟩
  have hw := W.read (p := jg x)
  with_reducible (refine qx rfl ?_; refine qx rfl ?_)
  by_cases h4 : (qT M (jg x)).1.2 = 0
  ·rw [if_pos h4]
   by_cases h5 : (qT M (jg x)).1.1 = 0
   ·rw [if_pos h5]
    with_reducible (refine jj (by omega) ?_; refine qQ ?_; refine jj (by omega) ?_; refine qQ ?_)
    refine qY (Mo (by omega) H3 (ze O) W.read2 (by omega)) ?_
    rintro _ h6 ⟨rfl, H6⟩
    with_reducible (refine qx rfl ?_; refine qx rfl ?_)
    exact qW ⟨rfl, H6⟩
   ·rw [if_neg h5]
    with_reducible (refine jj (by omega) ?_; refine qQ ?_; refine jk (by omega) ?_; refine qV ?_)
    refine qY (Mr (by omega) H3 (ze O) (by omega) hw.1) ?_
    rintro _ h6 ⟨rfl, H6⟩
    with_reducible (refine qx rfl ?_; refine qx rfl ?_)
    exact qW ⟨rfl, H6⟩
  ·rw [if_neg h4]
   with_reducible (refine jk (by omega) ?_; refine qV ?_)
   exact qW ⟨rfl, H3⟩
end Go.Proofs.YtdlfmpmpmkffjaaGreatDoor
namespace Go.Proofs.YtdlfmpmpmkffjaaGreatDoor
open Go Go.Ae
set_option maxRecDepth 100000
variable {g h : AH} {L R : List SP}
theorem Qa {n : Nat} (hn : 1 ≤ n) {x : Int} : wp (callT tab qA n (.fn 215 [] []) [.int .i64 x] h) fun v h' => v = .int .i64 (xY x) ∧ h' = h := by
 (refine qP (g := (tD1 S215)) rfl (by omega) fun k hk => ?_; show wp (S215 (callT tab qA k) _ _).1 _; unfold S215; try simp only [ Int.ofNat_eq_natCast])
 repeat' (first | with_reducible refine qV ?_ | with_reducible refine qQ ?_ | (with_reducible refine qR ?_; try dsimp only) | (with_reducible refine qS ?_; try dsimp only) | (with_reducible refine qO ?_; try dsimp only) | (with_reducible refine qB ?_; try dsimp only) | (with_reducible refine jW ?_; try dsimp only) | with_reducible refine qC ?_ | with_reducible refine qv ?_ | (with_reducible refine qX ?_; try dsimp only) | with_reducible refine qj ?_ | with_reducible refine qo ?_ | with_reducible refine jq ?_ | with_reducible refine qD (by omega) ?_ | with_reducible refine qb (by omega) ?_ | with_reducible refine zk (by omega) ?_ | with_reducible refine zy (by omega) ?_ | with_reducible refine zx ?_ | with_reducible refine zg ?_ | with_reducible refine jA (fun hc => ?_) (fun hc => ?_) | with_reducible refine xg (fun hc => ?_) (fun hc => ?_) | with_reducible refine zi (fun hc => ?_) (fun hc => ?_) | with_reducible refine xW (fun hc => ?_) (fun hc => ?_) | with_reducible refine xG (fun hc => ?_) (fun hc => ?_) | with_reducible refine zA (fun hc => ?_) (fun hc => ?_) | with_reducible refine xZ (fun hc => ?_) (fun hc => ?_))
 ·refine qW ⟨?_, rfl⟩
  unfold xY; congr 1; repeat' split <;> omega
 ·refine qW ⟨?_, rfl⟩
  unfold xY; congr 1; repeat' split <;> omega
 ·refine zW (by omega) (Ge (by omega) ?_)
  refine qW ⟨?_, rfl⟩
  rcases (show x = 1 ∨ x = 2 ∨ x = 3 ∨ x = 4 by omega) with rfl | rfl | rfl | rfl <;> rfl
theorem NC {n : Nat} (hn : 2 ≤ n) {x : Int} : wp (callT tab qA n (.fn 212 [] []) [.int .i64 x] h) fun v h' => v = .int .i64 (jg x) ∧ h' = h := by
 (refine qP (g := (tD1 S212)) rfl (by omega) fun k hk => ?_; show wp (S212 (callT tab qA k) _ _).1 _; unfold S212; try simp only [ Int.ofNat_eq_natCast])
 repeat' (first | with_reducible refine qV ?_ | with_reducible refine qQ ?_ | (with_reducible refine qR ?_; try dsimp only) | (with_reducible refine qS ?_; try dsimp only) | (with_reducible refine qO ?_; try dsimp only) | (with_reducible refine qB ?_; try dsimp only) | (with_reducible refine jW ?_; try dsimp only) | with_reducible refine qC ?_ | with_reducible refine qv ?_ | (with_reducible refine qX ?_; try dsimp only) | with_reducible refine qj ?_ | with_reducible refine qo ?_ | with_reducible refine jq ?_ | with_reducible refine qD (by omega) ?_ | with_reducible refine qb (by omega) ?_ | with_reducible refine zk (by omega) ?_ | with_reducible refine zy (by omega) ?_ | with_reducible refine zx ?_ | with_reducible refine zg ?_ | with_reducible refine jA (fun hc => ?_) (fun hc => ?_) | with_reducible refine xg (fun hc => ?_) (fun hc => ?_) | with_reducible refine zi (fun hc => ?_) (fun hc => ?_) | with_reducible refine xW (fun hc => ?_) (fun hc => ?_) | with_reducible refine xG (fun hc => ?_) (fun hc => ?_) | with_reducible refine zA (fun hc => ?_) (fun hc => ?_) | with_reducible refine xZ (fun hc => ?_) (fun hc => ?_))
 ·refine qW ⟨?_, rfl⟩
  unfold jg; congr 1; repeat' split <;> omega
 ·refine qW ⟨?_, rfl⟩
  unfold jg; congr 1; repeat' split <;> omega
 ·refine jz (fun m s g => ∃ i : Int, s = (.int .i64 i, .int .i64 x, ()) ∧ 1 ≤ i ∧ i ≤ 4 ∧ (m : Int) = 4 - i ∧ g = h ∧ (1 < i → 2 < x) ∧ (2 < i → 4 < x) ∧ (3 < i → 8 < x)) ?_ (m := 3) (by decide) ⟨1, rfl, by omega, by omega, by omega, rfl, by omega, by omega, by omega⟩
  rintro m ih s g hih ⟨i, rfl, h1, h2, h3, rfl, h4, h5, h6⟩
  dsimp only
  refine qY (Qa (by omega)) ?_
  rintro v g' ⟨rfl, rfl⟩
  repeat' (first | with_reducible refine qV ?_ | with_reducible refine qQ ?_ | (with_reducible refine qR ?_; try dsimp only) | (with_reducible refine qS ?_; try dsimp only) | (with_reducible refine qO ?_; try dsimp only) | (with_reducible refine qB ?_; try dsimp only) | (with_reducible refine jW ?_; try dsimp only) | with_reducible refine qC ?_ | with_reducible refine qv ?_ | (with_reducible refine qX ?_; try dsimp only) | with_reducible refine qj ?_ | with_reducible refine qo ?_ | with_reducible refine jq ?_ | with_reducible refine qD (by omega) ?_ | with_reducible refine qb (by omega) ?_ | with_reducible refine zk (by omega) ?_ | with_reducible refine zy (by omega) ?_ | with_reducible refine zx ?_ | with_reducible refine zg ?_ | with_reducible refine jA (fun hc => ?_) (fun hc => ?_) | with_reducible refine xg (fun hc => ?_) (fun hc => ?_) | with_reducible refine zi (fun hc => ?_) (fun hc => ?_) | with_reducible refine xW (fun hc => ?_) (fun hc => ?_) | with_reducible refine xG (fun hc => ?_) (fun hc => ?_) | with_reducible refine zA (fun hc => ?_) (fun hc => ?_) | with_reducible refine xZ (fun hc => ?_) (fun hc => ?_))
  ·refine hih (m - 1) _ _ ?_ ⟨i + 1, rfl, by omega, ?_, ?_, rfl, ?_, ?_, ?_⟩ <;> (unfold xY at *; repeat' split at * <;> omega)
  ·refine qW ⟨?_, rfl⟩
   unfold xY at *; unfold jg; congr 1; repeat' split <;> omega
theorem Yq {n : Nat} (hn : 1 ≤ n) {w : Int} (hw : 0 ≤ w) : wp (callT tab qA n (.fn 213 [] []) [.int .u64 w] h) fun v h' => v = .int .i64 (if 2147483648 ≤ w then -1 else w) ∧ h' = h := by
 (refine qP (g := (tD1 S213)) rfl (by omega) fun k hk => ?_; show wp (S213 (callT tab qA k) _ _).1 _; unfold S213; try simp only [ Int.ofNat_eq_natCast])
 by_cases h1 : 2147483648 ≤ w
 ·rw [if_pos h1]
  with_reducible (refine jV (by omega) ?_; refine qV ?_)
  exact qW ⟨rfl, rfl⟩
 ·rw [if_neg h1]
  with_reducible (refine jQ (by omega) ?_; refine qQ ?_; refine jI (by omega) ?_)
  exact qW ⟨rfl, rfl⟩
def gE (w m : Int) : Int := if 1 + m ≤ w ∧ w ≤ 4 + m then w - m else 0
def M8 (M : VM) (b m : Int) : (Int × Int) × VM :=
 if b ≤ 14 ∨ M.sz ≤ b then ((0, 2), M) else
 if (qT M (b - 1)).1.2 = 0 then
  (if gE (qT M (b - 1)).1.1 m = 0 then ((0, 2), (qT M (b - 1)).2) else ((gE (qT M (b - 1)).1.1 m, 0), (qT M (b - 1)).2))
 else ((0, (qT M (b - 1)).1.2), (qT M (b - 1)).2)
theorem U3 {n : Nat} (hn : 4 ≤ n) {o : Nat} {M : VM} {b m : Int} (H : HS g h (RvC o M :: R)) (O : OkV M) (W : WdV M) (hm : 0 ≤ m ∧ m ≤ 8) :
  wp (callT tab qA n (.fn 216 [] []) [.ptr o 0, .int .i64 b, .int .i64 m] h) fun r h' => r = .tup [.int .i64 (M8 M b m).1.1, .int .i64 (M8 M b m).1.2] ∧ HS g h' (RvC o (M8 M b m).2 :: R) := by
 (refine qP (g := (tD3 S216)) rfl (by omega) fun k hk => ?_; show wp (S216 (callT tab qA k) _ _ _ _).1 _; unfold S216; try simp only [ Int.ofNat_eq_natCast])
 have hO := O.hi
 unfold M8
 by_cases h1 : b ≤ 14
 ·rw [if_pos (.inl h1)]
  with_reducible (refine z7 (by omega) ?_; refine qX ?_; (try dsimp only); refine qS ?_; (try dsimp only); refine qC ?_; refine qV ?_)
  exact qW ⟨rfl, H⟩
 ·have hH := H
  obtain ⟨kv, q, H⟩ := RvC.E H
  by_cases h2 : (M.sz : Int) ≤ b
  ·rw [if_pos (.inr h2)]
   with_reducible (refine z6 (by omega) ?_; refine qX ?_; (try dsimp only); refine qB ?_; (try dsimp only); refine qq ?_; refine qJ ?_; refine qG (by assumption) .here rfl ?_; refine jV (by omega) ?_; refine qv ?_; refine qV ?_)
   exact qW ⟨rfl, hH⟩
  ·rw [if_neg (by omega)]
   with_reducible (refine z6 (by omega) ?_; refine qX ?_; (try dsimp only); refine qB ?_; (try dsimp only); refine qq ?_; refine qJ ?_; refine qG (by assumption) .here rfl ?_; refine jQ (by omega) ?_; refine qv ?_; refine qQ ?_; refine qb (by omega) ?_)
   refine qY (gG (by omega) hH O) ?_
   rintro _ h3 ⟨rfl, H3⟩
   simp only [show ((1 : Nat) : Int) = 1 from rfl] at H3 ⊢
   have hw := W.read (p := b - 1)
   generalize (qT M (b - 1)).1.1 = w at *
   with_reducible (refine qx rfl ?_; refine qx rfl ?_)
   by_cases h4 : (qT M (b - 1)).1.2 = 0
   ·rw [if_pos h4]
    with_reducible (refine jj (by omega) ?_; refine qQ ?_)
    refine jz (fun k s g' => ∃ i : Int, s = (.int .i64 i, .int .u64 w, .int .i64 m, ()) ∧ 1 ≤ i ∧ i ≤ 5 ∧ (k : Int) = 5 - i ∧ HS g g' (RvC o (qT M (b - 1)).2 :: R) ∧ (w < 1 + m ∨ i + m ≤ w)) ?_ (m := 4) (by decide) ⟨1, rfl, by omega, by omega, by omega, H3, by omega⟩
    clear H3
    rintro k2 ih s g' hih ⟨i, rfl, h1, h2, h3, H3, h5⟩
    dsimp only
    simp only [show ((4 : Nat) : Int) = 4 from rfl, show ((1 : Nat) : Int) = 1 from rfl]
    refine xg (fun h6 => qV ?_) fun h6 => qQ (qj (qW ?_))
    ·refine qD (by omega) (zW (by omega) (xG (fun h7 => qV (qj (qW ?_))) fun h7 => qQ (qD (by omega) (hih (k2 - 1) _ _ (by omega) ⟨i + 1, rfl, by omega, by omega, by omega, H3, by omega⟩))))
     have hma : gE w m = i := by unfold gE; rw [if_pos (by omega)]; omega
     rw [hma, if_neg (by omega)]
     exact ⟨rfl, H3⟩
    ·have hma : gE w m = 0 := by unfold gE; rw [if_neg (by omega)]
     rw [hma, if_pos rfl]
     exact ⟨rfl, H3⟩
   ·rw [if_neg h4]
    with_reducible (refine jk (by omega) ?_; refine qV ?_)
    exact qW ⟨rfl, H3⟩
theorem Xg (w : Int) : (xz w).1 = 0 ∨ (xz w).2 = true → gE w 0 = 0 := by
 unfold xz gE
 intro h
 split at h
 ·rcases h with h | h
  ·dsimp only at h; omega
  ·cases h
 ·rw [if_neg (by omega)]
theorem Ug (w : Int) : ¬ (xz w).1 = 0 → (xz w).2 = false → gE w 0 = (xz w).1 := by
 unfold xz gE
 intro h1 h2
 split at h2
 ·rename_i hc
  rw [if_pos (by omega), if_pos hc]; dsimp only; omega
 ·split at h2
  ·cases h2
  ·rename_i hc hd
   rw [if_neg hc, if_neg hd] at h1; exact absurd rfl h1
theorem Xo (w : Int) : (xz w).1 = 0 ∨ (xz w).2 = false → gE w 8 = 0 := by
 unfold xz gE
 intro h
 split at h
 ·rw [if_neg (by omega)]
 ·split at h
  ·rcases h with h | h
   ·dsimp only at h; omega
   ·cases h
  ·rw [if_neg (by omega)]
theorem Uf (w : Int) : ¬ (xz w).1 = 0 → (xz w).2 = true → gE w 8 = (xz w).1 := by
 unfold xz gE
 intro h1 h2
 split at h2
 ·cases h2
 ·split at h2
  ·rename_i hc hd
   rw [if_pos (by omega), if_neg hc, if_pos hd]
  ·cases h2
theorem qZf {M : VM} {b m : Int} (hm : m = 0 ∨ m = 8) : M8 M b m =
  (if (zv M b).1.2.2 = 0 then (if (zv M b).1.2.1 = (decide (m = 8)) then (((zv M b).1.1, 0), (zv M b).2) else ((0, 2), (zv M b).2)) else ((0, (zv M b).1.2.2), (zv M b).2)) := by
 unfold M8 zv
 split
 ·rfl
 ·split
  ·generalize (qT M (b - 1)).1.1 = w
   rcases hm with rfl | rfl
   ·by_cases h1 : (xz w).1 = 0
    ·rw [Xg w (.inl h1), if_pos rfl, if_pos h1]; rfl
    ·cases h2 : (xz w).2
     ·rw [Ug w h1 h2, if_neg h1, if_neg h1]; rfl
     ·rw [Xg w (.inr h2), if_pos rfl, if_neg h1]; rfl
   ·by_cases h1 : (xz w).1 = 0
    ·rw [Xo w (.inl h1), if_pos rfl, if_pos h1]; rfl
    ·cases h2 : (xz w).2
     ·rw [Xo w (.inr h2), if_pos rfl, if_neg h1]; rfl
     ·rw [Uf w h1 h2, if_neg h1, if_neg h1]; rfl
  ·rename_i h1
   first | rfl | (rw [if_neg h1])
theorem qQB {n : Nat} (hn : 6 ≤ n) {o : Nat} {M : VM} {b : Int} (H : HS g h (RvC o M :: R)) (O : OkV M) (W : WdV M) :
  wp (callT tab qA n (.fn 146 [] []) [.ptr o 0, .int .i64 b] h) fun r h' => r = .int .i64 (ve M b).1 ∧ HS g h' (RvC o (ve M b).2 :: R) := by
 (refine qP (g := (tD2 S146)) rfl (by omega) fun k hk => ?_; show wp (S146 (callT tab qA k) _ _ _).1 _; unfold S146; try simp only [ Int.ofNat_eq_natCast])
 refine qY (U3 (by omega) H O W (by omega)) ?_
 rintro _ h1 ⟨rfl, H1⟩
 have hb := VT M b
 have hO := QR (b := b) O
 have hhi := O.hi
 rw [show ((8 : Nat) : Int) = 8 from rfl] at H1 ⊢
 rw [qZf (.inr rfl)] at H1 ⊢
 unfold ve
 with_reducible (refine qx rfl ?_; refine qx rfl ?_)
 by_cases h2 : (zv M b).1.2.2 = 0
 ·rw [if_pos h2] at H1 ⊢
  rw [if_pos h2]
  cases h3 : (zv M b).1.2.1
  ·rw [h3] at H1
   skip
   exact qW ⟨rfl, H1⟩
  ·rw [h3] at H1
   simp only [decide_true, if_true] at H1 ⊢
   with_reducible (refine jj (by omega) ?_; refine qQ ?_; refine qb (by omega) ?_; refine zW (by omega) ?_; refine qF rfl ?_)
   simp only [show ((1 : Nat) : Int) = 1 from rfl]
   refine (qf (n := 1) (l := [.int .i64 (b - 1), .int .u64 (zv M b).1.1]) (sz := 2) H1 rfl rfl rfl rfl fun v3 h3 H3 => ?_)
   refine qY (JU (cs := [(b - 1, (zv M b).1.1)]) (by omega) (H3.sel e_1) hO (.own .here) (by simp)) ?_
   rintro _ h4 ⟨rfl, H4⟩
   by_cases h5 : (jU (zv M b).2 [(b - 1, (zv M b).1.1)]).1 = 0
   ·rw [if_pos h5]
    obtain ⟨kv, q, H5⟩ := RvC.E H4
    with_reducible (refine jj (by omega) ?_; refine qQ ?_; refine qq ?_; refine qJ ?_; refine qG (by assumption) .here rfl ?_)
    refine qY (OY (by omega) (H5.sel e_2) (JQ hO).lvs fun x hx => Nat.lt_trans ((JQ hO).fr x hx) (by omega)) ?_
    intro _ h6 H6
    exact qW ⟨rfl, RvC.I (M := freeV (jU (zv M b).2 [(b - 1, (zv M b).1.1)]).2 b) (kv := kv) (q := q) (H6.sub (.cons e_1 (.cons e_1 (.cons .here (.drop (.refl))))))⟩
   ·rw [if_neg h5]
    with_reducible (refine jk (by omega) ?_; refine qV ?_)
    exact qW ⟨rfl, H4.sub (.cons .here (.drop (.refl)))⟩
 ·rw [if_neg h2] at H1 ⊢
  rw [if_neg h2]
  with_reducible (refine jk (by omega) ?_; refine qV ?_)
  exact qW ⟨rfl, H1⟩
theorem OJ {n : Nat} (hn : 7 ≤ n) {o : Nat} {M : VM} {x : Int} (H : HS g h (RvC o M :: R)) (O : OkV M) (W : WdV M) :
  wp (callT tab qA n (.fn 145 [] []) [.ptr o 0, .int .i64 x] h) fun r h' => r = .tup [.int .i64 (zM M x).1.1, .int .i64 (zM M x).1.2] ∧ HS g h' (RvC o (zM M x).2 :: R) := by
 (refine qP (g := (tD2 S145)) rfl (by omega) fun k hk => ?_; show wp (S145 (callT tab qA k) _ _ _).1 _; unfold S145; try simp only [ Int.ofNat_eq_natCast])
 refine qY (NC (by omega)) ?_
 rintro _ _ ⟨rfl, rfl⟩
 have hc := Xf x
 unfold zM
 by_cases h1 : jg x = 0
 ·rw [if_pos h1]
  with_reducible (refine qy (by omega) ?_; refine qV ?_)
  exact qW ⟨rfl, H⟩
 ·rw [if_neg h1]
  with_reducible (refine qK (by omega) ?_; refine qQ ?_; refine qD (by omega) ?_; refine qb (by omega) ?_)
  rw [show ((1 : Nat) : Int) + jg x - ((1 : Nat) : Int) = jg x by omega]
  refine qY (gG (by omega) H O) ?_
  rintro _ h3 ⟨rfl, H3⟩
  have hw := W.read (p := jg x)
  have hO1 := ze (p := jg x) O
  have W1 := W.read2 (p := jg x)
  with_reducible (refine qx rfl ?_; refine qx rfl ?_)
  by_cases h4 : (qT M (jg x)).1.2 = 0
  ·rw [if_pos h4]
   generalize (qT M (jg x)).2 = M1 at *
   generalize (qT M (jg x)).1.1 = b at *
   with_reducible (refine jj (by omega) ?_; refine qQ ?_; refine qD (by omega) ?_; refine zW (by omega) ?_)
   by_cases h5 : b = 0
   ·rw [if_pos h5]
    with_reducible (refine jj (by omega) ?_; refine qQ ?_)
    have hhi := hO1.hi
    have hs := J2 (jg x)
    have hsz : (qT M1 5).2.sz = M1.sz := Ua
    have hw5 := W1.read (p := 5)
    unfold yy
    refine qY (gG (by omega) H3 hO1) ?_
    rintro _ h6 ⟨rfl, H6⟩
    simp only [show ((5 : Nat) : Int) = 5 from rfl] at H6 ⊢
    with_reducible (refine qx rfl ?_; refine qx rfl ?_)
    by_cases h6 : (qT M1 5).1.2 = 0
    ·rw [if_pos h6]
     with_reducible (refine jj (by omega) ?_; refine qQ ?_)
     refine qY (Yq (by omega) hw5.1) ?_
     rintro _ _ ⟨rfl, rfl⟩
     have hO5 := ze (p := 5) hO1
     by_cases h7 : (qT M1 5).1.1 < 14 ∨ 2147483648 ≤ (qT M1 5).1.1 ∨ (M1.sz : Int) < (qT M1 5).1.1 + 1 + xY (jg x)
     ·rw [if_pos h7]
      by_cases h8 : 2147483648 ≤ (qT M1 5).1.1
      ·rw [if_pos h8]
       with_reducible (refine qX ?_; (try dsimp only); refine jC (by omega) ?_; refine qS ?_; (try dsimp only); refine qC ?_; refine qV ?_)
       exact qW ⟨rfl, H6⟩
      ·rw [if_neg h8]
       by_cases h9 : (qT M1 5).1.1 < 14
       ·with_reducible (refine qX ?_; (try dsimp only); refine jC (by omega) ?_; refine qS ?_; (try dsimp only); refine qC ?_; refine qV ?_)
        exact qW ⟨rfl, H6⟩
       ·with_reducible (refine qX ?_; (try dsimp only); refine jv (by omega) ?_; refine qB ?_; (try dsimp only); refine qD (by omega) ?_)
        refine qY (Qa (by omega)) ?_
        rintro _ _ ⟨rfl, rfl⟩
        have hH := H6
        obtain ⟨kv, q, H7⟩ := RvC.E H6
        rw [hsz] at H7
        with_reducible (refine qD (by omega) ?_; refine qq ?_; refine qJ ?_; refine qG (by assumption) .here rfl ?_; refine jl (by omega) ?_; refine qv ?_; refine jc (by assumption) .here rfl (by assumption) .here rfl (HS.lt (by assumption) .here) ?_; refine qV ?_)
        exact qW ⟨rfl, hH⟩
     ·rw [if_neg h7, if_neg (by omega)]
      with_reducible (refine qX ?_; (try dsimp only); refine jv (by omega) ?_; refine qB ?_; (try dsimp only); refine qD (by omega) ?_)
      refine qY (Qa (by omega)) ?_
      rintro _ _ ⟨rfl, rfl⟩
      obtain ⟨kv, q, H7⟩ := RvC.E H6
      rw [hsz] at H7
      with_reducible (refine qD (by omega) ?_; refine qq ?_; refine qJ ?_; refine qG (by assumption) .here rfl ?_; refine ja (by omega) ?_; refine qv ?_; refine jc (by assumption) .here rfl (by assumption) .here rfl (HS.lt (by assumption) .here) ?_; refine qQ ?_; refine qD (by omega) ?_)
      refine qY (Qa (by omega)) ?_
      rintro _ _ ⟨rfl, rfl⟩
      clear H7
      with_reducible (refine qD (by omega) ?_; refine zW (by omega) ?_; refine qF rfl ?_; refine qF rfl ?_)
      refine qf (n := 2) (l := [.int .i64 5, .int .u64 ((qT M1 5).1.1 + 1 + xY (jg x)), .int .i64 (qT M1 5).1.1, .int .u64 (jg x + 8)]) (sz := 2) H6 rfl rfl rfl rfl fun v5 h5 H5 => ?_
      refine qY (JU (cs := [(5, (qT M1 5).1.1 + 1 + xY (jg x)), ((qT M1 5).1.1, jg x + 8)]) (by omega) (H5.sel e_1) hO5 (.own .here) (by simp)) ?_
      rintro _ h6 ⟨rfl, H6⟩
      by_cases h7 : (jU (qT M1 5).2 [(5, (qT M1 5).1.1 + 1 + xY (jg x)), ((qT M1 5).1.1, jg x + 8)]).1 = 0
      ·rw [if_pos h7]
       with_reducible (refine jj (by omega) ?_; refine qQ ?_; refine qD (by omega) ?_)
       exact qW ⟨rfl, H6.sub (.cons .here (.drop (.refl)))⟩
      ·rw [if_neg h7]
       with_reducible (refine jk (by omega) ?_; refine qV ?_)
       exact qW ⟨rfl, H6.sub (.cons .here (.drop (.refl)))⟩
    ·rw [if_neg h6]
     with_reducible (refine jk (by omega) ?_; refine qV ?_)
     exact qW ⟨rfl, H6⟩
   ·rw [if_neg h5]
    with_reducible (refine jk (by omega) ?_; refine qV ?_)
    refine qY (Yq (by omega) hw.1) ?_
    rintro _ _ ⟨rfl, rfl⟩
    unfold yA
    by_cases h6 : 2147483648 ≤ b
    ·rw [if_pos h6, if_pos h6]
     refine qY (gG (by omega) H3 hO1) ?_
     rintro _ h7 ⟨rfl, H7⟩
     have hr : qT M1 (-1) = ((0, 2), M1) := by unfold qT; rw [if_neg (by omega)]
     rw [hr] at H7 ⊢
     with_reducible (refine qx rfl ?_; refine qx rfl ?_)
     exact qW ⟨rfl, H7⟩
    ·rw [if_neg h6, if_neg h6]
     refine qY (gG (by omega) H3 hO1) ?_
     rintro _ h7 ⟨rfl, H7⟩
     with_reducible (refine qx rfl ?_; refine qx rfl ?_)
     by_cases h8 : (qT M1 b).1.2 = 0
     ·rw [if_pos h8]
      with_reducible (refine jj (by omega) ?_; refine qQ ?_; refine qF rfl ?_; refine qb (by omega) ?_; refine qF rfl ?_)
      simp only [show ((1 : Nat) : Int) = 1 from rfl]
      refine qf (n := 2) (l := [.int .i64 (jg x), .int .u64 (qT M1 b).1.1, .int .i64 (b - 1), .int .u64 (jg x + 8)]) (sz := 2) H7 rfl rfl rfl rfl fun v5 h5 H5 => ?_
      refine qY (JU (cs := [(jg x, (qT M1 b).1.1), (b - 1, jg x + 8)]) (by omega) (H5.sel e_1) (ze hO1) (.own .here) (by simp)) ?_
      rintro _ h6 ⟨rfl, H6⟩
      by_cases h7 : (jU (qT M1 b).2 [(jg x, (qT M1 b).1.1), (b - 1, jg x + 8)]).1 = 0
      ·rw [if_pos h7]
       with_reducible (refine jj (by omega) ?_; refine qQ ?_)
       exact qW ⟨rfl, H6.sub (.cons .here (.drop (.refl)))⟩
      ·rw [if_neg h7]
       with_reducible (refine jk (by omega) ?_; refine qV ?_)
       exact qW ⟨rfl, H6.sub (.cons .here (.drop (.refl)))⟩
     ·rw [if_neg h8]
      with_reducible (refine jk (by omega) ?_; refine qV ?_)
      exact qW ⟨rfl, H7⟩
  ·rw [if_neg h4]
   with_reducible (refine jk (by omega) ?_; refine qV ?_)
   exact qW ⟨rfl, H3⟩
end Go.Proofs.YtdlfmpmpmkffjaaGreatDoor
namespace Go.Proofs.YtdlfmpmpmkffjaaGreatDoor
open Go Go.Ae
set_option maxRecDepth 100000
def jd (x lo hi : Int) : Int := lo + (if x.tmod (hi - lo + 1) < 0 then x.tmod (hi - lo + 1) + (hi - lo + 1) else x.tmod (hi - lo + 1))
theorem kV (x : Int) {m : Int} (hm : 0 < m) : -m < x.tmod m ∧ x.tmod m < m := by
 refine ⟨?_, Int.tmod_lt_of_pos x hm⟩
 have := Int.tmod_lt_of_pos (-x) hm
 rw [Int.neg_tmod] at this
 omega
theorem jo (x : Int) {lo hi : Int} (h : lo ≤ hi) : lo ≤ jd x lo hi ∧ jd x lo hi ≤ hi := by
 have := kV x (show 0 < hi - lo + 1 by omega)
 unfold jd
 split <;> omega
theorem yF {n : Nat} (hn : 1 ≤ n) {x lo hi : Int} {h : AH} (h1 : lo ≤ hi) (h2 : -1000000000 ≤ lo) (h3 : hi ≤ 1000000000) :
  wp (callT tab qA n (.fn 56 [] []) [.int .i64 x, .int .i64 lo, .int .i64 hi] h) fun v h' => v = .int .i64 (jd x lo hi) ∧ h' = h := by
 (refine qP (g := (tD3 S56)) rfl (by omega) fun k hk => ?_; show wp (S56 (callT tab qA k) _ _ _ _).1 _; unfold S56; try simp only [ Int.ofNat_eq_natCast])
 simp only [show ((1 : Nat) : Int) = 1 from rfl, show ((0 : Nat) : Int) = 0 from rfl]
 have hb := kV x (show 0 < hi - lo + 1 by omega)
 unfold jd
 repeat' (first | (first | with_reducible refine qV ?_ | with_reducible refine qQ ?_ | (with_reducible refine qR ?_; try dsimp only) | (with_reducible refine qS ?_; try dsimp only) | (with_reducible refine qO ?_; try dsimp only) | (with_reducible refine qB ?_; try dsimp only) | (with_reducible refine jW ?_; try dsimp only) | with_reducible refine qC ?_ | with_reducible refine qv ?_ | (with_reducible refine qX ?_; try dsimp only) | with_reducible refine qj ?_ | with_reducible refine qo ?_ | with_reducible refine jq ?_ | with_reducible refine qD (by omega) ?_ | with_reducible refine qb (by omega) ?_ | with_reducible refine zk (by omega) ?_ | with_reducible refine zy (by omega) ?_ | with_reducible refine zx ?_ | with_reducible refine zg ?_) | with_reducible refine gd (by omega) ?_ | (first | with_reducible refine jA (fun hc => ?_) (fun hc => ?_) | with_reducible refine xg (fun hc => ?_) (fun hc => ?_) | with_reducible refine zi (fun hc => ?_) (fun hc => ?_) | with_reducible refine xW (fun hc => ?_) (fun hc => ?_) | with_reducible refine xG (fun hc => ?_) (fun hc => ?_) | with_reducible refine zA (fun hc => ?_) (fun hc => ?_) | with_reducible refine xZ (fun hc => ?_) (fun hc => ?_)))
 all_goals refine qW ⟨?_, rfl⟩
 all_goals congr 1
 all_goals (first | rw [if_pos (by omega)] | rw [if_neg (by omega)])
 all_goals omega
end Go.Proofs.YtdlfmpmpmkffjaaGreatDoor
namespace Go.Proofs.YtdlfmpmpmkffjaaGreatDoor
open Go Go.Ae
set_option maxRecDepth 100000
theorem O1 {D1 D2 : Nat → Prop} {n p q : Nat} (hn : 1 ≤ n) {a b : AV} {xs ys : List Int} {h : AH} (S1 : Sl D1 h 1 p a (xs.map (.int .i64))) (S2 : Sl D2 h 1 q b (ys.map (.int .i64))) (hp : p < 1000000000) :
  wp (callT tab qA n (.fn 32 [] []) [a, b] h) fun v h' => v = .bool (decide (xs = ys)) ∧ h' = h := by
 have hxl : xs.length = p := by simpa using S1.len
 have hyl : ys.length = q := by simpa using S2.len
 (refine qP (g := (tD2 S32)) rfl (by omega) fun k hk => ?_; show wp (S32 (callT tab qA k) _ _ _).1 _; unfold S32; try simp only [ Int.ofNat_eq_natCast])
 refine jb S1 (jb S2 (zA (fun hne => ?_) fun heq => ?_))
 ·refine qV (qW ⟨?_, rfl⟩)
  rw [decide_eq_false]
  rintro rfl
  exact hne (by omega)
 ·refine qQ (jz (fun m s g => ∃ i : Nat, s = (.int .i64 (i : Int), b, a, ()) ∧ i ≤ p ∧ m = p - i ∧ g = h ∧ xs.take i = ys.take i) ?_ (m := p) (by show p < 1000000000; omega) ⟨0, rfl, by omega, by omega, rfl, rfl⟩)
  rintro m ih s g hih ⟨i, rfl, h1, rfl, rfl, h2⟩
  dsimp only
  refine jb S1 (jA (fun hlt => qV ?_) fun hge => qQ (qj (qW ⟨?_, rfl⟩)))
  ·have hi : i < p := by omega
   refine jF S1 (x := .int .i64 xs[i]) (by rw [List.getElem?_map, List.getElem?_eq_getElem (by omega)]; rfl) ?_
   refine jF S2 (x := .int .i64 ys[i]) (by rw [List.getElem?_map, List.getElem?_eq_getElem (by omega)]; rfl) ?_
   refine zA (fun hne => qV (qj (qW ⟨?_, rfl⟩))) fun he => qQ (qD (by omega) ?_)
   ·rw [decide_eq_false]
    rintro rfl
    exact hne rfl
   ·refine hih (p - (i + 1)) _ _ (by omega) ⟨i + 1, rfl, by omega, rfl, rfl, ?_⟩
    rw [List.take_succ_eq_append_getElem (by omega), List.take_succ_eq_append_getElem (by omega), h2, he]
  ·rw [decide_eq_true]
   rw [List.take_of_length_le (by omega), List.take_of_length_le (by omega)] at h2
   exact h2
end Go.Proofs.YtdlfmpmpmkffjaaGreatDoor
namespace Go.Proofs.YtdlfmpmpmkffjaaGreatDoor
open Go Go.Ae
set_option maxRecDepth 100000
theorem Zz {D1 D2 : Nat → Prop} {n p q : Nat} (hn : 1 ≤ n) {a b : AV} {xs ys : List Int} {h : AH} (S1 : Sl D1 h 1 p a (xs.map (.int .u64))) (S2 : Sl D2 h 1 q b (ys.map (.int .u64))) (hp : p < 1000000000) :
  wp (callT tab qA n (.fn 46 [] []) [a, b] h) fun v h' => v = .bool (decide (xs = ys)) ∧ h' = h := by
 have hxl : xs.length = p := by simpa using S1.len
 have hyl : ys.length = q := by simpa using S2.len
 (refine qP (g := (tD2 S46)) rfl (by omega) fun k hk => ?_; show wp (S46 (callT tab qA k) _ _ _).1 _; unfold S46; try simp only [ Int.ofNat_eq_natCast])
 refine jb S1 (jb S2 (zA (fun hne => ?_) fun heq => ?_))
 ·refine qV (qW ⟨?_, rfl⟩)
  rw [decide_eq_false]
  rintro rfl
  exact hne (by omega)
 ·refine qQ (jz (fun m s g => ∃ i : Nat, s = (.int .i64 (i : Int), b, a, ()) ∧ i ≤ p ∧ m = p - i ∧ g = h ∧ xs.take i = ys.take i) ?_ (m := p) (by show p < 1000000000; omega) ⟨0, rfl, by omega, by omega, rfl, rfl⟩)
  rintro m ih s g hih ⟨i, rfl, h1, rfl, rfl, h2⟩
  dsimp only
  refine jb S1 (jA (fun hlt => qV ?_) fun hge => qQ (qj (qW ⟨?_, rfl⟩)))
  ·have hi : i < p := by omega
   refine jF S1 (x := .int .u64 xs[i]) (by rw [List.getElem?_map, List.getElem?_eq_getElem (by omega)]; rfl) ?_
   refine jF S2 (x := .int .u64 ys[i]) (by rw [List.getElem?_map, List.getElem?_eq_getElem (by omega)]; rfl) ?_
   refine zA (fun hne => qV (qj (qW ⟨?_, rfl⟩))) fun he => qQ (qD (by omega) ?_)
   ·rw [decide_eq_false]
    rintro rfl
    exact hne rfl
   ·refine hih (p - (i + 1)) _ _ (by omega) ⟨i + 1, rfl, by omega, rfl, rfl, ?_⟩
    rw [List.take_succ_eq_append_getElem (by omega), List.take_succ_eq_append_getElem (by omega), h2, he]
  ·rw [decide_eq_true]
   rw [List.take_of_length_le (by omega), List.take_of_length_le (by omega)] at h2
   exact h2
end Go.Proofs.YtdlfmpmpmkffjaaGreatDoor
namespace Go.Proofs.YtdlfmpmpmkffjaaGreatDoor
open Go Go.Ae
set_option maxRecDepth 100000
theorem qZC {l : List ES} {a b : List AV} {K : AV → Go.Ae.R} {Q : AV → AH → Prop} {neg : Bool} {p : Prop} [Decidable p] (e : zO l a b = some (decide p)) (h1 : p → wp (K (.bool (!neg))) Q) (h2 : ¬ p → wp (K (.bool neg)) Q) : wp (Ju l neg (.agg a) (.agg b) K) Q := by
 unfold Ju
 simp only [e, ob]
 by_cases h : p
 ·have := h1 h
  simpa [h] using this
 ·have := h2 h
  simpa [h] using this
theorem qJ5 (x y : Cl) : zO [.bas .int 0, .bas .int 1] (jJ x) (jJ y) = some (decide (x = y)) := by
 obtain ⟨a, b⟩ := x
 obtain ⟨a', b'⟩ := y
 show (bif ieq a a' then (bif ieq b b' then some true else some false) else some false) = _
 rw [kU, kU]
 by_cases h1 : a = a' <;> by_cases h2 : b = b' <;> simp [h1, h2]
theorem qQf {D1 D2 : Nat → Prop} {n p q : Nat} (hn : 1 ≤ n) {a b : AV} {xs ys : List Cl} {h : AH} (S1 : Sl D1 h 2 p a (xs.flatMap jJ)) (S2 : Sl D2 h 2 q b (ys.flatMap jJ)) (hp : p < 100000000) :
  wp (callT tab qA n (.fn 30 [] []) [a, b] h) fun v h' => v = .bool (decide (xs = ys)) ∧ h' = h := by
 have hxl : xs.length = p := by
  have := S1.len
  rw [xm (sz := 2) jJ (fun _ => rfl)] at this
  omega
 have hyl : ys.length = q := by
  have := S2.len
  rw [xm (sz := 2) jJ (fun _ => rfl)] at this
  omega
 (refine qP (g := W30) rfl (by omega) fun k hk => ?_; show wp (S30 (callT tab qA k) _ _ _) _; unfold S30; try simp only [iI, uU, Int.ofNat_eq_natCast])
 refine jb S1 (jb S2 (zA (fun hne => ?_) fun heq => ?_))
 ·refine qV (qW ⟨?_, rfl⟩)
  rw [decide_eq_false]
  rintro rfl
  exact hne (by omega)
 ·refine qQ (jz (fun m s g => ∃ i : Nat, s = (.int .i64 (i : Int), b, a, ()) ∧ i ≤ p ∧ m = p - i ∧ g = h ∧ xs.take i = ys.take i) ?_ (m := p) (by show p < 1000000000; omega) ⟨0, rfl, by omega, by omega, rfl, rfl⟩)
  rintro m ih s g hih ⟨i, rfl, h1, rfl, rfl, h2⟩
  dsimp only
  refine jb S1 (jA (fun hlt => qV ?_) fun hge => qQ (qj (qW ⟨?_, rfl⟩)))
  ·have hi : i < p := by omega
   refine zJ (l := jJ xs[i]) S1 hi (by omega) ?_ ?_
   ·rw [y9 (sz := 2) jJ (fun _ => rfl), List.drop_eq_getElem_cons (by omega), List.flatMap_cons]; rfl
   refine zJ (l := jJ ys[i]) S2 (by omega) (by omega) ?_ ?_
   ·rw [y9 (sz := 2) jJ (fun _ => rfl), List.drop_eq_getElem_cons (by omega), List.flatMap_cons]; rfl
   refine qZC (qJ5 _ _) (fun he => qQ (qD (by omega) ?_)) (fun hne => qV (qj (qW ⟨?_, rfl⟩)))
   ·refine hih (p - (i + 1)) _ _ (by omega) ⟨i + 1, rfl, by omega, rfl, rfl, ?_⟩
    rw [List.take_succ_eq_append_getElem (by omega), List.take_succ_eq_append_getElem (by omega), h2, he]
   ·rw [decide_eq_false]
    rintro rfl
    exact hne rfl
  ·rw [decide_eq_true]
   rw [List.take_of_length_le (by omega), List.take_of_length_le (by omega)] at h2
   exact h2
end Go.Proofs.YtdlfmpmpmkffjaaGreatDoor
namespace Go.Proofs.YtdlfmpmpmkffjaaGreatDoor
open Go Go.Ae
set_option maxRecDepth 100000
variable {g h : AH} {L R : List SP}
def AskP (M M' : VM) : Prop := M'.sz = M.sz ∧ M'.K = M.K ∧ M'.most = M.most ∧ (M'.need = M.need ∨ M'.lv = M.lv ∧ 1 ≤ M'.need ∧ M'.need < M.sz ∧ zR M'.need M.K = none)
theorem AskP.refl (M : VM) : AskP M M := ⟨rfl, rfl, rfl, .inl rfl⟩
theorem OF {M : VM} {p : Int} (h : (qT M p).1.2 = 0) : (qT M p).2 = M := by
 unfold qT at h ⊢
 split
 ·rename_i h1
  rw [if_pos h1] at h
  split
  ·rfl
  ·rename_i h2
   rw [h2] at h
   dsimp only at h ⊢
   split
   ·rfl
   ·rename_i h3
    rw [h3] at h
    cases h
 ·rfl
theorem frS_put {most : Nat} {lv : List LvM} {p v : Int} : frS (xH most lv p v).2 = frS lv := by
 cases lv with
 | nil => rfl
 | cons x r =>
  obtain ⟨c, hc⟩ := JM (most := most) (x := x) (r := r) (p := p) (v := v)
  rw [hc, yV, yV]
theorem N8 {most : Nat} {was : List LvM} : ∀ {cs : List Cl} {lv : List LvM}, frS lv = frS was → frS (xC most was lv cs).2 = frS was := by
 intro cs
 induction cs with
 | nil => intro lv h; exact h
 | cons c cs ih =>
  intro lv h
  rw [xl]
  split
  ·exact ih (frS_put.trans h)
  ·rfl
theorem vw {M : VM} {cs : List Cl} : frS (jU M cs).2.lv = frS M.lv := by
 unfold jU
 split
 ·exact N8 rfl
 ·rfl
theorem xw {M : VM} {p : Int} : frS (qT M p).2.lv = frS M.lv := by
 unfold qT
 repeat' split
 all_goals rfl
theorem Qm {M : VM} {b : Int} : frS (zv M b).2.lv = frS M.lv := by
 unfold zv
 repeat' split
 all_goals first | rfl | exact xw
theorem M0 {lv : List LvM} {b : Int} : frS (k8 lv b) ≤ frS lv + 1 := by
 cases lv with
 | nil => simp [k8]
 | cons x r =>
  show frS ((x.1, x.2 ++ [b]) :: r) ≤ _
  rw [yV, yV, List.length_append]; simp; omega
theorem qKc : ∀ {lv : List LvM} {x : LvM}, x ∈ lv → x.2.length ≤ frS lv := by
 intro l
 induction l with
 | nil => intro x hx; cases hx
 | cons y r ih =>
  intro x hx
  rw [yV]
  rcases List.mem_cons.1 hx with rfl | hx
  ·omega
  ·have := ih hx; omega
structure jT (M : VM) : Prop where
  ok : OkV M
  wd : WdV M
theorem jT.read {M : VM} {p : Int} (G : jT M) : jT (qT M p).2 := ⟨ze G.ok, G.wd.read2⟩
theorem jT.take {M : VM} {cs : List Cl} (G : jT M) (h : WdC cs) : jT (jU M cs).2 := ⟨JQ G.ok, G.wd.take h⟩
theorem jT.ask {M : VM} {b : Int} (G : jT M) : jT (zv M b).2 := ⟨QR G.ok, qXd G.wd⟩
theorem WdC.two {a b : Cl} (ha : 0 ≤ a.2 ∧ a.2 < 18446744073709551616) (hb : 0 ≤ b.2 ∧ b.2 < 18446744073709551616) : WdC [a, b] := by
 intro c hc
 rcases List.mem_cons.1 hc with rfl | hc
 ·exact ha
 ·rw [List.mem_singleton] at hc; subst hc; exact hb
theorem WdC.one1 {a : Cl} (ha : 0 ≤ a.2 ∧ a.2 < 18446744073709551616) : WdC [a] := by
 intro c hc
 rw [List.mem_singleton] at hc; subst hc; exact ha
theorem jT.freeV {M : VM} {b : Int} (G : jT M) (hf : frS M.lv < 90000) : jT (freeV M b) := by
 refine ⟨O5 G.ok fun x hx => by have := qKc hx; omega, G.wd.k, ?_⟩
 show ∀ x ∈ k8 M.lv b, ∀ c ∈ x.1, 0 ≤ c.2 ∧ c.2 < 18446744073709551616
 have := G.wd.l
 cases hl : M.lv with
 | nil => intro x hx; cases hx
 | cons y r =>
  rw [hl] at this
  intro x hx
  rcases List.mem_cons.1 hx with rfl | hx
  ·exact this y (List.mem_cons_self ..)
  ·exact this x (List.mem_cons_of_mem _ hx)
theorem jT.free {M : VM} {b : Int} (G : jT M) (hf : frS M.lv < 90000) : jT (ve M b).2 ∧ frS (ve M b).2.lv ≤ frS M.lv + 1 := by
 have hb := VT M b
 have hc : WdC [(b - 1, (zv M b).1.1)] := .one1 ⟨hb.1, by dsimp only; omega⟩
 unfold ve
 repeat' split
 ·refine ⟨(G.ask.take hc).freeV (by rw [vw, Qm]; exact hf), ?_⟩
  have := M0 (lv := (jU (zv M b).2 [(b - 1, (zv M b).1.1)]).2.lv) (b := b)
  rw [vw, Qm] at this
  exact this
 ·exact ⟨G.ask.take hc, by rw [vw, Qm]; omega⟩
 ·exact ⟨G.ask, by rw [Qm]; omega⟩
 ·exact ⟨G.ask, by rw [Qm]; omega⟩
theorem jT.again {M : VM} {c b : Int} (G : jT M) (hc : 0 ≤ c ∧ c ≤ 4) : jT (yA M c b).2 ∧ frS (yA M c b).2.lv = frS M.lv := by
 have ht : WdC [(c, (qT M b).1.1), (b - 1, c + 8)] := .two G.wd.read ⟨by dsimp only; omega, by dsimp only; omega⟩
 unfold yA
 repeat' split
 ·exact ⟨G, rfl⟩
 ·exact ⟨G.read.take ht, by rw [vw, xw]⟩
 ·exact ⟨G.read.take ht, by rw [vw, xw]⟩
 ·exact ⟨G.read, xw⟩
theorem jT.grown {M : VM} {c : Int} (G : jT M) (hc : 0 ≤ c ∧ c ≤ 4) : jT (yy M c).2 ∧ frS (yy M c).2.lv = frS M.lv := by
 have hs := J2 c
 have hw := G.wd.read (p := 5)
 unfold yy
 split
 ·split
  ·exact ⟨G.read, xw⟩
  ·rename_i h1
   have ht : WdC [(5, (qT M 5).1.1 + 1 + xY c), ((qT M 5).1.1, c + 8)] := .two ⟨by dsimp only; omega, by dsimp only; omega⟩ ⟨by dsimp only; omega, by dsimp only; omega⟩
   split
   ·exact ⟨G.read.take ht, by rw [vw, xw]⟩
   ·exact ⟨G.read.take ht, by rw [vw, xw]⟩
 ·exact ⟨G.read, xw⟩
theorem jT.alloc {M : VM} {x : Int} (G : jT M) : jT (zM M x).2 ∧ frS (zM M x).2.lv = frS M.lv := by
 have hc := Xf x
 unfold zM
 repeat' split
 ·exact ⟨G, rfl⟩
 ·exact ⟨(G.read.grown hc).1, by rw [(G.read.grown hc).2, xw]⟩
 ·exact ⟨(G.read.again hc).1, by rw [(G.read.again hc).2, xw]⟩
 ·exact ⟨G.read, xw⟩
theorem jT.openG {M : VM} (G : jT M) : jT (zp M).2 ∧ frS (zp M).2.lv = frS M.lv := by
 have e : (yY M.lv).2 = M.lv ∨ (yY M.lv).2 = ([], []) :: M.lv := by unfold yY; split <;> simp
 refine ⟨⟨⟨G.ok.lo, G.ok.hi, ZP G.ok.lvs, G.ok.ins, G.ok.un, ?_⟩, G.wd.k, ?_⟩, ?_⟩
 ·show ∀ x ∈ (yY M.lv).2, _
  rcases e with e | e
  ·rw [e]; exact G.ok.fr
  ·rw [e]; intro x hx
   rcases List.mem_cons.1 hx with rfl | hx
   ·simp
   ·exact G.ok.fr x hx
 ·show ∀ x ∈ (yY M.lv).2, _
  rcases e with e | e
  ·rw [e]; exact G.wd.l
  ·rw [e]; intro x hx
   rcases List.mem_cons.1 hx with rfl | hx
   ·intro c hc; cases hc
   ·exact G.wd.l x hx
 ·show frS (yY M.lv).2 = _
  rcases e with e | e
  ·rw [e]
  ·rw [e, yV]; simp
theorem jT.dropG {M : VM} (G : jT M) : jT (zK M).2 ∧ frS (zK M).2.lv ≤ frS M.lv := by
 have e : (vk M.lv).2 = M.lv ∨ (vk M.lv).2 = M.lv.tail := by unfold vk; split <;> simp
 have hs : ∀ x ∈ (vk M.lv).2, x ∈ M.lv := by
  rcases e with e | e
  ·rw [e]; exact fun x hx => hx
  ·rw [e]; exact fun x hx => List.mem_of_mem_tail hx
 refine ⟨⟨⟨G.ok.lo, G.ok.hi, qQ8 G.ok.lvs, G.ok.ins, G.ok.un, fun x hx => G.ok.fr x (hs x hx)⟩, G.wd.k, fun x hx => G.wd.l x (hs x hx)⟩, ?_⟩
 show frS (vk M.lv).2 ≤ _
 rcases e with e | e
 ·rw [e]; exact Nat.le_refl _
 ·rw [e]
  cases M.lv with
  | nil => exact Nat.le_refl _
  | cons x r => rw [yV]; show frS r ≤ _; omega
theorem jT.keepG {M : VM} (G : jT M) (hf : frS M.lv < 90000) : jT (yX M).2 ∧ frS (yX M).2.lv = frS M.lv := by
 have hd := Uz G.ok.lvs
 have hfr := fun x (hx : x ∈ (vU M.lv).2) => qKc hx
 obtain ⟨sz, K, most, lv, need⟩ := M
 rcases lv with _ | ⟨x, _ | ⟨y, r⟩⟩
 ·exact ⟨G, rfl⟩
 ·exact ⟨G, rfl⟩
 ·have e := frS_keep (x := x) (y := y) (r := r)
  refine ⟨⟨⟨G.ok.lo, G.ok.hi, hd, G.ok.ins, G.ok.un, fun z hz => ?_⟩, G.wd.k, fun z hz => ?_⟩, e⟩
  ·have := hfr z hz
   rw [e] at this
   have hf : frS (x :: y :: r) < 90000 := hf
   omega
  ·have hl := G.wd.l
   have hx : WdC x.1 := hl x (by simp)
   have hy : WdC y.1 := hl y (by simp)
   have hz : z ∈ (xx y.1 x.1, y.2 ++ x.2) :: r := hz
   rcases List.mem_cons.1 hz with rfl | hz
   ·exact hy.puts hx
   ·exact hl z (by simp [hz])
end Go.Proofs.YtdlfmpmpmkffjaaGreatDoor
namespace Go.Proofs.YtdlfmpmpmkffjaaGreatDoor
open Go Go.Ae
set_option maxRecDepth 100000
variable {g h : AH} {L R : List SP}
abbrev ItT : Type := Int × Int
def itS (x : ItT) : List UInt8 := if x.1 = 1 then Lib.decDigits x.2.toNat else if x.1 = 2 then (if x.2 = 1 then [121, 101, 115] else [110, 111]) else [110, 111, 110, 101]
def gL (x : ItT) : AV := if x.1 = 1 then .iface 26 (.int .u64 x.2) else if x.1 = 2 then .iface 4 (.bool (decide (x.2 = 1))) else .iface 263 (.agg [])
def NI (x : ItT) : Prop := 0 ≤ x.2 ∧ x.2 < 18446744073709551616
def Qv (l : List ItT) : List UInt8 := Lib.join (l.map itS) [32]
theorem kH (x : ItT) : One (gL x) := by unfold gL; (repeat' split) <;> exact ⟨rfl, rfl⟩
theorem Xk (l : List ItT) : q9 (l.map gL) = true := by
 unfold q9
 rw [List.all_eq_true]
 intro v hv
 obtain ⟨x, _, rfl⟩ := List.mem_map.1 hv
 exact (kH x).2
theorem Yf {s : List UInt8} {k1 k2 : IntKind} {lo hi : Nat} {K : AV → Go.Ae.R} {Q : AV → AH → Prop} (h1 : lo ≤ hi) (h2 : hi ≤ s.length) (w : wp (K (.str ((s.drop lo).take (hi - lo)))) Q) : wp (ya (.str s) (some (.int k1 (lo : Int))) (some (.int k2 (hi : Int))) K) Q := by
 unfold ya
 simp only [zF h2, zF h1, ob, vI]
 rw [yT (by rw [List.length_drop]; omega)]
 exact w
theorem qJa {n : Nat} (hn : 1 ≤ n) {i : Nat} (hi : i < 100) : wp (callT tab qA n (.fn 204 [] []) [.int .i64 (i : Int)] h) fun r h' => r = .str (Lib.decDigits i) ∧ h' = h := by
 (refine qP (g := W204) rfl (by omega) fun k hk => ?_; show wp (S204 (callT tab qA k) _ _) _; unfold S204; try simp only [iI, uU, Int.ofNat_eq_natCast])
 by_cases h1 : i < 10
 ·refine jC (by omega) (qV ?_)
  refine qD (by omega) ?_
  rw [show (i : Int) + ((1 : Nat) : Int) = ((i + 1 : Nat) : Int) by omega]
  refine Yf (by omega) (by show i + 1 ≤ 36; omega) (qW ⟨?_, rfl⟩)
  rw [← Lib.digits36_piece h1]
  congr 2
 ·refine jv (by omega) (qQ ?_)
  refine Kv (by omega) (Kv (by omega) (qD (by omega) ?_))
  rw [show (i : Int) * ((2 : Nat) : Int) + ((2 : Nat) : Int) = ((i * 2 + 2 : Nat) : Int) by omega, show (i : Int) * ((2 : Nat) : Int) = ((i * 2 : Nat) : Int) by omega]
  refine Yf (by omega) (by show i * 2 + 2 ≤ 200; omega) (qW ⟨?_, rfl⟩)
  rw [← Lib.smalls_piece h1 hi]
  congr 2
theorem nd_ok {n : Nat} (hn : 1 ≤ n) {u : Nat} (h1 : 1 ≤ u) (h2 : u < 18446744073709551616) : wp (callT tab qA n (.fn 205 [] []) [.int .u64 (u : Int)] h) fun r h' => r = .int .i64 (Lib.nDigits u : Int) ∧ h' = h := by
 refine qP (g := W205) rfl (by omega) fun k hk => ?_
 show wp (xNd _ [.int .u64 (.ofNat u)] h) _
 unfold xNd
 dsimp only
 rw [Nat.ble_eq_true_of_le h1, Nat.ble_eq_true_of_le (show u + 1 ≤ 18446744073709551616 by omega)]
 exact ⟨_, _, rfl, rfl, rfl⟩
theorem Zk : ∀ (bs : List UInt8), Nf (bs.map fun c => .int .u8 (.ofNat c.toNat)) = some bs := by
 intro bs
 induction bs with
 | nil => rfl
 | cons b bs ih =>
  rw [List.map_cons]
  unfold Nf
  rw [ih, Nat.ble_eq_true_of_le (show b.toNat + 1 ≤ 256 from b.toNat_lt)]
  simp
theorem fb_ok {n : Nat} (hn : 1 ≤ n) {b u nd : Nat} {bs : List UInt8} {ys : List AV} (H : HS g h (qw b ((bs.map fun c => .int .u8 (.ofNat c.toNat)) ++ ys) :: R)) (hb : bs.length = nd) (h1 : u < 10 ^ nd) (h2 : u < 18446744073709551616) (h3 : nd ≤ 100) (hys : q9 ys = true) :
  wp (callT tab qA n (.fn 206 [] []) [.slice b 0 nd 24 false, .int .u64 (u : Int)] h) fun r h' => HS g h' (qw b (dgs nd u ++ ys) :: R) := by
 refine qP (g := W206) rfl (by omega) fun k hk => ?_
 show wp (xFb _ [.slice b 0 nd 24 false, .int .u64 (.ofNat u)] h) _
 obtain ⟨D, ⟨hD, e, A⟩, hb2, kk⟩ := H.act
 obtain ⟨c, c1, c2, c3⟩ := A.blk
 unfold xFb
 simp only [c1, c2]
 rw [List.take_append_of_le_length (by simp; omega), List.take_of_length_le (by simp; omega), Zk]
 simp only []
 rw [show Nat.beq bs.length nd = true from by rw [hb]; exact Nat.beq_refl _, Nat.ble_eq_true_of_le (show u + 1 ≤ 10 ^ nd by omega), Nat.ble_eq_true_of_le (show u + 1 ≤ 18446744073709551616 by omega), Nat.ble_eq_true_of_le h3]
 simp only [Bool.and_self, cond_true]
 rw [List.drop_append_of_le_length (by simp; omega), List.drop_of_length_le (by simp; omega), List.nil_append]
 refine ⟨_, _, rfl, kk _ (qw b (dgs nd u ++ ys)) D ⟨by simp, fun a ha hn => AH.get_put_ne h _ fun e => hn ((hD a).2 e.symm)⟩ ⟨hD, e, by simpa using A.lt, CT.ofList _, AH.get_put_same .., CT.ofList_ok _, CT.full_ofList _⟩ fun a ha => ⟨.inl ha, by simpa using (hb2 a ha).2⟩⟩
theorem Vd : ∀ (xs : List (List UInt8)), JS (xs.map .str) = some xs := by
 intro xs
 induction xs with
 | nil => rfl
 | cons x xs ih => rw [List.map_cons]; unfold JS; rw [ih]; rfl
theorem qJ1 {n : Nat} (hn : 1 ≤ n) {b m : Nat} {e : TypeId} {xs : List (List UInt8)} {sep : List UInt8} (H : HS g h (Cell b (xs.map .str) e false :: R)) (hm : xs.length = m) (h1 : m ≤ 1000000) (h2 : (Lib.join xs sep).length ≤ 1000000) :
  wp (callT tab qA n (.fn 55 [] []) [.slice b 0 m m false, .str sep] h) fun r h' => r = .str (Lib.join xs sep) ∧ h' = h := by
 refine qP (g := W55) rfl (by omega) fun k hk => ?_
 show wp (KS _ [.slice b 0 m m false, .str sep] h) _
 obtain ⟨D, hD, A⟩ := H.p .here
 obtain ⟨c, c1, c2, c3⟩ := A.blk
 unfold KS
 simp only [c1, c2, List.drop_zero]
 rw [List.take_of_length_le (by simp; omega), Vd]
 simp only []
 rw [show Nat.beq xs.length m = true from by rw [hm]; exact Nat.beq_refl _, Nat.ble_eq_true_of_le (Nat.le_refl m), Nat.ble_eq_true_of_le h1, Nat.ble_eq_true_of_le h2]
 exact ⟨_, _, rfl, rfl, rfl⟩
theorem NW (nd u : Nat) : vz (dgs nd u) = some ((List.range nd).map fun t => Lib.dg u (nd - 1 - t)) := by
 unfold dgs
 have key : ∀ l : List Nat, vz (l.map fun t => AV.int .u8 (.ofNat (Lib.dg u (nd - 1 - t)).toNat)) = some (l.map fun t => Lib.dg u (nd - 1 - t)) := by
  intro l
  induction l with
  | nil => rfl
  | cons a l ih => rw [List.map_cons]; unfold vz; rw [ih]; simp
 exact key _
theorem NT {n : Nat} (hn : 2 ≤ n) {u : Nat} (h2 : u < 18446744073709551616) (H : HS g h R) : wp (callT tab qA n (.fn 137 [] []) [.int .u64 (u : Int), .int .i64 10] h) fun r h' => r = .str (Lib.decDigits u) ∧ HS g h' R := by
 (refine qP (g := (tD2 S137)) rfl (by omega) fun k hk => ?_; show wp (S137 (callT tab qA k) _ _ _).1 _; unfold S137; try simp only [ Int.ofNat_eq_natCast])
 refine qy rfl (qV ?_)
 by_cases h1 : u < 100
 ·refine jC (by omega) (qV ?_)
  refine jI (by omega) ?_
  refine qY (qJa (by omega) h1) ?_
  rintro _ _ ⟨rfl, rfl⟩
  exact qW ⟨rfl, H⟩
 ·refine jv (by omega) (qQ ?_)
  refine qU H rfl fun b h3 H3 => ?_
  have hnd := Lib.nDigits_le20 u h2
  have hpos := Lib.nDigits_pos u
  have hlt := Lib.lt_pow_nDigits u
  have hdec := Lib.decDigits_eq u
  refine qY (nd_ok (by omega) (by omega) h2) ?_
  generalize Lib.nDigits u = nd at *
  have H4 : HS g h3 (qw b (((List.replicate nd (0 : UInt8)).map fun c => .int .u8 (.ofNat c.toNat)) ++ List.replicate (24 - nd) (.int .u8 (.ofNat 0))) :: R) := by
   have e : (List.replicate nd (0 : UInt8)).map (fun c => AV.int .u8 (.ofNat c.toNat)) ++ List.replicate (24 - nd) (AV.int .u8 (.ofNat 0)) = List.replicate 24 (AV.int .u8 (.ofNat 0)) := by
    rw [List.map_replicate]
    show List.replicate nd (AV.int .u8 (.ofNat 0)) ++ _ = _
    rw [List.replicate_append_replicate, show nd + (24 - nd) = 24 by omega]
   rw [e]; exact H3
  rintro _ _ ⟨rfl, rfl⟩
  have hcut : ∀ (K : AV → Go.Ae.R) (Q : AV → AH → Prop), wp (K (.slice b 0 nd 24 false)) Q → wp (yR 24 1 (.ptr b 0) none (some (.int .i64 (nd : Int))) K) Q := by
   intro K Q w
   unfold yR
   simp only [zF (show nd ≤ 24 by omega), ob, show xE none nd 0 = some 0 from rfl]
   exact w
  refine hcut _ _ ?_
  refine qY (fb_ok (by omega) H4 (by simp) hlt h2 (by omega) (by unfold q9; rw [List.all_eq_true]; intro y hy; rw [List.eq_of_mem_replicate hy]; rfl)) ?_
  intro _ h5 H5
  refine hcut _ _ ?_
  obtain ⟨e, A⟩ := H5.obj .here
  unfold Jr
  dsimp only
  rw [QD A (by simp [wy]), List.drop_zero, List.take_append_of_le_length (by rw [wy]; exact Nat.le_refl _), List.take_of_length_le (by rw [wy]; exact Nat.le_refl _)]
  simp only [ob, NW]
  exact qW ⟨by rw [hdec], H5.drop⟩
theorem U6 {n : Nat} (hn : 3 ≤ n) {u : Int} (h0 : 0 ≤ u) (h2 : u < 18446744073709551616) (H : HS g h R) : wp (callT tab qA n (.fn 89 [] []) [.int .u64 u, .int .i64 10] h) fun r h' => r = .str (Lib.decDigits u.toNat) ∧ HS g h' R := by
 (refine qP (g := (tD2 S89)) rfl (by omega) fun k hk => ?_; show wp (S89 (callT tab qA k) _ _ _).1 _; unfold S89; try simp only [ Int.ofNat_eq_natCast])
 obtain ⟨m, rfl⟩ : ∃ m : Nat, u = m := ⟨u.toNat, by omega⟩
 refine qY (NT (by omega) (u := m) (by omega) H) ?_
 rintro _ h3 ⟨rfl, H3⟩
 exact qW ⟨rfl, H3⟩
theorem MR {t : TypeId} {z x : AV} {K : AV → Go.Ae.R} {Q : AV → AH → Prop} (w : wp (K (.tup [x, .bool true])) Q) : wp (xJ t z (.iface t x) K) Q := by
 show wp (bif Nat.beq t t then _ else _) Q
 rw [Nat.beq_refl]; exact w
theorem Ga {t u : TypeId} {z x : AV} {K : AV → Go.Ae.R} {Q : AV → AH → Prop} (h : Nat.beq u t = false) (w : wp (K (.tup [z, .bool false])) Q) : wp (xJ t z (.iface u x) K) Q := by
 show wp (bif Nat.beq u t then _ else _) Q
 rw [h]; exact w
theorem qKM {n : Nat} (hn : 4 ≤ n) {x : ItT} (hx : NI x) (H : HS g h R) : wp (callT tab qA n (.fn 54 [] []) [gL x] h) fun r h' => r = .str (itS x) ∧ HS g h' R := by
 (refine qP (g := W54) rfl (by omega) fun k hk => ?_; show wp (S54 (callT tab qA k) _ _) _; unfold S54; try simp only [iI, uU, Int.ofNat_eq_natCast])
 unfold gL itS
 by_cases h1 : x.1 = 1
 ·rw [if_pos h1, if_pos h1]
  refine MR ?_
  refine qx rfl (qx rfl (qV ?_))
  refine qY (U6 (by omega) hx.1 hx.2 H) ?_
  rintro _ h3 ⟨rfl, H3⟩
  exact qW ⟨rfl, H3⟩
 ·rw [if_neg h1, if_neg h1]
  by_cases h2 : x.1 = 2
  ·rw [if_pos h2, if_pos h2]
   refine Ga rfl ?_
   refine qx rfl (qx rfl (qQ ?_))
   refine MR ?_
   refine qx rfl (qx rfl (qV ?_))
   by_cases h3 : x.2 = 1
   ·rw [decide_eq_true h3, if_pos h3]
    exact qV (qW ⟨rfl, H⟩)
   ·rw [decide_eq_false h3, if_neg h3]
    exact qQ (qW ⟨rfl, H⟩)
  ·rw [if_neg h2, if_neg h2]
   refine Ga rfl ?_
   refine qx rfl (qx rfl (qQ ?_))
   refine Ga rfl ?_
   exact qx rfl (qx rfl (qQ (qW ⟨rfl, H⟩)))
theorem Gm (x : ItT) (hx : NI x) : (itS x).length ≤ 20 := by
 unfold itS
 have h1 := hx.1
 have h2 := hx.2
 split
 ·rw [Lib.decDigits_length]; exact Lib.nDigits_le20 _ (by omega)
 ·split
  ·split <;> decide
  ·decide
theorem Kn {m : Nat} : ∀ (xs : List (List UInt8)), (∀ x ∈ xs, x.length ≤ m) → (Lib.join xs [32]).length ≤ xs.length * (m + 1) := by
 intro xs hx
 cases xs with
 | nil => simp [Lib.join_nil]
 | cons x r =>
  rw [Lib.join_cons, List.length_append]
  have h1 := hx x (List.mem_cons_self ..)
  have h2 : ∀ r : List (List UInt8), (∀ x ∈ r, x.length ≤ m) → (Lib.joinTail [32] r).length ≤ r.length * (m + 1) := by
   intro r
   induction r with
   | nil => intro _; simp [Lib.joinTail]
   | cons y r ih =>
    intro h
    have a := h y (List.mem_cons_self ..)
    have b := ih fun z hz => h z (List.mem_cons_of_mem _ hz)
    unfold Lib.joinTail at *
    simp only [List.map_cons, List.flatten_cons, List.length_append, List.length_cons, List.length_nil, Nat.add_mul]
    omega
  have h3 := h2 r fun z hz => hx z (List.mem_cons_of_mem _ hz)
  rw [List.length_cons, Nat.add_mul]
  omega
theorem qJ3 {l : List ItT} (hl : l.length ≤ 1000) (hi : ∀ x ∈ l, NI x) : (Qv l).length ≤ 1000000 := by
 unfold Qv
 have := Kn (m := 20) (l.map itS) (fun y hy => by obtain ⟨x, hx, rfl⟩ := List.mem_map.1 hy; exact Gm x (hi x hx))
 rw [List.length_map] at this
 omega
theorem ZJ {e : TypeId} {z : AV} {n : Nat} {k1 k2 : IntKind} {K2 : AV → AH → Go.Ae.R} {Q : AV → AH → Prop} (H : HS g h L) (h2 : n ≤ 1073741824)
  (w : ∀ b h', HS g h' (Cell b (List.replicate n z) e false :: L) → wp (K2 (.slice b 0 n n false) h') Q) : wp (gP h e [z] (.int k1 (n : Int)) (.int k2 (n : Int)) K2) Q := by
 refine XV (Nat.le_refl n) h2 fun b h' hb A F => w b h' (H.add (D' := fun a => a = b) F.none ⟨fun a => Iff.rfl, by rw [Jq] at A; exact A⟩ ?_)
 rintro a rfl; exact ⟨hb, A.lt⟩
def SlaC (o : Nat) (l : List ItT) : SP := .ex fun sv => .all [qw o [sv], qz 20 1 l.length sv (l.map gL)]
theorem SlaC.E {o : Nat} {l : List ItT} (H : HS g h (SlaC o l :: R)) : ∃ sv, HS g h (qw o [sv] :: qz 20 1 l.length sv (l.map gL) :: R) := by
 obtain ⟨sv, H⟩ := H.exE
 exact ⟨sv, H.allE⟩
theorem SlaC.I {o : Nat} {l : List ItT} {sv : AV} (H : HS g h (qw o [sv] :: qz 20 1 l.length sv (l.map gL) :: R)) : HS g h (SlaC o l :: R) := HS.exI sv H.allI
theorem qZL {n : Nat} (hn : 5 ≤ n) {o : Nat} {l : List ItT} (H : HS g h (SlaC o l :: R)) (hl : l.length ≤ 1000) (hi : ∀ x ∈ l, NI x) :
  wp (callT tab qA n (.fn 17 [] []) [.ptr o 0] h) fun r h' => r = .str (Qv l) ∧ HS g h' (SlaC o l :: R) := by
 (refine qP (g := W17) rfl (by omega) fun k hk => ?_; show wp (S17 (callT tab qA k) _ _) _; unfold S17; try simp only [iI, uU, Int.ofNat_eq_natCast])
 obtain ⟨sv, H⟩ := SlaC.E H
 with_reducible (refine qq ?_; refine qJ ?_; refine qG (by assumption) .here rfl ?_; refine qd (by assumption) e_1 ?_)
 refine ZJ (n := l.length) H (by omega) fun b h2 H2 => ?_
 with_reducible (refine qq ?_; refine qJ ?_; refine qG (by assumption) e_1 rfl ?_; refine qd (by assumption) e_2 ?_)
 refine jz (fun m s h' => ∃ i : Nat, s = (.int .i64 (i : Int), .int .i64 (l.length : Int), sv, .slice b 0 l.length l.length false, ()) ∧ i ≤ l.length ∧ m = l.length - i ∧
  HS g h' (Cell b (((l.take i).map fun x => .str (itS x)) ++ List.replicate (l.length - i) (.str [])) 9 false :: qw o [sv] :: qz 20 1 l.length sv (l.map gL) :: R))
  ?_ (m := l.length) (by show _ < 1000000000; omega) ⟨0, rfl, by omega, by omega, H2⟩
 clear H H2
 rintro m ih s h3 hih ⟨i, rfl, h1, rfl, H⟩
 dsimp only
 by_cases hlt : i < l.length
 ·refine jC (by omega) (qV ?_)
  refine jF (H.sl e_2) (x := gL l[i]) (by rw [List.getElem?_map, List.getElem?_eq_getElem hlt]; rfl) ?_
  refine qY (qKM (by omega) (hi _ (List.getElem_mem hlt)) H) ?_
  rintro _ h4 ⟨rfl, H4⟩
  refine gH (k := .i64) hlt ?_
  refine ZB H4 rfl (by simp; omega) rfl fun h5 H5 => ?_
  refine qD (by omega) (hih (l.length - (i + 1)) _ _ (by omega) ⟨i + 1, rfl, by omega, rfl, ?_⟩)
  have e : vX (((l.take i).map fun x => AV.str (itS x)) ++ List.replicate (l.length - i) (.str [])) (0 + i * 1) (AV.str (itS l[i])).cells = ((l.take (i + 1)).map fun x => AV.str (itS x)) ++ List.replicate (l.length - (i + 1)) (.str []) := by
   rw [Nat.zero_add, Nat.mul_one]
   show vX _ i [AV.str (itS l[i])] = _
   rw [wa (by simp; omega), List.take_add_one, List.getElem?_eq_getElem hlt, List.map_append, show l.length - i = (l.length - (i + 1)) + 1 by omega, List.replicate_succ, List.set_append_right _ _ (by simp; omega)]
   have hz : i - ((l.take i).map fun x => AV.str (itS x)).length = 0 := by simp; omega
   rw [hz, List.set_cons_zero, List.append_assoc]; rfl
  rw [e] at H5
  exact H5
 ·obtain rfl : i = l.length := by omega
  refine jv (by omega) (qQ ?_)
  rw [Nat.sub_self, List.take_length, List.replicate_zero, List.append_nil] at H
  have H2 : HS g h3 (Cell b ((l.map itS).map .str) 9 false :: qw o [sv] :: qz 20 1 l.length sv (l.map gL) :: R) := by
   rw [List.map_map]; exact H
  refine qY (qJ1 (by omega) H2 (by simp) (by omega) (qJ3 hl hi)) ?_
  rintro _ _ ⟨rfl, rfl⟩
  exact qj (qW ⟨rfl, SlaC.I H.drop⟩)
end Go.Proofs.YtdlfmpmpmkffjaaGreatDoor
namespace Go.Proofs.YtdlfmpmpmkffjaaGreatDoor
open Go Go.Ae
structure PtM where
  op : Int
  pc : Int
  regs : List Int
  told : Nat
structure IM where
  regs : List Int
  out : List ItT
  pc : Int
  opn : List PtM
structure SM where
  e : Int
  nx : Int
  blk : Bool
  s : IM
  v : VM
def setR (s : IM) (i v : Int) : IM := { s with regs := s.regs.set i.toNat v }
def jm (b off : Int) : Int × Int := if 2147483648 ≤ b ∨ 2147483648 ≤ b + off ∨ b + off < 6 then (0, 2) else (b + off, 0)
def vY (p : Prop) [Decidable p] : Int := if p then 1 else 0
def jt (s : IM) (V : VM) (x : qM) : Int × IM × VM :=
 if x.1 = 8 then
  (if (jm (qE s.regs x.2.2.1) x.2.2.2.1).2 = 0 then
   (if (qT V (jm (qE s.regs x.2.2.1) x.2.2.2.1).1).1.2 = 0 then (0, setR s x.2.1 (qT V (jm (qE s.regs x.2.2.1) x.2.2.2.1).1).1.1, (qT V (jm (qE s.regs x.2.2.1) x.2.2.2.1).1).2)
    else ((qT V (jm (qE s.regs x.2.2.1) x.2.2.2.1).1).1.2, s, (qT V (jm (qE s.regs x.2.2.1) x.2.2.2.1).1).2))
  else (2, s, V))
 else if x.1 = 9 then
  (if (jm (qE s.regs x.2.1) x.2.2.2.1).2 = 0 then ((jU V [((jm (qE s.regs x.2.1) x.2.2.2.1).1, qE s.regs x.2.2.1)]).1, s, (jU V [((jm (qE s.regs x.2.1) x.2.2.2.1).1, qE s.regs x.2.2.1)]).2)
  else (2, s, V))
 else if x.1 = 10 then
  (if 2147483648 ≤ qE s.regs x.2.2.1 then (3, s, V)
  else if (zM V (qE s.regs x.2.2.1)).1.2 = 0 then (0, setR s x.2.1 (zM V (qE s.regs x.2.2.1)).1.1, (zM V (qE s.regs x.2.2.1)).2)
  else ((zM V (qE s.regs x.2.2.1)).1.2, s, (zM V (qE s.regs x.2.2.1)).2))
 else
  (if 2147483648 ≤ qE s.regs x.2.1 then (2, s, V) else ((ve V (qE s.regs x.2.1)).1, s, (ve V (qE s.regs x.2.1)).2))
def jn (op at_ nx : Int) (s : IM) (V : VM) : SM :=
 if (zp V).1 = 0 then ⟨0, nx, false, { s with opn := ⟨op, at_, s.regs, s.out.length⟩ :: s.opn }, (zp V).2⟩ else ⟨(zp V).1, nx, false, s, (zp V).2⟩
def yC (s : IM) (p : PtM) : IM := { s with regs := p.regs, out := s.out.take p.told }
def zh (mt : List Int) : List PtM → IM → VM → SM
 | [], s, V => ⟨0, s.pc, true, { s with opn := [] }, V⟩
 | p :: o, s, V =>
  if (zK V).1 = 0 then
   (if p.op = 17 then jn 18 (qE mt p.pc) (qE mt p.pc + 1) { yC s p with opn := o } (zK V).2
   else zh mt o s (zK V).2)
  else ⟨(zK V).1, s.pc + 1, false, { s with opn := o }, (zK V).2⟩
def headP (o : List PtM) : PtM := (o.head?).getD ⟨0, 0, [0, 0, 0, 0, 0, 0, 0, 0], 0⟩
def yW (mt : List Int) (s : IM) (V : VM) (op : Int) : SM :=
 if op = 14 ∨ op = 17 then jn op s.pc (s.pc + 1) s V
 else if op = 15 ∨ op = 19 then ⟨(yX V).1, s.pc + 1, false, { s with opn := s.opn.tail }, (yX V).2⟩
 else if op = 18 then ⟨(yX V).1, qE mt s.pc + 1, false, { s with opn := s.opn.tail }, (yX V).2⟩
 else if op = 16 then ⟨(zK V).1, qE mt s.pc + 1, false, { yC s (headP s.opn) with opn := s.opn.tail }, (zK V).2⟩
 else zh mt s.opn s V
def doM (mt : List Int) (s : IM) (V : VM) (x : qM) : SM :=
 if x.1 = 1 then ⟨0, s.pc + 1, false, setR s x.2.1 x.2.2.2.2, V⟩
 else if x.1 = 2 then ⟨0, s.pc + 1, false, setR s x.2.1 (qE s.regs x.2.2.1), V⟩
 else if x.1 = 3 then ⟨0, s.pc + 1, false, setR s x.2.1 (j4 .u64 (qE s.regs x.2.2.1 + qE s.regs x.2.2.2.1)), V⟩
 else if x.1 = 4 then ⟨0, s.pc + 1, false, setR s x.2.1 (j4 .u64 (qE s.regs x.2.2.1 - qE s.regs x.2.2.2.1)), V⟩
 else if x.1 = 5 then ⟨0, s.pc + 1, false, setR s x.2.1 (j4 .u64 (qE s.regs x.2.2.1 * qE s.regs x.2.2.2.1)), V⟩
 else if x.1 = 6 then ⟨0, s.pc + 1, false, setR s x.2.1 (vY (qE s.regs x.2.2.1 < qE s.regs x.2.2.2.1)), V⟩
 else if x.1 = 7 then ⟨0, s.pc + 1, false, setR s x.2.1 (vY (qE s.regs x.2.2.1 = qE s.regs x.2.2.2.1)), V⟩
 else if x.1 = 12 then ⟨0, x.2.2.2.1, false, s, V⟩
 else if x.1 = 13 then ⟨0, if qE s.regs x.2.1 = 0 then x.2.2.2.1 else s.pc + 1, false, s, V⟩
 else if x.1 = 21 then (if 16 ≤ s.out.length then ⟨5, s.pc + 1, false, s, V⟩ else ⟨0, s.pc + 1, false, { s with out := s.out ++ [(1, qE s.regs x.2.1)] }, V⟩)
 else if x.1 = 22 then ⟨13, s.pc + 1, false, s, V⟩
 else if x.1 = 8 ∨ x.1 = 9 ∨ x.1 = 10 ∨ x.1 = 11 then ⟨(jt s V x).1, s.pc + 1, false, (jt s V x).2.1, (jt s V x).2.2⟩
 else yW mt s V x.1
structure RM where
  kind : Int
  err : Int
  left : Nat
  s : IM
  v : VM
def xy (l : List qM) (mt : List Int) : Nat → IM → VM → RM
 | 0, s, V => if s.pc = l.length then ⟨2, 0, 0, s, V⟩ else ⟨4, 6, 0, s, V⟩
 | n + 1, s, V =>
  if s.pc = l.length then ⟨2, 0, n + 1, s, V⟩
  else if (doM mt s V (qL l s.pc)).e = 0 then
   (if (doM mt s V (qL l s.pc)).blk = true then ⟨3, 0, n, { (doM mt s V (qL l s.pc)).s with pc := (doM mt s V (qL l s.pc)).nx }, (doM mt s V (qL l s.pc)).v⟩
   else xy l mt n { (doM mt s V (qL l s.pc)).s with pc := (doM mt s V (qL l s.pc)).nx } (doM mt s V (qL l s.pc)).v)
  else if (doM mt s V (qL l s.pc)).e = 11 then ⟨1, 0, n + 1, (doM mt s V (qL l s.pc)).s, (doM mt s V (qL l s.pc)).v⟩
  else ⟨4, (doM mt s V (qL l s.pc)).e, n + 1, (doM mt s V (qL l s.pc)).s, (doM mt s V (qL l s.pc)).v⟩
theorem Yy {l : List qM} {mt : List Int} {s : IM} {V : VM} : xy l mt 0 s V = if s.pc = l.length then ⟨2, 0, 0, s, V⟩ else ⟨4, 6, 0, s, V⟩ := rfl
theorem X7 {l : List qM} {mt : List Int} {n : Nat} {s : IM} {V : VM} : xy l mt (n + 1) s V = if s.pc = l.length then ⟨2, 0, n + 1, s, V⟩
  else if (doM mt s V (qL l s.pc)).e = 0 then
   (if (doM mt s V (qL l s.pc)).blk = true then ⟨3, 0, n, { (doM mt s V (qL l s.pc)).s with pc := (doM mt s V (qL l s.pc)).nx }, (doM mt s V (qL l s.pc)).v⟩
   else xy l mt n { (doM mt s V (qL l s.pc)).s with pc := (doM mt s V (qL l s.pc)).nx } (doM mt s V (qL l s.pc)).v)
  else if (doM mt s V (qL l s.pc)).e = 11 then ⟨1, 0, n + 1, (doM mt s V (qL l s.pc)).s, (doM mt s V (qL l s.pc)).v⟩
  else ⟨4, (doM mt s V (qL l s.pc)).e, n + 1, (doM mt s V (qL l s.pc)).s, (doM mt s V (qL l s.pc)).v⟩ := rfl
theorem Ud {l : List qM} {mt : List Int} {s : IM} {V : VM} (h0 : s.pc = l.length) : ∀ n, xy l mt n s V = ⟨2, 0, n, s, V⟩ := by
 intro n
 cases n with
 | zero => rw [Yy, if_pos h0]
 | succ n => rw [X7, if_pos h0]
def qg (l : List qM) : Nat → List Int
 | 0 => []
 | i + 1 => qt (qg l i) i (qL l i).1
theorem zH {l : List qM} {i : Nat} (h : i < l.length) : qL l (i : Int) = l[i] := by
 unfold qL
 rw [Int.toNat_natCast, List.getElem?_eq_getElem h]; rfl
theorem jw {l : List qM} {i : Nat} : qg l (i + 1) = qt (qg l i) i (qL l i).1 := rfl
theorem qQS {l : List qM} : ∀ (d i : Nat) {st' : List Int}, i + d = l.length → goM l (l.drop i) i (qg l i) = .inr st' → (∀ j, i ≤ j → j < l.length → zV l (qg l j) (qL l j) = 0) ∧ qg l l.length = st' := by
 intro d
 induction d with
 | zero =>
  intro i st' hi h
  obtain rfl : i = l.length := by omega
  rw [List.drop_length] at h
  cases h
  exact ⟨fun j h1 h2 => by omega, rfl⟩
 | succ d ih =>
  intro i st' hi h
  have hlt : i < l.length := by omega
  rw [Qe hlt] at h
  split at h
  ·rename_i hw
   obtain ⟨a, b⟩ := ih (i + 1) (st' := st') (by omega) (by rw [jw, zH hlt]; exact h)
   refine ⟨fun j h1 h2 => ?_, b⟩
   by_cases hj : j = i
   ·subst hj; rw [zH hlt]; exact hw
   ·exact a j (by omega) h2
  ·cases h
theorem GY {l : List qM} : ∀ (d i : Nat), i + d = l.length → ∀ k, i + k < l.length → (zL (l.drop i) i (qg l i))[k]? = some (qp (qg l (i + k))) := by
 intro d
 induction d with
 | zero => intro i hi k hk; omega
 | succ d ih =>
  intro i hi k hk
  have hlt : i < l.length := by omega
  rw [Yb hlt]
  cases k with
  | zero => rfl
  | succ k =>
   rw [List.getElem?_cons_succ]
   have := ih (i + 1) (by omega) k (by omega)
   rw [jw, zH hlt] at this
   rw [show i + (k + 1) = i + 1 + k by omega]
   exact this
structure Fit (l : List qM) : Prop where
  pos : 0 < l.length
  le : l.length ≤ 40
  ok : ∀ j, j < l.length → zV l (qg l j) (qL l j) = 0
  nil : qg l l.length = []
  reg : ∀ j, j < l.length → (zL l 0 [])[j]? = some (qp (qg l j))
  jump : ∀ j, j < l.length → ¬ wE l (zL l 0 []) j (qL l j)
theorem NU {l : List qM} {a : List Int} : ∀ (d i : Nat), i + d = l.length → (kq l a (l.drop i) i).2 = 0 → ∀ j, i ≤ j → j < l.length → ¬ wE l a j (qL l j) := by
 intro d
 induction d with
 | zero => intro i hi _ j h1 h2; omega
 | succ d ih =>
  intro i hi h j h1 h2
  have hlt : i < l.length := by omega
  rw [QM hlt] at h
  split at h
  ·cases h
  ·rename_i hn
   by_cases hj : j = i
   ·subst hj; rw [zH hlt]; exact hn
   ·exact ih (i + 1) (by omega) h j (by omega) h2
theorem G9 {l : List qM} (h : (xS l).2 = 0) : Fit l := by
 have hg := Xj h
 obtain ⟨a, b⟩ := qQS (l := l) l.length 0 (st' := []) (by omega) hg
 unfold xS at h
 split at h
 ·cases h
 ·rename_i h0
  rw [hg] at h
  dsimp only at h
  rw [if_pos rfl] at h
  exact ⟨by omega, by omega, fun j hj => a j (Nat.zero_le _) hj, b, fun j hj => by
   have := GY (l := l) l.length 0 (by omega) j (by omega)
   rw [Nat.zero_add] at this
   exact this, fun j hj => NU l.length 0 (by omega) h j (Nat.zero_le _) hj⟩
def Rises (i : Nat) (st : List Int) : Prop := StOk i st ∧ st.Pairwise (· < ·)
theorem QQ {l : List qM} : ∀ i, Rises i (qg l i) := by
 intro i
 induction i with
 | zero => exact ⟨StOk.nil, List.Pairwise.nil⟩
 | succ i ih =>
  refine ⟨ih.1.behind, ?_⟩
  rw [jw]
  have hd : (qg l i).dropLast.Pairwise (· < ·) := ih.2.sublist (List.dropLast_sublist _)
  have hp : ∀ st : List Int, StOk i st → st.Pairwise (· < ·) → (st ++ [(i : Int)]).Pairwise (· < ·) := by
   intro st h1 h2
   rw [List.pairwise_append]
   refine ⟨h2, List.pairwise_singleton .., fun a ha b hb => ?_⟩
   rw [List.mem_singleton] at hb
   subst hb
   exact (h1 a ha).2
  unfold qt
  repeat' split
  ·exact hp _ ih.1.dropLast hd
  ·exact hp _ ih.1 ih.2
  ·exact hd
  ·exact ih.2
theorem Ye {l : List qM} : ∀ (i k p : Nat), (qg l i)[k]? = some (p : Int) → qg l (p + 1) = (qg l i).take (k + 1) := by
 intro i
 induction i with
 | zero => intro k p h; simp [qg] at h
 | succ i ih =>
  intro k p h
  have key : ∀ st : List Int, (∀ k p : Nat, st[k]? = some (p : Int) → qg l (p + 1) = st.take (k + 1)) → qg l (i + 1) = st ++ [(i : Int)] → qg l (p + 1) = (qg l (i + 1)).take (k + 1) := by
   intro st hst he
   rw [he] at h ⊢
   by_cases hk : k < st.length
   ·rw [List.getElem?_append_left hk] at h
    rw [hst k p h, List.take_append_of_le_length (by omega)]
   ·have hk2 : k = st.length := by
     have := (List.getElem?_eq_some_iff.1 h).1
     simp at this; omega
    subst hk2
    rw [List.getElem?_append_right (Nat.le_refl _), Nat.sub_self] at h
    simp at h
    have : p = i := by omega
    subst this
    rw [he, List.take_of_length_le (by simp)]
  have hdrop : ∀ k p : Nat, (qg l i).dropLast[k]? = some (p : Int) → qg l (p + 1) = (qg l i).dropLast.take (k + 1) := by
   intro k p h
   have hk := (List.getElem?_eq_some_iff.1 h).1
   have hk2 : k + 1 ≤ (qg l i).length - 1 := by have := hk; simp at this; omega
   have h2 : (qg l i)[k]? = some (p : Int) := by
    rw [List.getElem?_dropLast] at h
    split at h
    ·exact h
    ·cases h
   rw [ih k p h2, List.dropLast_eq_take, List.take_take, Nat.min_eq_left hk2]
  by_cases hb : zZ (qL l i).1 = true ∨ (qL l i).1 = 18
  ·by_cases he : 0 < jE (qL l i).1
   ·exact key _ hdrop (by rw [jw]; unfold qt; rw [if_pos hb, if_pos he])
   ·exact key _ ih (by rw [jw]; unfold qt; rw [if_pos hb, if_neg he])
  ·by_cases he : 0 < jE (qL l i).1
   ·have e : qg l (i + 1) = (qg l i).dropLast := by rw [jw]; unfold qt; rw [if_neg hb, if_pos he]
    rw [e] at h ⊢
    exact hdrop k p h
   ·have e : qg l (i + 1) = qg l i := by rw [jw]; unfold qt; rw [if_neg hb, if_neg he]
    rw [e] at h ⊢
    exact ih k p h
theorem xc {l : List qM} {i : Nat} (h : qg l i ≠ []) : ∃ p : Nat, qp (qg l i) = p ∧ p < i ∧ (qg l i)[(qg l i).length - 1]? = some (p : Int) ∧ qg l (p + 1) = qg l i := by
 have hb := (QQ (l := l) i).1.inmost h
 obtain ⟨p, hp⟩ : ∃ p : Nat, qp (qg l i) = p := ⟨(qp (qg l i)).toNat, by omega⟩
 have hl : 0 < (qg l i).length := List.length_pos_iff.2 h
 have hk : (qg l i)[(qg l i).length - 1]? = some (p : Int) := by
  rw [← hp]
  unfold qp
  rw [← List.getLast?_eq_getElem?, List.getLast?_eq_some_getLast h]; rfl
 refine ⟨p, hp, by omega, hk, ?_⟩
 rw [Ye i _ p hk, List.take_of_length_le (by omega)]
theorem Z9 {l : List qM} {i j : Nat} (h : qp (qg l i) = qp (qg l j)) : qg l i = qg l j := by
 by_cases hi : qg l i = []
 ·by_cases hj : qg l j = []
  ·rw [hi, hj]
  ·obtain ⟨p, h1, _⟩ := xc hj
   rw [hi, XD, h1] at h; omega
 ·obtain ⟨p, h1, _, _, h2⟩ := xc hi
  by_cases hj : qg l j = []
  ·rw [hj, XD, h1] at h; omega
  ·obtain ⟨q, h3, _, _, h4⟩ := xc hj
   have : p = q := by omega
   subst this
   rw [← h2, ← h4]
def mt1 (l : List qM) (A : List Int) : Nat → List Int
 | 0 => List.replicate l.length (-1)
 | i + 1 => if 0 < jE (qL l i).1 then (mt1 l A i).set (qE A i).toNat i else mt1 l A i
def mt2 (l : List qM) (A : List Int) : Nat → List Int
 | 0 => mt1 l A l.length
 | i + 1 => if (qL l i).1 = 16 then (mt2 l A i).set i (qE (mt2 l A i) (qE A i)) else mt2 l A i
def qi (l : List qM) : List Int := mt2 l (zL l 0 []) l.length
theorem KO {l : List qM} {A : List Int} {i : Nat} : mt1 l A (i + 1) = if 0 < jE (qL l i).1 then (mt1 l A i).set (qE A i).toNat i else mt1 l A i := rfl
theorem ZX {l : List qM} {A : List Int} {i : Nat} : mt2 l A (i + 1) = if (qL l i).1 = 16 then (mt2 l A i).set i (qE (mt2 l A i) (qE A i)) else mt2 l A i := rfl
theorem wz {l : List qM} {A : List Int} : ∀ i, (mt1 l A i).length = l.length := by
 intro i
 induction i with
 | zero => simp [mt1]
 | succ i ih => rw [KO]; split <;> simp [ih]
theorem XZ {l : List qM} {A : List Int} : ∀ i, (mt2 l A i).length = l.length := by
 intro i
 induction i with
 | zero => exact wz _
 | succ i ih => rw [ZX]; split <;> simp [ih]
theorem GM (l : List qM) : (qi l).length = l.length := XZ _
theorem xP {l : List qM} (F : Fit l) {j : Nat} (h : j < l.length) : qE (zL l 0 []) (j : Int) = qp (qg l j) := by
 unfold qE
 rw [Int.toNat_natCast, F.reg j h]; rfl
theorem Za {l : List qM} {p : Nat} : ∀ (d i : Nat), p < i → (p : Int) ∉ qg l i → (p : Int) ∉ qg l (i + d) := by
 intro d
 induction d with
 | zero => intro i _ h; exact h
 | succ d ih =>
  intro i hp h
  have h2 := ih i hp h
  rw [show i + (d + 1) = i + d + 1 by omega, jw]
  have hd : (p : Int) ∉ (qg l (i + d)).dropLast := fun hm => h2 ((List.dropLast_sublist _).subset hm)
  unfold qt
  repeat' split
  all_goals first | exact hd | exact h2 | skip
  ·intro hm
   rcases List.mem_append.1 hm with hm | hm
   ·exact hd hm
   ·rw [List.mem_singleton] at hm; omega
  ·intro hm
   rcases List.mem_append.1 hm with hm | hm
   ·exact h2 hm
   ·rw [List.mem_singleton] at hm; omega
theorem J0 {st : List Int} {p : Int} (h : st.Pairwise (· < ·)) (hn : st ≠ []) (hp : qp st = p) : p ∉ st.dropLast := by
 have e : st = st.dropLast ++ [p] := by
  have := List.dropLast_concat_getLast hn
  rw [show st.getLast hn = p by rw [← hp]; unfold qp; rw [List.getLast?_eq_some_getLast hn]; rfl] at this
  exact this.symm
 rw [e, List.pairwise_append] at h
 intro hm
 have := h.2.2 p hm p (List.mem_singleton_self _)
 omega
theorem Zq {l : List qM} {p j : Nat} (he : 0 < jE (qL l j).1) (hn : qg l j ≠ []) (hp : qp (qg l j) = p) : (p : Int) ∉ qg l (j + 1) := by
 have h1 := J0 (QQ (l := l) j).2 hn hp
 have h2 := (QQ (l := l) j).1.inmost hn
 rw [jw]
 unfold qt
 rw [if_pos he]
 split
 ·intro hm
  rcases List.mem_append.1 hm with hm | hm
  ·exact h1 hm
  ·rw [List.mem_singleton] at hm; omega
 ·exact h1
theorem xd {l : List qM} {st : List Int} {x : qM} (h : zV l st x = 0) : xr x = true ∧ (0 < jE x.1 → opM l st = jE x.1) ∧ (x.1 = 16 → opM l st = 14) ∧ (zZ x.1 = true → st.length < 5) := by
 have h0 := zG h
 unfold zV at h
 rw [if_neg (by rw [h0.1]; simp)] at h
 split at h
 ·cases h
 ·rename_i h2
  split at h
  ·cases h
  ·rename_i h3
   refine ⟨h0.1, fun he => ?_, fun he => ?_, h0.2.2⟩
   ·exact Classical.not_not.1 fun hh => h2 ⟨he, hh⟩
   ·exact Classical.not_not.1 fun hh => h3 ⟨he, hh⟩
theorem UA {l : List qM} {i : Nat} {p : Nat} (hn : qg l i ≠ []) (hp : qp (qg l i) = p) : opM l (qg l i) = (qL l p).1 := by
 unfold opM
 rw [if_neg hn, hp]
theorem ME {l : List qM} (F : Fit l) {p : Nat} (hp : p < l.length) (ho : (qL l p).1 = 14 ∨ (qL l p).1 = 17 ∨ (qL l p).1 = 18) :
  ∃ e : Nat, p < e ∧ e < l.length ∧ jE (qL l e).1 = (qL l p).1 ∧ qg l e ≠ [] ∧ qp (qg l e) = p ∧
   ∀ j, j < l.length → 0 < jE (qL l j).1 → qp (qg l j) = p → j = e := by
 have hin : (p : Int) ∈ qg l (p + 1) := by
  rw [jw]
  unfold qt
  rw [if_pos (by unfold zZ; rcases ho with h | h | h <;> rw [h] <;> decide)]
  exact List.mem_append_right _ (List.mem_singleton_self _)
 have key : ∀ d i, p < i → i + d = l.length → (p : Int) ∈ qg l i → ∃ e, i ≤ e ∧ e < l.length ∧ (p : Int) ∈ qg l e ∧ (p : Int) ∉ qg l (e + 1) := by
  intro d
  induction d with
  | zero =>
   intro i _ hi hm
   obtain rfl : i = l.length := by omega
   rw [F.nil] at hm; cases hm
  | succ d ih =>
   intro i hpi hi hm
   by_cases h : (p : Int) ∈ qg l (i + 1)
   ·obtain ⟨e, h1, h2⟩ := ih (i + 1) (by omega) (by omega) h
    exact ⟨e, by omega, h2⟩
   ·exact ⟨i, Nat.le_refl _, by omega, hm, h⟩
 obtain ⟨e, h1, h2, h3, h4⟩ := key (l.length - (p + 1)) (p + 1) (by omega) (by omega) hin
 have hne : qg l e ≠ [] := fun h => by rw [h] at h3; cases h3
 have hend : 0 < jE (qL l e).1 := by
  apply Classical.not_not.1
  intro hn
  apply h4
  rw [jw]
  unfold qt
  rw [if_neg hn]
  split
  ·exact List.mem_append_left _ h3
  ·exact h3
 have hinm : qp (qg l e) = p := by
  apply Classical.not_not.1
  intro hn
  apply h4
  have hd : (p : Int) ∈ (qg l e).dropLast := by
   have hd := List.dropLast_concat_getLast hne
   rw [← hd] at h3
   rcases List.mem_append.1 h3 with h | h
   ·exact h
   ·rw [List.mem_singleton] at h
    exfalso
    apply hn
    unfold qp
    rw [List.getLast?_eq_some_getLast hne, h]; rfl
  rw [jw]
  unfold qt
  rw [if_pos hend]
  split
  ·exact List.mem_append_left _ hd
  ·exact hd
 have hw := (xd (F.ok e h2)).2.1 hend
 rw [UA hne hinm] at hw
 refine ⟨e, by omega, h2, hw.symm, hne, hinm, fun j hj hje hjp => ?_⟩
 have hjn : qg l j ≠ [] := (zG (F.ok j hj)).2.1 (.inl hje)
 have hpj : p < j := by
  have := (QQ (l := l) j).1.inmost hjn; omega
 rcases Nat.lt_trichotomy j e with h | h | h
 ·exfalso
  have := Za (l := l) (e - (j + 1)) (j + 1) (by omega) (Zq hje hjn hjp)
  rw [show j + 1 + (e - (j + 1)) = e by omega] at this
  exact this h3
 ·exact h
 ·exfalso
  have h5 := Za (l := l) (j - (e + 1)) (e + 1) (by omega) h4
  rw [show e + 1 + (j - (e + 1)) = j by omega] at h5
  apply h5
  rw [← hjp]
  unfold qp
  rw [List.getLast?_eq_some_getLast hjn]
  exact List.getLast_mem hjn
theorem qQi {l : List qM} (F : Fit l) {p e : Nat} (hp : p < l.length) (he : e < l.length) (hee : 0 < jE (qL l e).1) (hi : qp (qg l e) = p)
  (hu : ∀ j, j < l.length → 0 < jE (qL l j).1 → qp (qg l j) = p → j = e) : ∀ i, e < i → i ≤ l.length → (mt1 l (zL l 0 []) i)[p]? = some (e : Int) := by
 intro i
 induction i with
 | zero => intro h; omega
 | succ i ih =>
  intro h1 h2
  rw [KO]
  by_cases hie : i = e
  ·subst hie
   rw [if_pos hee, xP F he, hi, Int.toNat_natCast, List.getElem?_set_self (by rw [wz]; exact hp)]
  ·split
   ·rename_i hx
    rw [xP F (by omega), List.getElem?_set_ne]
    ·exact ih (by omega) (by omega)
    ·intro hh
     have hjn : qg l i ≠ [] := (zG (F.ok i (by omega))).2.1 (.inl hx)
     have := (QQ (l := l) i).1.inmost hjn
     exact hie (hu i (by omega) hx (by omega))
   ·exact ih (by omega) (by omega)
theorem qQT {l : List qM} (F : Fit l) {p : Nat} (hp : (qL l p).1 ≠ 16) : ∀ i, (mt2 l (zL l 0 []) i)[p]? = (mt1 l (zL l 0 []) l.length)[p]? := by
 intro i
 induction i with
 | zero => rfl
 | succ i ih =>
  rw [ZX]
  split
  ·rename_i hx
   rw [List.getElem?_set_ne, ih]
   rintro rfl
   exact hp hx
  ·exact ih
theorem ZA {l : List qM} (F : Fit l) {u : Nat} (hu : u < l.length) (ho : (qL l u).1 = 16) : ∀ i, u < i → (mt2 l (zL l 0 []) i)[u]? = some (qE (mt2 l (zL l 0 []) u) (qp (qg l u))) := by
 intro i
 induction i with
 | zero => intro h; omega
 | succ i ih =>
  intro h
  rw [ZX]
  by_cases hi : i = u
  ·subst hi
   rw [if_pos ho, List.getElem?_set_self (by rw [XZ]; exact hu), xP F hu]
  ·split
   ·rw [List.getElem?_set_ne hi]; exact ih (by omega)
   ·exact ih (by omega)
theorem wU {l : List qM} (F : Fit l) {p : Nat} (hp : p < l.length) (ho : (qL l p).1 = 14 ∨ (qL l p).1 = 17 ∨ (qL l p).1 = 18) :
  ∃ e : Nat, qE (qi l) (p : Int) = e ∧ p < e ∧ e < l.length ∧ jE (qL l e).1 = (qL l p).1 ∧ qg l e = qg l (p + 1) := by
 obtain ⟨e, h1, h2, h3, h4, h5, h6⟩ := ME F hp ho
 refine ⟨e, ?_, h1, h2, h3, ?_⟩
 ·unfold qE qi
  rw [Int.toNat_natCast, qQT F (by rcases ho with h | h | h <;> rw [h] <;> decide), qQi F hp h2 (by rw [h3]; rcases ho with h | h | h <;> rw [h] <;> decide) h5 h6 l.length h2 (Nat.le_refl _)]; rfl
 ·obtain ⟨q, g1, _, _, g2⟩ := xc h4
  have : q = p := by omega
  subst this
  exact g2.symm
theorem XU {l : List qM} (F : Fit l) {u : Nat} (hu : u < l.length) (ho : (qL l u).1 = 16) :
  ∃ e : Nat, qE (qi l) (u : Int) = e ∧ e < l.length ∧ (qL l e).1 = 15 ∧ qg l e = qg l u ∧ qg l u ≠ [] := by
 have hn : qg l u ≠ [] := (zG (F.ok u hu)).2.1 (.inr ho)
 obtain ⟨q, g1, g2, _, g3⟩ := xc hn
 have hw := (xd (F.ok u hu)).2.2.1 ho
 rw [UA hn g1] at hw
 obtain ⟨e, h1, h2, h3, h4, h5, h6⟩ := ME F (p := q) (by omega) (.inl hw)
 have e0 : qE (mt2 l (zL l 0 []) u) (q : Int) = e := by
  unfold qE
  rw [Int.toNat_natCast, qQT F (by rw [hw]; decide), qQi F (by omega) h2 (by rw [h3, hw]; decide) h5 h6 l.length h2 (Nat.le_refl _)]; rfl
 refine ⟨e, ?_, h2, ?_, ?_, hn⟩
 ·unfold qi
  rw [qE, Int.toNat_natCast, ZA F hu ho l.length hu, g1, e0]; rfl
 ·rw [hw] at h3
  unfold jE at h3
  repeat' split at h3
  all_goals first | assumption | omega
 ·obtain ⟨q2, k1, _, _, k2⟩ := xc h4
  have : q2 = q := by omega
  subst this
  rw [← k2, g3]
end Go.Proofs.YtdlfmpmpmkffjaaGreatDoor
