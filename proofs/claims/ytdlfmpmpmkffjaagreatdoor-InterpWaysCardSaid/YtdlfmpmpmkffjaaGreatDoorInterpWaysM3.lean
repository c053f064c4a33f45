/- Lemmas for 'quietus/quietuslaw21.InterpWays': Programs that are drawn: they may run. The plain law; The words of a heap out of drawn ones; Programs that are drawn: by the books own code; Programs that are ... No condition. -/
import Derived.Test.YtdlfmpmpmkffjaaGreatDoorInterpWaysM2
import Derived.Test.YtdlfmpmpmkffjaaGreatDoorInterpWaysM1
namespace Go.Proofs.YtdlfmpmpmkffjaaGreatDoor
open Go Go.Ae
theorem kH {l t : List qI} {j : Nat} (h : j < l.length) : qA (l ++ t) (j : Int) = qA l (j : Int) := by
 unfold qA
 rw [Int.toNat_natCast, List.getElem?_append_left h]
theorem gd {l t : List qI} {k : Nat} {x : qI} (h : t[k]? = some x) : qA (l ++ t) ((l.length + k : Nat) : Int) = x := by
 unfold qA
 rw [Int.toNat_natCast, List.getElem?_append_right (by omega), show l.length + k - l.length = k by omega, h]; rfl
theorem yO {l t : List qI} : ∀ i, i ≤ l.length → qj (l ++ t) i = qj l i := by
 intro i
 induction i with
 | zero => intro _; rfl
 | succ i ih =>
  intro h
  rw [jw, jw, ih (by omega), kH (by omega)]
theorem qZM {l t : List qI} {st : List Int} (h : StOk l.length st) : opM (l ++ t) st = opM l st := by
 unfold opM
 by_cases h0 : st = []
 ·rw [if_pos h0, if_pos h0]
 ·rw [if_neg h0, if_neg h0]
  have hb := h.inmost h0
  obtain ⟨p, hp⟩ : ∃ p : Nat, jZ st = p := ⟨(jZ st).toNat, by omega⟩
  rw [hp, kH (by omega)]
theorem GW {l t : List qI} {st : List Int} {x : qI} (h : StOk l.length st) : jH (l ++ t) st x = jH l st x := by
 unfold jH
 rw [qZM h]
theorem StOk.mono {i j : Nat} {st : List Int} (h : StOk i st) (hij : i ≤ j) : StOk j st := fun y hy => by have := h y hy; omega
def qQD (l : List qI) (calm : Bool) (j : Nat) (x : qI) : Prop := (x.1 = 12 ∨ x.1 = 13) → ∃ c : Nat, x.2.2.2.1 = c ∧ c ≤ l.length ∧ qj l c = qj l j ∧ (calm = true → j < c)
structure Q3 (calm : Bool) (x : qI) : Prop where
  may : xm x = true
  no : x.1 ≠ 23
  n : 0 ≤ x.2.2.2.2 ∧ x.2.2.2.2 < 18446744073709551616
  cal : calm = true → x.1 ≠ 20 ∧ x.1 ≠ 22 ∧ x.1 ≠ 12
structure Bld (calm : Bool) (l : List qI) (st : List Int) : Prop where
  ok : ∀ x ∈ l, Q3 calm x
  wr : ∀ j, j < l.length → jH l (qj l j) (qA l j) = 0
  top : qj l l.length = st
  jp : ∀ j, j < l.length → qQD l calm j (qA l j)
  five : st.length ≤ 5
def jO (l : List qI) (st : List Int) : List Int := st.map fun p => (qA l p).1
theorem kF {l t : List qI} {st : List Int} (h : StOk l.length st) : jO (l ++ t) st = jO l st := by
 unfold jO
 refine List.map_congr_left fun p hp => ?_
 have := h p hp
 obtain ⟨q, rfl⟩ : ∃ q : Nat, p = q := ⟨p.toNat, by omega⟩
 rw [kH (by omega)]
theorem Bld.stok {calm : Bool} {l : List qI} {st : List Int} (B : Bld calm l st) : StOk l.length st := by rw [← B.top]; exact (JK l.length).1
theorem Bld.nil (calm : Bool) : Bld calm [] [] := ⟨fun x hx => (by cases hx), fun j hj => (by simp at hj), rfl, fun j hj => (by simp at hj), (by simp)⟩
theorem Bld.ext {calm : Bool} {l t : List qI} {st : List Int} (B : Bld calm l st) (h1 : ∀ x ∈ t, Q3 calm x) (h2 : ∀ k, k < t.length → jH (l ++ t) (qj (l ++ t) (l.length + k)) (qA (l ++ t) ((l.length + k : Nat) : Int)) = 0)
  (h3 : ∀ k, k < t.length → qQD (l ++ t) calm (l.length + k) (qA (l ++ t) ((l.length + k : Nat) : Int))) (h5 : (qj (l ++ t) (l ++ t).length).length ≤ 5) : Bld calm (l ++ t) (qj (l ++ t) (l ++ t).length) := by
 refine ⟨?_, ?_, rfl, ?_, h5⟩
 ·intro x hx
  rcases List.mem_append.1 hx with hx | hx
  ·exact B.ok x hx
  ·exact h1 x hx
 ·intro j hj
  by_cases hjl : j < l.length
  ·rw [yO j (by omega), kH hjl, GW ((JK j).1.mono (by omega))]
   exact B.wr j hjl
  ·have := h2 (j - l.length) (by simp at hj; omega)
   rwa [show l.length + (j - l.length) = j by omega] at this
 ·intro j hj
  by_cases hjl : j < l.length
  ·intro ho
   rw [kH hjl] at ho ⊢
   obtain ⟨c, c1, c2, c3, c4⟩ := B.jp j hjl ho
   exact ⟨c, c1, by simp; omega, by rw [yO c c2, yO j (by omega)]; exact c3, c4⟩
  ·have := h3 (j - l.length) (by simp at hj; omega)
   rwa [show l.length + (j - l.length) = j by omega] at this
theorem NM {l : List qI} {x : qI} : qj (l ++ [x]) (l.length + 1) = jg (qj l l.length) l.length x.1 := by
 have e := gd (l := l) (t := [x]) (k := 0) (x := x) rfl
 rw [Nat.add_zero] at e
 rw [jw, yO _ (Nat.le_refl _), e]
theorem Bld.app {calm : Bool} {l : List qI} {st : List Int} (B : Bld calm l st) {x : qI} (h1 : Q3 calm x) (h2 : jH l st x = 0) (h3 : x.1 ≠ 12 ∧ x.1 ≠ 13) (h5 : (jg st l.length x.1).length ≤ 5) : Bld calm (l ++ [x]) (jg st l.length x.1) := by
 have e := gd (l := l) (t := [x]) (k := 0) (x := x) rfl
 rw [Nat.add_zero] at e
 have hs : qj (l ++ [x]) (l ++ [x]).length = jg st l.length x.1 := by
  rw [List.length_append, List.length_singleton, NM, B.top]
 rw [← hs] at h5 ⊢
 refine B.ext (by intro y hy; rw [List.mem_singleton] at hy; subst hy; exact h1) ?_ ?_ h5
 ·intro k hk
  obtain rfl : k = 0 := by simpa using hk
  rw [Nat.add_zero, e, yO _ (Nat.le_refl _), B.top, GW B.stok]
  exact h2
 ·intro k hk
  obtain rfl : k = 0 := by simpa using hk
  rw [Nat.add_zero, e]
  intro ho
  omega
def Flat (op : Int) : Prop := op ≠ 14 ∧ op ≠ 15 ∧ op ≠ 16 ∧ op ≠ 17 ∧ op ≠ 18 ∧ op ≠ 19
theorem Flat.behind {op : Int} (h : Flat op) (st : List Int) (i : Int) : jg st i op = st := by
 obtain ⟨h1, h2, h3, h4, h5, h6⟩ := h
 unfold jg
 rw [if_neg (by unfold zC; simp; omega), if_neg (by unfold jc; rw [if_neg h2, if_neg h5, if_neg h6]; omega)]
theorem Flat.wrong {x : qI} (h : Flat x.1) (hm : xm x = true) (l : List qI) (st : List Int) : jH l st x = 0 := by
 obtain ⟨h1, h2, h3, h4, h5, h6⟩ := h
 unfold jH
 rw [if_neg (by rw [hm]; simp), if_neg (fun hh => by have := hh.1; unfold jc at this; rw [if_neg h2, if_neg h5, if_neg h6] at this; omega), if_neg (fun hh => h3 hh.1),
  if_neg (fun hh => by have := hh.1; unfold zC at this; simp at this; omega)]
theorem Bld.flat {calm : Bool} {l : List qI} {st : List Int} (B : Bld calm l st) {x : qI} (h1 : Q3 calm x) (hf : Flat x.1) (h3 : x.1 ≠ 12 ∧ x.1 ≠ 13) : Bld calm (l ++ [x]) st := by
 have := B.app h1 (hf.wrong h1.may l st) h3 (by rw [hf.behind]; exact B.five)
 rwa [hf.behind] at this
theorem Bld.two {calm : Bool} {l : List qI} {st : List Int} (B : Bld calm l st) {x y : qI} (hx : Q3 calm x) (hy : Q3 calm y) (fx : Flat x.1) (fy : Flat y.1)
  (jx : (x.1 = 12 ∨ x.1 = 13) → x.2.2.2.1 = ((l.length + 2 : Nat) : Int)) (jy : (y.1 = 12 ∨ y.1 = 13) → y.2.2.2.1 = (l.length : Int) ∧ calm = false) : Bld calm (l ++ [x, y]) st := by
 have e0 := gd (l := l) (t := [x, y]) (k := 0) (x := x) rfl
 have e1 := gd (l := l) (t := [x, y]) (k := 1) (x := y) rfl
 rw [Nat.add_zero] at e0
 have s0 : qj (l ++ [x, y]) l.length = st := by rw [yO _ (Nat.le_refl _), B.top]
 have s1 : qj (l ++ [x, y]) (l.length + 1) = st := by rw [jw, s0, e0, fx.behind]
 have s2 : qj (l ++ [x, y]) (l.length + 2) = st := by rw [show l.length + 2 = l.length + 1 + 1 from rfl, jw, s1, e1, fy.behind]
 have hs : qj (l ++ [x, y]) (l ++ [x, y]).length = st := by rw [List.length_append]; exact s2
 have := B.ext (t := [x, y]) (by intro z hz; simp at hz; rcases hz with rfl | rfl; exact hx; exact hy) (fun k hk => by
  have hk : k = 0 ∨ k = 1 := by simp at hk; omega
  rcases hk with rfl | rfl
  ·rw [Nat.add_zero, e0]; exact fx.wrong hx.may _ _
  ·rw [e1]; exact fy.wrong hy.may _ _) (fun k hk => by
  have hk : k = 0 ∨ k = 1 := by simp at hk; omega
  rcases hk with rfl | rfl
  ·rw [Nat.add_zero, e0]
   intro ho
   exact ⟨l.length + 2, jx ho, by simp, by rw [s2, s0], fun _ => by omega⟩
  ·rw [e1]
   intro ho
   obtain ⟨a, b⟩ := jy ho
   exact ⟨l.length, a, by simp, by rw [s0, s1], fun h => by rw [b] at h; cases h⟩) (by rw [hs]; exact B.five)
 rwa [hs] at this
abbrev one (op : Int) : qI := (op, 0, 0, 0, 0)
theorem Vt (calm : Bool) {op : Int} (h : op = 14 ∨ op = 15 ∨ op = 16 ∨ op = 17 ∨ op = 18 ∨ op = 19) : Q3 calm (one op) := by
 refine ⟨?_, by dsimp only; omega, by dsimp only; omega, fun _ => by dsimp only; omega⟩
 rcases h with rfl | rfl | rfl | rfl | rfl | rfl <;> decide
theorem Bld.begin {calm : Bool} {l : List qI} {st : List Int} (B : Bld calm l st) {op : Int} (h : op = 14 ∨ op = 17) (h5 : st.length < 5) : Bld calm (l ++ [one op]) (st ++ [(l.length : Int)]) ∧ jO (l ++ [one op]) (st ++ [(l.length : Int)]) = jO l st ++ [op] := by
 have hb : jg st l.length op = st ++ [(l.length : Int)] := by
  unfold jg
  rw [if_pos (.inl (by unfold zC; exact decide_eq_true h)), if_neg (by rcases h with rfl | rfl <;> decide)]
 have hw : jH l st (one op) = 0 := by
  unfold jH
  rw [if_neg (by rcases h with rfl | rfl <;> decide), if_neg (fun hh => by have := hh.1; rcases h with rfl | rfl <;> exact absurd this (by decide)), if_neg (fun hh => by have := hh.1; dsimp only at this; omega), if_neg (by omega)]
 have := B.app (x := one op) (Vt calm (by omega)) hw (by dsimp only; omega) (by rw [hb]; simp; omega)
 rw [hb] at this
 refine ⟨this, ?_⟩
 unfold jO
 rw [List.map_append]
 congr 1
 ·exact kF B.stok
 ·have e := gd (l := l) (t := [one op]) (k := 0) (x := one op) rfl
  rw [Nat.add_zero] at e
  rw [List.map_singleton, e]
theorem Bld.undo {calm : Bool} {l : List qI} {st : List Int} (B : Bld calm l st) (h : opM l st = 14) : Bld calm (l ++ [one 16]) st := by
 have hb : jg st l.length 16 = st := by
  unfold jg
  rw [if_neg (by decide), if_neg (by decide)]
 have hw : jH l st (one 16) = 0 := by
  unfold jH
  rw [if_neg (by decide), if_neg (fun hh => absurd hh.1 (by decide)), if_neg (fun hh => hh.2 h), if_neg (fun hh => absurd hh.1 (by decide))]
 have := B.app (x := one 16) (Vt calm (by omega)) hw (by decide) (by rw [hb]; exact B.five)
 rwa [hb] at this
def yq (o : Int) : Int := if o = 14 then 15 else if o = 17 then 18 else 19
def ww (l : List qI) (st : List Int) : List qI := l ++ [one (yq (opM l st))]
def QJ (l : List qI) (st : List Int) : List Int := if opM l st = 17 then st.dropLast ++ [(l.length : Int)] else st.dropLast
theorem Bld.shut {calm : Bool} {l : List qI} {st : List Int} (B : Bld calm l st) (hn : st ≠ []) (ho : opM l st = 14 ∨ opM l st = 17 ∨ opM l st = 18) : Bld calm (ww l st) (QJ l st) ∧
  jO (ww l st) (QJ l st) = (jO l st).dropLast ++ (if opM l st = 17 then [18] else []) := by
 have hs : jc (yq (opM l st)) = opM l st := by rcases ho with h | h | h <;> rw [h] <;> decide
 have hso : yq (opM l st) = 15 ∨ yq (opM l st) = 18 ∨ yq (opM l st) = 19 := by
  unfold yq
  repeat' split
  all_goals omega
 have he : 0 < jc (yq (opM l st)) := by rw [hs]; omega
 have hlen := List.length_pos_iff.2 hn
 have hb : jg st l.length (yq (opM l st)) = QJ l st := by
  unfold jg QJ
  rw [if_pos he]
  by_cases h17 : opM l st = 17
  ·rw [if_pos h17, if_pos (.inr (by rw [h17]; decide))]
  ·rw [if_neg h17, if_neg]
   rcases ho with h | h | h
   ·rw [h]; decide
   ·exact absurd h h17
   ·rw [h]; decide
 have hw : jH l st (one (yq (opM l st))) = 0 := by
  unfold jH
  rw [if_neg (by rcases hso with h | h | h <;> rw [h] <;> decide), if_neg (fun hh => hh.2 hs.symm), if_neg (fun hh => by have := hh.1; dsimp only at this; omega), if_neg (fun hh => by
   have := hh.1
   rcases hso with h | h | h <;> rw [h] at this <;> exact absurd this (by decide))]
 have h5 := B.five
 have := B.app (x := one (yq (opM l st))) (Vt calm (by omega)) hw (by dsimp only; omega) (by rw [hb]; unfold QJ; split <;> simp <;> omega)
 rw [hb] at this
 refine ⟨this, ?_⟩
 unfold ww QJ jO
 have hd : (st.dropLast.map fun p => (qA (l ++ [one (yq (opM l st))]) p).1) = (jO l st).dropLast := by
  have := kF (t := [one (yq (opM l st))]) B.stok.dropLast
  unfold jO at this ⊢
  rw [this, List.map_dropLast]
 split
 ·rename_i h17
  have e := gd (l := l) (t := [one (yq (opM l st))]) (k := 0) (x := one (yq (opM l st))) rfl
  rw [Nat.add_zero] at e
  rw [List.map_append, hd, List.map_singleton, e, h17]; rfl
 ·rw [hd, List.append_nil]; rfl
theorem Ki {l : List qI} {st : List Int} (hn : st ≠ []) : opM l st = (jO l st).getLast?.getD 0 := by
 unfold opM jO jZ
 rw [if_neg hn, List.getLast?_map, List.getLast?_eq_some_getLast hn]; rfl
theorem Bld.fit {calm : Bool} {l : List qI} (B : Bld calm l []) (h0 : 0 < l.length) (h40 : l.length ≤ 40) : xG l = (0, 0) := by
 have key : ∀ d i, i + d = l.length → goM l (l.drop i) i (qj l i) = .inr [] := by
  intro d
  induction d with
  | zero =>
   intro i hi
   obtain rfl : i = l.length := by omega
   rw [List.drop_length, B.top]; rfl
  | succ d ih =>
   intro i hi
   have hlt : i < l.length := by omega
   rw [w6 hlt]
   have hw := B.wr i hlt
   rw [jt hlt] at hw
   rw [if_pos hw]
   have := ih (i + 1) (by omega)
   rw [jw, jt hlt] at this
   exact this
 have hg := key l.length 0 (by omega)
 have hreg : ∀ j, j < l.length → (xP l 0 [])[j]? = some (jZ (qj l j)) := fun j hj => by
  have := JF (l := l) l.length 0 (by omega) j (by omega)
  rw [Nat.zero_add] at this
  exact this
 have hnum : ∀ j : Nat, j < l.length → qa (xP l 0 []) (j : Int) = jZ (qj l j) := fun j hj => by
  unfold qa; rw [Int.toNat_natCast, hreg j hj]; rfl
 have hj : ∀ d i, i + d = l.length → wc l (xP l 0 []) (l.drop i) i = (0, 0) := by
  intro d
  induction d with
  | zero =>
   intro i hi
   obtain rfl : i = l.length := by omega
   rw [List.drop_length]; rfl
  | succ d ih =>
   intro i hi
   have hlt : i < l.length := by omega
   rw [wC hlt, if_neg, ih (i + 1) (by omega)]
   rintro ⟨ho, hc⟩
   have hB := B.jp i hlt
   rw [jt hlt] at hB
   obtain ⟨c, c1, c2, c3, _⟩ := hB ho
   rw [c1] at hc
   rcases hc with hc | ⟨hc, hc2⟩ | ⟨hc, hc2⟩
   ·omega
   ·have : c = l.length := by omega
    subst this
    rw [B.top] at c3
    rw [hnum i hlt, ← c3] at hc2
    exact hc2 rfl
   ·rw [hnum c (by omega), hnum i hlt, c3] at hc2
    exact hc2 rfl
 unfold xG
 rw [if_neg (by omega)]
 have hg2 : goM l l 0 [] = .inr [] := hg
 rw [hg2]
 dsimp only
 rw [if_pos rfl]
 exact hj l.length 0 (by omega)
end Go.Proofs.YtdlfmpmpmkffjaaGreatDoor
namespace Go.Proofs.YtdlfmpmpmkffjaaGreatDoor
open Go Go.Ae
set_option maxRecDepth 100000
variable {g h : AH} {L R : List SP}
def OkN (zs : List Int) : Prop := ∀ z ∈ zs, 0 ≤ z ∧ z < 18446744073709551616
theorem OkN.set {zs : List Int} {i : Nat} {x : Int} (h : OkN zs) (hx : 0 ≤ x ∧ x < 18446744073709551616) : OkN (zs.set i x) := by
 intro z hz
 rcases List.mem_or_eq_of_mem_set hz with h1 | rfl
 ·exact h z h1
 ·exact hx
theorem Jl {u x : Bool} {r : AV} {K : AV → Go.Ae.R} {Q : AV → AH → Prop} (hr : u = true → r = .bool x) (w : wp (K (.bool (u && x))) Q) : wp (qn (.bool u) r (.bool false) K) Q := by
 cases u
 ·exact w
 ·rw [hr rfl]; exact w
theorem OR {k : IntKind} {a b : Int} {K : AV → Go.Ae.R} {Q : AV → AH → Prop} (w : ∀ z : Int, wp (K (.int k z)) Q) : wp (qq .and (.int k a) (.int k b) K) Q := by
 rw [gO]; simp only [gc]; exact w _
def tw (c : Int) : Int := zL .i64 (1 * 2 ^ (min c.toNat (IntKind.bits .i64)))
theorem tw_b {c : Int} (h : 1 ≤ c ∧ c ≤ 3) : 2 ≤ tw c ∧ tw c ≤ 8 := by
 obtain rfl | rfl | rfl : c = 1 ∨ c = 2 ∨ c = 3 := by omega
 all_goals decide
theorem Zz {x lo hi : Int} (h : lo ≤ hi) : lo ≤ js x lo hi ∧ js x lo hi ≤ hi := by
 unfold js
 have := kB x (show 0 < hi - lo + 1 by omega)
 split <;> omega
def OkZ (zs : List Int) : Prop := OkN zs ∧ zs[0]? = some 0
theorem OkZ.set {zs : List Int} {i : Nat} {x : Int} (h : OkZ zs) (hx : 0 ≤ x ∧ x < 18446744073709551616) (hi : 0 < i) : OkZ (zs.set i x) := ⟨h.1.set hx, by rw [List.getElem?_set_ne (by omega)]; exact h.2⟩
theorem Vc {n : Nat} (hn : 2 ≤ n) {x : Int} {rv bv : AV} {rs bs : List Int} (H : HS g h R) (SR : Rd g R 1 rs.length rv (rs.map (.int .u64))) (hr : ∀ z ∈ rs, 0 ≤ z ∧ z < 18446744073709551616) (S : Rd g R 1 bs.length bv (bs.map (.int .u8))) (hb : ∀ z ∈ bs, 0 ≤ z ∧ z ≤ 255) :
  wp (callT tab qc n (.fn 22 [] []) [.int .i64 x, rv, bv] h) fun r h' => ∃ zs, OkN zs ∧ zs[0]? = some 0 ∧ 32 ≤ zs.length ∧ zs.length ≤ 80 ∧ shut r = true ∧ Zs r ∧ HS g h' (qb 26 1 zs.length r (zs.map (.int .u64)) :: R) := by
 (refine qr (g := W22) rfl (by omega) fun k hk => ?_; show wp (S22 (callT tab qc k) _ _ _ _) _; unfold S22; try simp only [iI, uU, Int.ofNat_eq_natCast])
 refine qx (yS (by omega) (by omega) (by omega) (by omega)) ?_
 rintro _ _ ⟨rfl, rfl⟩
 have hwb := Zz (x := x) (lo := ((32 : Nat) : Int)) (hi := ((80 : Nat) : Int)) (by omega)
 obtain ⟨n, hn⟩ : ∃ n : Nat, js x ((32 : Nat) : Int) ((80 : Nat) : Int) = (n : Int) := ⟨_, (Int.toNat_of_nonneg (by omega)).symm⟩
 rw [hn] at hwb ⊢
 refine GE (Nat.le_refl _) (by omega) fun b h3 hb3 A F => ?_
 have H3 : HS g h3 (qb 26 1 n (.slice b 0 n n false) ((List.replicate n (0 : Int)).map (.int .u64)) :: R) := by
  refine H.add (D' := fun a => a = b) F.none ⟨by simp, .inr ⟨b, n, false, _, rfl, fun a => Iff.rfl, A, by rw [yv]; simp, ?_, ?_⟩⟩ ?_
  ·rw [List.take_of_length_le (by rw [yv]; simp), Yk, List.map_replicate]; rfl
  ·rw [if_neg (by simp)]; exact ⟨by rw [yv]; rfl, Nat.le_refl _⟩
  ·rintro a rfl; exact ⟨hb3, A.lt⟩
 have z0 : OkZ (List.replicate n (0 : Int)) := ⟨by intro z hz; rw [List.eq_of_mem_replicate hz]; omega, by rw [List.getElem?_replicate, if_pos (by omega)]⟩
 have hsh : shut (.slice b 0 n n false) = true := rfl
 have hro : Zs (.slice b 0 n n false) := Nat.le_refl n
 generalize AV.slice b 0 n n false = wv at *
 clear H F A
 refine gS (i := 5) H3 (by omega) ⟨rfl, rfl⟩ fun h4 H => ?_
 rw [← List.map_set] at H
 have z1 := z0.set (i := 5) (x := ((14 : Nat) : Int)) (by omega) (by omega)
 have l1 : ((List.replicate n (0 : Int)).set 5 ((14 : Nat) : Int)).length = n := by simp
 generalize (List.replicate n (0 : Int)).set 5 ((14 : Nat) : Int) = zs at *
 clear z0 H3
 refine zW (fun m s h' => ∃ (i : Nat) (zs : List Int), s = (.int .i64 (i : Int), wv, bv, rv, ()) ∧ i ≤ 8 ∧ m = 8 - i ∧ OkZ zs ∧ zs.length = n ∧ HS g h' (qb 26 1 n wv (zs.map (.int .u64)) :: R))
  ?_ (m := 8) (by show 8 < 1000000000; omega) ⟨0, zs, rfl, by omega, by omega, z1, l1, H⟩
 clear H z1 l1 zs
 rintro m ih s h4 hih ⟨i, zs, rfl, hi8, rfl, z1, l1, H⟩
 dsimp only
 refine zF (SR.sl H.drop) (wB ?_)
 refine J8 (fun s g' => ∃ (r : AV) (u x : Bool), s = (r, .bool u, .int .i64 (i : Int), wv, bv, rv, ()) ∧ g' = h4 ∧ (u = true → r = .bool x) ∧ ((u && x) = decide (i < rs.length ∧ i < 8))) ?_ ?_
 ·intro j hj
  refine MN (fun hl => wB (hj _ _ ⟨_, _, decide (i < 8), rfl, rfl, fun _ => (by congr 1; exact decide_eq_decide.2 (by omega)), ?_⟩)) (fun hl => hj _ _ ⟨_, _, false, rfl, rfl, fun h => absurd (of_decide_eq_true h) hl, ?_⟩)
  ·have hl' : i < rs.length := by omega
   simp [hl']
  ·have hl' : ¬ i < rs.length := by omega
   simp [hl']
 rintro s h4 ⟨r, u, x2, rfl, rfl, hr2, hux⟩
 refine Jl hr2 ?_
 rw [hux]
 dsimp only
 clear hr2 hux
 refine Gt (fun hi => ?_) fun hi => ?_
 ·have hci : (rs.map (AV.int .u64))[i]? = some (.int .u64 rs[i]) := by rw [List.getElem?_map, List.getElem?_eq_getElem hi.1]; rfl
  have hbi := hr rs[i] (List.getElem_mem hi.1)
  have hb1 := Int.tmod_nonneg ((90 : Nat) : Int) hbi.1
  have hb2 := Int.tmod_lt_of_pos rs[i] (show 0 < ((90 : Nat) : Int) by omega)
  refine qh (by omega) (ju (SR.sl H.drop) hci (wu (by omega) ?_))
  rw [show ((6 : Nat) : Int) + (i : Int) = ((6 + i : Nat) : Int) by omega]
  refine gS H (by omega) ⟨rfl, rfl⟩ fun h6 H6 => ?_
  rw [← List.map_set] at H6
  exact qh (by omega) (hih (8 - (i + 1)) _ _ (by omega) ⟨i + 1, _, rfl, by omega, rfl, z1.set (by omega) (by omega), by simp [l1], H6⟩)
 ·refine zp [] (fun s h' => s = (wv, ()) ∧ ∃ zs, OkZ zs ∧ zs.length = n ∧ HS g h' (qb 26 1 n wv (zs.map (.int .u64)) :: R)) ?_ ?_
  ·intro j hj
   refine zW (fun m s h' => ∃ (i : Nat) (at' : Int) (zs : List Int), s = (.int .i64 (i : Int), .int .i64 at', wv, bv, ()) ∧ i ≤ 8 ∧ m = 8 - i ∧ 14 ≤ at' ∧ at' ≤ n ∧ OkZ zs ∧ zs.length = n ∧ HS g h' (qb 26 1 n wv (zs.map (.int .u64)) :: R))
    ?_ (m := 8) (by show 8 < 1000000000; omega) ⟨0, ((14 : Nat) : Int), zs, rfl, by omega, by omega, by omega, by omega, z1, l1, H⟩
   clear H z1 l1 hih zs ih
   rintro m ih s h5 hih ⟨i, a, zs, rfl, hi8, rfl, ha, ha2, hz, hl, H⟩
   dsimp only
   refine zF (S.sl H.drop) (wB ?_)
   refine J8 (fun s g' => ∃ (r : AV) (u x : Bool), s = (r, .bool u, .int .i64 (i : Int), .int .i64 a, wv, bv, ()) ∧ g' = h5 ∧ (u = true → r = .bool x) ∧ ((u && x) = decide (i < bs.length ∧ i < 8))) ?_ ?_
   ·intro j hj
    refine MN (fun hl => wB (hj _ _ ⟨_, _, decide (i < 8), rfl, rfl, fun _ => (by congr 1; exact decide_eq_decide.2 (by omega)), ?_⟩)) (fun hl => hj _ _ ⟨_, _, false, rfl, rfl, fun h => absurd (of_decide_eq_true h) hl, ?_⟩)
    ·have hl' : i < bs.length := by omega
     simp [hl']
    ·have hl' : ¬ i < bs.length := by omega
     simp [hl']
   rintro s h5 ⟨r, u, x, rfl, rfl, hr, hux⟩
   refine Jl hr ?_
   rw [hux]
   dsimp only
   refine Gt (fun hi => ?_) fun hi => hj _ _ ⟨rfl, zs, hz, hl, H⟩
   have hci : (bs.map (AV.int .u8))[i]? = some (.int .u8 bs[i]) := by rw [List.getElem?_map, List.getElem?_eq_getElem hi.1]; rfl
   have hbi := hb bs[i] (List.getElem_mem hi.1)
   have hb1 := Int.tmod_nonneg ((3 : Nat) : Int) hbi.1
   have hb2 := Int.tmod_lt_of_pos bs[i] (show 0 < ((3 : Nat) : Int) by omega)
   refine ju (S.sl H.drop) hci (wu (by omega) (zn (by omega) (qh (by omega) ?_)))
   obtain ⟨c, hc⟩ : ∃ c, c = Int.tmod bs[i] ((3 : Nat) : Int) + ((1 : Nat) : Int) := ⟨_, rfl⟩
   rw [← hc]
   have hcb : 1 ≤ c ∧ c ≤ 3 := by omega
   have htw := tw_b hcb
   refine qh (by omega) (xy (by omega) (U3 (by omega) ?_))
   show wp (qq .add _ (.int .i64 (tw c)) _) _
   refine qh (by omega) (jb H .here (yV (fun hg => qY (hj _ _ ⟨rfl, zs, hz, hl, H⟩)) fun hg => qQ ?_))
   obtain ⟨p, rfl⟩ : ∃ p : Nat, a = (p : Int) := ⟨a.toNat, by omega⟩
   refine xy (by omega) ?_
   refine gS H (by omega) ⟨rfl, rfl⟩ fun h6 H => ?_
   rw [← List.map_set] at H
   have hz2 := hz.set (i := p) (x := c) (by omega) (by omega)
   have hl2 : (zs.set p c).length = n := by simp [hl]
   generalize zs.set p c = zs2 at *
   clear hz hl
   refine zp [] (fun s h' => s = (.int .i64 c, .int .i64 (i : Int), .int .i64 (p : Int), wv, bv, ()) ∧ ∃ zs, OkZ zs ∧ zs.length = n ∧ HS g h' (qb 26 1 n wv (zs.map (.int .u64)) :: R)) ?_ ?_
   ·intro j hj
    refine ju (S.sl H.drop) hci (OR fun z => ?_)
    refine yV (fun _ => qY ?_) fun _ => qQ ?_
    ·refine qh (by omega) (xy (by omega) ?_)
     refine gS H (by omega) ⟨rfl, rfl⟩ fun h7 H7 => ?_
     rw [← List.map_set] at H7
     exact hj _ _ ⟨rfl, _, hz2.set (by omega) (by omega), by simp [hl2], H7⟩
    ·refine ju (S.sl H.drop) hci (OR fun z => ?_)
     refine yV (fun _ => qY ?_) fun _ => qQ (hj _ _ ⟨rfl, zs2, hz2, hl2, H⟩)
     refine qh (by omega) (qh (by omega) (zQ (by omega) ?_))
     obtain ⟨d, hd⟩ : ∃ d : Nat, ((1 : Nat) : Int) + c - ((1 : Nat) : Int) = (d : Int) := ⟨c.toNat, by omega⟩
     rw [hd]
     have hdn : d < zs2.length := by omega
     refine ju (x := .int .u64 zs2[d]) (H.sl .here) (by rw [List.getElem?_map, List.getElem?_eq_getElem hdn]; rfl) ?_
     rw [show (p : Int) + ((1 : Nat) : Int) = ((p + 1 : Nat) : Int) by omega]
     refine gS H (by omega) ⟨rfl, rfl⟩ fun h7 H7 => ?_
     rw [← List.map_set] at H7
     refine qh (by omega) (zQ (by omega) (qh (by omega) (xy (by omega) ?_)))
     rw [hd]
     refine gS H7 (by omega) ⟨rfl, rfl⟩ fun h8 H8 => ?_
     rw [← List.map_set] at H8
     exact hj _ _ ⟨rfl, _, (hz2.set (hz2.1 zs2[d] (List.getElem_mem hdn)) (by omega)).set (by omega) (by omega), by simp [hl2], H8⟩
   rintro s h7 ⟨rfl, zs3, hz3, hl3, H⟩
   dsimp only
   refine qh (by omega) (xy (by omega) (U3 (by omega) ?_))
   show wp (qq .add _ (.int .i64 (tw c)) _) _
   refine qh (by omega) (xy (by omega) ?_)
   refine gS (i := 5) H (by omega) ⟨rfl, rfl⟩ fun h8 H8 => ?_
   rw [← List.map_set] at H8
   refine qh (by omega) (hih (8 - (i + 1)) _ _ (by omega) ⟨i + 1, _, _, rfl, by omega, rfl, by omega, by omega, hz3.set (by omega) (by omega), by simp [hl3], H8⟩)
  rintro s h5 ⟨rfl, zs, hz, hl, H⟩
  dsimp only
  refine qM (qk ⟨zs, hz.1, hz.2, by omega, by omega, hsh, hro, ?_⟩)
  rw [hl]
  exact H
theorem V4 {n : Nat} (hn : 2 ≤ n) {x : Int} {rv bv : AV} {rs bs : List Int} (H : HS g h R) (SR : Rd g R 1 rs.length rv (rs.map (.int .u64))) (hr : ∀ z ∈ rs, 0 ≤ z ∧ z < 18446744073709551616) (S : Rd g R 1 bs.length bv (bs.map (.int .u8))) (hb : ∀ z ∈ bs, 0 ≤ z ∧ z ≤ 255) :
  wp (callT tab qc n (.fn 22 [] []) [.int .i64 x, rv, bv] h) fun r h' => ∃ zs, OkN zs ∧ 32 ≤ zs.length ∧ zs.length ≤ 80 ∧ shut r = true ∧ Zs r ∧ HS g h' (qb 26 1 zs.length r (zs.map (.int .u64)) :: R) := by
 obtain ⟨r, h', e, zs, a, _, b⟩ := Vc hn (x := x) H SR hr S hb
 exact ⟨r, h', e, zs, a, b⟩
end Go.Proofs.YtdlfmpmpmkffjaaGreatDoor
namespace Go.Proofs.YtdlfmpmpmkffjaaGreatDoor
open Go Go.Ae
set_option maxRecDepth 100000
variable {g h : AH} {L R : List SP}
def jh (lv : AV) (l : List qI) : SP := qb 28 5 l.length lv (l.flatMap jj)
def QI (ov : AV) (o : List Int) : SP := qb 3 1 o.length ov (o.map (.int .i64))
theorem kf {n : Nat} (hn : 2 ≤ n) {x : Int} : wp (callT tab qc n (.fn 58 [] []) [.int .i64 x] h) fun v h' => v = .int .i64 (js x 0 6) ∧ h' = h := by
 (refine qr (g := W58) rfl (by omega) fun k hk => ?_; show wp (S58 (callT tab qc k) _ _) _; unfold S58; try simp only [iI, uU, Int.ofNat_eq_natCast])
 refine qx (yS (by omega) (by omega) (by omega) (by omega)) ?_
 rintro _ _ ⟨rfl, rfl⟩
 exact qk ⟨rfl, rfl⟩
theorem vD {l : List qI} {lv : AV} {t : List qI} {tv : AV} {K2 : AV → AH → Go.Ae.R} {Q : AV → AH → Prop} {D' : Nat → Prop} (H : HS g h (jh lv l :: R)) (S : Sl D' h 5 t.length tv (t.flatMap jj)) (hl : l.length + t.length ≤ 100000)
  (w : ∀ v' h', HS g h' (jh v' (l ++ t) :: R) → wp (K2 v' h') Q) : wp (q8 h 28 5 lv tv K2) Q := by
 refine zl H S (by omega) (by omega) (Jo t) fun v' h' H' => w v' h' ?_
 unfold jh
 rw [List.length_append, List.flatMap_append]
 exact H'
theorem ZU {a n : Int} (h : 0 ≤ a ∧ a ≤ 7) : xm (1, a, 0, 0, n) = true := by simp [xm, jE, yG]; omega
theorem may_2 {a b : Int} (h : 0 ≤ a ∧ a ≤ 7) (h2 : 0 ≤ b ∧ b ≤ 7) : xm (2, a, b, 0, 0) = true := by simp [xm, jE, yG]; omega
theorem may_3 {o a b c : Int} (ho : 3 ≤ o ∧ o ≤ 7) (h : 0 ≤ a ∧ a ≤ 7) (h2 : 0 ≤ b ∧ b ≤ 7) (h3 : 0 ≤ c ∧ c ≤ 7) : xm (o, a, b, c, 0) = true := by
 rcases (show o = 3 ∨ o = 4 ∨ o = 5 ∨ o = 6 ∨ o = 7 by omega) with rfl | rfl | rfl | rfl | rfl <;> (simp [xm, jE, yG]; omega)
theorem JZ {o a b c : Int} (ho : o = 8 ∨ o = 9) (h : 0 ≤ a ∧ a ≤ 7) (h2 : 0 ≤ b ∧ b ≤ 7) (h3 : 0 ≤ c ∧ c ≤ 15) : xm (o, a, b, c, 0) = true := by
 rcases ho with rfl | rfl <;> (simp [xm, jE, yG]; omega)
theorem OI {a b : Int} (h : 0 ≤ a ∧ a ≤ 7) (h2 : 0 ≤ b ∧ b ≤ 7) : xm (10, a, b, 0, 0) = true := by simp [xm, jE, yG]; omega
theorem O9 {o a : Int} (ho : o = 11 ∨ o = 21) (h : 0 ≤ a ∧ a ≤ 7) : xm (o, a, 0, 0, 0) = true := by
 rcases ho with rfl | rfl <;> (simp [xm, jE, yG]; omega)
theorem ZV {a c : Int} (h : 0 ≤ a ∧ a ≤ 7) (h3 : 0 ≤ c ∧ c ≤ 40) : xm (13, a, 0, c, 0) = true := by simp [xm, jE, yG]; omega
structure Yz (x : qI) : Prop where
  flat : Flat x.1
  nj : x.1 ≠ 12 ∧ x.1 ≠ 13
  ok : ∀ calm, Q3 calm x
theorem Yz.of {x : qI} (h1 : xm x = true) (h2 : (1 ≤ x.1 ∧ x.1 ≤ 11) ∨ x.1 = 21) (h3 : 0 ≤ x.2.2.2.2 ∧ x.2.2.2.2 < 18446744073709551616) : Yz x :=
 ⟨⟨by omega, by omega, by omega, by omega, by omega, by omega⟩, by omega, fun _ => ⟨h1, by omega, h3, fun _ => by omega⟩⟩
set_option maxHeartbeats 4000000 in
theorem QO {n : Nat} (hn : 3 ≤ n) {kx : qI} (hN : 0 ≤ kx.2.2.2.2 ∧ kx.2.2.2.2 < 18446744073709551616) (H : HS g h R) :
  wp (callT tab qc n (.fn 59 [] []) [.agg (jj kx)] h) fun r h' => ∃ x, r = .agg (jj x) ∧ Yz x ∧ HS g h' R := by
 (refine qr (g := W59) rfl (by omega) fun k hk => ?_; show wp (S59 (callT tab qc k) _ _) _; unfold S59; try simp only [iI, uU, Int.ofNat_eq_natCast])
 refine jJ H rfl fun b0 h1 H1 => ?_
 refine jJ H1 rfl fun b2 h2 H2 => ?_
 have H2 : HS g h2 (qU b2 [.int .i64 ((0 : Nat) : Int), .int .i64 ((0 : Nat) : Int), .int .i64 ((0 : Nat) : Int), .int .i64 ((0 : Nat) : Int), .int .u64 ((0 : Nat) : Int)] :: qU b0 (jj kx) :: R) := H2
 clear H H1
 refine qW ?_
 try dsimp only
 refine qV (qv H2 (b := b0) e_1 rfl ?_)
 refine qx (kf (by omega)) ?_
 rintro _ _ ⟨rfl, rfl⟩
 refine qV (qv H2 (b := b0) e_1 rfl ?_)
 refine qx (kf (by omega)) ?_
 rintro _ _ ⟨rfl, rfl⟩
 refine qV (qv H2 (b := b0) e_1 rfl ?_)
 refine qx (kf (by omega)) ?_
 rintro _ _ ⟨rfl, rfl⟩
 refine gW H2 (b := b0) e_1 rfl H2 e_1 rfl (HS.lt H2 e_1) ?_
 refine gW H2 (b := b0) e_1 rfl H2 e_1 rfl (HS.lt H2 e_1) ?_
 refine gW H2 (b := b0) e_1 rfl H2 e_1 rfl (HS.lt H2 e_1) ?_
 refine qV (qv H2 (b := b0) e_1 rfl ?_)
 refine qx (yS (by omega) (by omega) (by omega) (by omega)) ?_
 rintro _ _ ⟨rfl, rfl⟩
 refine qV (qv H2 (b := b0) e_1 rfl ?_)
 refine qx (yS (by omega) (by omega) (by omega) (by omega)) ?_
 rintro _ _ ⟨rfl, rfl⟩
 have ha := zV kx.2.1 (show (0 : Int) ≤ 6 by omega)
 have hb := zV kx.2.2.1 (show (0 : Int) ≤ 6 by omega)
 have hc := zV kx.2.2.2.1 (show (0 : Int) ≤ 6 by omega)
 have hat := zV kx.2.2.2.1 (show (((6 : Nat) : Int)) ≤ ((15 : Nat) : Int) by omega)
 have hw := zV kx.1 (show (((0 : Nat) : Int)) ≤ ((19 : Nat) : Int) by omega)
 generalize js kx.2.1 0 6 = a at *
 generalize js kx.2.2.1 0 6 = b at *
 generalize js kx.2.2.2.1 0 6 = c at *
 generalize js kx.2.2.2.1 ((6 : Nat) : Int) ((15 : Nat) : Int) = at_ at *
 generalize js kx.1 ((0 : Nat) : Int) ((19 : Nat) : Int) = w at *
 have fin : ∀ (x : qI) (h0 : AH), Yz x → HS g h0 (qU b2 [.int .i64 ((0 : Nat) : Int), .int .i64 ((0 : Nat) : Int), .int .i64 ((0 : Nat) : Int), .int .i64 ((0 : Nat) : Int), .int .u64 ((0 : Nat) : Int)] :: qU b0 (jj kx) :: R) →
   wp (qy h0 (.ptr b2 0) (.agg (jj x)) 5 fun h22 => qT [] h22 fun h23 => qR h23 (.ptr b2 0) 5 fun v24 => some (v24, h23)) fun r h' => ∃ x, r = .agg (jj x) ∧ Yz x ∧ HS g h' R := by
  intro x h0 hx H0
  refine jF H0 (b := b2) .here rfl (by show 0 + 5 ≤ 5; omega) rfl fun h6 H6 => ?_
  have H6 : HS g h6 (qU b2 (jj x) :: qU b0 (jj kx) :: R) := H6
  refine qM (qo H6 (b := b2) (off := 0) .here rfl (by omega) (l := jj x) rfl ?_)
  exact qk ⟨x, rfl, hx, H6.drop.drop⟩
 have z0 : (0 : Int) ≤ 0 ∧ (0 : Int) < 18446744073709551616 := by omega
 have hd : w = 0 ∨ w = 1 ∨ w = 2 ∨ w = 3 ∨ w = 4 ∨ w = 5 ∨ w = 6 ∨ w = 7 ∨ w = 8 ∨ w = 9 ∨ w = 10 ∨ w = 11 ∨ w = 12 ∨ w = 13 ∨ w = 14 ∨ w = 15 ∨ w = 16 ∨ 17 ≤ w := by omega
 rcases hd with h0 | h0 | h0 | h0 | h0 | h0 | h0 | h0 | h0 | h0 | h0 | h0 | h0 | h0 | h0 | h0 | h0 | h0
 all_goals (first | with_reducible (refine qW ?_; (try dsimp only); refine qK (by omega) ?_; refine qQ ?_; refine qK (by omega) ?_; refine qQ ?_; refine qK (by omega) ?_; refine qQ ?_; refine qK (by omega) ?_; refine qQ ?_; refine qK (by omega) ?_; refine qQ ?_; refine qW ?_; (try dsimp only); refine qK (by omega) ?_; refine qQ ?_; refine qK (by omega) ?_; refine qQ ?_; refine qK (by omega) ?_; refine qQ ?_; refine qW ?_; (try dsimp only); refine qK (by omega) ?_; refine qQ ?_; refine qK (by omega) ?_; refine qQ ?_; refine qK (by omega) ?_; refine qQ ?_; refine qK (by omega) ?_; refine qQ ?_; refine qK (by omega) ?_; refine qQ ?_; refine qW ?_; (try dsimp only); refine qK (by omega) ?_; refine qQ ?_; refine qK (by omega) ?_; refine qQ ?_; refine qK (by omega) ?_; refine qQ ?_; refine qO (by omega) ?_; refine qY ?_; refine qt rfl ?_) | with_reducible (refine qW ?_; (try dsimp only); refine qK (by omega) ?_; refine qQ ?_; refine qK (by omega) ?_; refine qQ ?_; refine qK (by omega) ?_; refine qQ ?_; refine qK (by omega) ?_; refine qQ ?_; refine qK (by omega) ?_; refine qQ ?_; refine qW ?_; (try dsimp only); refine qK (by omega) ?_; refine qQ ?_; refine qK (by omega) ?_; refine qQ ?_; refine qK (by omega) ?_; refine qQ ?_; refine qW ?_; (try dsimp only); refine qK (by omega) ?_; refine qQ ?_; refine qK (by omega) ?_; refine qQ ?_; refine qK (by omega) ?_; refine qQ ?_; refine qK (by omega) ?_; refine qQ ?_; refine qK (by omega) ?_; refine qQ ?_; refine qW ?_; (try dsimp only); refine qK (by omega) ?_; refine qQ ?_; refine qK (by omega) ?_; refine qQ ?_; refine qK (by omega) ?_; refine qQ ?_; refine qK (by omega) ?_; refine qQ ?_; refine qt rfl ?_) | with_reducible (refine qW ?_; (try dsimp only); refine qK (by omega) ?_; refine qQ ?_; refine qK (by omega) ?_; refine qQ ?_; refine qK (by omega) ?_; refine qQ ?_; refine qK (by omega) ?_; refine qQ ?_; refine qK (by omega) ?_; refine qQ ?_; refine qW ?_; (try dsimp only); refine qK (by omega) ?_; refine qQ ?_; refine qK (by omega) ?_; refine qQ ?_; refine qK (by omega) ?_; refine qQ ?_; refine qW ?_; (try dsimp only); refine qK (by omega) ?_; refine qQ ?_; refine qK (by omega) ?_; refine qQ ?_; refine qK (by omega) ?_; refine qQ ?_; refine qK (by omega) ?_; refine qQ ?_; refine qK (by omega) ?_; refine qQ ?_; refine qW ?_; (try dsimp only); refine qK (by omega) ?_; refine qQ ?_; refine qK (by omega) ?_; refine qQ ?_; refine qO (by omega) ?_; refine qY ?_; refine qt rfl ?_) | with_reducible (refine qW ?_; (try dsimp only); refine qK (by omega) ?_; refine qQ ?_; refine qK (by omega) ?_; refine qQ ?_; refine qK (by omega) ?_; refine qQ ?_; refine qK (by omega) ?_; refine qQ ?_; refine qK (by omega) ?_; refine qQ ?_; refine qW ?_; (try dsimp only); refine qK (by omega) ?_; refine qQ ?_; refine qK (by omega) ?_; refine qQ ?_; refine qK (by omega) ?_; refine qQ ?_; refine qW ?_; (try dsimp only); refine qK (by omega) ?_; refine qQ ?_; refine qK (by omega) ?_; refine qQ ?_; refine qK (by omega) ?_; refine qQ ?_; refine qK (by omega) ?_; refine qQ ?_; refine qK (by omega) ?_; refine qQ ?_; refine qW ?_; (try dsimp only); refine qK (by omega) ?_; refine qQ ?_; refine qO (by omega) ?_; refine qY ?_; refine qt rfl ?_) | with_reducible (refine qW ?_; (try dsimp only); refine qK (by omega) ?_; refine qQ ?_; refine qK (by omega) ?_; refine qQ ?_; refine qK (by omega) ?_; refine qQ ?_; refine qK (by omega) ?_; refine qQ ?_; refine qK (by omega) ?_; refine qQ ?_; refine qW ?_; (try dsimp only); refine qK (by omega) ?_; refine qQ ?_; refine qK (by omega) ?_; refine qQ ?_; refine qK (by omega) ?_; refine qQ ?_; refine qW ?_; (try dsimp only); refine qK (by omega) ?_; refine qQ ?_; refine qK (by omega) ?_; refine qQ ?_; refine qK (by omega) ?_; refine qQ ?_; refine qK (by omega) ?_; refine qQ ?_; refine qK (by omega) ?_; refine qQ ?_; refine qW ?_; (try dsimp only); refine qO (by omega) ?_; refine qY ?_; refine qY ?_; refine qt rfl ?_) | with_reducible (refine qW ?_; (try dsimp only); refine qK (by omega) ?_; refine qQ ?_; refine qK (by omega) ?_; refine qQ ?_; refine qK (by omega) ?_; refine qQ ?_; refine qK (by omega) ?_; refine qQ ?_; refine qK (by omega) ?_; refine qQ ?_; refine qW ?_; (try dsimp only); refine qK (by omega) ?_; refine qQ ?_; refine qK (by omega) ?_; refine qQ ?_; refine qK (by omega) ?_; refine qQ ?_; refine qW ?_; (try dsimp only); refine qK (by omega) ?_; refine qQ ?_; refine qK (by omega) ?_; refine qQ ?_; refine qK (by omega) ?_; refine qQ ?_; refine qK (by omega) ?_; refine qQ ?_; refine qO (by omega) ?_; refine qY ?_; refine qV ?_; refine qv (by assumption) e_1 rfl ?_) | with_reducible (refine qW ?_; (try dsimp only); refine qK (by omega) ?_; refine qQ ?_; refine qK (by omega) ?_; refine qQ ?_; refine qK (by omega) ?_; refine qQ ?_; refine qK (by omega) ?_; refine qQ ?_; refine qK (by omega) ?_; refine qQ ?_; refine qW ?_; (try dsimp only); refine qK (by omega) ?_; refine qQ ?_; refine qK (by omega) ?_; refine qQ ?_; refine qK (by omega) ?_; refine qQ ?_; refine qW ?_; (try dsimp only); refine qK (by omega) ?_; refine qQ ?_; refine qK (by omega) ?_; refine qQ ?_; refine qK (by omega) ?_; refine qQ ?_; refine qO (by omega) ?_; refine qY ?_; refine qV ?_; refine qv (by assumption) e_1 rfl ?_) | with_reducible (refine qW ?_; (try dsimp only); refine qK (by omega) ?_; refine qQ ?_; refine qK (by omega) ?_; refine qQ ?_; refine qK (by omega) ?_; refine qQ ?_; refine qK (by omega) ?_; refine qQ ?_; refine qK (by omega) ?_; refine qQ ?_; refine qW ?_; (try dsimp only); refine qK (by omega) ?_; refine qQ ?_; refine qK (by omega) ?_; refine qQ ?_; refine qK (by omega) ?_; refine qQ ?_; refine qW ?_; (try dsimp only); refine qK (by omega) ?_; refine qQ ?_; refine qK (by omega) ?_; refine qQ ?_; refine qO (by omega) ?_; refine qY ?_; refine qt rfl ?_) | with_reducible (refine qW ?_; (try dsimp only); refine qK (by omega) ?_; refine qQ ?_; refine qK (by omega) ?_; refine qQ ?_; refine qK (by omega) ?_; refine qQ ?_; refine qK (by omega) ?_; refine qQ ?_; refine qK (by omega) ?_; refine qQ ?_; refine qW ?_; (try dsimp only); refine qK (by omega) ?_; refine qQ ?_; refine qK (by omega) ?_; refine qQ ?_; refine qK (by omega) ?_; refine qQ ?_; refine qW ?_; (try dsimp only); refine qK (by omega) ?_; refine qQ ?_; refine qO (by omega) ?_; refine qY ?_; refine qY ?_; refine qt rfl ?_) | with_reducible (refine qW ?_; (try dsimp only); refine qK (by omega) ?_; refine qQ ?_; refine qK (by omega) ?_; refine qQ ?_; refine qK (by omega) ?_; refine qQ ?_; refine qK (by omega) ?_; refine qQ ?_; refine qK (by omega) ?_; refine qQ ?_; refine qW ?_; (try dsimp only); refine qK (by omega) ?_; refine qQ ?_; refine qK (by omega) ?_; refine qQ ?_; refine qK (by omega) ?_; refine qQ ?_; refine qW ?_; (try dsimp only); refine qO (by omega) ?_; refine qY ?_; refine qY ?_; refine qt rfl ?_) | with_reducible (refine qW ?_; (try dsimp only); refine qK (by omega) ?_; refine qQ ?_; refine qK (by omega) ?_; refine qQ ?_; refine qK (by omega) ?_; refine qQ ?_; refine qK (by omega) ?_; refine qQ ?_; refine qK (by omega) ?_; refine qQ ?_; refine qW ?_; (try dsimp only); refine qK (by omega) ?_; refine qQ ?_; refine qK (by omega) ?_; refine qQ ?_; refine qO (by omega) ?_; refine qY ?_; refine qt rfl ?_) | with_reducible (refine qW ?_; (try dsimp only); refine qK (by omega) ?_; refine qQ ?_; refine qK (by omega) ?_; refine qQ ?_; refine qK (by omega) ?_; refine qQ ?_; refine qK (by omega) ?_; refine qQ ?_; refine qK (by omega) ?_; refine qQ ?_; refine qW ?_; (try dsimp only); refine qK (by omega) ?_; refine qQ ?_; refine qO (by omega) ?_; refine qY ?_; refine qY ?_; refine qt rfl ?_) | with_reducible (refine qW ?_; (try dsimp only); refine qK (by omega) ?_; refine qQ ?_; refine qK (by omega) ?_; refine qQ ?_; refine qK (by omega) ?_; refine qQ ?_; refine qK (by omega) ?_; refine qQ ?_; refine qK (by omega) ?_; refine qQ ?_; refine qW ?_; (try dsimp only); refine qO (by omega) ?_; refine qY ?_; refine qY ?_; refine qt rfl ?_) | with_reducible (refine qW ?_; (try dsimp only); refine qK (by omega) ?_; refine qQ ?_; refine qK (by omega) ?_; refine qQ ?_; refine qK (by omega) ?_; refine qQ ?_; refine qK (by omega) ?_; refine qQ ?_; refine qO (by omega) ?_; refine qY ?_; refine qV ?_; refine qv (by assumption) e_1 rfl ?_) | with_reducible (refine qW ?_; (try dsimp only); refine qK (by omega) ?_; refine qQ ?_; refine qO (by omega) ?_; refine qY ?_; refine qV ?_; refine qv (by assumption) e_1 rfl ?_; refine qt rfl ?_) | with_reducible (refine qW ?_; (try dsimp only); refine qK (by omega) ?_; refine qQ ?_; refine qK (by omega) ?_; refine qQ ?_; refine qO (by omega) ?_; refine qY ?_; refine qV ?_; refine qv (by assumption) e_1 rfl ?_) | with_reducible (refine qW ?_; (try dsimp only); refine qK (by omega) ?_; refine qQ ?_; refine qK (by omega) ?_; refine qQ ?_; refine qK (by omega) ?_; refine qQ ?_; refine qO (by omega) ?_; refine qY ?_; refine qt rfl ?_) | with_reducible (refine qW ?_; (try dsimp only); refine qO (by omega) ?_; refine qY ?_; refine qY ?_; refine qV ?_; refine qv (by assumption) e_1 rfl ?_; refine qt rfl ?_))
 ·exact fin (1, a, 0, 0, kx.2.2.2.2) _ (.of (ZU (by omega)) (by dsimp only; omega) hN) H2
 ·exact fin (1, a, 0, 0, kx.2.2.2.2) _ (.of (ZU (by omega)) (by dsimp only; omega) hN) H2
 ·refine wu (by decide) ?_
  obtain ⟨m, hm⟩ : ∃ m : Nat, kx.2.2.2.2 = m := ⟨kx.2.2.2.2.toNat, by omega⟩
  have ht : kx.2.2.2.2.tmod ((20 : Nat) : Int) = ((m % 20 : Nat) : Int) := by rw [hm]; rfl
  rw [ht]
  with_reducible (refine qt rfl ?_)
  exact fin (1, a, 0, 0, ((m % 20 : Nat) : Int)) _ (.of (ZU (by omega)) (by dsimp only; omega) (by dsimp only; omega)) H2
 ·exact fin (2, a, b, 0, 0) _ (.of (may_2 (by omega) (by omega)) (by dsimp only; omega) z0) H2
 ·refine wu (by decide) ?_
  obtain ⟨m, hm⟩ : ∃ m : Nat, kx.2.2.2.2 = m := ⟨kx.2.2.2.2.toNat, by omega⟩
  have ht : kx.2.2.2.2.tmod ((64 : Nat) : Int) = ((m % 64 : Nat) : Int) := by rw [hm]; rfl
  rw [ht]
  refine zn (by omega) ?_
  refine qx (yS (by omega) (by omega) (by omega) (by omega)) ?_
  rintro _ _ ⟨rfl, rfl⟩
  have ho := zV ((m % 64 : Nat) : Int) (show (((0 : Nat) : Int)) ≤ ((4 : Nat) : Int) by omega)
  generalize js ((m % 64 : Nat) : Int) ((0 : Nat) : Int) ((4 : Nat) : Int) = o at *
  with_reducible (refine qh (by omega) ?_; refine qt rfl ?_)
  exact fin (((3 : Nat) : Int) + o, a, b, c, 0) _ (.of (may_3 (by omega) (by omega) (by omega) (by omega)) (by dsimp only; omega) z0) H2
 ·exact fin (8, a, 7, at_, 0) _ (.of (JZ (.inl rfl) (by omega) (by omega) (by omega)) (by dsimp only; omega) z0) H2
 ·exact fin (8, a, 7, at_, 0) _ (.of (JZ (.inl rfl) (by omega) (by omega) (by omega)) (by dsimp only; omega) z0) H2
 ·exact fin (8, a, 7, at_, 0) _ (.of (JZ (.inl rfl) (by omega) (by omega) (by omega)) (by dsimp only; omega) z0) H2
 ·exact fin (9, 7, b, at_, 0) _ (.of (JZ (.inr rfl) (by omega) (by omega) (by omega)) (by dsimp only; omega) z0) H2
 ·exact fin (9, 7, b, at_, 0) _ (.of (JZ (.inr rfl) (by omega) (by omega) (by omega)) (by dsimp only; omega) z0) H2
 ·exact fin (9, 7, b, at_, 0) _ (.of (JZ (.inr rfl) (by omega) (by omega) (by omega)) (by dsimp only; omega) z0) H2
 ·refine qx (yS (by omega) (by omega) (by omega) (by omega)) ?_
  rintro _ _ ⟨rfl, rfl⟩
  have ho := zV kx.2.2.2.1 (show (((0 : Nat) : Int)) ≤ ((3 : Nat) : Int) by omega)
  generalize js kx.2.2.2.1 ((0 : Nat) : Int) ((3 : Nat) : Int) = o at *
  with_reducible (refine qt rfl ?_)
  exact fin (8, a, b, o, 0) _ (.of (JZ (.inl rfl) (by omega) (by omega) (by omega)) (by dsimp only; omega) z0) H2
 ·refine qx (yS (by omega) (by omega) (by omega) (by omega)) ?_
  rintro _ _ ⟨rfl, rfl⟩
  have ho := zV kx.2.2.2.1 (show (((0 : Nat) : Int)) ≤ ((3 : Nat) : Int) by omega)
  generalize js kx.2.2.2.1 ((0 : Nat) : Int) ((3 : Nat) : Int) = o at *
  with_reducible (refine qt rfl ?_)
  exact fin (9, a, b, o, 0) _ (.of (JZ (.inr rfl) (by omega) (by omega) (by omega)) (by dsimp only; omega) z0) H2
 ·exact fin (10, a, b, 0, 0) _ (.of (OI (by omega) (by omega)) (by dsimp only; omega) z0) H2
 ·exact fin (10, a, b, 0, 0) _ (.of (OI (by omega) (by omega)) (by dsimp only; omega) z0) H2
 ·exact fin (11, a, 0, 0, 0) _ (.of (O9 (.inl rfl) (by omega)) (by dsimp only; omega) z0) H2
 ·exact fin (8, a, 7, at_, 0) _ (.of (JZ (.inl rfl) (by omega) (by omega) (by omega)) (by dsimp only; omega) z0) H2
 ·exact fin (21, a, 0, 0, 0) _ (.of (O9 (.inr rfl) (by omega)) (by dsimp only; omega) z0) H2
end Go.Proofs.YtdlfmpmpmkffjaaGreatDoor
namespace Go.Proofs.YtdlfmpmpmkffjaaGreatDoor
open Go Go.Ae
set_option maxRecDepth 100000
variable {g h : AH} {L R : List SP}
theorem Vz (l : List Int) : qu (l.map (AV.int .i64)) = true := by
 unfold qu
 rw [List.all_eq_true]
 intro y hy
 obtain ⟨z, _, rfl⟩ := List.mem_map.1 hy
 rfl
theorem vV (l : List qI) (st : List Int) : (jO l st).length = st.length := by simp [jO]
theorem Ur {l : List qI} {st : List Int} (hn : st ≠ []) : (jO l st)[st.length - 1]? = some (opM l st) := by
 have hl := List.length_pos_iff.2 hn
 rw [Ki hn, List.getLast?_eq_getElem?, vV, List.getElem?_eq_getElem (by rw [vV]; omega)]; rfl
theorem Xi {l : List qI} {st : List Int} : (ww l st).length = l.length + 1 := by simp [ww]
theorem Ug {n : Nat} (hn : 1 ≤ n) {calm : Bool} {l : List qI} {st : List Int} {lv ov : AV} (B : Bld calm l st) (hne : st ≠ []) (ho : opM l st = 14 ∨ opM l st = 17 ∨ opM l st = 18) (hl : l.length ≤ 1000)
  (H : HS g h (jh lv l :: QI ov (jO l st) :: R)) :
  wp (callT tab qc n (.fn 57 [] []) [lv, ov] h) fun r h' => ∃ lv' ov', r = .tup [lv', ov'] ∧ HS g h' (jh lv' (ww l st) :: QI ov' (jO (ww l st) (QJ l st)) :: R) := by
 (refine qr (g := W57) rfl (by omega) fun k hk => ?_; show wp (S57 (callT tab qc k) _ _ _) _; unfold S57; try simp only [iI, uU, Int.ofNat_eq_natCast])
 have hp := List.length_pos_iff.2 hne
 have h5 := B.five
 have hol := vV l st
 have hat := Ur (l := l) hne
 obtain ⟨B2, hops⟩ := B.shut hne ho
 rw [hops]
 have H0 : HS g h (qb 28 5 l.length lv (l.flatMap jj) :: qb 3 1 (jO l st).length ov ((jO l st).map (.int .i64)) :: R) := H
 refine jb H0 e_1 ?_
 rw [hol]
 refine zQ (by omega) ?_
 rw [show (st.length : Int) - ((1 : Nat) : Int) = ((st.length - 1 : Nat) : Int) by omega]
 refine ju (H0.sl e_1) (x := .int .i64 (opM l st)) (by rw [List.getElem?_map, hat]; rfl) ?_
 have hdl : (jO l st).dropLast = (jO l st).take (st.length - 1) := by rw [List.dropLast_eq_take, hol]
 have tail : ∀ (op : Int), (opM l st = 14 ∧ op = 15 ∨ opM l st = 18 ∧ op = 19) →
   wp (qE (α := AV × AV × Unit → AH → Go.Ae.R) (fun s5 h6 => some ((.tup [s5.2.1, s5.1]), h6)) fun j7 => qm [(.int .i64 ((0 : Nat) : Int)), (.int .i64 ((0 : Nat) : Int)), (.int .i64 ((0 : Nat) : Int)), (.int .i64 ((0 : Nat) : Int)), (.int .u64 ((0 : Nat) : Int))] [(0, 1, (.int .i64 op))] fun v8 =>
    qp h 28 [(.int .i64 ((0 : Nat) : Int)), (.int .i64 ((0 : Nat) : Int)), (.int .i64 ((0 : Nat) : Int)), (.int .i64 ((0 : Nat) : Int)), (.int .u64 ((0 : Nat) : Int))] 1 [(0, 5, v8)] fun v9 h10 =>
    q8 h10 28 5 lv v9 fun v11 h12 => zi h12 3 1 ov none (some (.int .i64 ((st.length - 1 : Nat) : Int))) fun v13 =>
    zx ov (some (3 * 65536 + 1)) v13 h10 h12 h.nx <| j7 (v13, v11, ()) h12)
   fun r h' => ∃ lv' ov', r = .tup [lv', ov'] ∧ HS g h' (jh lv' (ww l st) :: QI ov' ((jO l st).dropLast ++ (if opM l st = 17 then [18] else [])) :: R) := by
  intro op hop
  refine qW ?_
  try dsimp only
  refine qt (l := jj (one op)) rfl ?_
  refine jK (n := 1) (l := jj (one op)) (sz := 5) H0 rfl rfl rfl rfl fun v9 h10 H10 => ?_
  have S : Sl (fun _ => True) h10 5 [one op].length v9 ([one op].flatMap jj) := H10.sl .here
  refine vD (H10.sel (P := jh lv l) e_1) S (by simp; omega) fun v11 h12 H12 => ?_
  refine kP (hi := st.length - 1) (H12.sel (P := qb 3 1 (jO l st).length ov ((jO l st).map (.int .i64))) e_2) (by omega) (by omega) fun v13 H13 => ?_
  refine qQP H10 (s := e_2) H12 e_2 H0 e_1 (by omega) (by omega) rfl ?_
  rw [Nat.mul_one, ← List.map_take, ← hdl] at H13
  have h17 : ¬ opM l st = 17 := by omega
  rw [if_neg h17, List.append_nil]
  refine qk ⟨v11, v13, rfl, ?_⟩
  have e : ww l st = l ++ [one op] := by
   unfold ww yq
   rcases hop with ⟨h1, h2⟩ | ⟨h1, h2⟩
   ·rw [h1, h2]; rfl
   ·rw [h1, h2]; rfl
  rw [e]
  unfold QI
  rw [show (jO l st).dropLast.length = st.length - 1 by rw [List.length_dropLast, hol]]
  exact H13.sub (.cons e_1 (.cons .here (.drop .refl)))
 by_cases c14 : opM l st = 14
 ·refine qO c14 (qY ?_)
  exact tail 15 (.inl ⟨c14, rfl⟩)
 refine qK c14 (qQ ?_)
 by_cases c17 : opM l st = 17
 ·refine qO c17 (qY ?_)
  refine kP (hi := st.length - 1) (H0.sel (P := qb 3 1 (jO l st).length ov ((jO l st).map (.int .i64))) e_1) (by omega) (by omega) fun v15 H2 => ?_
  rw [Nat.mul_one, ← List.map_take, ← hdl] at H2
  have hdn : (jO l st).dropLast.length = st.length - 1 := by rw [List.length_dropLast, hol]
  have S : Sl (fun _ => True) h 1 (st.length - 1) v15 ((jO l st).dropLast.map (.int .i64)) := H2.sl .here
  refine zl (H2.nils (e := 3) (sz := 1)) S (by omega) (by omega) (Vz _) fun v16 h3 H3 => ?_
  rw [List.nil_append, Nat.zero_add] at H3
  refine jK (n := 1) (l := [.int .i64 ((18 : Nat) : Int)]) (sz := 1) H3 rfl rfl rfl rfl fun v18 h4 H4 => ?_
  refine zl (H4.sel e_1) (H4.sl .here) (by omega) (by omega) rfl fun v20 h5 H5 => ?_
  refine qt (l := jj (one 18)) rfl ?_
  refine jK (n := 1) (l := jj (one 18)) (sz := 5) H5 rfl rfl rfl rfl fun v23 h6 H6 => ?_
  have S6 : Sl (fun _ => True) h6 5 [one 18].length v23 ([one 18].flatMap jj) := H6.sl .here
  refine vD (H6.sel (P := jh lv l) e_4) S6 (by simp; omega) fun v25 h7 H7 => ?_
  rw [if_pos c17]
  refine qk ⟨v25, v20, rfl, ?_⟩
  have e : ww l st = l ++ [one 18] := by unfold ww yq; rw [c17]; rfl
  rw [e]
  unfold QI
  rw [List.length_append, hdn, List.map_append]
  exact H7.sub (.cons .here (.cons e_1 (.drop (.drop (.drop .refl)))))
 ·refine qK c17 (qQ ?_)
  exact tail 19 (.inr ⟨by omega, rfl⟩)
def wE (o : List Int) : Nat := (o.map fun x => if x = 17 then 2 else 1).sum
theorem US (a b : List Int) : wE (a ++ b) = wE a + wE b := by simp [wE]
theorem qZ5 (o : List Int) : wE o ≤ 2 * o.length := by
 induction o with
 | nil => simp [wE]
 | cons x o ih => simp only [wE, List.map_cons, List.sum_cons, List.length_cons] at *; split <;> omega
theorem Nl {l : List qI} {st : List Int} (hne : st ≠ []) : wE ((jO l st).dropLast ++ (if opM l st = 17 then [18] else [])) + 1 = wE (jO l st) := by
 have h1 : jO l st ≠ [] := by intro h; have := congrArg List.length h; rw [vV] at this; exact hne (List.eq_nil_of_length_eq_zero this)
 have h2 := List.dropLast_concat_getLast h1
 have h3 : (jO l st).getLast h1 = opM l st := by rw [Ki hne, List.getLast?_eq_some_getLast h1]; rfl
 rw [h3] at h2
 have h4 : wE (jO l st) = wE (jO l st).dropLast + (if opM l st = 17 then 2 else 1) := by
  conv => lhs; rw [← h2]
  rw [US]; simp [wE]
 rw [US, h4]
 split
 ·simp [wE]
 ·simp [wE]
def OpsK (l : List qI) (st : List Int) : Prop := ∀ o ∈ jO l st, o = 14 ∨ o = 17 ∨ o = 18
theorem OpsK.at {l : List qI} {st : List Int} (h : OpsK l st) (hne : st ≠ []) : opM l st = 14 ∨ opM l st = 17 ∨ opM l st = 18 := h _ (List.mem_of_getElem? (Ur hne))
set_option maxHeartbeats 8000000 in
theorem Xk {n : Nat} (hn : 5 ≤ n) {calm : Bool} {ks : List qI} {kv : AV} {most : Int} (hN : ∀ x ∈ ks, 0 ≤ x.2.2.2.2 ∧ x.2.2.2.2 < 18446744073709551616) (hm : 1 ≤ most ∧ most ≤ 40) (H : HS g h R) (S : Rd g R 5 ks.length kv (ks.flatMap jj)) :
  wp (callT tab qc n (.fn 23 [] []) [kv, .int .i64 most, .bool calm] h) fun r h' => ∃ lv l, r = .agg [lv] ∧ Bld calm l [] ∧ 0 < l.length ∧ (l.length : Int) ≤ most ∧ HS g h' (jh lv l :: R) := by
 (refine qr (g := W23) rfl (by omega) fun k hk => ?_; show wp (S23 (callT tab qc k) _ _ _ _) _; unfold S23; try simp only [iI, uU, Int.ofNat_eq_natCast])
 refine jJ H rfl fun b0 h1 H1 => ?_
 clear H
 have H1 := (H1.nils (e := 3) (sz := 1)).nils (e := 28) (sz := 5)
 refine zp [] (fun s h' => ∃ (l : List qI) (st : List Int) (lv ov : AV), s = (ov, lv, .ptr b0 0, ()) ∧ Bld calm l st ∧ OpsK l st ∧ (l.length : Int) + 2 * st.length ≤ most ∧ HS g h' (jh lv l :: QI ov (jO l st) :: qU b0 [.nils] :: R)) ?_ ?_
 rotate_left
 ·rintro s h2 ⟨l, st, lv, ov, rfl, B, OK, hle, H2⟩
  dsimp only
  have hW : (l.length : Int) + wE (jO l st) ≤ most := by
   have := qZ5 (jO l st)
   rw [vV] at this; omega
  refine zW (fun m s h' => ∃ (l : List qI) (st : List Int) (lv ov : AV), s = (ov, lv, .ptr b0 0, ()) ∧ m = wE (jO l st) ∧ Bld calm l st ∧ OpsK l st ∧ (l.length : Int) + wE (jO l st) ≤ most ∧ HS g h' (jh lv l :: QI ov (jO l st) :: qU b0 [.nils] :: R))
   ?_ (m := wE (jO l st)) (by show _ < 1000000000; omega) ⟨l, st, lv, ov, rfl, rfl, B, OK, hW, H2⟩
  clear H2 hW hle OK B st lv ov l
  rintro m ih s h3 hih ⟨l, st, lv, ov, rfl, rfl, B, OK, hW, H⟩
  dsimp only
  have hol := vV l st
  refine jb (n := (jO l st).length) (H : HS g h3 (jh lv l :: qb 3 1 (jO l st).length ov ((jO l st).map (.int .i64)) :: qU b0 [.nils] :: R)) e_1 ?_
  rw [hol]
  by_cases h0 : st = []
  ·subst h0
   refine xh (by simp) (qQ ?_)
   refine zp [] (fun s h' => ∃ (l : List qI) (lv : AV), s = (lv, .ptr b0 0, ()) ∧ Bld calm l [] ∧ 0 < l.length ∧ (l.length : Int) ≤ most ∧ HS g h' (jh lv l :: qU b0 [.nils] :: R)) ?_ ?_
   ·intro j hj
    refine jb (n := l.length) (H : HS g h3 (qb 28 5 l.length lv (l.flatMap jj) :: QI ov (jO l []) :: qU b0 [.nils] :: R)) .here ?_
    by_cases hl0 : l.length = 0
    ·refine qO (by omega) (qY ?_)
     obtain rfl := List.eq_nil_of_length_eq_zero hl0
     refine qt (l := jj (1, 0, 0, 0, 1)) rfl ?_
     refine jK (n := 1) (l := jj (1, 0, 0, 0, 1)) (sz := 5) H rfl rfl rfl rfl fun v27 h4 H4 => ?_
     have S1 : Sl (fun _ => True) h4 5 [((1, 0, 0, 0, 1) : qI)].length v27 ([((1, 0, 0, 0, 1) : qI)].flatMap jj) := H4.sl .here
     refine vD (H4.sel (P := jh lv []) e_1) S1 (by simp) fun v29 h5 H5 => ?_
     refine hj _ _ ⟨_, v29, rfl, B.flat (x := (1, 0, 0, 0, 1)) ⟨by decide, by decide, by decide, fun _ => by decide⟩ (by unfold Flat; decide) (by decide), by simp, by simp; omega, H5.sub (.cons .here (.drop (.drop (.cons .here .refl))))⟩
    ·refine qK (by omega) (qQ ?_)
     exact hj _ _ ⟨l, lv, rfl, B, by omega, by omega, H.sub (.cons .here (.drop (.cons .here .refl)))⟩
   ·rintro s h5 ⟨l, lv, rfl, B, hl0, hlm, H5⟩
    dsimp only
    have ol := H5.one (e := 28) (sz := 5) (n := l.length) .here
    refine qt (l := [lv]) (by simp only [vt, ol.1]; rfl) ?_
    refine jF H5 (b := b0) e_1 rfl (by simp) (by show qu [lv] = true; simp [qu, ol.2]) fun h6 H6 => ?_
    have H6 : HS g h6 (qU b0 [lv] :: jh lv l :: R) := H6
    refine qM ?_
    refine qo H6 (b := b0) (off := 0) .here rfl (by omega) (l := [lv]) rfl ?_
    exact qk ⟨lv, l, rfl, B, hl0, hlm, H6.drop⟩
  ·have hp := List.length_pos_iff.2 h0
   refine yZ (by omega) (qY ?_)
   refine qx (Ug (by omega) B h0 (OK.at h0) (by omega) H) ?_
   rintro _ h4 ⟨lv', ov', rfl, H4⟩
   obtain ⟨B2, hops⟩ := B.shut h0 (OK.at h0)
   have hw := Nl (l := l) h0
   rw [← hops] at hw
   refine qH rfl (qH rfl ?_)
   refine hih (wE (jO (ww l st) (QJ l st))) _ _ (by omega) ⟨_, _, lv', ov', rfl, rfl, B2, ?_, by rw [Xi]; omega, H4⟩
   intro o ho
   rw [hops] at ho
   rcases List.mem_append.1 ho with ho | ho
   ·exact OK o ((List.dropLast_sublist _).subset ho)
   ·split at ho
    ·rw [List.mem_singleton] at ho; omega
    ·cases ho
 intro j5 hj5
 refine zW (fun m s h' => ∃ (i : Nat) (l : List qI) (st : List Int) (lv ov : AV), s = (.int .i64 (i : Int), ov, lv, .ptr b0 0, .bool calm, .int .i64 most, kv, ()) ∧ m = 41 - l.length ∧ i ≤ l.length ∧ Bld calm l st ∧ OpsK l st ∧ (l.length : Int) + 2 * st.length ≤ most ∧ HS g h' (jh lv l :: QI ov (jO l st) :: qU b0 [.nils] :: R))
  ?_ (m := 41) (by show _ < 1000000000; omega) ⟨0, [], [], .nils, .nils, rfl, rfl, by simp, Bld.nil calm, (fun o ho => by cases ho), by simp; omega, H1⟩
 clear H1
 rintro m ih s h2 hih ⟨i, l, st, lv, ov, rfl, rfl, hil, B, OK, hle, H⟩
 dsimp only
 refine zF (S.sl H.drop.drop.drop) ?_
 refine zO (fun hlt => qY ?_) fun hge => qQ (hj5 _ _ ⟨l, st, lv, ov, rfl, B, OK, hle, H⟩)
 have hlt : i < ks.length := by omega
 refine xY (l := jj ks[i]) (S.sl H.drop.drop.drop) hlt (by omega) (Qh (sz := 5) (fun _ => rfl) (List.getElem?_eq_getElem hlt)) ?_
 have hNi := hN ks[i] (List.getElem_mem hlt)
 generalize ks[i] = kx at *
 refine jJ H rfl fun b3 h3 H3 => jF H3 .here rfl (by show 0 + 5 ≤ 5; omega) rfl fun h5 H5 => ?_
 have H5 : HS g h5 (qU b3 (jj kx) :: jh lv l :: QI ov (jO l st) :: qU b0 [.nils] :: R) := H5
 have H6 : HS g h5 (qU b3 (jj kx) :: qb 28 5 l.length lv (l.flatMap jj) :: qb 3 1 (jO l st).length ov ((jO l st).map (.int .i64)) :: qU b0 [.nils] :: R) := H5
 clear H H3
 have hol := vV l st
 refine jb H6 e_2 ?_
 rw [hol]
 refine jb H6 e_1 ?_
 refine Gy (by omega) (qh (by omega) (qh (by omega) ?_))
 refine yV (fun hg => qY (hj5 _ _ ⟨l, st, lv, ov, rfl, B, OK, hle, H5.drop⟩)) fun hg => qQ ?_
 refine qV (qv H5 (b := b3) .here rfl ?_)
 refine qx (yS (by omega) (by omega) (by omega) (by omega)) ?_
 rintro _ h5 ⟨rfl, rfl⟩
 have hwb := zV kx.1 (show (((0 : Nat) : Int)) ≤ ((40 : Nat) : Int) by omega)
 generalize js kx.1 ((0 : Nat) : Int) ((40 : Nat) : Int) = w at *
 refine zp [] (fun s h' => ∃ (l' : List qI) (st' : List Int) (lv' ov' : AV), s = (.int .i64 (i : Int), ov', lv', .ptr b0 0, .bool calm, .int .i64 most, kv, ()) ∧ Bld calm l' st' ∧ OpsK l' st' ∧ (l'.length : Int) + 2 * st'.length ≤ most ∧ l.length < l'.length ∧ HS g h' (jh lv' l' :: QI ov' (jO l' st') :: qU b0 [.nils] :: R)) ?_ ?_
 rotate_left
 ·rintro s h7 ⟨l', st', lv', ov', rfl, B', OK', hle', hlt', H7⟩
  dsimp only
  refine qh (by omega) ?_
  exact hih (41 - l'.length) _ _ (by omega) ⟨i + 1, l', st', lv', ov', rfl, rfl, by omega, B', OK', hle', H7⟩
 intro j hj
 have hfive := B.five
 have hll : l.length ≤ 100 := by omega
 have same : ∀ {t : List qI}, OpsK (l ++ t) st := fun {t} o ho => OK o (by rw [kF B.stok] at ho; exact ho)
 have hsame : ∀ {t : List qI}, jO (l ++ t) st = jO l st := kF B.stok
 have dflt : wp (qR h5 (.ptr b3 0) 5 fun v218 => qG (callT tab qc k) (.fn 59 [] []) [v218] h5 fun v219 h220 => qp h220 28 [(.int .i64 ((0 : Nat) : Int)), (.int .i64 ((0 : Nat) : Int)), (.int .i64 ((0 : Nat) : Int)), (.int .i64 ((0 : Nat) : Int)), (.int .u64 ((0 : Nat) : Int))] 1 [(0, 5, v219)] fun v221 h222 =>
   q8 h222 28 5 lv v221 fun v223 h224 => j (.int .i64 (i : Int), ov, v223, .ptr b0 0, .bool calm, .int .i64 most, kv, ()) h224 []) (fun r h' => ∃ lv l, r = .agg [lv] ∧ Bld calm l [] ∧ 0 < l.length ∧ (l.length : Int) ≤ most ∧ HS g h' (jh lv l :: R)) := by
  refine qo H5 (b := b3) (off := 0) .here rfl (by omega) (l := jj kx) rfl ?_
  refine qx (QO (by omega) hNi H5) ?_
  rintro _ h7 ⟨x, rfl, hx, H7⟩
  refine jK (n := 1) (l := jj x) (sz := 5) H7 rfl rfl rfl rfl fun v8 h8 H8 => ?_
  have S1 : Sl (fun _ => True) h8 5 [x].length v8 ([x].flatMap jj) := by simpa using H8.sl .here
  refine vD (H8.sel (P := jh lv l) e_2) S1 (by simp; omega) fun v9 h9 H9 => ?_
  refine hj _ _ ⟨l ++ [x], st, v9, ov, rfl, B.flat (hx.ok calm) hx.flat hx.nj, same, by simp; omega, by simp, ?_⟩
  rw [hsame]
  exact H9.sub (.cons .here (.drop (.drop (.cons .here (.cons .here .refl)))))
 have beg : ∀ op : Int, op = 14 ∨ op = 17 → st.length < 5 → wp (qp h5 28 [(.int .i64 ((0 : Nat) : Int)), (.int .i64 ((0 : Nat) : Int)), (.int .i64 ((0 : Nat) : Int)), (.int .i64 ((0 : Nat) : Int)), (.int .u64 ((0 : Nat) : Int))] 1 [(0, 5, .agg (jj (one op)))] fun v63 h64 => q8 h64 28 5 lv v63 fun v65 h66 =>
   qp h66 3 [(.int .i64 ((0 : Nat) : Int))] 1 [(0, 1, (.int .i64 op))] fun v67 h68 => q8 h68 3 1 ov v67 fun v69 h70 => j (.int .i64 (i : Int), v69, v65, .ptr b0 0, .bool calm, .int .i64 most, kv, ()) h70 []) (fun r h' => ∃ lv l, r = .agg [lv] ∧ Bld calm l [] ∧ 0 < l.length ∧ (l.length : Int) ≤ most ∧ HS g h' (jh lv l :: R)) := by
  intro op hop hs5
  refine jK (n := 1) (l := jj (one op)) (sz := 5) H5 rfl rfl rfl rfl fun v8 h8 H8 => ?_
  have S1 : Sl (fun _ => True) h8 5 [one op].length v8 ([one op].flatMap jj) := by simpa using H8.sl .here
  refine vD (H8.sel (P := jh lv l) e_2) S1 (by simp; omega) fun v9 h9 H9 => ?_
  refine jK (n := 1) (l := [.int .i64 op]) (sz := 1) H9 rfl rfl rfl rfl fun v10 h10 H10 => ?_
  refine zl (H10.sel (P := qb 3 1 (jO l st).length ov ((jO l st).map (.int .i64))) e_4) (H10.sl .here) (by omega) (by omega) rfl fun v11 h11 H11 => ?_
  obtain ⟨B2, ho2⟩ := B.begin hop hs5
  refine hj _ _ ⟨l ++ [one op], st ++ [(l.length : Int)], v9, v11, rfl, B2, ?_, by simp; omega, by simp, ?_⟩
  ·intro o ho
   rw [ho2] at ho
   rcases List.mem_append.1 ho with ho | ho
   ·exact OK o ho
   ·rw [List.mem_singleton] at ho; omega
  ·rw [ho2]
   unfold QI
   rw [List.length_append, List.map_append]
   exact H11.sub (.cons e_2 (.cons .here (.drop (.drop (.drop (.cons .here .refl))))))
 have shu : 0 < st.length → wp (qG (callT tab qc k) (.fn 57 [] []) [lv, ov] h5 fun v98 h99 => qD v98 0 fun v100 => qD v98 1 fun v101 => j (.int .i64 (i : Int), v101, v100, .ptr b0 0, .bool calm, .int .i64 most, kv, ()) h99 []) (fun r h' => ∃ lv l, r = .agg [lv] ∧ Bld calm l [] ∧ 0 < l.length ∧ (l.length : Int) ≤ most ∧ HS g h' (jh lv l :: R)) := by
  intro hp
  have hne := List.length_pos_iff.1 hp
  refine qx (Ug (by omega) B hne (OK.at hne) (by omega) (H5.sub (L' := jh lv l :: QI ov (jO l st) :: qU b3 (jj kx) :: qU b0 [.nils] :: R) (.cons e_1 (.cons e_1 (.cons .here (.cons .here .refl)))))) ?_
  rintro _ h7 ⟨lv', ov', rfl, H7⟩
  obtain ⟨B2, hops⟩ := B.shut hne (OK.at hne)
  have hsl : (QJ l st).length ≤ st.length := by unfold QJ; split <;> simp <;> omega
  refine qH rfl (qH rfl ?_)
  refine hj _ _ ⟨_, _, lv', ov', rfl, B2, ?_, by rw [Xi]; omega, by rw [Xi]; omega, H7.sub (.cons .here (.cons .here (.drop (.cons .here .refl))))⟩
  intro o ho
  rw [hops] at ho
  rcases List.mem_append.1 ho with ho | ho
  ·exact OK o ((List.dropLast_sublist _).subset ho)
  ·split at ho
   ·rw [List.mem_singleton] at ho; omega
   ·cases ho
 have und : opM l st = 14 → wp (qp h5 28 [(.int .i64 ((0 : Nat) : Int)), (.int .i64 ((0 : Nat) : Int)), (.int .i64 ((0 : Nat) : Int)), (.int .i64 ((0 : Nat) : Int)), (.int .u64 ((0 : Nat) : Int))] 1 [(0, 5, .agg (jj (one 16)))] fun v8 h8 => q8 h8 28 5 lv v8 fun v9 h9 => j (.int .i64 (i : Int), ov, v9, .ptr b0 0, .bool calm, .int .i64 most, kv, ()) h9 []) (fun r h' => ∃ lv l, r = .agg [lv] ∧ Bld calm l [] ∧ 0 < l.length ∧ (l.length : Int) ≤ most ∧ HS g h' (jh lv l :: R)) := by
  intro h14
  refine jK (n := 1) (l := jj (one 16)) (sz := 5) H5 rfl rfl rfl rfl fun v8 h8 H8 => ?_
  have S1 : Sl (fun _ => True) h8 5 [one 16].length v8 ([one 16].flatMap jj) := by simpa using H8.sl .here
  refine vD (H8.sel (P := jh lv l) e_2) S1 (by simp; omega) fun v9 h9 H9 => ?_
  refine hj _ _ ⟨l ++ [one 16], st, v9, ov, rfl, B.undo h14, same, by simp; omega, by simp, ?_⟩
  rw [hsame]
  exact H9.sub (.cons .here (.drop (.drop (.cons .here (.cons .here .refl)))))
 have pair : ∀ (x y : qI) (h7 : AH), HS g h7 (qU b3 (jj kx) :: jh lv l :: QI ov (jO l st) :: qU b0 [.nils] :: R) → Bld calm (l ++ [x, y]) st → (l.length : Int) + 2 * st.length + 5 ≤ most → wp (qp h7 28 [(.int .i64 ((0 : Nat) : Int)), (.int .i64 ((0 : Nat) : Int)), (.int .i64 ((0 : Nat) : Int)), (.int .i64 ((0 : Nat) : Int)), (.int .u64 ((0 : Nat) : Int))] 2 [(0, 5, .agg (jj x)), (5, 5, .agg (jj y))] fun v8 h8 =>
   q8 h8 28 5 lv v8 fun v9 h9 => j (.int .i64 (i : Int), ov, v9, .ptr b0 0, .bool calm, .int .i64 most, kv, ()) h9 []) (fun r h' => ∃ lv l, r = .agg [lv] ∧ Bld calm l [] ∧ 0 < l.length ∧ (l.length : Int) ≤ most ∧ HS g h' (jh lv l :: R)) := by
  intro x y h7 H7 B7 hm7
  refine jK (n := 2) (l := jj x ++ jj y) (sz := 5) H7 rfl rfl rfl rfl fun v8 h8 H8 => ?_
  have S1 : Sl (fun _ => True) h8 5 [x, y].length v8 ([x, y].flatMap jj) := by simpa using H8.sl .here
  refine vD (H8.sel (P := jh lv l) e_2) S1 (by simp; omega) fun v9 h9 H9 => ?_
  refine hj _ _ ⟨l ++ [x, y], st, v9, ov, rfl, B7, same, by simp; omega, by simp, ?_⟩
  rw [hsame]
  exact H9.sub (.cons .here (.drop (.drop (.cons .here (.cons .here .refl)))))
 have zer : ∀ r : Int, 0 ≤ r ∧ r ≤ 6 → Q3 calm (13, r, 0, ((l.length : Int) + ((2 : Nat) : Int)), 0) := fun r hr => ⟨ZV (by omega) (by omega), by show (13 : Int) ≠ 23; decide, by show (0 : Int) ≤ 0 ∧ (0 : Int) < 18446744073709551616; decide, fun _ => by show (13 : Int) ≠ 20 ∧ (13 : Int) ≠ 22 ∧ (13 : Int) ≠ 12; decide⟩
 have two : ∀ op : Int, op = 20 ∨ op = 22 → calm = false → wp (qG (callT tab qc k) (.fn 58 [] []) [.int .i64 kx.2.1] h5 fun v131 h132 => q9 lv fun v133 => qq .add v133 (.int .i64 ((2 : Nat) : Int)) fun v134 =>
   qm [(.int .i64 ((0 : Nat) : Int)), (.int .i64 ((0 : Nat) : Int)), (.int .i64 ((0 : Nat) : Int)), (.int .i64 ((0 : Nat) : Int)), (.int .u64 ((0 : Nat) : Int))] [(0, 1, (.int .i64 ((13 : Nat) : Int))), (1, 1, v131), (3, 1, v134)] fun v135 => qm [(.int .i64 ((0 : Nat) : Int)), (.int .i64 ((0 : Nat) : Int)), (.int .i64 ((0 : Nat) : Int)), (.int .i64 ((0 : Nat) : Int)), (.int .u64 ((0 : Nat) : Int))] [(0, 1, (.int .i64 op))] fun v136 =>
   qp h132 28 [(.int .i64 ((0 : Nat) : Int)), (.int .i64 ((0 : Nat) : Int)), (.int .i64 ((0 : Nat) : Int)), (.int .i64 ((0 : Nat) : Int)), (.int .u64 ((0 : Nat) : Int))] 2 [(0, 5, v135), (5, 5, v136)] fun v8 h8 => q8 h8 28 5 lv v8 fun v9 h9 => j (.int .i64 (i : Int), ov, v9, .ptr b0 0, .bool calm, .int .i64 most, kv, ()) h9 []) (fun r h' => ∃ lv l, r = .agg [lv] ∧ Bld calm l [] ∧ 0 < l.length ∧ (l.length : Int) ≤ most ∧ HS g h' (jh lv l :: R)) := by
  intro op hop hcal
  refine qx (kf (by omega)) ?_
  rintro _ h5 ⟨rfl, rfl⟩
  have hr := zV kx.2.1 (show (0 : Int) ≤ 6 by omega)
  refine jb (n := l.length) H6 e_1 (qh (by omega) ?_)
  refine qt (l := jj (13, js kx.2.1 0 6, 0, ((l.length : Int) + ((2 : Nat) : Int)), 0)) rfl ?_
  refine qt (l := jj (one op)) rfl ?_
  refine pair _ _ _ H5 (B.two (zer _ hr) ⟨by rcases hop with rfl | rfl <;> decide, by dsimp only; omega, by show (0 : Int) ≤ 0 ∧ (0 : Int) < 18446744073709551616; decide, fun hh => by rw [hcal] at hh; cases hh⟩ (by show Flat 13; unfold Flat; decide) (by unfold Flat; dsimp only; omega) (fun _ => rfl) (fun hh => by dsimp only at hh; omega)) (by omega)
 have ovr : wp (qE (α := AV × AV × AV × AV × AV × AV × AV × Unit → AH → Go.Ae.R) (fun s180 h181 => j (s180.1, s180.2.1, s180.2.2.1, s180.2.2.2.1, s180.2.2.2.2.1, s180.2.2.2.2.2.1, s180.2.2.2.2.2.2.1, ()) h181 []) fun j182 =>
   qG (callT tab qc k) (.fn 58 [] []) [.int .i64 kx.2.2.1] h5 fun v185 h186 => q9 lv fun v187 => qq .add v187 (.int .i64 ((2 : Nat) : Int)) fun v188 =>
   qm [(.int .i64 ((0 : Nat) : Int)), (.int .i64 ((0 : Nat) : Int)), (.int .i64 ((0 : Nat) : Int)), (.int .i64 ((0 : Nat) : Int)), (.int .u64 ((0 : Nat) : Int))] [(0, 1, (.int .i64 ((13 : Nat) : Int))), (1, 1, v185), (3, 1, v188)] fun v189 => qR h186 (.ptr b3 0) 5 fun v190 => qG (callT tab qc k) (.fn 59 [] []) [v190] h186 fun v191 h192 =>
   qp h192 28 [(.int .i64 ((0 : Nat) : Int)), (.int .i64 ((0 : Nat) : Int)), (.int .i64 ((0 : Nat) : Int)), (.int .i64 ((0 : Nat) : Int)), (.int .u64 ((0 : Nat) : Int))] 2 [(0, 5, v189), (5, 5, v191)] fun v193 h194 => q8 h194 28 5 lv v193 fun v195 h196 =>
   zx (.ptr b3 0) (some 5) v190 h5 h186 h5.nx <| j182 (.int .i64 (i : Int), ov, v195, .ptr b0 0, .bool calm, .int .i64 most, kv, ()) h196) (fun r h' => ∃ lv l, r = .agg [lv] ∧ Bld calm l [] ∧ 0 < l.length ∧ (l.length : Int) ≤ most ∧ HS g h' (jh lv l :: R)) := by
  refine qW ?_
  try dsimp only
  refine qx (kf (by omega)) ?_
  rintro _ h5 ⟨rfl, rfl⟩
  have hr := zV kx.2.2.1 (show (0 : Int) ≤ 6 by omega)
  refine jb (n := l.length) H6 e_1 (qh (by omega) ?_)
  refine qt (l := jj (13, js kx.2.2.1 0 6, 0, ((l.length : Int) + ((2 : Nat) : Int)), 0)) rfl ?_
  refine qo H5 (b := b3) (off := 0) .here rfl (by omega) (l := jj kx) rfl ?_
  refine qx (QO (by omega) hNi H5) ?_
  rintro _ h7 ⟨x, rfl, hx, H7⟩
  refine jK (n := 2) (l := jj (13, js kx.2.2.1 0 6, 0, ((l.length : Int) + ((2 : Nat) : Int)), 0) ++ jj x) (sz := 5) H7 rfl rfl rfl rfl fun v8 h8 H8 => ?_
  have S1 : Sl (fun _ => True) h8 5 [((13, js kx.2.2.1 0 6, 0, ((l.length : Int) + ((2 : Nat) : Int)), 0) : qI), x].length v8 ([((13, js kx.2.2.1 0 6, 0, ((l.length : Int) + ((2 : Nat) : Int)), 0) : qI), x].flatMap jj) := by simpa using H8.sl .here
  refine vD (H8.sel (P := jh lv l) e_2) S1 (by simp; omega) fun v9 h9 H9 => ?_
  refine zj H5 (b := b3) .here rfl H5 .here rfl rfl (by omega) (HS.lt H5 .here) ?_
  refine hj _ _ ⟨_, st, v9, ov, rfl, B.two (zer _ hr) (hx.ok calm) (by show Flat 13; unfold Flat; decide) hx.flat (fun _ => rfl) (fun hh => by have := hx.nj; omega), same, by simp; omega, by simp, ?_⟩
  rw [hsame]
  exact H9.sub (.cons .here (.drop (.drop (.cons .here (.cons .here .refl)))))
 have bak : calm = false → wp (qE (α := AV × AV × AV × AV × AV × AV × AV × Unit → AH → Go.Ae.R) (fun s180 h181 => j (s180.1, s180.2.1, s180.2.2.1, s180.2.2.2.1, s180.2.2.2.2.1, s180.2.2.2.2.2.1, s180.2.2.2.2.2.2.1, ()) h181 []) fun j182 =>
   qR h5 (.ptr b3 0) 5 fun v205 => qG (callT tab qc k) (.fn 59 [] []) [v205] h5 fun v206 h207 => qJ (.ptr b3 0) 2 fun v208 => qX h207 v208 fun v209 =>
   qG (callT tab qc k) (.fn 58 [] []) [v209] h207 fun v210 h211 => q9 lv fun v212 =>
   qm [(.int .i64 ((0 : Nat) : Int)), (.int .i64 ((0 : Nat) : Int)), (.int .i64 ((0 : Nat) : Int)), (.int .i64 ((0 : Nat) : Int)), (.int .u64 ((0 : Nat) : Int))] [(0, 1, (.int .i64 ((13 : Nat) : Int))), (1, 1, v210), (3, 1, v212)] fun v213 =>
   qp h211 28 [(.int .i64 ((0 : Nat) : Int)), (.int .i64 ((0 : Nat) : Int)), (.int .i64 ((0 : Nat) : Int)), (.int .i64 ((0 : Nat) : Int)), (.int .u64 ((0 : Nat) : Int))] 2 [(0, 5, v206), (5, 5, v213)] fun v214 h215 => q8 h215 28 5 lv v214 fun v216 h217 =>
   zx v208 none v209 h5 h207 h5.nx <| j182 (.int .i64 (i : Int), ov, v216, .ptr b0 0, .bool calm, .int .i64 most, kv, ()) h217) (fun r h' => ∃ lv l, r = .agg [lv] ∧ Bld calm l [] ∧ 0 < l.length ∧ (l.length : Int) ≤ most ∧ HS g h' (jh lv l :: R)) := by
  intro hcal
  refine qW ?_
  try dsimp only
  refine qo H5 (b := b3) (off := 0) .here rfl (by omega) (l := jj kx) rfl ?_
  refine qx (QO (by omega) hNi H5) ?_
  rintro _ h7 ⟨x, rfl, hx, H7⟩
  refine qV (qv H7 (b := b3) .here rfl ?_)
  refine qx (kf (by omega)) ?_
  rintro _ h7 ⟨rfl, rfl⟩
  have hr := zV kx.2.2.1 (show (0 : Int) ≤ 6 by omega)
  have H7' : HS g h7 (qU b3 (jj kx) :: qb 28 5 l.length lv (l.flatMap jj) :: QI ov (jO l st) :: qU b0 [.nils] :: R) := H7
  refine jb (n := l.length) H7' e_1 ?_
  refine qt (l := jj (13, js kx.2.2.1 0 6, 0, (l.length : Int), 0)) rfl ?_
  refine jK (n := 2) (l := jj x ++ jj (13, js kx.2.2.1 0 6, 0, (l.length : Int), 0)) (sz := 5) H7 rfl rfl rfl rfl fun v8 h8 H8 => ?_
  have S1 : Sl (fun _ => True) h8 5 [x, ((13, js kx.2.2.1 0 6, 0, (l.length : Int), 0) : qI)].length v8 ([x, ((13, js kx.2.2.1 0 6, 0, (l.length : Int), 0) : qI)].flatMap jj) := by simpa using H8.sl .here
  refine vD (H8.sel (P := jh lv l) e_2) S1 (by simp; omega) fun v9 h9 H9 => ?_
  refine gW H5 (b := b3) .here rfl H7 .here rfl (HS.lt H5 .here) ?_
  refine hj _ _ ⟨l ++ [x, (13, js kx.2.2.1 0 6, 0, (l.length : Int), 0)], st, v9, ov, rfl, B.two (hx.ok calm) ⟨ZV (by omega) (by omega), by show (13 : Int) ≠ 23; decide, by show (0 : Int) ≤ 0 ∧ (0 : Int) < 18446744073709551616; decide, fun _ => by show (13 : Int) ≠ 20 ∧ (13 : Int) ≠ 22 ∧ (13 : Int) ≠ 12; decide⟩ hx.flat (by show Flat 13; unfold Flat; decide) (fun hh => by have := hx.nj; omega) (fun _ => ⟨rfl, hcal⟩), same, by simp; omega, by simp, ?_⟩
  rw [hsame]
  exact H9.sub (.cons .here (.drop (.drop (.cons .here (.cons .here .refl)))))
 have hd : (w = 20 ∧ st.length < 5) ∨ (w = 20 ∧ ¬ st.length < 5) ∨ (w = 21 ∧ st.length < 5) ∨ (w = 21 ∧ ¬ st.length < 5) ∨ (w = 22 ∧ st.length < 5) ∨ (w = 22 ∧ ¬ st.length < 5) ∨ (w = 23 ∧ 0 < st.length) ∨ (w = 23 ∧ ¬ 0 < st.length) ∨ (w = 24 ∧ 0 < st.length) ∨ (w = 24 ∧ ¬ 0 < st.length) ∨ (w = 25 ∧ 0 < st.length) ∨ (w = 25 ∧ ¬ 0 < st.length) ∨ (w = 26 ∧ calm = true) ∨ (w = 26 ∧ calm = false ∧ 0 < st.length) ∨ (w = 26 ∧ calm = false ∧ ¬ 0 < st.length) ∨ (w = 27 ∧ calm = true) ∨ (w = 27 ∧ calm = false ∧ 0 < st.length) ∨ (w = 27 ∧ calm = false ∧ ¬ 0 < st.length) ∨ (w = 28 ∧ calm = true) ∨ (w = 28 ∧ calm = false) ∨ (w = 29 ∧ calm = true) ∨ (w = 29 ∧ calm = false) ∨ (w = 30) ∨ (w = 31) ∨ (w = 32 ∧ calm = true) ∨ (w = 32 ∧ calm = false) ∨ (w < 20 ∨ 32 < w) := by
  cases calm <;> simp only [reduceCtorEq, and_true, true_and, and_false, false_and, or_false, false_or] <;> omega
 rcases hd with ⟨hw1, hs1⟩ | ⟨hw1, hs1⟩ | ⟨hw1, hs1⟩ | ⟨hw1, hs1⟩ | ⟨hw1, hs1⟩ | ⟨hw1, hs1⟩ | ⟨hw1, hs1⟩ | ⟨hw1, hs1⟩ | ⟨hw1, hs1⟩ | ⟨hw1, hs1⟩ | ⟨hw1, hs1⟩ | ⟨hw1, hs1⟩ | ⟨hw1, rfl⟩ | ⟨hw1, rfl, hs1⟩ | ⟨hw1, rfl, hs1⟩ | ⟨hw1, rfl⟩ | ⟨hw1, rfl, hs1⟩ | ⟨hw1, rfl, hs1⟩ | ⟨hw1, rfl⟩ | ⟨hw1, rfl⟩ | ⟨hw1, rfl⟩ | ⟨hw1, rfl⟩ | hw1 | hw1 | ⟨hw1, rfl⟩ | ⟨hw1, rfl⟩ | hw1
 all_goals repeat (first | with_reducible refine qK (by omega) ?_ | with_reducible refine qO (by omega) ?_ | (with_reducible refine qW ?_; try dsimp only) | (with_reducible refine jG ?_; try dsimp only) | (with_reducible refine jD ?_; try dsimp only) | (with_reducible refine jV ?_; try dsimp only) | (with_reducible refine ql ?_; try dsimp only) | with_reducible refine qe ?_ | with_reducible refine qd ?_ | with_reducible refine qY ?_ | with_reducible refine qQ ?_ | with_reducible refine xj (by omega) ?_ | with_reducible refine ze (by omega) ?_ | with_reducible refine yZ (by omega) ?_ | with_reducible refine xh (by omega) ?_ | with_reducible refine zv ?_ | with_reducible refine zM ?_ | with_reducible refine zQ (by omega) ?_ | with_reducible refine qV ?_ | (with_reducible refine zR ?_; try dsimp only) | with_reducible refine qv H6 .here rfl ?_ | with_reducible refine qt rfl ?_)
 ·exact beg 14 (.inl rfl) (by omega)
 ·exact dflt
 ·exact beg 17 (.inr rfl) (by omega)
 ·exact dflt
 ·exact beg 17 (.inr rfl) (by omega)
 ·exact dflt
 ·exact shu (by omega)
 ·exact dflt
 ·exact shu (by omega)
 ·exact dflt
 ·rw [show (st.length : Int) - ((1 : Nat) : Int) = ((st.length - 1 : Nat) : Int) by omega]
  refine ju (H6.sl e_2) (x := .int .i64 (opM l st)) (by rw [List.getElem?_map, Ur (List.length_pos_iff.1 hs1)]; rfl) ?_
  by_cases h14 : opM l st = 14
  ·refine qO h14 ?_
   with_reducible (refine qe ?_; refine qY ?_; refine qt rfl ?_)
   exact und h14
  ·refine qK h14 ?_
   with_reducible (refine qe ?_; refine qQ ?_; refine qK (by omega) ?_; refine qW ?_; (try dsimp only); refine ql ?_; (try dsimp only); refine qK (by omega) ?_; refine qd ?_; refine qW ?_; (try dsimp only); refine jV ?_; (try dsimp only); refine qd ?_; refine qW ?_; (try dsimp only); refine jV ?_; (try dsimp only); refine qd ?_; refine qQ ?_; refine qK (by omega) ?_; refine qW ?_; (try dsimp only); refine jV ?_; (try dsimp only); refine qd ?_; refine qQ ?_; refine qK (by omega) ?_; refine qW ?_; (try dsimp only); refine jV ?_; (try dsimp only); refine qd ?_; refine qQ ?_; refine qK (by omega) ?_; refine qW ?_; (try dsimp only); refine ql ?_; (try dsimp only); refine qK (by omega) ?_; refine qd ?_; refine qQ ?_; refine qK (by omega) ?_; refine qW ?_; (try dsimp only); refine jV ?_; (try dsimp only); refine qd ?_; refine qQ ?_)
   exact dflt
 ·exact dflt
 ·exact dflt
 ·exact two 20 (.inl rfl) rfl
 ·exact dflt
 ·exact dflt
 ·exact two 20 (.inl rfl) rfl
 ·exact dflt
 ·exact dflt
 ·exact two 20 (.inl rfl) rfl
 ·exact dflt
 ·exact two 22 (.inr rfl) rfl
 ·exact ovr
 ·exact ovr
 ·exact dflt
 ·exact bak rfl
 ·exact dflt
end Go.Proofs.YtdlfmpmpmkffjaaGreatDoor
namespace Go.Proofs.YtdlfmpmpmkffjaaGreatDoor
open Go Go.Ae
set_option maxRecDepth 100000
variable {g h : AH} {L R : List SP}
theorem Qk {p : Int} {c : Cl} {l : List Cl} : jf p (c :: l) = if c.1 = p then some c.2 else jf p l := rfl
theorem qJ5 (zs : List Int) {i : Nat} (h0 : 0 < i) (h : i < szZ zs.length) : jf (i : Int) (kW zs) = some (xe zs i) := by
 have e : kW zs = (kW zs).take (i - 1) ++ [((i : Int), xe zs i)] ++ (kW zs).drop i := by
  have hk := Gf zs (show i - 1 + 1 < szZ zs.length by omega)
  rw [show i - 1 + 1 = i by omega] at hk
  have := List.take_add_one (l := kW zs) (i := i - 1)
  rw [show i - 1 + 1 = i by omega, hk, Option.toList_some] at this
  rw [← this, List.take_append_drop]
 have hg : ∀ (l1 l2 : List Cl), jf (i : Int) l1 = none → jf (i : Int) (l1 ++ l2) = jf (i : Int) l2 := by
  intro l1 l2
  induction l1 with
  | nil => intro _; rfl
  | cons c l ih =>
   intro hn
   rw [Qk] at hn
   split at hn
   ·cases hn
   ·rename_i hc
    show jf (i : Int) (c :: (l ++ l2)) = _
    rw [Qk, if_neg hc]
    exact ih hn
 rw [e, List.append_assoc, hg _ _ (Mb zs (by omega))]
 show jf (i : Int) (((i : Int), xe zs i) :: _) = _
 rw [Qk, if_pos rfl]
theorem Ky {zs : List Int} {m : Int} (hz : ∀ z ∈ zs, 0 ≤ z ∧ z < 18446744073709551616) : jm (jL zs m) := by
 refine ⟨NQ zs m, ?_, ?_⟩
 ·intro c hc
  obtain ⟨i, _, rfl⟩ := List.mem_map.1 hc
  show 0 ≤ xe zs (i + 1) ∧ xe zs (i + 1) < 18446744073709551616
  unfold xe
  cases hzi : zs[i + 1]? with
  | none => simp
  | some z => exact hz z (List.mem_of_getElem? hzi)
 ·intro x hx
  simp [jL] at hx
  subst hx
  intro c hc; cases hc
theorem k6 {b o : Nat} {K : AV → Go.Ae.R} {Q : AV → AH → Prop} (w : wp (K (.bool false)) Q) : wp (pEq .ptr false (.ptr b o) .nilp K) Q := w
theorem Mj {b o : Nat} {K : AV → Go.Ae.R} {Q : AV → AH → Prop} (w : wp (K (.bool true)) Q) : wp (pEq .ptr true (.ptr b o) .nilp K) Q := w
theorem qXt {s : List UInt8} {K : AV → Go.Ae.R} {Q : AV → AH → Prop} (w : wp (K (.bool true)) Q) : wp (YL .eql (.str s) (.str s) K) Q := by
 show wp (K (.bool (seq? s s))) Q
 rw [KS]
 exact w
theorem JP (op a n : Int) (s : IM) (V : VM) : (jN op a n s V).blk = false := by unfold jN; split <;> rfl
theorem UD {mt : List Int} {s : IM} {V : VM} {x : qI} (h : 1 ≤ x.1 ∧ x.1 ≤ 23) (h1 : x.1 ≠ 20) (h3 : x.1 ≠ 23) : (doM mt s V x).blk = false := by
 unfold doM
 by_cases c1 : x.1 = 1
 ·rw [if_pos c1]
 rw [if_neg c1]
 by_cases c2 : x.1 = 2
 ·rw [if_pos c2]
 rw [if_neg c2]
 by_cases c3 : x.1 = 3
 ·rw [if_pos c3]
 rw [if_neg c3]
 by_cases c4 : x.1 = 4
 ·rw [if_pos c4]
 rw [if_neg c4]
 by_cases c5 : x.1 = 5
 ·rw [if_pos c5]
 rw [if_neg c5]
 by_cases c6 : x.1 = 6
 ·rw [if_pos c6]
 rw [if_neg c6]
 by_cases c7 : x.1 = 7
 ·rw [if_pos c7]
 rw [if_neg c7]
 by_cases c12 : x.1 = 12
 ·rw [if_pos c12]
 rw [if_neg c12]
 by_cases c13 : x.1 = 13
 ·rw [if_pos c13]
 rw [if_neg c13]
 by_cases c21 : x.1 = 21
 ·rw [if_pos c21]; split <;> rfl
 rw [if_neg c21]
 by_cases c22 : x.1 = 22
 ·rw [if_pos c22]
 rw [if_neg c22]
 by_cases c8 : x.1 = 8 ∨ x.1 = 9 ∨ x.1 = 10 ∨ x.1 = 11
 ·rw [if_pos c8]
 rw [if_neg c8]
 unfold g9
 by_cases t1 : x.1 = 14 ∨ x.1 = 17
 ·rw [if_pos t1]; exact JP ..
 rw [if_neg t1]
 by_cases t2 : x.1 = 15 ∨ x.1 = 19
 ·rw [if_pos t2]
 rw [if_neg t2]
 by_cases t3 : x.1 = 18
 ·rw [if_pos t3]
 rw [if_neg t3]
 by_cases t4 : x.1 = 16
 ·rw [if_pos t4]
 omega
def Qi (l : List qI) : Prop := ∀ x ∈ l, x.1 ≠ 20
theorem ZQ {l : List qI} (F : Fit l) (Q : Quiet l) (C : Qi l) : ∀ (n : Nat) {s : IM} {V : VM}, GI l s V → frS V.lv + n < 9000 → (jB l (qB l) n s V).kind ≠ 3 := by
 intro n
 induction n with
 | zero =>
  intro s V G hf
  rw [yr]
  split
  ·show (2 : Int) ≠ 3; decide
  ·show (4 : Int) ≠ 3; decide
 | succ n ih =>
  intro s V G hf
  rw [yF]
  split
  ·show (2 : Int) ≠ 3; decide
  ·rename_i h0
   obtain ⟨i, hi, hil⟩ := G.pc
   have hlt : i < l.length := by omega
   rw [hi]
   have S := gi F G hi hlt (by omega) (Q.at hlt).2 (Q.at hlt).1
   have hb : (doM (qB l) s V (qA l i)).blk = false := by
    have hw := zc (F.ok i hlt)
    have hb := Xq hw.1 (Q.at hlt).1
    refine UD (by omega) ?_ (Q.at hlt).1
    rw [jt hlt]
    exact C _ (List.getElem_mem hlt)
   generalize doM (qB l) s V (qA l i) = D at *
   rw [hb]
   split
   ·rename_i h1
    rw [if_neg (by simp)]
    have hfr := S.fr
    exact ih (S.next h1 hb) (by omega)
   ·split
    ·show (1 : Int) ≠ 3; decide
    ·show (4 : Int) ≠ 3; decide
theorem Jx {l : List qI} (F : Fit l) (Q : Quiet l) {zs : List Int} {m : Int} {n : Nat} {s : IM} {V : VM} (G : GI l s V) (hK : V.K = kW zs) (hs : V.sz = szZ zs.length) (hf : frS V.lv + n < 9000) : (jB l (qB l) n s V).kind ≠ 1 := by
 intro h
 obtain ⟨_, _, _, d, _⟩ := Jg F Q n G hf
 obtain ⟨_, d1, d2, d3⟩ := d h
 generalize (jB l (qB l) n s V).v.need = p at *
 obtain ⟨i, rfl⟩ : ∃ i : Nat, p = i := ⟨p.toNat, by omega⟩
 rw [hK, qJ5 zs (by omega) (by omega)] at d3
 cases d3
abbrev G0 (l : List qI) (n : Nat) (zs : List Int) : RM := jB l (qB l) n z6 (jL zs 96)
theorem vF {l : List qI} {zs : List Int} {m : Int} (hz : OkN zs) : GI l z6 (jL zs m) := qXC rfl (Ky hz)
theorem vA (zs : List Int) (m : Int) : frS (jL zs m).lv = 0 := by simp [jL, frS]
theorem J2 {n : Nat} (hn : 16 ≤ n) {l : List qI} {pv wv : AV} {zs : List Int} {fuel : Int} (H : HS g h R) (S : Rd g R 5 l.length pv (l.flatMap jj)) (Sw : Rd g R 1 zs.length wv (zs.map (.int .u64))) (hz : OkN zs) (hc : (xG l).2 = 0) (Q : Quiet l) :
  wp (callT tab qc n (.fn 38 [] []) [.agg [pv], wv, .int .i64 fuel] h) fun r h' => ∃ x v nx, r = .tup [.int .i64 (G0 l (vo fuel) zs).kind, .ptr x 0, .ptr v 0] ∧
   HS g h' (IntC x v l 0 (qB l) (G0 l (vo fuel) zs).s (G0 l (vo fuel) zs).err (if (G0 l (vo fuel) zs).kind = 1 then 0 else (G0 l (vo fuel) zs).kind) ((G0 l (vo fuel) zs).left : Int) nx :: ViewC v (G0 l (vo fuel) zs).v :: R) := by
 (refine qr (g := W38) rfl (by omega) fun k hk => ?_; show wp (S38 (callT tab qc k) _ _ _ _) _; unfold S38; try simp only [iI, uU, Int.ofNat_eq_natCast])
 have F := yb hc
 have hle := F.le
 refine jJ H (x8 (gt (S.sl H))) fun b0 h1 H1 => ?_
 refine qx (Nb (zs := zs) (by omega) H1 Sw.more) ?_
 rintro _ h2 ⟨v, rfl, H2⟩
 refine k6 ?_
 refine qQ ?_
 refine qo H2 (b := b0) (off := 0) e_1 rfl (by omega) (l := [pv]) rfl ?_
 refine qx (qZd (by omega) H2 S.more.more (by omega)) ?_
 rintro _ h3 ⟨x, rfl, H3⟩
 refine k6 ?_
 refine qQ ?_
 have hm : Xp l = qB l := by unfold Xp; rw [if_pos hc]
 rw [hm, hc] at H3
 have hfz : vo fuel ≤ 400 := by unfold vo; omega
 refine qx (qX8 (V := jL zs ((96 : Nat) : Int)) (by omega) F Q (vF hz) (by rw [vA]; omega) (by omega) H3) ?_
 rintro _ h4 ⟨rfl, nx, H4⟩
 exact qk ⟨x, v, nx, rfl, H4.sub (.cons .here (.cons .here (.drop .refl)))⟩
section
variable {x y v u : Nat} {l l' : List qI} {b b' : Int} {mt mt' : List Int} {s s' : IM} {e e' f f' n1 n2 nx nx' : Int} {V W : VM}
theorem UG {n : Nat} (hn : 16 ≤ n) (hg : GB s) (er : s'.regs = s.regs) (eo : s'.out = s.out) (OV : OkV V) (OW : OkV W) (ec : zH W.lv = zH V.lv) (ef : yo W.lv = yo V.lv) (hf : frS V.lv < 100000)
  (H : HS g h (IntC y u l' b' mt' s' e' f' n2 nx' :: ViewC u W :: IntC x v l b mt s e f n1 nx :: ViewC v V :: R)) :
  wp (callT tab qc n (.fn 39 [] []) [.ptr x 0, .ptr y 0, .ptr v 0, .ptr u 0] h) fun r h' => r = .bool true ∧ HS g h' (IntC y u l' b' mt' s' e' f' n2 nx' :: ViewC u W :: IntC x v l b mt s e f n1 nx :: ViewC v V :: R) := by
 have hr8 := hg.regs
 have hml := YY V.lv []
 have hhe := OV.lvs.held
 have hll := OV.lvs.le
 have hfl := Vg V.lv
 have hml' : (zH V.lv).length < 100000 := by simp at hml; unfold zH; omega
 (refine qr (g := W39) rfl (by omega) fun k hk => ?_; show wp (S39 (callT tab qc k) _ _ _ _ _) _; unfold S39; try simp only [iI, uU, Int.ofNat_eq_natCast])
 refine k6 ?_
 with_reducible (refine qW ?_; (try dsimp only); refine ql ?_; (try dsimp only))
 refine k6 ?_
 with_reducible (refine qd ?_; refine qW ?_; (try dsimp only); refine ql ?_; (try dsimp only))
 refine k6 ?_
 with_reducible (refine qd ?_; refine qW ?_; (try dsimp only); refine ql ?_; (try dsimp only))
 refine k6 ?_
 refine qd ?_; refine qQ ?_
 refine qx (Ym (by omega) (H.sel e_2) hg.out) ?_
 rintro _ h1 ⟨p, rfl, H1⟩
 refine qx (Ym (by omega) (H1.sel e_2) (by rw [eo]; exact hg.out)) ?_
 rintro _ h2 ⟨q, rfl, H2⟩
 clear H H1
 refine Mj ?_
 with_reducible (refine qW ?_; (try dsimp only); refine jG ?_; (try dsimp only))
 refine Mj ?_
 with_reducible (refine qe ?_; refine qW ?_; (try dsimp only); refine jG ?_; (try dsimp only))
 refine qx (Mc (by omega) (H2.sel e_2) (by have := hg.out; omega) hg.its) ?_
 rintro _ h3 ⟨rfl, H3⟩
 clear H2
 refine qx (Mc (by omega) (H3.sel e_1) (by have := hg.out; rw [eo]; omega) (by rw [eo]; exact hg.its)) ?_
 rintro _ h4 ⟨rfl, H4⟩
 clear H3
 rw [eo]
 refine qXt ?_
 with_reducible (refine qe ?_; refine qW ?_; (try dsimp only); refine jG ?_; (try dsimp only))
 refine qx (UF (by omega) (H4.sel (P := IntC x v l b mt s e f n1 nx) e_3) hr8.len) ?_
 intro rv h5 H5
 clear H4
 refine qx (UF (by omega) (H5.sel (P := IntC y u l' b' mt' s' e' f' n2 nx') e_4) (by rw [er]; exact hr8.len)) ?_
 intro rw2 h6 H6
 clear H5
 rw [er] at H6
 refine qx (ZI (by omega) (H6.sl e_2) (H6.sl .here) (by omega)) ?_
 rintro _ h6 ⟨rfl, rfl⟩
 rw [decide_eq_true rfl]
 with_reducible (refine qe ?_; refine qW ?_; (try dsimp only); refine jG ?_; (try dsimp only))
 refine qx (YS (by omega) (H6.sel (P := ViewC v V) e_7) OV) fun cv h7 H7 => ?_
 clear H6
 refine qx (YS (by omega) (H7.sel (P := ViewC u W) e_8) OW) fun cw h8 H8 => ?_
 clear H7
 rw [ec] at H8
 refine qx (Zl (by omega) (H8.sl e_2) (H8.sl .here) (by omega)) ?_
 rintro _ h8 ⟨rfl, rfl⟩
 rw [decide_eq_true rfl]
 with_reducible (refine qe ?_; refine qW ?_; (try dsimp only); refine jG ?_; (try dsimp only))
 refine qx (YO (by omega) (H8.sel (P := ViewC v V) e_3) OV) fun fv h9 H9 => ?_
 clear H8
 refine qx (YO (by omega) (H9.sel (P := ViewC u W) e_3) OW) fun fw h10 H10 => ?_
 clear H9
 rw [ef] at H10
 refine qx (Zp (by omega) (H10.sl e_2) (H10.sl .here) (by omega)) ?_
 rintro _ h10 ⟨rfl, rfl⟩
 rw [decide_eq_true rfl]
 refine qe ?_
 exact qk ⟨rfl, H10.sub (.cons e_7 (.cons e_1 (.cons e_7 (.cons e_2 (.drop (.drop (.drop (.drop (.drop (.drop (.drop (.drop .refl))))))))))))⟩
end
end Go.Proofs.YtdlfmpmpmkffjaaGreatDoor
namespace Go.Proofs.YtdlfmpmpmkffjaaGreatDoor
open Go Go.Ae
def jn (k : Nat) (x : qI) : qI := if x.1 = 12 ∨ x.1 = 13 then (x.1, x.2.1, x.2.2.1, x.2.2.2.1 + k, x.2.2.2.2) else x
theorem xN {k : Nat} {x : qI} : (jn k x).1 = x.1 := by unfold jn; split <;> rfl
theorem Mk (x : qI) : jn 0 x = x := by unfold jn; split <;> simp
structure Emb (l L : List qI) (k : Nat) (st0 : List Int) : Prop where
  le : k + l.length ≤ L.length
  ins : ∀ i : Nat, i < l.length → qA L ((k + i : Nat) : Int) = jn k (qA l i)
  st : qj L k = st0
theorem VH {st0 s : List Int} {k i : Nat} {op : Int} (h : 0 < jc op → s ≠ []) : jg (st0 ++ s.map (· + (k : Int))) ((k + i : Nat) : Int) op = st0 ++ (jg s i op).map (· + (k : Int)) := by
 have hd : 0 < jc op → (st0 ++ s.map (· + (k : Int))).dropLast = st0 ++ s.dropLast.map (· + (k : Int)) := by
  intro h0
  rw [List.dropLast_append_of_ne_nil (by simpa using h h0), List.map_dropLast]
 have e : [((k + i : Nat) : Int)] = [(i : Int)].map (· + (k : Int)) := by simp; omega
 unfold jg
 by_cases c1 : zC op = true ∨ op = 18
 ·rw [if_pos c1, if_pos c1]
  by_cases c2 : 0 < jc op
  ·rw [if_pos c2, if_pos c2, hd c2, List.map_append, e, List.append_assoc]
  ·rw [if_neg c2, if_neg c2, List.map_append, e, List.append_assoc]
 ·rw [if_neg c1, if_neg c1]
  by_cases c2 : 0 < jc op
  ·rw [if_pos c2, if_pos c2, hd c2]
  ·rw [if_neg c2, if_neg c2]
section
variable {l L : List qI} {k : Nat} {st0 : List Int}
theorem Emb.stack (E : Emb l L k st0) (hw : ∀ j, j < l.length → jH l (qj l j) (qA l j) = 0) : ∀ i, i ≤ l.length → qj L (k + i) = st0 ++ (qj l i).map (· + (k : Int)) := by
 intro i
 induction i with
 | zero => intro _; rw [Nat.add_zero, E.st]; simp [qj]
 | succ i ih =>
  intro hi
  rw [← Nat.add_assoc, jw, ih (by omega), E.ins i (by omega), xN, VH fun h => (zY (hw i (by omega))).2.1 (.inl h), jw]
theorem XP {s : List Int} (h : s ≠ []) : jZ (st0 ++ s.map (· + (k : Int))) = jZ s + k := by
 unfold jZ
 rw [List.getLast?_append, List.getLast?_map, List.getLast?_eq_some_getLast h]; rfl
theorem XG (F : Fit l) {p e : Nat} (hp : p < l.length) (ho : (qA l p).1 = 14 ∨ (qA l p).1 = 17 ∨ (qA l p).1 = 18) (he : e < l.length) (h1 : 0 < jc (qA l e).1) (h2 : jZ (qj l e) = p) : qa (qB l) (p : Int) = e := by
 obtain ⟨e0, _, _, _, _, _, hu⟩ := J1 F hp ho
 obtain ⟨e1, g1, g2, g3, g4, g5⟩ := yH F hp ho
 have hin : jZ (qj l (p + 1)) = p := by
  rw [jw]
  unfold jg
  rw [if_pos (by unfold zC; simp; omega)]
  unfold jZ
  rw [List.getLast?_concat]; rfl
 have a := hu e he h1 h2
 have b := hu e1 g3 (by rw [g4]; omega) (by rw [g5, hin])
 rw [g1, a, b]
theorem qXB (F : Fit l) {u e : Nat} (hu : u < l.length) (ho : (qA l u).1 = 16) (he : e < l.length) (h1 : 0 < jc (qA l e).1) (h2 : jZ (qj l e) = jZ (qj l u)) : qa (qB l) (u : Int) = e := by
 obtain ⟨e1, g1, g2, g3, g4, g5⟩ := gT F hu ho
 obtain ⟨q, q1, q2, _, q3⟩ := xn g5
 have hq := (zc (F.ok u hu)).2.2.1 ho
 rw [X5 g5 q1] at hq
 obtain ⟨e0, _, _, _, _, _, hU⟩ := J1 F (p := q) (by omega) (.inl hq)
 have a := hU e he h1 (h2.trans q1)
 have b := hU e1 g2 (by rw [g3]; decide) (by rw [g4, q1])
 rw [g1, a, b]
theorem Emb.mt (E : Emb l L k st0) (F : Fit l) (FL : Fit L) {i : Nat} (hi : i < l.length) (ho : (qA l i).1 = 14 ∨ (qA l i).1 = 17 ∨ (qA l i).1 = 18 ∨ (qA l i).1 = 16) : qa (qB L) ((k + i : Nat) : Int) = qa (qB l) (i : Int) + k := by
 have hle := E.le
 by_cases h : (qA l i).1 = 16
 ·obtain ⟨e1, g1, g2, g3, g4, g5⟩ := gT F hi h
  rw [g1, qXB FL (u := k + i) (e := k + e1) (by omega) (by rw [E.ins i hi, xN]; exact h) (by omega) (by rw [E.ins e1 g2, xN, g3]; decide) (by rw [E.stack F.ok _ (by omega), E.stack F.ok _ (by omega), g4])]
  omega
 ·obtain ⟨e1, g1, g2, g3, g4, g5⟩ := yH F hi (by omega)
  have hin : jZ (qj l (i + 1)) = i := by
   rw [jw]
   unfold jg
   rw [if_pos (by unfold zC; simp; omega)]
   unfold jZ
   rw [List.getLast?_concat]; rfl
  have hne : qj l e1 ≠ [] := by
   intro h0
   rw [← g5, h0, Qq] at hin
   omega
  rw [g1, XG FL (p := k + i) (e := k + e1) (by omega) (by rw [E.ins i hi, xN]; omega) (by omega) (by rw [E.ins e1 g3, xN, g4]; omega) (by rw [E.stack F.ok _ (by omega), XP hne, g5, hin]; omega)]
  omega
end
def Qv (k : Nat) (p : PtM) : PtM := { p with pc := p.pc + k }
structure Sim (k : Nat) (o0 : List PtM) (s S : IM) : Prop where
  regs : S.regs = s.regs
  out : S.out = s.out
  pc : S.pc = s.pc + k
  opn : S.opn = s.opn.map (Qv k) ++ o0
structure SimS (k : Nat) (o0 : List PtM) (d D : SM) : Prop where
  e : D.e = d.e
  blk : D.blk = d.blk
  v : D.v = d.v
  nx : D.nx = d.nx + k
  regs : D.s.regs = d.s.regs
  out : D.s.out = d.s.out
  opn : D.s.opn = d.s.opn.map (Qv k) ++ o0
section
variable {l L : List qI} {k : Nat} {st0 : List Int} {o0 : List PtM} {s S : IM} {V : VM}
theorem Oz {x : qI} (h : Sim k o0 s S) : (jI S V x).1 = (jI s V x).1 ∧ (jI S V x).2.2 = (jI s V x).2.2 ∧ (jI S V x).2.1.regs = (jI s V x).2.1.regs ∧ (jI S V x).2.1.out = (jI s V x).2.1.out ∧ (jI S V x).2.1.opn = (jI s V x).2.1.opn.map (Qv k) ++ o0 := by
 unfold jI setR
 rw [h.regs]
 by_cases c1 : x.1 = 8
 ·rw [if_pos c1, if_pos c1]
  split
  ·split
   ·exact ⟨rfl, rfl, rfl, h.out, h.opn⟩
   ·exact ⟨rfl, rfl, h.regs, h.out, h.opn⟩
  ·exact ⟨rfl, rfl, h.regs, h.out, h.opn⟩
 rw [if_neg c1, if_neg c1]
 by_cases c2 : x.1 = 9
 ·rw [if_pos c2, if_pos c2]
  split
  ·exact ⟨rfl, rfl, h.regs, h.out, h.opn⟩
  ·exact ⟨rfl, rfl, h.regs, h.out, h.opn⟩
 rw [if_neg c2, if_neg c2]
 by_cases c3 : x.1 = 10
 ·rw [if_pos c3, if_pos c3]
  split
  ·exact ⟨rfl, rfl, h.regs, h.out, h.opn⟩
  ·split
   ·exact ⟨rfl, rfl, rfl, h.out, h.opn⟩
   ·exact ⟨rfl, rfl, h.regs, h.out, h.opn⟩
 rw [if_neg c3, if_neg c3]
 split
 ·exact ⟨rfl, rfl, h.regs, h.out, h.opn⟩
 ·exact ⟨rfl, rfl, h.regs, h.out, h.opn⟩
theorem Mm {op : Int} (h : Sim k o0 s S) : SimS k o0 (jN op s.pc (s.pc + 1) s V) (jN op S.pc (S.pc + 1) S V) := by
 unfold jN
 have hp := h.pc
 split
 ·refine ⟨rfl, rfl, rfl, by show S.pc + 1 = s.pc + 1 + k; omega, h.regs, h.out, ?_⟩
  show _ :: S.opn = _ :: (s.opn.map (Qv k)) ++ o0
  rw [h.opn, List.cons_append]
  unfold Qv
  rw [h.regs, h.out, hp]
 ·exact ⟨rfl, rfl, rfl, by show S.pc + 1 = s.pc + 1 + k; omega, h.regs, h.out, h.opn⟩
theorem qVM {mt MT : List Int} {x : qI} (h : Sim k o0 s S) (hx : 1 ≤ x.1 ∧ x.1 ≤ 22) (h20 : x.1 ≠ 20) (hm : x.1 = 16 ∨ x.1 = 18 → qa MT S.pc = qa mt s.pc + k) (ho : x.1 = 15 ∨ x.1 = 16 ∨ x.1 = 18 ∨ x.1 = 19 → s.opn ≠ []) :
  SimS k o0 (doM mt s V x) (doM MT S V (jn k x)) := by
 have hp := h.pc
 have hr := h.regs
 have hnx : S.pc + 1 = s.pc + 1 + k := by omega
 by_cases cj : x.1 = 12 ∨ x.1 = 13
 ·have ex : jn k x = (x.1, x.2.1, x.2.2.1, x.2.2.2.1 + k, x.2.2.2.2) := if_pos cj
  rw [ex]
  unfold doM
  rcases cj with cj | cj
  ·simp only [cj]
   exact ⟨rfl, rfl, rfl, rfl, h.regs, h.out, h.opn⟩
  ·simp only [cj]
   refine ⟨rfl, rfl, rfl, ?_, h.regs, h.out, h.opn⟩
   show (if qa S.regs x.2.1 = 0 then x.2.2.2.1 + (k : Int) else S.pc + 1) = (if qa s.regs x.2.1 = 0 then x.2.2.2.1 else s.pc + 1) + k
   rw [hr]
   split
   ·rfl
   ·exact hnx
 have ex : jn k x = x := if_neg cj
 rw [ex]
 unfold doM
 by_cases c1 : x.1 = 1
 ·rw [if_pos c1, if_pos c1]; unfold setR; rw [hr]; exact ⟨rfl, rfl, rfl, hnx, rfl, h.out, h.opn⟩
 rw [if_neg c1, if_neg c1]
 by_cases c2 : x.1 = 2
 ·rw [if_pos c2, if_pos c2]; unfold setR; rw [hr]; exact ⟨rfl, rfl, rfl, hnx, rfl, h.out, h.opn⟩
 rw [if_neg c2, if_neg c2]
 by_cases c3 : x.1 = 3
 ·rw [if_pos c3, if_pos c3]; unfold setR; rw [hr]; exact ⟨rfl, rfl, rfl, hnx, rfl, h.out, h.opn⟩
 rw [if_neg c3, if_neg c3]
 by_cases c4 : x.1 = 4
 ·rw [if_pos c4, if_pos c4]; unfold setR; rw [hr]; exact ⟨rfl, rfl, rfl, hnx, rfl, h.out, h.opn⟩
 rw [if_neg c4, if_neg c4]
 by_cases c5 : x.1 = 5
 ·rw [if_pos c5, if_pos c5]; unfold setR; rw [hr]; exact ⟨rfl, rfl, rfl, hnx, rfl, h.out, h.opn⟩
 rw [if_neg c5, if_neg c5]
 by_cases c6 : x.1 = 6
 ·rw [if_pos c6, if_pos c6]; unfold setR; rw [hr]; exact ⟨rfl, rfl, rfl, hnx, rfl, h.out, h.opn⟩
 rw [if_neg c6, if_neg c6]
 by_cases c7 : x.1 = 7
 ·rw [if_pos c7, if_pos c7]; unfold setR; rw [hr]; exact ⟨rfl, rfl, rfl, hnx, rfl, h.out, h.opn⟩
 rw [if_neg c7, if_neg c7]
 rw [if_neg (fun h => cj (.inl h)), if_neg (fun h => cj (.inl h)), if_neg (fun h => cj (.inr h)), if_neg (fun h => cj (.inr h))]
 by_cases c21 : x.1 = 21
 ·rw [if_pos c21, if_pos c21, h.out, hr]
  split
  ·exact ⟨rfl, rfl, rfl, hnx, h.regs, h.out, h.opn⟩
  ·exact ⟨rfl, rfl, rfl, hnx, rfl, rfl, h.opn⟩
 rw [if_neg c21, if_neg c21]
 by_cases c22 : x.1 = 22
 ·rw [if_pos c22, if_pos c22]; exact ⟨rfl, rfl, rfl, hnx, h.regs, h.out, h.opn⟩
 rw [if_neg c22, if_neg c22]
 by_cases c8 : x.1 = 8 ∨ x.1 = 9 ∨ x.1 = 10 ∨ x.1 = 11
 ·rw [if_pos c8, if_pos c8]
  obtain ⟨a, b, c, d, e⟩ := Oz (V := V) (x := x) h
  exact ⟨a, rfl, b, hnx, c, d, e⟩
 rw [if_neg c8, if_neg c8]
 unfold g9
 by_cases t1 : x.1 = 14 ∨ x.1 = 17
 ·rw [if_pos t1, if_pos t1]; exact Mm h
 rw [if_neg t1, if_neg t1]
 have tl : x.1 = 15 ∨ x.1 = 16 ∨ x.1 = 18 ∨ x.1 = 19 → S.opn.tail = s.opn.tail.map (Qv k) ++ o0 := by
  intro hh
  have := ho hh
  rw [h.opn]
  cases hs : s.opn with
  | nil => exact absurd hs this
  | cons p o => rfl
 by_cases t2 : x.1 = 15 ∨ x.1 = 19
 ·rw [if_pos t2, if_pos t2]; exact ⟨rfl, rfl, rfl, hnx, h.regs, h.out, tl (by omega)⟩
 rw [if_neg t2, if_neg t2]
 by_cases t3 : x.1 = 18
 ·rw [if_pos t3, if_pos t3]
  have := hm (.inr t3)
  exact ⟨rfl, rfl, rfl, by show qa MT S.pc + 1 = qa mt s.pc + 1 + k; omega, h.regs, h.out, tl (by omega)⟩
 rw [if_neg t3, if_neg t3]
 by_cases t4 : x.1 = 16
 ·rw [if_pos t4, if_pos t4]
  have := hm (.inl t4)
  have hh : Q7 S.opn = Qv k (Q7 s.opn) := by
   have := ho (.inr (.inl t4))
   rw [h.opn]
   cases hs : s.opn with
   | nil => exact absurd hs this
   | cons p o => rfl
  refine ⟨rfl, rfl, rfl, by show qa MT S.pc + 1 = qa mt s.pc + 1 + k; omega, ?_, ?_, tl (by omega)⟩
  ·show (Q7 S.opn).regs = (Q7 s.opn).regs
   rw [hh]; rfl
  ·show S.out.take (Q7 S.opn).told = s.out.take (Q7 s.opn).told
   rw [hh, h.out]; rfl
 omega
end
end Go.Proofs.YtdlfmpmpmkffjaaGreatDoor
namespace Go.Proofs.YtdlfmpmpmkffjaaGreatDoor
open Go Go.Ae
theorem do_nx {l : List qI} (F : Fit l) {s : IM} {V : VM} {i : Nat} (hi : s.pc = i) (hlt : i < l.length) (h20 : (qA l i).1 ≠ 20) (h23 : (qA l i).1 ≠ 23) : ∃ j : Nat, (doM (qB l) s V (qA l i)).nx = j ∧ j ≤ l.length := by
 have hm := Xq (zc (F.ok i hlt)).1 h23
 have hj := F.jump i hlt
 have h1 : ∃ j : Nat, s.pc + 1 = j ∧ j ≤ l.length := ⟨i + 1, by omega, by omega⟩
 have hmt : (qA l i).1 = 16 ∨ (qA l i).1 = 18 → ∃ j : Nat, qa (qB l) s.pc + 1 = j ∧ j ≤ l.length := by
  intro h
  rw [hi]
  rcases h with h | h
  ·obtain ⟨e, e1, e2, _⟩ := gT F hlt h
   exact ⟨e + 1, by omega, by omega⟩
  ·obtain ⟨e, e1, _, e2, _⟩ := yH F hlt (.inr (.inr h))
   exact ⟨e + 1, by omega, by omega⟩
 have hc : (qA l i).1 = 12 ∨ (qA l i).1 = 13 → ∃ j : Nat, (qA l i).2.2.2.1 = j ∧ j ≤ l.length := by
  intro h
  refine ⟨(qA l i).2.2.2.1.toNat, by omega, ?_⟩
  by_cases hc : (l.length : Int) < (qA l i).2.2.2.1
  ·exact absurd ⟨h, .inl hc⟩ hj
  ·omega
 generalize qA l i = x at *
 unfold doM
 by_cases c1 : x.1 = 1
 ·rw [if_pos c1]; exact h1
 rw [if_neg c1]
 by_cases c2 : x.1 = 2
 ·rw [if_pos c2]; exact h1
 rw [if_neg c2]
 by_cases c3 : x.1 = 3
 ·rw [if_pos c3]; exact h1
 rw [if_neg c3]
 by_cases c4 : x.1 = 4
 ·rw [if_pos c4]; exact h1
 rw [if_neg c4]
 by_cases c5 : x.1 = 5
 ·rw [if_pos c5]; exact h1
 rw [if_neg c5]
 by_cases c6 : x.1 = 6
 ·rw [if_pos c6]; exact h1
 rw [if_neg c6]
 by_cases c7 : x.1 = 7
 ·rw [if_pos c7]; exact h1
 rw [if_neg c7]
 by_cases c12 : x.1 = 12
 ·rw [if_pos c12]; exact hc (.inl c12)
 rw [if_neg c12]
 by_cases c13 : x.1 = 13
 ·rw [if_pos c13]
  show ∃ j : Nat, (if qa s.regs x.2.1 = 0 then x.2.2.2.1 else s.pc + 1) = j ∧ j ≤ l.length
  split
  ·exact hc (.inr c13)
  ·exact h1
 rw [if_neg c13]
 by_cases c21 : x.1 = 21
 ·rw [if_pos c21]; split <;> exact h1
 rw [if_neg c21]
 by_cases c22 : x.1 = 22
 ·rw [if_pos c22]; exact h1
 rw [if_neg c22]
 by_cases c8 : x.1 = 8 ∨ x.1 = 9 ∨ x.1 = 10 ∨ x.1 = 11
 ·rw [if_pos c8]; exact h1
 rw [if_neg c8]
 unfold g9
 by_cases t1 : x.1 = 14 ∨ x.1 = 17
 ·rw [if_pos t1]; unfold jN; split <;> exact h1
 rw [if_neg t1]
 by_cases t2 : x.1 = 15 ∨ x.1 = 19
 ·rw [if_pos t2]; exact h1
 rw [if_neg t2]
 by_cases t3 : x.1 = 18
 ·rw [if_pos t3]; exact hmt (.inr t3)
 rw [if_neg t3]
 by_cases t4 : x.1 = 16
 ·rw [if_pos t4]; exact hmt (.inl t4)
 clear h1 hmt hc
 omega
section
variable {l L : List qI} {k : Nat} {st0 : List Int} {o0 : List PtM}
theorem Q8 (E : Emb l L k st0) (F : Fit l) {s S : IM} {V : VM} (h : Sim k o0 s S) (G : GI L S V) {i : Nat} (hi : s.pc = i) (hil : i ≤ l.length) (h0 : o0.length = st0.length) : s.opn.length = (qj l i).length := by
 have e := congrArg List.length G.stk
 rw [h.pc, hi, show ((i : Int) + (k : Int)).toNat = k + i by omega, E.stack F.ok i hil, h.opn] at e
 simp at e
 omega
theorem Qf (E : Emb l L k st0) (F : Fit l) (FL : Fit L) (QL : Quiet L) (Cl : Qi l) (h0 : o0.length = st0.length) {s S : IM} {V : VM} (h : Sim k o0 s S) (G : GI L S V) {i : Nat} (hi : s.pc = i) (hlt : i < l.length) :
  SimS k o0 (doM (qB l) s V (qA l i)) (doM (qB L) S V (qA L ((k + i : Nat) : Int))) ∧ (doM (qB l) s V (qA l i)).blk = false ∧ ∃ j : Nat, (doM (qB l) s V (qA l i)).nx = j ∧ j ≤ l.length := by
 have hle := E.le
 have hq : (qA l i).1 ≠ 23 := by
  have := (QL.at (i := k + i) (by omega)).1
  rwa [E.ins i hlt, xN] at this
 have h20 : (qA l i).1 ≠ 20 := by rw [jt hlt]; exact Cl _ (List.getElem_mem hlt)
 have hw := F.ok i hlt
 have hb := Xq (zc hw).1 hq
 have hlen := Q8 E F h G hi (by omega) h0
 have hso : S.pc = ((k + i : Nat) : Int) := by have := h.pc; omega
 rw [E.ins i hlt]
 refine ⟨qVM h (by omega) h20 (fun ho => ?_) (fun ho hn => ?_), UD (by omega) h20 hq, do_nx F hi hlt h20 hq⟩
 ·rw [hso, hi, E.mt F FL hlt (by omega)]
 ·rw [hn] at hlen
  have : qj l i ≠ [] := (zY hw).2.1 (by
   rcases ho with ho | ho | ho | ho
   ·exact .inl (by rw [ho]; decide)
   ·exact .inr ho
   ·exact .inl (by rw [ho]; decide)
   ·exact .inl (by rw [ho]; decide))
  exact this (List.eq_nil_of_length_eq_zero hlen.symm)
theorem gj (E : Emb l L k st0) (F : Fit l) (FL : Fit L) (QL : Quiet L) (Cl : Qi l) (h0 : o0.length = st0.length) : ∀ (n : Nat) {s S : IM} {V : VM}, Sim k o0 s S → GI L S V → (∃ i : Nat, s.pc = i ∧ i ≤ l.length) → frS V.lv + n < 9000 →
  ((jB l (qB l) n s V).kind = 2 → ∃ S', jB L (qB L) n S V = jB L (qB L) (jB l (qB l) n s V).left S' (jB l (qB l) n s V).v ∧ Sim k o0 (jB l (qB l) n s V).s S' ∧ GI L S' (jB l (qB l) n s V).v ∧
   frS (jB l (qB l) n s V).v.lv + (jB l (qB l) n s V).left < 9000 ∧ (jB l (qB l) n s V).s.pc = l.length ∧ (jB l (qB l) n s V).left ≤ n) ∧
  ((jB l (qB l) n s V).kind ≠ 2 → (jB L (qB L) n S V).kind = (jB l (qB l) n s V).kind ∧ (jB L (qB L) n S V).err = (jB l (qB l) n s V).err) := by
 have hle := E.le
 intro n
 induction n with
 | zero =>
  rintro s S V h G ⟨i, hi, hil⟩ hf
  have hp := h.pc
  rw [yr]
  by_cases c : s.pc = l.length
  ·rw [if_pos c]
   exact ⟨fun _ => ⟨S, rfl, h, G, hf, c, Nat.le_refl _⟩, fun hk => absurd rfl hk⟩
  ·rw [if_neg c, yr, if_neg (by omega)]
   exact ⟨fun hk => (by cases hk), fun _ => ⟨rfl, rfl⟩⟩
 | succ n ih =>
  rintro s S V h G ⟨i, hi, hil⟩ hf
  have hp := h.pc
  rw [yF]
  by_cases c : s.pc = l.length
  ·rw [if_pos c]
   exact ⟨fun _ => ⟨S, rfl, h, G, hf, c, Nat.le_refl _⟩, fun hk => absurd rfl hk⟩
  ·have hlt : i < l.length := by omega
   have hSp : S.pc = ((k + i : Nat) : Int) := by omega
   obtain ⟨D, hb, j, hj, hjl⟩ := Qf E F FL QL Cl h0 h G hi hlt
   have St := gi FL G hSp (by omega) (by omega) (QL.at (i := k + i) (by omega)).2 (QL.at (i := k + i) (by omega)).1
   have e1 := yF (l := L) (mt := qB L) (n := n) (s := S) (V := V)
   rw [if_neg (show ¬ S.pc = L.length by omega), hSp] at e1
   rw [if_neg c, e1, hi]
   clear e1
   generalize doM (qB l) s V (qA l i) = d at *
   generalize doM (qB L) S V (qA L ((k + i : Nat) : Int)) = D' at *
   have hB : D'.blk = false := D.blk.trans hb
   by_cases c0 : d.e = 0
   ·rw [if_pos c0, if_neg (by rw [hb]; simp), if_pos (D.e.trans c0), if_neg (by rw [hB]; simp)]
    have hfr := St.fr
    have G2 := St.next (D.e.trans c0) hB
    have S2 : Sim k o0 { d.s with pc := d.nx } { D'.s with pc := D'.nx } := ⟨D.regs, D.out, D.nx, D.opn⟩
    rw [D.v] at hfr G2 ⊢
    obtain ⟨a, b⟩ := ih S2 G2 ⟨j, hj, hjl⟩ (by omega)
    refine ⟨fun hk => ?_, b⟩
    obtain ⟨S', x1, x2, x3, x4, x5, x6⟩ := a hk
    exact ⟨S', x1, x2, x3, x4, x5, by omega⟩
   ·have c0' : ¬ D'.e = 0 := by rw [D.e]; exact c0
    rw [if_neg c0, if_neg c0']
    by_cases c11 : d.e = 11
    ·rw [if_pos c11, if_pos (D.e.trans c11)]
     exact ⟨fun hk => (by cases hk), fun _ => ⟨rfl, rfl⟩⟩
    ·have c11' : ¬ D'.e = 11 := by rw [D.e]; exact c11
     rw [if_neg c11, if_neg c11']
     exact ⟨fun hk => (by cases hk), fun _ => ⟨rfl, D.e⟩⟩
theorem K4 {l : List qI} {mt : List Int} : ∀ (n : Nat) {s : IM} {V : VM} (m : Nat), (jB l mt n s V).kind = 2 → jB l mt (n + m) s V = { jB l mt n s V with left := (jB l mt n s V).left + m } := by
 intro n
 induction n with
 | zero =>
  intro s V m h
  rw [yr] at h ⊢
  by_cases c : s.pc = l.length
  ·rw [wK c]; rw [if_pos c]
  ·rw [if_neg c] at h; cases h
 | succ n ih =>
  intro s V m h
  rw [show n + 1 + m = (n + m) + 1 by omega, yF]
  rw [yF] at h ⊢
  by_cases c : s.pc = l.length
  ·rw [if_pos c, if_pos c, show n + m + 1 = n + 1 + m by omega]
  rw [if_neg c] at h ⊢
  rw [if_neg c]
  by_cases c1 : (doM mt s V (qA l s.pc)).e = 0
  ·rw [if_pos c1] at h ⊢
   rw [if_pos c1]
   by_cases c2 : (doM mt s V (qA l s.pc)).blk = true
   ·rw [if_pos c2] at h; cases h
   ·rw [if_neg c2] at h ⊢
    rw [if_neg c2]
    exact ih m h
  ·rw [if_neg c1] at h
   split at h <;> cases h
end
end Go.Proofs.YtdlfmpmpmkffjaaGreatDoor
namespace Go.Proofs.YtdlfmpmpmkffjaaGreatDoor
open Go Go.Ae
structure Tl (M M' : VM) (e : Int) : Prop where
  sz : M'.sz = M.sz
  K : M'.K = M.K
  most : M'.most = M.most
  tail : M'.lv.tail = M.lv.tail
  len : M'.lv.length = M.lv.length
  need : e = 0 → M'.need = M.need
theorem Tl.refl (M : VM) (e : Int) : Tl M M e := ⟨rfl, rfl, rfl, rfl, rfl, fun _ => rfl⟩
theorem Tl.trans {M M1 M2 : VM} {e e1 : Int} (h : Tl M M1 e1) (h0 : e1 = 0) (h2 : Tl M1 M2 e) : Tl M M2 e :=
 ⟨h2.sz.trans h.sz, h2.K.trans h.K, h2.most.trans h.most, h2.tail.trans h.tail, h2.len.trans h.len, fun he => (h2.need he).trans (h.need h0)⟩
theorem Tl.as {M M' : VM} {e e' : Int} (h : Tl M M' e) (he : e' = e) : Tl M M' e' := he ▸ h
theorem Tl.read (M : VM) (p : Int) : Tl M (qf M p).2 (qf M p).1.2 := by
 unfold qf
 split
 ·split
  ·exact .refl M _
  ·split
   ·exact .refl M _
   ·exact ⟨rfl, rfl, rfl, rfl, rfl, fun h => by cases h⟩
 ·exact .refl M _
theorem qX5 {most : Nat} {lv : List LvM} {p v : Int} : (xH most lv p v).2.tail = lv.tail ∧ (xH most lv p v).2.length = lv.length := by
 unfold xH
 split
 ·exact ⟨rfl, rfl⟩
 ·split
  ·exact ⟨rfl, rfl⟩
  ·split <;> exact ⟨rfl, rfl⟩
theorem Zt {most : Nat} {was : List LvM} : ∀ {cs : List Cl} {lv : List LvM}, lv.tail = was.tail → lv.length = was.length → (xB most was lv cs).2.tail = was.tail ∧ (xB most was lv cs).2.length = was.length := by
 intro cs
 induction cs with
 | nil => intro lv h1 h2; exact ⟨h1, h2⟩
 | cons c cs ih =>
  intro lv h1 h2
  rw [xD]
  split
  ·have := qX5 (most := most) (lv := lv) (p := c.1) (v := c.2)
   exact ih (this.1.trans h1) (this.2.trans h2)
  ·exact ⟨rfl, rfl⟩
theorem Tl.take (M : VM) (cs : List Cl) : Tl M (ji M cs).2 (ji M cs).1 := by
 unfold ji
 split
 ·have := Zt (most := M.most) (was := M.lv) (cs := cs) (lv := M.lv) rfl rfl
  exact ⟨rfl, rfl, rfl, this.1, this.2, fun _ => rfl⟩
 ·exact .refl M _
theorem Tl.free (M : VM) (b : Int) : Tl M (freeV M b) 0 := by
 unfold freeV
 refine ⟨rfl, rfl, rfl, ?_, freeL_len, fun _ => rfl⟩
 show (wT M.lv b).tail = M.lv.tail
 cases M.lv <;> rfl
theorem Tl.again (M : VM) (c b : Int) : Tl M (z7 M c b).2 (z7 M c b).1.2 := by
 unfold z7
 split
 ·exact .refl M _
 ·split
  ·rename_i h
   have ht := (Tl.read M b).trans h (Tl.take (qf M b).2 [(c, (qf M b).1.1), (b - 1, c + 8)])
   split
   ·rename_i h2; exact ht.as h2.symm
   ·exact ht
  ·exact Tl.read M b
theorem Tl.grown (M : VM) (c : Int) : Tl M (xQ M c).2 (xQ M c).1.2 := by
 unfold xQ
 split
 ·rename_i h
  split
  ·have := Tl.read M 5
   exact ⟨this.sz, this.K, this.most, this.tail, this.len, fun h => by cases h⟩
  ·have ht := (Tl.read M 5).trans h (Tl.take (qf M 5).2 [(5, (qf M 5).1.1 + 1 + x7 c), ((qf M 5).1.1, c + 8)])
   split
   ·rename_i h2; exact ht.as h2.symm
   ·exact ht
 ·exact Tl.read M 5
theorem Tl.alloc (M : VM) (n : Int) : Tl M (zz M n).2 (zz M n).1.2 := by
 unfold zz
 split
 ·exact .refl M _
 ·split
  ·rename_i h
   split
   ·exact (Tl.read M _).trans h (Tl.grown _ _)
   ·exact (Tl.read M _).trans h (Tl.again _ _ _)
  ·exact Tl.read M _
theorem Tl.ask (M : VM) (b : Int) : Tl M (zU M b).2 (zU M b).1.2.2 := by
 unfold zU
 split
 ·exact .refl M _
 ·split
  ·rename_i h
   have := Tl.read M (b - 1)
   split
   ·exact ⟨this.sz, this.K, this.most, this.tail, this.len, fun h => by cases h⟩
   ·exact this.as h.symm
  ·exact Tl.read M _
theorem Tl.freeA (M : VM) (b : Int) : Tl M (freeA M b).2 (freeA M b).1 := by
 unfold Go.Proofs.YtdlfmpmpmkffjaaGreatDoor.freeA
 split
 ·rename_i h
  split
  ·have ht := (Tl.ask M b).trans h (Tl.take (zU M b).2 [(b - 1, (zU M b).1.1)])
   split
   ·rename_i h2; exact ht.trans h2 (Tl.free _ _)
   ·exact ht
  ·have := Tl.ask M b
   exact ⟨this.sz, this.K, this.most, this.tail, this.len, fun h => by cases h⟩
 ·exact Tl.ask M b
structure Kp (base : List LvM) (t0 : List ItT) (s : IM) (V : VM) : Prop where
  lv : V.lv.drop (s.opn.length + 1) = base
  len : V.lv.length = s.opn.length + 1 + base.length
  out : s.out.take t0.length = t0
  told : ∀ p ∈ s.opn, t0.length ≤ p.told
def Sm (V V' : VM) : Prop := V'.sz = V.sz ∧ V'.K = V.K ∧ V'.most = V.most ∧ V'.need = V.need
theorem Sm.trans {A B C : VM} (h : Sm A B) (h2 : Sm B C) : Sm A C := ⟨h2.1.trans h.1, h2.2.1.trans h.2.1, h2.2.2.1.trans h.2.2.1, h2.2.2.2.trans h.2.2.2⟩
section
variable {base : List LvM} {t0 : List ItT} {s : IM} {V : VM}
theorem Kc {α : Type} {l t : List α} (h : l.take t.length = t) : t.length ≤ l.length := by
 have := congrArg List.length h
 rw [List.length_take] at this
 omega
theorem Kp.same {s' : IM} {V' : VM} {e : Int} (h : Kp base t0 s V) (T : Tl V V' e) (he : e = 0) (ho : s'.opn = s.opn) (h2 : s'.out = s.out) : Kp base t0 s' V' ∧ Sm V V' := by
 refine ⟨⟨?_, ?_, by rw [h2]; exact h.out, by rw [ho]; exact h.told⟩, T.sz, T.K, T.most, T.need he⟩
 ·rw [ho, ← h.lv]
  have e := T.tail
  rw [← List.drop_one, ← List.drop_one] at e
  rw [show s.opn.length + 1 = 1 + s.opn.length by omega, ← List.drop_drop, ← List.drop_drop, e]
 ·rw [ho, T.len]; exact h.len
theorem Kp.emit {s' : IM} (h : Kp base t0 s V) (ho : s'.opn = s.opn) (h2 : ∃ t, s'.out = s.out ++ t) : Kp base t0 s' V ∧ Sm V V := by
 obtain ⟨t, h2⟩ := h2
 refine ⟨⟨by rw [ho]; exact h.lv, by rw [ho]; exact h.len, ?_, by rw [ho]; exact h.told⟩, rfl, rfl, rfl, rfl⟩
 rw [h2, List.take_append_of_le_length (Kc h.out)]; exact h.out
theorem qQN {x : qI} (h : Kp base t0 s V) (he : (jI s V x).1 = 0) : Kp base t0 (jI s V x).2.1 (jI s V x).2.2 ∧ Sm V (jI s V x).2.2 := by
 unfold jI at he ⊢
 by_cases c1 : x.1 = 8
 ·rw [if_pos c1] at he ⊢
  split at he
  ·rename_i p1
   rw [if_pos p1]
   split at he
   ·rename_i p2
    rw [if_pos p2]
    exact h.same (Tl.read V _) p2 rfl rfl
   ·rename_i p2; exact absurd he p2
  ·cases he
 rw [if_neg c1] at he ⊢
 by_cases c2 : x.1 = 9
 ·rw [if_pos c2] at he ⊢
  split at he
  ·rename_i p1
   rw [if_pos p1]
   exact h.same (Tl.take V _) he rfl rfl
  ·cases he
 rw [if_neg c2] at he ⊢
 by_cases c3 : x.1 = 10
 ·rw [if_pos c3] at he ⊢
  split at he
  ·cases he
  ·rename_i p1
   rw [if_neg p1]
   split at he
   ·rename_i p2
    rw [if_pos p2]
    exact h.same (Tl.alloc V _) p2 rfl rfl
   ·rename_i p2; exact absurd he p2
 rw [if_neg c3] at he ⊢
 split at he
 ·cases he
 ·rename_i p1
  rw [if_neg p1]
  exact h.same (Tl.freeA V _) he rfl rfl
theorem O6 {op a n : Int} (h : Kp base t0 s V) (he : (jN op a n s V).e = 0) : Kp base t0 (jN op a n s V).s (jN op a n s V).v ∧ Sm V (jN op a n s V).v := by
 unfold jN at he ⊢
 split at he
 ·rename_i p1
  rw [if_pos p1]
  have hl : (zP V).2.lv = ([], []) :: V.lv := by
   show (xq V.lv).2 = _
   have p1 : (xq V.lv).1 = 0 := p1
   unfold xq at p1 ⊢
   split at p1
   ·cases p1
   ·rename_i p2; rw [if_neg p2]
  refine ⟨⟨?_, ?_, h.out, ?_⟩, rfl, rfl, rfl, rfl⟩
  ·show (zP V).2.lv.drop (s.opn.length + 1 + 1) = base
   rw [hl, List.drop_succ_cons]; exact h.lv
  ·show (zP V).2.lv.length = s.opn.length + 1 + 1 + base.length
   rw [hl, List.length_cons, h.len]; omega
  ·intro p hp
   rcases List.mem_cons.1 hp with rfl | hp
   ·exact Kc h.out
   ·exact h.told p hp
 ·rename_i p1; exact absurd he p1
theorem Kp.lower {s' : IM} {V' : VM} (h : Kp base t0 s V) (hne : s.opn ≠ []) (ho : s'.opn = s.opn.tail) (hd : V'.lv.drop s.opn.length = V.lv.drop (s.opn.length + 1)) (hl : V'.lv.length + 1 = V.lv.length) (h2 : s'.out.take t0.length = t0) (hs : Sm V V') : Kp base t0 s' V' ∧ Sm V V' := by
 have h3 : s.opn.length = s.opn.tail.length + 1 := by rw [List.length_tail]; have := List.length_pos_iff.2 hne; omega
 refine ⟨⟨?_, ?_, h2, ?_⟩, hs⟩
 ·rw [ho, ← h3, hd]; exact h.lv
 ·have := h.len
  rw [ho, ← h3]; omega
 ·intro p hp
  rw [ho] at hp
  exact h.told p (List.mem_of_mem_tail hp)
theorem Z9 {lv : List LvM} (h : (xL lv).1 = 0) : ∃ x y r, lv = x :: y :: r ∧ (xL lv).2 = (je y.1 x.1, y.2 ++ x.2) :: r := by
 match lv, h with
 | x :: y :: r, _ => exact ⟨x, y, r, rfl, rfl⟩
 | [x], h => cases h
 | [], h => cases h
theorem qZ9 {M : VM} (h : (xX M).1 = 0) : ∃ x y r, M.lv = x :: y :: r ∧ (xX M).2.lv = (je y.1 x.1, y.2 ++ x.2) :: r := Z9 h
theorem MV {s' : IM} (h : Kp base t0 s V) (hne : s.opn ≠ []) (he : (xX V).1 = 0) (ho : s'.opn = s.opn.tail) (h2 : s'.out = s.out) : Kp base t0 s' (xX V).2 ∧ Sm V (xX V).2 := by
 obtain ⟨x, y, r, e1, e2⟩ := qZ9 he
 have hp := List.length_pos_iff.2 hne
 obtain ⟨m, hm⟩ : ∃ m, s.opn.length = m + 1 := ⟨s.opn.length - 1, by omega⟩
 refine h.lower hne ho ?_ ?_ (by rw [h2]; exact h.out) ⟨rfl, rfl, rfl, rfl⟩
 ·rw [e1, e2, hm]; rfl
 ·rw [e1, e2]; rfl
theorem MW {M : VM} (h : (zy M).1 = 0) : (zy M).2.lv = M.lv.tail ∧ M.lv.length ≠ 1 := by
 have h : (xl M.lv).1 = 0 := h
 show (xl M.lv).2 = _ ∧ _
 unfold xl at h ⊢
 split at h
 ·cases h
 ·rename_i p; rw [if_neg p]; exact ⟨rfl, p⟩
theorem qZE {s' : IM} (h : Kp base t0 s V) (hne : s.opn ≠ []) (he : (zy V).1 = 0) (ho : s'.opn = s.opn.tail) (h2 : s'.out = s.out.take (Q7 s.opn).told) : Kp base t0 s' (zy V).2 ∧ Sm V (zy V).2 := by
 obtain ⟨e1, e2⟩ := MW he
 have hp := List.length_pos_iff.2 hne
 have hl := h.len
 refine h.lower hne ho ?_ ?_ ?_ ⟨rfl, rfl, rfl, rfl⟩
 ·rw [e1, ← List.drop_one, List.drop_drop, Nat.add_comm]
 ·rw [e1, List.length_tail]; omega
 ·have ht : t0.length ≤ (Q7 s.opn).told := by
   cases hs : s.opn with
   | nil => exact absurd hs hne
   | cons p o => exact h.told p (by rw [hs]; exact List.mem_cons_self ..)
  rw [h2, List.take_take, Nat.min_eq_left ht]
  exact h.out
theorem do_kp {mt : List Int} {x : qI} (h : Kp base t0 s V) (hx : 1 ≤ x.1 ∧ x.1 ≤ 22) (h20 : x.1 ≠ 20) (ho : x.1 = 15 ∨ x.1 = 16 ∨ x.1 = 18 ∨ x.1 = 19 → s.opn ≠ []) (he : (doM mt s V x).e = 0) :
  Kp base t0 (doM mt s V x).s (doM mt s V x).v ∧ Sm V (doM mt s V x).v := by
 unfold doM at he ⊢
 by_cases c1 : x.1 = 1
 ·rw [if_pos c1]; exact h.emit rfl ⟨[], (List.append_nil _).symm⟩
 rw [if_neg c1] at he ⊢
 by_cases c2 : x.1 = 2
 ·rw [if_pos c2]; exact h.emit rfl ⟨[], (List.append_nil _).symm⟩
 rw [if_neg c2] at he ⊢
 by_cases c3 : x.1 = 3
 ·rw [if_pos c3]; exact h.emit rfl ⟨[], (List.append_nil _).symm⟩
 rw [if_neg c3] at he ⊢
 by_cases c4 : x.1 = 4
 ·rw [if_pos c4]; exact h.emit rfl ⟨[], (List.append_nil _).symm⟩
 rw [if_neg c4] at he ⊢
 by_cases c5 : x.1 = 5
 ·rw [if_pos c5]; exact h.emit rfl ⟨[], (List.append_nil _).symm⟩
 rw [if_neg c5] at he ⊢
 by_cases c6 : x.1 = 6
 ·rw [if_pos c6]; exact h.emit rfl ⟨[], (List.append_nil _).symm⟩
 rw [if_neg c6] at he ⊢
 by_cases c7 : x.1 = 7
 ·rw [if_pos c7]; exact h.emit rfl ⟨[], (List.append_nil _).symm⟩
 rw [if_neg c7] at he ⊢
 by_cases c12 : x.1 = 12
 ·rw [if_pos c12]; exact h.emit rfl ⟨[], (List.append_nil _).symm⟩
 rw [if_neg c12] at he ⊢
 by_cases c13 : x.1 = 13
 ·rw [if_pos c13]; exact h.emit rfl ⟨[], (List.append_nil _).symm⟩
 rw [if_neg c13] at he ⊢
 by_cases c21 : x.1 = 21
 ·rw [if_pos c21] at he ⊢
  split at he
  ·cases he
  ·rename_i p; rw [if_neg p]; exact h.emit rfl ⟨_, rfl⟩
 rw [if_neg c21] at he ⊢
 by_cases c22 : x.1 = 22
 ·rw [if_pos c22] at he; cases he
 rw [if_neg c22] at he ⊢
 by_cases c8 : x.1 = 8 ∨ x.1 = 9 ∨ x.1 = 10 ∨ x.1 = 11
 ·rw [if_pos c8] at he ⊢; exact qQN h he
 rw [if_neg c8] at he ⊢
 unfold g9 at he ⊢
 by_cases t1 : x.1 = 14 ∨ x.1 = 17
 ·rw [if_pos t1] at he ⊢; exact O6 h he
 rw [if_neg t1] at he ⊢
 by_cases t2 : x.1 = 15 ∨ x.1 = 19
 ·rw [if_pos t2] at he ⊢; exact MV h (ho (by omega)) he rfl rfl
 rw [if_neg t2] at he ⊢
 by_cases t3 : x.1 = 18
 ·rw [if_pos t3] at he ⊢; exact MV h (ho (by omega)) he rfl rfl
 rw [if_neg t3] at he ⊢
 by_cases t4 : x.1 = 16
 ·rw [if_pos t4] at he ⊢; exact qZE h (ho (by omega)) he rfl rfl
 omega
theorem qKT {l L : List qI} {k : Nat} {st0 : List Int} {o0 : List PtM} (E : Emb l L k st0) (F : Fit l) (FL : Fit L) (QL : Quiet L) (Cl : Qi l) (h0 : o0.length = st0.length) : ∀ (n : Nat) {s S : IM} {V : VM}, Sim k o0 s S → GI L S V → (∃ i : Nat, s.pc = i ∧ i ≤ l.length) → frS V.lv + n < 9000 → Kp base t0 s V →
  (jB l (qB l) n s V).kind = 2 → Kp base t0 (jB l (qB l) n s V).s (jB l (qB l) n s V).v ∧ Sm V (jB l (qB l) n s V).v := by
 have hle := E.le
 intro n
 induction n with
 | zero =>
  rintro s S V h G ⟨i, hi, hil⟩ hf K hk
  rw [yr] at hk ⊢
  by_cases c : s.pc = l.length
  ·rw [if_pos c]; exact ⟨K, rfl, rfl, rfl, rfl⟩
  ·rw [if_neg c] at hk; cases hk
 | succ n ih =>
  rintro s S V h G ⟨i, hi, hil⟩ hf K hk
  have hp := h.pc
  rw [yF] at hk ⊢
  by_cases c : s.pc = l.length
  ·rw [if_pos c]; exact ⟨K, rfl, rfl, rfl, rfl⟩
  ·have hlt : i < l.length := by omega
   have hSp : S.pc = ((k + i : Nat) : Int) := by omega
   obtain ⟨D, hb, j, hj, hjl⟩ := Qf E F FL QL Cl h0 h G hi hlt
   have St := gi FL G hSp (by omega) (by omega) (QL.at (i := k + i) (by omega)).2 (QL.at (i := k + i) (by omega)).1
   have hq : (qA l i).1 ≠ 23 := by
    have := (QL.at (i := k + i) (by omega)).1
    rwa [E.ins i hlt, xN] at this
   have h20 : (qA l i).1 ≠ 20 := by rw [jt hlt]; exact Cl _ (List.getElem_mem hlt)
   have hw := F.ok i hlt
   have hbb := Xq (zc hw).1 hq
   have hlen := Q8 E F h G hi (by omega) h0
   have dk := do_kp (mt := qB l) (x := qA l i) K (by omega) h20 (fun ho hn => by
    rw [hn] at hlen
    have : qj l i ≠ [] := (zY hw).2.1 (by
     rcases ho with ho | ho | ho | ho
     ·exact .inl (by rw [ho]; decide)
     ·exact .inr ho
     ·exact .inl (by rw [ho]; decide)
     ·exact .inl (by rw [ho]; decide))
    exact this (List.eq_nil_of_length_eq_zero hlen.symm))
   rw [if_neg c, hi] at hk ⊢
   generalize doM (qB l) s V (qA l i) = d at *
   generalize doM (qB L) S V (qA L ((k + i : Nat) : Int)) = D' at *
   have hB : D'.blk = false := D.blk.trans hb
   by_cases c0 : d.e = 0
   ·rw [if_pos c0, if_neg (by rw [hb]; simp)] at hk ⊢
    have hfr := St.fr
    have G2 := St.next (D.e.trans c0) hB
    have S2 : Sim k o0 { d.s with pc := d.nx } { D'.s with pc := D'.nx } := ⟨D.regs, D.out, D.nx, D.opn⟩
    rw [D.v] at hfr G2
    obtain ⟨K2, m2⟩ := dk c0
    obtain ⟨a, b⟩ := ih S2 G2 ⟨j, hj, hjl⟩ (by omega) ⟨K2.lv, K2.len, K2.out, K2.told⟩ hk
    exact ⟨a, m2.trans b⟩
   ·rw [if_neg c0] at hk
    split at hk <;> cases hk
end
end Go.Proofs.YtdlfmpmpmkffjaaGreatDoor
namespace Go.Proofs.YtdlfmpmpmkffjaaGreatDoor
open Go Go.Ae
theorem xU {l cs : List Cl} {c : Cl} : je l (c :: cs) = je (zb c.1 c.2 l) cs := rfl
theorem xW {p v : Int} {c : Cl} {l : List Cl} : zb p v (c :: l) = if c.1 = p then (p, v) :: l else c :: zb p v l := rfl
theorem Kn {p : Int} {c : Cl} {l : List Cl} : jf p (c :: l) = if c.1 = p then some c.2 else jf p l := rfl
theorem qXN {p v w : Int} {l : List Cl} : zb p v (zb p w l) = zb p v l := by
 induction l with
 | nil => show zb p v [(p, w)] = _; rw [xW, if_pos rfl]; rfl
 | cons c l ih =>
  rw [xW, xW]
  by_cases h : c.1 = p
  ·rw [if_pos h, if_pos h, xW, if_pos rfl]
  ·rw [if_neg h, if_neg h, xW, if_neg h, ih]
theorem qQ3 {p q v u : Int} {l : List Cl} (h : p ≠ q) (hp : jf p l ≠ none) : zb p v (zb q u l) = zb q u (zb p v l) := by
 induction l with
 | nil => exact absurd rfl hp
 | cons c l ih =>
  rw [Kn] at hp
  rw [xW, xW]
  by_cases c1 : c.1 = p
  ·have c2 : ¬ c.1 = q := fun e => h (c1.symm.trans e)
   rw [if_neg c2, if_pos c1, xW, if_pos c1, xW, if_neg h]
  ·rw [if_neg c1] at hp
   rw [if_neg c1]
   by_cases c2 : c.1 = q
   ·rw [if_pos c2, xW, if_neg (Ne.symm h), xW, if_pos c2]
   ·rw [if_neg c2, xW, if_neg c1, xW, if_neg c2, ih hp]
theorem Ou {p v : Int} : ∀ {l Z : List Cl}, p ∉ l.map (·.1) → jf p Z ≠ none → zb p v (je Z l) = je (zb p v Z) l := by
 intro l
 induction l with
 | nil => intro Z _ _; rfl
 | cons c l ih =>
  intro Z h hZ
  rw [List.map_cons, List.mem_cons, not_or] at h
  rw [xU, xU, ih h.2 (by rw [wi, if_neg h.1]; exact hZ), qQ3 h.1 hZ]
theorem UN {p v : Int} : ∀ {t Z : List Cl}, UnC t → je Z (zb p v t) = zb p v (je Z t) := by
 intro t
 induction t with
 | nil => intro Z _; rfl
 | cons c l ih =>
  intro Z h
  have h' := List.nodup_cons.1 (show (c.1 :: l.map (·.1)).Nodup from h)
  rw [xW]
  by_cases hc : c.1 = p
  ·rw [if_pos hc, xU, xU, hc, Ou (by rw [← hc]; exact h'.1) (by rw [wi, if_pos rfl]; simp), qXN]
  ·rw [if_neg hc, xU, xU]
   exact ih h'.2
theorem N7 {y : List Cl} : ∀ {a x : List Cl}, UnC x → je y (je x a) = je (je y x) a := by
 intro a
 induction a with
 | nil => intro x _; rfl
 | cons c a ih =>
  intro x h
  rw [xU, xU, ih h.put, UN h]
theorem Ke {p : Int} : ∀ {x y : List Cl}, UnC x → jf p (je y x) = match jf p x with | some v => some v | none => jf p y := by
 intro x
 induction x with
 | nil => intro y _; rfl
 | cons c l ih =>
  intro y h
  have h' := List.nodup_cons.1 (show (c.1 :: l.map (·.1)).Nodup from h)
  rw [xU, ih h'.2, Kn, wi]
  by_cases hc : c.1 = p
  ·have : jf p l = none := Xt.2 (by rw [← hc]; exact h'.1)
   rw [this, if_pos hc, if_pos hc.symm]
  ·rw [if_neg hc, if_neg (Ne.symm hc)]
theorem qVS {p v : Int} {l : List Cl} : (zb p v l).length ≤ l.length + 1 := by
 rw [kY]; split <;> omega
theorem qXT : ∀ {x y : List Cl}, (je y x).length ≤ y.length + x.length := by
 intro x
 induction x with
 | nil => intro y; exact Nat.le_refl _
 | cons c l ih =>
  intro y
  have h1 := ih (y := zb c.1 c.2 y)
  have h2 := qVS (p := c.1) (v := c.2) (l := y)
  rw [xU, List.length_cons]
  omega
def mgd (x y : LvM) : LvM := (je y.1 x.1, y.2 ++ x.2)
def MgL (n : Nat) (a b : List LvM) : Prop := ∃ A x y, a = A ++ [x, y] ∧ b = A ++ [mgd x y] ∧ A.length = n ∧ UnC x.1
structure Mg (n : Nat) (V W : VM) : Prop where
  lv : MgL n V.lv W.lv
  sz : W.sz = V.sz
  K : W.K = V.K
  most : W.most = V.most
  need : W.need = V.need
theorem KH (a b : List LvM) : zm (a ++ b) = zm a + zm b := by simp [zm]
theorem KT {p : Int} : ∀ {a b : List LvM}, gU p (a ++ b) = match gU p a with | some v => some v | none => gU p b := by
 intro a
 induction a with
 | nil => intro b; rfl
 | cons x a ih =>
  intro b
  show (match jf p x.1 with | some v => some v | none => gU p (a ++ b)) = match (match jf p x.1 with | some v => some v | none => gU p a) with | some v => some v | none => gU p b
  cases jf p x.1 with
  | some v => rfl
  | none => exact ih
theorem MgL.get {n : Nat} {a b : List LvM} (h : MgL n a b) (p : Int) : gU p b = gU p a := by
 obtain ⟨A, x, y, rfl, rfl, _, hu⟩ := h
 have e : gU p [mgd x y] = gU p [x, y] := by
  show (match jf p (je y.1 x.1) with | some v => some v | none => none) = (match jf p x.1 with | some v => some v | none => match jf p y.1 with | some v => some v | none => none)
  rw [Ke hu]
  cases jf p x.1 with
  | some v => rfl
  | none => rfl
 rw [KT, KT, e]
theorem MgL.held {n : Nat} {a b : List LvM} (h : MgL n a b) : zm b ≤ zm a := by
 obtain ⟨A, x, y, rfl, rfl, _, _⟩ := h
 rw [KH, KH]
 have := qXT (x := x.1) (y := y.1)
 simp [zm, mgd]
 omega
theorem MgL.put {n m : Nat} {a b : List LvM} {p v : Int} (h : MgL n a b) (he : (xH m a p v).1 = 0) : (xH m b p v).1 = 0 ∧ MgL n (xH m a p v).2 (xH m b p v).2 := by
 have hh := h.held
 obtain ⟨A, x, y, rfl, rfl, hA, hu⟩ := h
 cases A with
 | nil =>
  unfold xH at he ⊢
  dsimp only [List.nil_append] at he hh ⊢
  by_cases c1 : p < 1 ∨ 256 ≤ p
  ·rw [if_pos c1] at he; cases he
  rw [if_neg c1] at he
  rw [if_neg c1, if_neg c1]
  by_cases c2 : jf p x.1 = none ∧ m ≤ zm [x, y]
  ·rw [if_pos c2] at he; cases he
  rw [if_neg c2]
  have c3 : ¬ (jf p (mgd x y).1 = none ∧ m ≤ zm [mgd x y]) := by
   rintro ⟨d1, d2⟩
   have d1 : jf p (je y.1 x.1) = none := d1
   rw [Ke hu] at d1
   refine c2 ⟨?_, by omega⟩
   cases hx : jf p x.1 with
   | none => rfl
   | some w => rw [hx] at d1; cases d1
  rw [if_neg c3]
  refine ⟨rfl, [], (zb p v x.1, x.2), y, rfl, ?_, hA, hu.put⟩
  show [(zb p v (je y.1 x.1), y.2 ++ x.2)] = [(je y.1 (zb p v x.1), y.2 ++ x.2)]
  rw [UN hu]
 | cons t A =>
  unfold xH at he ⊢
  dsimp only [List.cons_append] at he hh ⊢
  by_cases c1 : p < 1 ∨ 256 ≤ p
  ·rw [if_pos c1] at he; cases he
  rw [if_neg c1] at he
  rw [if_neg c1, if_neg c1]
  by_cases c2 : jf p t.1 = none ∧ m ≤ zm (t :: (A ++ [x, y]))
  ·rw [if_pos c2] at he; cases he
  rw [if_neg c2, if_neg (fun c => c2 ⟨c.1, by have := c.2; omega⟩)]
  exact ⟨rfl, (zb p v t.1, t.2) :: A, x, y, rfl, rfl, hA, hu⟩
theorem MgL.take {n m : Nat} {wa wb : List LvM} : ∀ {cs : List Cl} {a b : List LvM}, MgL n a b → (xB m wa a cs).1 = 0 → (xB m wb b cs).1 = 0 ∧ MgL n (xB m wa a cs).2 (xB m wb b cs).2 := by
 intro cs
 induction cs with
 | nil => intro a b h _; exact ⟨rfl, h⟩
 | cons c cs ih =>
  intro a b h he
  rw [xD] at he ⊢
  rw [xD]
  by_cases h1 : (xH m a c.1 c.2).1 = 0
  ·rw [if_pos h1] at he ⊢
   obtain ⟨h2, h3⟩ := h.put h1
   rw [if_pos h2]
   exact ih h3 he
  ·rw [if_neg h1] at he
   exact absurd he h1
section
variable {n : Nat} {V W : VM}
theorem Mg.read (h : Mg n V W) {p : Int} (he : (qf V p).1.2 = 0) : ∃ x, qf V p = ((x, 0), V) ∧ qf W p = ((x, 0), W) := by
 unfold qf at he ⊢
 rw [h.sz, h.lv.get, h.K]
 split at he
 ·rename_i c
  rw [if_pos c, if_pos c]
  split at he
  ·rename_i x hx
   exact ⟨x, rfl, rfl⟩
  ·rename_i hx
   split at he
   ·rename_i x hy
    exact ⟨x, rfl, rfl⟩
   ·cases he
 ·cases he
theorem Mg.take (h : Mg n V W) {cs : List Cl} (he : (ji V cs).1 = 0) : (ji W cs).1 = 0 ∧ Mg n (ji V cs).2 (ji W cs).2 := by
 unfold ji at he ⊢
 rw [h.sz, h.most]
 split at he
 ·rename_i c
  rw [if_pos c, if_pos c]
  obtain ⟨a, b⟩ := h.lv.take (m := V.most) (wa := V.lv) (wb := W.lv) he
  exact ⟨a, b, rfl, h.K, rfl, h.need⟩
 ·cases he
theorem Mg.free (h : Mg n V W) (b : Int) : Mg n (freeV V b) (freeV W b) := by
 refine ⟨?_, h.sz, h.K, h.most, h.need⟩
 obtain ⟨A, x, y, e1, e2, hA, hu⟩ := h.lv
 show MgL n (wT V.lv b) (wT W.lv b)
 rw [e1, e2]
 cases A with
 | nil => exact ⟨[], (x.1, x.2 ++ [b]), y, rfl, by show [(je y.1 x.1, y.2 ++ x.2 ++ [b])] = [(je y.1 x.1, y.2 ++ (x.2 ++ [b]))]; rw [List.append_assoc], hA, hu⟩
 | cons t A => exact ⟨(t.1, t.2 ++ [b]) :: A, x, y, rfl, rfl, hA, hu⟩
theorem Mg.again (h : Mg n V W) {c b : Int} (he : (z7 V c b).1.2 = 0) : (z7 W c b).1 = (z7 V c b).1 ∧ Mg n (z7 V c b).2 (z7 W c b).2 := by
 unfold z7 at he ⊢
 by_cases c1 : 2147483648 ≤ b
 ·rw [if_pos c1] at he; cases he
 rw [if_neg c1] at he
 rw [if_neg c1, if_neg c1]
 by_cases c2 : (qf V b).1.2 = 0
 ·obtain ⟨x, r1, r2⟩ := h.read c2
  rw [r1] at he
  rw [r1, r2]
  dsimp only at he ⊢
  rw [if_pos rfl] at he
  rw [if_pos rfl, if_pos rfl]
  by_cases c3 : (ji V [(c, x), (b - 1, c + 8)]).1 = 0
  ·obtain ⟨t1, t2⟩ := h.take c3
   rw [if_pos c3, if_pos t1]
   exact ⟨rfl, t2⟩
  ·rw [if_neg c3] at he; exact absurd he c3
 ·rw [if_neg c2] at he; exact absurd he c2
theorem Mg.grown (h : Mg n V W) {c : Int} (he : (xQ V c).1.2 = 0) : (xQ W c).1 = (xQ V c).1 ∧ Mg n (xQ V c).2 (xQ W c).2 := by
 unfold xQ at he ⊢
 by_cases c2 : (qf V 5).1.2 = 0
 ·obtain ⟨x, r1, r2⟩ := h.read c2
  rw [r1] at he
  rw [r1, r2, h.sz]
  dsimp only at he ⊢
  rw [if_pos rfl] at he
  rw [if_pos rfl, if_pos rfl]
  by_cases c1 : x < 14 ∨ 2147483648 ≤ x ∨ (V.sz : Int) < x + 1 + x7 c
  ·rw [if_pos c1] at he; cases he
  rw [if_neg c1] at he
  rw [if_neg c1, if_neg c1]
  by_cases c3 : (ji V [(5, x + 1 + x7 c), (x, c + 8)]).1 = 0
  ·obtain ⟨t1, t2⟩ := h.take c3
   rw [if_pos c3, if_pos t1]
   exact ⟨rfl, t2⟩
  ·rw [if_neg c3] at he; exact absurd he c3
 ·rw [if_neg c2] at he; exact absurd he c2
theorem Mg.alloc (h : Mg n V W) {b : Int} (he : (zz V b).1.2 = 0) : (zz W b).1 = (zz V b).1 ∧ Mg n (zz V b).2 (zz W b).2 := by
 unfold zz at he ⊢
 by_cases c1 : zh b = 0
 ·rw [if_pos c1] at he; cases he
 rw [if_neg c1] at he
 rw [if_neg c1, if_neg c1]
 by_cases c2 : (qf V (zh b)).1.2 = 0
 ·obtain ⟨x, r1, r2⟩ := h.read c2
  rw [r1] at he
  rw [r1, r2]
  dsimp only at he ⊢
  rw [if_pos rfl] at he
  rw [if_pos rfl, if_pos rfl]
  by_cases c3 : x = 0
  ·rw [if_pos c3] at he
   rw [if_pos c3, if_pos c3]
   exact h.grown he
  ·rw [if_neg c3] at he
   rw [if_neg c3, if_neg c3]
   exact h.again he
 ·rw [if_neg c2] at he; exact absurd he c2
theorem Mg.ask (h : Mg n V W) {b : Int} (he : (zU V b).1.2.2 = 0) : (zU W b).1 = (zU V b).1 ∧ (zU V b).2 = V ∧ (zU W b).2 = W := by
 unfold zU at he ⊢
 rw [h.sz]
 by_cases c1 : b ≤ 14 ∨ (V.sz : Int) ≤ b
 ·rw [if_pos c1] at he; cases he
 rw [if_neg c1] at he
 rw [if_neg c1, if_neg c1]
 by_cases c2 : (qf V (b - 1)).1.2 = 0
 ·obtain ⟨x, r1, r2⟩ := h.read c2
  rw [r1] at he
  rw [r1, r2]
  dsimp only at he ⊢
  rw [if_pos rfl] at he
  rw [if_pos rfl, if_pos rfl]
  by_cases c3 : (kX x).1 = 0
  ·rw [if_pos c3] at he; cases he
  ·rw [if_neg c3, if_neg c3]; exact ⟨rfl, rfl, rfl⟩
 ·rw [if_neg c2] at he; exact absurd he c2
theorem Mg.freeA (h : Mg n V W) {b : Int} (he : (freeA V b).1 = 0) : (Go.Proofs.YtdlfmpmpmkffjaaGreatDoor.freeA W b).1 = 0 ∧ Mg n (Go.Proofs.YtdlfmpmpmkffjaaGreatDoor.freeA V b).2 (Go.Proofs.YtdlfmpmpmkffjaaGreatDoor.freeA W b).2 := by
 unfold Go.Proofs.YtdlfmpmpmkffjaaGreatDoor.freeA at he ⊢
 by_cases c1 : (zU V b).1.2.2 = 0
 ·obtain ⟨a1, a2, a3⟩ := h.ask c1
  rw [if_pos c1, a2] at he
  rw [a1, a2, a3, if_pos c1, if_pos c1]
  by_cases c2 : (zU V b).1.2.1 = true
  ·rw [if_pos c2] at he
   rw [if_pos c2, if_pos c2]
   by_cases c3 : (ji V [(b - 1, (zU V b).1.1)]).1 = 0
   ·obtain ⟨t1, t2⟩ := h.take c3
    rw [if_pos c3, if_pos t1]
    exact ⟨rfl, t2.free b⟩
   ·rw [if_neg c3] at he; exact absurd he c3
  ·rw [if_neg c2] at he; cases he
 ·rw [if_neg c1] at he; exact absurd he c1
end
end Go.Proofs.YtdlfmpmpmkffjaaGreatDoor
namespace Go.Proofs.YtdlfmpmpmkffjaaGreatDoor
open Go Go.Ae
structure MgS (d d' : SM) : Prop where
  e : d'.e = 0
  blk : d'.blk = d.blk
  nx : d'.nx = d.nx
  s : d'.s = d.s
  v : Mg d.s.opn.length d.v d'.v
section
variable {s : IM} {V W : VM}
theorem Oa {n : Nat} {x : qI} (h : Mg n V W) (he : (jI s V x).1 = 0) : (jI s W x).1 = 0 ∧ (jI s W x).2.1 = (jI s V x).2.1 ∧ Mg n (jI s V x).2.2 (jI s W x).2.2 ∧ (jI s V x).2.1.opn = s.opn := by
 unfold jI at he ⊢
 by_cases c1 : x.1 = 8
 ·rw [if_pos c1] at he
  rw [if_pos c1, if_pos c1]
  by_cases p1 : (xw (qa s.regs x.2.2.1) x.2.2.2.1).2 = 0
  ·rw [if_pos p1] at he
   rw [if_pos p1, if_pos p1]
   by_cases p2 : (qf V (xw (qa s.regs x.2.2.1) x.2.2.2.1).1).1.2 = 0
   ·obtain ⟨w, r1, r2⟩ := h.read p2
    rw [r1, r2, if_pos rfl, if_pos rfl]
    exact ⟨rfl, rfl, h, rfl⟩
   ·rw [if_neg p2] at he; exact absurd he p2
  ·rw [if_neg p1] at he; cases he
 rw [if_neg c1] at he
 rw [if_neg c1, if_neg c1]
 by_cases c2 : x.1 = 9
 ·rw [if_pos c2] at he
  rw [if_pos c2, if_pos c2]
  by_cases p1 : (xw (qa s.regs x.2.1) x.2.2.2.1).2 = 0
  ·rw [if_pos p1] at he
   rw [if_pos p1, if_pos p1]
   obtain ⟨t1, t2⟩ := h.take he
   exact ⟨t1, rfl, t2, rfl⟩
  ·rw [if_neg p1] at he; cases he
 rw [if_neg c2] at he
 rw [if_neg c2, if_neg c2]
 by_cases c3 : x.1 = 10
 ·rw [if_pos c3] at he
  rw [if_pos c3, if_pos c3]
  by_cases p1 : 2147483648 ≤ qa s.regs x.2.2.1
  ·rw [if_pos p1] at he; cases he
  ·rw [if_neg p1] at he
   rw [if_neg p1, if_neg p1]
   by_cases p2 : (zz V (qa s.regs x.2.2.1)).1.2 = 0
   ·obtain ⟨t1, t2⟩ := h.alloc p2
    rw [t1, if_pos p2, if_pos p2]
    exact ⟨rfl, rfl, t2, rfl⟩
   ·rw [if_neg p2] at he; exact absurd he p2
 rw [if_neg c3] at he
 rw [if_neg c3, if_neg c3]
 by_cases p1 : 2147483648 ≤ qa s.regs x.2.1
 ·rw [if_pos p1] at he; cases he
 ·rw [if_neg p1] at he
  rw [if_neg p1, if_neg p1]
  obtain ⟨t1, t2⟩ := h.freeA he
  exact ⟨t1, rfl, t2, rfl⟩
theorem qXu {n : Nat} (h : Mg n V W) (he : (zP V).1 = 0) : (zP W).1 = 0 ∧ Mg (n + 1) (zP V).2 (zP W).2 := by
 have he : (xq V.lv).1 = 0 := he
 obtain ⟨A, x, y, e1, e2, hA, hu⟩ := h.lv
 have hl : W.lv.length ≤ V.lv.length := by rw [e1, e2]; simp
 have o1 : (xq V.lv).2 = ([], []) :: V.lv := by
  unfold xq at he ⊢
  split at he
  ·cases he
  ·rename_i p; rw [if_neg p]
 have hv : ¬ 6 ≤ V.lv.length := by
  intro c
  unfold xq at he
  rw [if_pos c] at he; cases he
 have o2 : xq W.lv = (0, ([], []) :: W.lv) := by
  unfold xq
  rw [if_neg (by omega)]
 refine ⟨by show (xq W.lv).1 = 0; rw [o2], ?_, h.sz, h.K, h.most, h.need⟩
 show MgL (n + 1) (xq V.lv).2 (xq W.lv).2
 rw [o1, o2, e1, e2]
 exact ⟨([], []) :: A, x, y, rfl, rfl, by rw [List.length_cons, hA], hu⟩
theorem qJD {op a nx : Int} (h : Mg s.opn.length V W) (he : (jN op a nx s V).e = 0) : MgS (jN op a nx s V) (jN op a nx s W) := by
 unfold jN at he ⊢
 by_cases c : (zP V).1 = 0
 ·obtain ⟨o1, o2⟩ := qXu h c
  rw [if_pos c, if_pos o1]
  exact ⟨rfl, rfl, rfl, rfl, o2⟩
 ·rw [if_neg c] at he; exact absurd he c
theorem V5 {n : Nat} (h : Mg (n + 1) V W) (he : (xX V).1 = 0) : (xX W).1 = 0 ∧ Mg n (xX V).2 (xX W).2 := by
 obtain ⟨A, x, y, e1, e2, hA, hu⟩ := h.lv
 cases A with
 | nil => cases hA
 | cons a A =>
  cases A with
  | nil =>
   have k1 : xL V.lv = (0, (je x.1 a.1, x.2 ++ a.2) :: [y]) := by rw [e1]; rfl
   have k2 : xL W.lv = (0, [(je (je y.1 x.1) a.1, y.2 ++ x.2 ++ a.2)]) := by rw [e2]; rfl
   refine ⟨by show (xL W.lv).1 = 0; rw [k2], ?_, h.sz, h.K, h.most, h.need⟩
   show MgL n (xL V.lv).2 (xL W.lv).2
   rw [k1, k2]
   refine ⟨[], (je x.1 a.1, x.2 ++ a.2), y, rfl, ?_, Nat.succ.inj hA, hu.puts⟩
   show [_] = [(je y.1 (je x.1 a.1), y.2 ++ (x.2 ++ a.2))]
   rw [N7 hu, List.append_assoc]
  | cons b A =>
   have k1 : xL V.lv = (0, (je b.1 a.1, b.2 ++ a.2) :: (A ++ [x, y])) := by rw [e1]; rfl
   have k2 : xL W.lv = (0, (je b.1 a.1, b.2 ++ a.2) :: (A ++ [mgd x y])) := by rw [e2]; rfl
   refine ⟨by show (xL W.lv).1 = 0; rw [k2], ?_, h.sz, h.K, h.most, h.need⟩
   show MgL n (xL V.lv).2 (xL W.lv).2
   rw [k1, k2]
   exact ⟨(je b.1 a.1, b.2 ++ a.2) :: A, x, y, rfl, rfl, by simpa using hA, hu⟩
theorem qZe {n : Nat} (h : Mg (n + 1) V W) (he : (zy V).1 = 0) : (zy W).1 = 0 ∧ Mg n (zy V).2 (zy W).2 := by
 obtain ⟨A, x, y, e1, e2, hA, hu⟩ := h.lv
 cases A with
 | nil => cases hA
 | cons a A =>
  have k1 : xl V.lv = (0, A ++ [x, y]) := by unfold xl; rw [e1, if_neg (by simp)]; rfl
  have k2 : xl W.lv = (0, A ++ [mgd x y]) := by unfold xl; rw [e2, if_neg (by simp)]; rfl
  refine ⟨by show (xl W.lv).1 = 0; rw [k2], ?_, h.sz, h.K, h.most, h.need⟩
  show MgL n (xl V.lv).2 (xl W.lv).2
  rw [k1, k2]
  exact ⟨A, x, y, rfl, rfl, by simpa using hA, hu⟩
theorem do_mg {mt : List Int} {x : qI} (h : Mg s.opn.length V W) (hx : 1 ≤ x.1 ∧ x.1 ≤ 22) (h20 : x.1 ≠ 20) (ho : x.1 = 15 ∨ x.1 = 16 ∨ x.1 = 18 ∨ x.1 = 19 → s.opn ≠ []) (he : (doM mt s V x).e = 0) : MgS (doM mt s V x) (doM mt s W x) := by
 unfold doM at he ⊢
 by_cases c1 : x.1 = 1
 ·rw [if_pos c1, if_pos c1]; exact ⟨rfl, rfl, rfl, rfl, h⟩
 rw [if_neg c1] at he
 rw [if_neg c1, if_neg c1]
 by_cases c2 : x.1 = 2
 ·rw [if_pos c2, if_pos c2]; exact ⟨rfl, rfl, rfl, rfl, h⟩
 rw [if_neg c2] at he
 rw [if_neg c2, if_neg c2]
 by_cases c3 : x.1 = 3
 ·rw [if_pos c3, if_pos c3]; exact ⟨rfl, rfl, rfl, rfl, h⟩
 rw [if_neg c3] at he
 rw [if_neg c3, if_neg c3]
 by_cases c4 : x.1 = 4
 ·rw [if_pos c4, if_pos c4]; exact ⟨rfl, rfl, rfl, rfl, h⟩
 rw [if_neg c4] at he
 rw [if_neg c4, if_neg c4]
 by_cases c5 : x.1 = 5
 ·rw [if_pos c5, if_pos c5]; exact ⟨rfl, rfl, rfl, rfl, h⟩
 rw [if_neg c5] at he
 rw [if_neg c5, if_neg c5]
 by_cases c6 : x.1 = 6
 ·rw [if_pos c6, if_pos c6]; exact ⟨rfl, rfl, rfl, rfl, h⟩
 rw [if_neg c6] at he
 rw [if_neg c6, if_neg c6]
 by_cases c7 : x.1 = 7
 ·rw [if_pos c7, if_pos c7]; exact ⟨rfl, rfl, rfl, rfl, h⟩
 rw [if_neg c7] at he
 rw [if_neg c7, if_neg c7]
 by_cases c12 : x.1 = 12
 ·rw [if_pos c12, if_pos c12]; exact ⟨rfl, rfl, rfl, rfl, h⟩
 rw [if_neg c12] at he
 rw [if_neg c12, if_neg c12]
 by_cases c13 : x.1 = 13
 ·rw [if_pos c13, if_pos c13]; exact ⟨rfl, rfl, rfl, rfl, h⟩
 rw [if_neg c13] at he
 rw [if_neg c13, if_neg c13]
 by_cases c21 : x.1 = 21
 ·rw [if_pos c21] at he
  rw [if_pos c21, if_pos c21]
  by_cases p : 16 ≤ s.out.length
  ·rw [if_pos p] at he; cases he
  ·rw [if_neg p, if_neg p]; exact ⟨rfl, rfl, rfl, rfl, h⟩
 rw [if_neg c21] at he
 rw [if_neg c21, if_neg c21]
 by_cases c22 : x.1 = 22
 ·rw [if_pos c22] at he; cases he
 rw [if_neg c22] at he
 rw [if_neg c22, if_neg c22]
 by_cases c8 : x.1 = 8 ∨ x.1 = 9 ∨ x.1 = 10 ∨ x.1 = 11
 ·rw [if_pos c8] at he
  rw [if_pos c8, if_pos c8]
  obtain ⟨a, b, c, d⟩ := Oa h he
  exact ⟨a, rfl, rfl, b, by show Mg (jI s V x).2.1.opn.length _ _; rw [d]; exact c⟩
 rw [if_neg c8] at he
 rw [if_neg c8, if_neg c8]
 unfold g9 at he ⊢
 by_cases t1 : x.1 = 14 ∨ x.1 = 17
 ·rw [if_pos t1] at he
  rw [if_pos t1, if_pos t1]; exact qJD h he
 rw [if_neg t1] at he
 rw [if_neg t1, if_neg t1]
 have low : s.opn ≠ [] → s.opn.length = s.opn.tail.length + 1 := fun hn => by rw [List.length_tail]; have := List.length_pos_iff.2 hn; omega
 by_cases t2 : x.1 = 15 ∨ x.1 = 19
 ·rw [if_pos t2] at he
  rw [if_pos t2, if_pos t2]
  rw [low (ho (by omega))] at h
  obtain ⟨a, b⟩ := V5 h he
  exact ⟨a, rfl, rfl, rfl, b⟩
 rw [if_neg t2] at he
 rw [if_neg t2, if_neg t2]
 by_cases t3 : x.1 = 18
 ·rw [if_pos t3] at he
  rw [if_pos t3, if_pos t3]
  rw [low (ho (by omega))] at h
  obtain ⟨a, b⟩ := V5 h he
  exact ⟨a, rfl, rfl, rfl, b⟩
 rw [if_neg t3] at he
 rw [if_neg t3, if_neg t3]
 by_cases t4 : x.1 = 16
 ·rw [if_pos t4] at he
  rw [if_pos t4, if_pos t4]
  rw [low (ho (by omega))] at h
  obtain ⟨a, b⟩ := qZe h he
  exact ⟨a, rfl, rfl, rfl, b⟩
 omega
theorem Zu {l L : List qI} {k : Nat} {st0 : List Int} {o0 : List PtM} (E : Emb l L k st0) (F : Fit l) (FL : Fit L) (QL : Quiet L) (Cl : Qi l) (h0 : o0.length = st0.length) : ∀ (n : Nat) {s S : IM} {V W : VM}, Sim k o0 s S → GI L S V → (∃ i : Nat, s.pc = i ∧ i ≤ l.length) → frS V.lv + n < 9000 → Mg s.opn.length V W →
  (jB l (qB l) n s V).kind = 2 → ∃ W', jB l (qB l) n s W = { jB l (qB l) n s V with v := W' } ∧ Mg (jB l (qB l) n s V).s.opn.length (jB l (qB l) n s V).v W' := by
 have hle := E.le
 intro n
 induction n with
 | zero =>
  rintro s S V W h G ⟨i, hi, hil⟩ hf M hk
  rw [yr] at hk
  rw [yr, yr]
  by_cases c : s.pc = l.length
  ·rw [if_pos c, if_pos c]; exact ⟨W, rfl, M⟩
  ·rw [if_neg c] at hk; cases hk
 | succ n ih =>
  rintro s S V W h G ⟨i, hi, hil⟩ hf M hk
  have hp := h.pc
  rw [yF] at hk
  rw [yF, yF]
  by_cases c : s.pc = l.length
  ·rw [if_pos c, if_pos c]; exact ⟨W, rfl, M⟩
  ·have hlt : i < l.length := by omega
   have hSp : S.pc = ((k + i : Nat) : Int) := by omega
   obtain ⟨D, hb, j, hj, hjl⟩ := Qf E F FL QL Cl h0 h G hi hlt
   have St := gi FL G hSp (by omega) (by omega) (QL.at (i := k + i) (by omega)).2 (QL.at (i := k + i) (by omega)).1
   have hq : (qA l i).1 ≠ 23 := by
    have := (QL.at (i := k + i) (by omega)).1
    rwa [E.ins i hlt, xN] at this
   have h20 : (qA l i).1 ≠ 20 := by rw [jt hlt]; exact Cl _ (List.getElem_mem hlt)
   have hw := F.ok i hlt
   have hbb := Xq (zc hw).1 hq
   have hlen := Q8 E F h G hi (by omega) h0
   have dk := do_mg (mt := qB l) (x := qA l i) M (by omega) h20 (fun ho hn => by
    rw [hn] at hlen
    have : qj l i ≠ [] := (zY hw).2.1 (by
     rcases ho with ho | ho | ho | ho
     ·exact .inl (by rw [ho]; decide)
     ·exact .inr ho
     ·exact .inl (by rw [ho]; decide)
     ·exact .inl (by rw [ho]; decide))
    exact this (List.eq_nil_of_length_eq_zero hlen.symm))
   rw [if_neg c, hi] at hk
   rw [if_neg c, if_neg c, hi]
   generalize doM (qB l) s V (qA l i) = d at *
   generalize doM (qB l) s W (qA l i) = d' at *
   generalize doM (qB L) S V (qA L ((k + i : Nat) : Int)) = D' at *
   have hB : D'.blk = false := D.blk.trans hb
   by_cases c0 : d.e = 0
   ·have dm := dk c0
    rw [if_pos c0, if_neg (by rw [hb]; simp)] at hk
    rw [if_pos c0, if_neg (show ¬ d.blk = true by rw [hb]; simp), if_pos dm.e, if_neg (show ¬ d'.blk = true by rw [dm.blk, hb]; simp)]
    have hfr := St.fr
    have G2 := St.next (D.e.trans c0) hB
    have S2 : Sim k o0 { d.s with pc := d.nx } { D'.s with pc := D'.nx } := ⟨D.regs, D.out, D.nx, D.opn⟩
    rw [D.v] at hfr G2
    rw [dm.s, dm.nx]
    exact ih S2 G2 ⟨j, hj, hjl⟩ (by omega) dm.v hk
   ·rw [if_neg c0] at hk
    split at hk <;> cases hk
end
end Go.Proofs.YtdlfmpmpmkffjaaGreatDoor
namespace Go.Proofs.YtdlfmpmpmkffjaaGreatDoor
open Go Go.Ae
set_option maxRecDepth 100000
variable {g h : AH} {L R : List SP}
theorem wA {n : Nat} (hn : 1 ≤ n) {op : Int} (H : HS g h R) : wp (callT tab qc n (.fn 36 [] []) [.int .i64 op] h) fun r h' => ∃ lv, r = .agg [lv] ∧ HS g h' (jh lv [one op] :: R) := by
 (refine qr (g := W36) rfl (by omega) fun k hk => ?_; show wp (S36 (callT tab qc k) _ _) _; unfold S36; try simp only [iI, uU, Int.ofNat_eq_natCast])
 refine jJ H rfl fun b0 h1 H1 => ?_
 refine qt (l := jj (one op)) rfl ?_
 refine jK (n := 1) (l := jj (one op)) (sz := 5) H1 rfl rfl rfl rfl fun v3 h2 H2 => ?_
 have ol := H2.one (e := 28) (sz := 5) (n := 1) .here
 refine qt (l := [v3]) (by simp only [vt, ol.1]; rfl) ?_
 refine jF H2 (b := b0) e_1 rfl (by simp) (by show qu [v3] = true; simp [qu, ol.2]) fun h3 H3 => ?_
 refine qo H3 (b := b0) (off := 0) .here rfl (by omega) (l := [v3]) rfl ?_
 refine qk ⟨v3, rfl, ?_⟩
 have H4 : HS g h3 (qU b0 [v3] :: jh v3 [one op] :: R) := H3
 exact H4.drop
def qg (p l : List qI) : List qI := p ++ l.map (jn p.length)
def yd (ls : List (List qI)) : List qI := ls.foldl qg []
theorem jl (p l : List qI) : (qg p l).length = p.length + l.length := by simp [qg]
theorem Ul (ls : List (List qI)) (l : List qI) : yd (ls ++ [l]) = qg (yd ls) l := by simp [yd]
theorem ND (ls : List (List qI)) (h : ∀ l ∈ ls, l.length ≤ 40) : (yd ls).length ≤ 40 * ls.length := by
 suffices H : ∀ (ls : List (List qI)) (p : List qI), (∀ l ∈ ls, l.length ≤ 40) → (ls.foldl qg p).length ≤ p.length + 40 * ls.length by
  have := H ls [] h
  simpa [yd] using this
 intro ls
 induction ls with
 | nil => intro p _; simp
 | cons l ls ih =>
  intro p h
  have h1 := ih (qg p l) fun x hx => h x (List.mem_cons_of_mem _ hx)
  have h2 := h l (List.mem_cons_self ..)
  rw [jl] at h1
  simp only [List.foldl_cons, List.length_cons]
  omega
theorem qQU {n : Nat} (hn : 1 ≤ n) {ps : List (AV × List qI)} {av : AV} (H : HS g h R) (S : Rd g R 1 ps.length av (ps.map (·.1))) (SS : ∀ q ∈ ps, Rd g R 5 q.2.length q.1 (q.2.flatMap jj)) (hb : ∀ q ∈ ps, ∀ x ∈ q.2, (x.1 = 12 ∨ x.1 = 13) → 0 ≤ x.2.2.2.1 ∧ x.2.2.2.1 ≤ 40)
  (hl : ∀ q ∈ ps, q.2.length ≤ 40) (hp : ps.length ≤ 20) : wp (callT tab qc n (.fn 35 [] []) [av] h) fun r h' => ∃ lv, r = .agg [lv] ∧ HS g h' (jh lv (yd (ps.map (·.2))) :: R) := by
 (refine qr (g := W35) rfl (by omega) fun k hk => ?_; show wp (S35 (callT tab qc k) _ _) _; unfold S35; try simp only [iI, uU, Int.ofNat_eq_natCast])
 refine jJ H rfl fun b0 h1 H1 => ?_
 refine jJ H1 rfl fun b2 h2 H2 => ?_
 clear H H1
 refine zW (fun m s h' => ∃ (i : Nat) (lv : AV), s = (.int .i64 (i : Int), .ptr b2 0, .ptr b0 0, av, ()) ∧ i ≤ ps.length ∧ m = ps.length - i ∧ HS g h' (jh lv (yd ((ps.take i).map (·.2))) :: qU b2 [lv] :: qU b0 [.nils] :: R))
  ?_ (m := ps.length) (by show _ < 1000000000; omega) ⟨0, .nils, rfl, by omega, by omega, H2.nils⟩
 clear H2
 rintro m ih s h3 hih ⟨i, lv, rfl, hi, rfl, H⟩
 dsimp only
 have H0 : HS g h3 (qb 28 5 (yd ((ps.take i).map (·.2))).length lv ((yd ((ps.take i).map (·.2))).flatMap jj) :: qU b2 [lv] :: qU b0 [.nils] :: R) := H
 refine zF (S.sl H.drop.drop.drop) ?_
 refine zO (fun hlt => qY ?_) fun hge => qQ ?_
 rotate_left
 ·obtain rfl : i = ps.length := by omega
  rw [List.take_length] at H
  have ol := H0.one (e := 28) (sz := 5) .here
  refine qo H (b := b2) (off := 0) e_1 rfl (by omega) (l := [lv]) rfl ?_
  refine jF H (b := b0) e_2 rfl (by simp) (by show qu [lv] = true; simp [qu, ol.2]) fun h4 H4 => ?_
  have H4 : HS g h4 (qU b0 [lv] :: jh lv (yd (ps.map (·.2))) :: qU b2 [lv] :: R) := H4
  refine qM ?_
  refine qo H4 (b := b0) (off := 0) .here rfl (by omega) (l := [lv]) rfl ?_
  exact qk ⟨lv, rfl, H4.sub (.cons e_1 (.drop (.drop .refl)))⟩
 have hlt : i < ps.length := by omega
 have hq := List.getElem_mem hlt
 have SQ := SS _ hq
 have hbq := hb _ hq
 have hlq := hl _ hq
 have hav : (ps.map (·.1))[i * 1 + 0]? = some ps[i].1 := by rw [Nat.mul_one, Nat.add_zero, List.getElem?_map, List.getElem?_eq_getElem hlt]; rfl
 have hsn : yd ((ps.take (i + 1)).map (·.2)) = qg (yd ((ps.take i).map (·.2))) ps[i].2 := by
  rw [List.take_add_one, List.getElem?_eq_getElem hlt, Option.toList_some, List.map_append, List.map_singleton, Ul]
 have hpl := ND ((ps.take i).map (·.2)) (by
  intro l hl2
  obtain ⟨q, hq, rfl⟩ := List.mem_map.1 hl2
  exact hl q (List.mem_of_mem_take hq))
 have hpl : (yd ((ps.take i).map (·.2))).length ≤ 800 := by
  rw [List.length_map, List.length_take] at hpl
  omega
 generalize hp0 : yd ((ps.take i).map (·.2)) = p at *
 generalize hl0 : ps[i].2 = l at *
 generalize hv0 : ps[i].1 = pv at *
 with_reducible (refine qV ?_; refine qv (by assumption) e_1 rfl ?_; refine jb (by assumption) .here ?_)
 refine zW (fun m s h' => ∃ (k : Nat) (lv : AV), s = (.int .i64 (k : Int), .int .i64 (p.length : Int), .int .i64 (i : Int), .ptr b2 0, .ptr b0 0, av, ()) ∧ k ≤ l.length ∧ m = l.length - k ∧ HS g h' (jh lv (p ++ (l.take k).map (jn p.length)) :: qU b2 [lv] :: qU b0 [.nils] :: R))
  ?_ (m := l.length) (by show _ < 1000000000; omega) ⟨0, lv, rfl, by omega, by omega, by simpa using H⟩
 clear H H0
 rintro m ih2 s h4 hih2 ⟨k2, lv2, rfl, hk2, rfl, H⟩
 dsimp only
 refine XQ (S.sl H.drop.drop.drop) (by omega) (by omega) hav ?_
 refine zF (SQ.sl H.drop.drop.drop) ?_
 refine zO (fun hlt2 => qY ?_) fun hge2 => qQ ?_
 rotate_left
 ·obtain rfl : k2 = l.length := by omega
  rw [List.take_length] at H
  refine qh (by omega) ?_
  exact hih (ps.length - (i + 1)) _ _ (by omega) ⟨i + 1, lv2, rfl, by omega, rfl, by rw [hsn]; exact H⟩
 have hlt2 : k2 < l.length := by omega
 refine XQ (S.sl H.drop.drop.drop) (by omega) (by omega) hav ?_
 refine xY (l := jj l[k2]) (SQ.sl H.drop.drop.drop) hlt2 (by omega) (Qh (sz := 5) (fun _ => rfl) (List.getElem?_eq_getElem hlt2)) ?_
 have hbx := hbq l[k2] (List.getElem_mem hlt2)
 have hts : (l.take (k2 + 1)).map (jn p.length) = (l.take k2).map (jn p.length) ++ [jn p.length l[k2]] := by
  rw [List.take_add_one, List.getElem?_eq_getElem hlt2, Option.toList_some, List.map_append, List.map_singleton]
 generalize l[k2] = x at *
 refine jJ H rfl fun b3 h5 H5 => jF H5 .here rfl (by show 0 + 5 ≤ 5; omega) rfl fun h6 H6 => ?_
 have H6 : HS g h6 (qU b3 (jj x) :: jh lv2 (p ++ (l.take k2).map (jn p.length)) :: qU b2 [lv2] :: qU b0 [.nils] :: R) := H6
 clear H H5
 refine zp [] (fun s h' => s = (.ptr b3 0, .int .i64 (k2 : Int), .int .i64 (p.length : Int), .int .i64 (i : Int), .ptr b2 0, .ptr b0 0, av, ()) ∧ HS g h' (qU b3 (jj (jn p.length x)) :: jh lv2 (p ++ (l.take k2).map (jn p.length)) :: qU b2 [lv2] :: qU b0 [.nils] :: R)) ?_ ?_
 rotate_left
 ·rintro s h7 ⟨rfl, H7⟩
  dsimp only
  with_reducible (refine qV ?_; refine qv (by assumption) e_2 rfl ?_)
  refine qo H7 (b := b3) (off := 0) .here rfl (by omega) (l := jj (jn p.length x)) rfl ?_
  refine jK (n := 1) (l := jj (jn p.length x)) (sz := 5) H7 rfl rfl rfl rfl fun v8 h8 H8 => ?_
  have S1 : Sl (fun _ => True) h8 5 [jn p.length x].length v8 ([jn p.length x].flatMap jj) := by simpa using H8.sl .here
  refine vD (H8.sel (P := jh lv2 (p ++ (l.take k2).map (jn p.length))) e_2) S1 (by simp; omega) fun v9 h9 H9 => ?_
  refine qV ?_
  have ol := HS.one (e := 28) (sz := 5) (n := (p ++ (l.take k2).map (jn p.length) ++ [jn p.length x]).length) H9 .here
  refine jM H9 (b := b2) e_3 ol (by simp) fun h10 H10 => ?_
  refine qh (by omega) ?_
  refine hih2 (l.length - (k2 + 1)) _ _ (by omega) ⟨k2 + 1, v9, rfl, by omega, rfl, ?_⟩
  rw [hts, ← List.append_assoc]
  have H11 : HS g h10 (qU b2 [v9] :: jh v9 (p ++ (l.take k2).map (jn p.length) ++ [jn p.length x]) :: _) := H10
  exact H11.sub (.cons e_1 (.cons .here (.drop (.drop (.cons .here .refl)))))
 intro j hj
 by_cases hop : x.1 = 12 ∨ x.1 = 13
 ·have ex : jn p.length x = (x.1, x.2.1, x.2.2.1, x.2.2.2.1 + p.length, x.2.2.2.2) := if_pos hop
  have hc := hbx hop
  rcases hop with hop | hop
  ·with_reducible (refine qV ?_; refine qv (by assumption) .here rfl ?_; refine qO (by omega) ?_; refine qW ?_; (try dsimp only); refine jD ?_; (try dsimp only); refine qe ?_; refine qY ?_; refine qV ?_; refine qv (by assumption) .here rfl ?_; refine qh (by omega) ?_; refine qV ?_)
   refine jM H6 (b := b3) .here ⟨rfl, rfl⟩ (by show 3 < 5; omega) fun h7 H7 => ?_
   exact hj _ _ ⟨rfl, by rw [ex]; exact H7⟩
  ·with_reducible (refine qV ?_; refine qv (by assumption) .here rfl ?_; refine qK (by omega) ?_; refine qW ?_; (try dsimp only); refine ql ?_; (try dsimp only); refine qV ?_; refine qv (by assumption) .here rfl ?_; refine qO (by omega) ?_; refine qd ?_; refine qY ?_; refine qV ?_; refine qv (by assumption) .here rfl ?_; refine qh (by omega) ?_; refine qV ?_)
   refine jM H6 (b := b3) .here ⟨rfl, rfl⟩ (by show 3 < 5; omega) fun h7 H7 => ?_
   exact hj _ _ ⟨rfl, by rw [ex]; exact H7⟩
 ·have ex : jn p.length x = x := if_neg hop
  with_reducible (refine qV ?_; refine qv (by assumption) .here rfl ?_; refine qK (by omega) ?_; refine qW ?_; (try dsimp only); refine ql ?_; (try dsimp only); refine qV ?_; refine qv (by assumption) .here rfl ?_; refine qK (by omega) ?_; refine qd ?_; refine qQ ?_)
  exact hj _ _ ⟨rfl, by rw [ex]; exact H6⟩
end Go.Proofs.YtdlfmpmpmkffjaaGreatDoor
namespace Go.Proofs.YtdlfmpmpmkffjaaGreatDoor
open Go Go.Ae
theorem N5 {k : Nat} {x : qI} (h : xm x = true) (hc : x.1 = 12 ∨ x.1 = 13 → x.2.2.2.1 + k ≤ 40) : xm (jn k x) = true := by
 unfold jn
 split
 ·rename_i hj
  have hc := hc hj
  unfold xm yG jE at h ⊢
  dsimp only
  rcases hj with hj | hj <;> (simp [hj] at h ⊢; omega)
 ·exact h
theorem qZO {l L : List qI} {k : Nat} {st0 s : List Int} (E : Emb l L k st0) (hn : s ≠ []) (hs : StOk l.length s) : opM L (st0 ++ s.map (· + (k : Int))) = opM l s := by
 have hb := hs.inmost hn
 obtain ⟨p, hp⟩ : ∃ p : Nat, jZ s = p := ⟨(jZ s).toNat, by omega⟩
 unfold opM
 rw [if_neg (by simp [hn]), if_neg hn, XP hn, hp]
 have e := E.ins p (by omega)
 rw [show (p : Int) + (k : Int) = ((k + p : Nat) : Int) by omega, e, xN]
theorem gF {l L : List qI} {k : Nat} {st0 : List Int} {calm : Bool} (E : Emb l L k st0) (B : Bld calm l []) (h40 : L.length ≤ 40) {i : Nat} (hi : i < l.length) :
  jH L (qj L (k + i)) (qA L ((k + i : Nat) : Int)) = 0 ∨ st0 ≠ [] ∧ jH L (qj L (k + i)) (qA L ((k + i : Nat) : Int)) = 9 := by
 have hle := E.le
 have hw := B.wr i hi
 have hz := zc hw
 have ho := zY hw
 have hj := B.jp i hi
 have hst := E.stack B.wr i (by omega)
 have hr := (JK (l := l) i).1.mono (show i ≤ l.length by omega)
 rw [hst, E.ins i hi]
 have hm : xm (jn k (qA l i)) = true := N5 hz.1 fun h => by
  obtain ⟨c, c1, c2, _⟩ := hj h
  omega
 have hop : qj l i ≠ [] → opM L (st0 ++ (qj l i).map (· + (k : Int))) = opM l (qj l i) := fun hn => qZO E hn hr
 unfold jH
 rw [if_neg (by rw [hm]; simp), xN, if_neg (fun hh => hh.2 (by rw [hop (ho.2.1 (.inl hh.1))]; exact hz.2.1 hh.1)), if_neg (fun hh => hh.2 (by rw [hop (ho.2.1 (.inr hh.1))]; exact hz.2.2.1 hh.1))]
 by_cases hd : zC (qA l i).1 = true ∧ 5 ≤ (st0 ++ (qj l i).map (· + (k : Int))).length
 ·rw [if_pos hd]
  refine .inr ⟨?_, rfl⟩
  rintro rfl
  have := hz.2.2.2 hd.1
  have h2 := hd.2
  simp at h2
  omega
 ·rw [if_neg hd]; exact .inl rfl
theorem wz {l L : List qI} {k : Nat} {st0 : List Int} {calm : Bool} (E : Emb l L k st0) (B : Bld calm l []) (hnil : qj L L.length = []) {i : Nat} (hi : i < l.length) : ¬ gH L (xP L 0 []) (k + i) (qA L ((k + i : Nat) : Int)) := by
 have hle := E.le
 have hst := E.stack B.wr i (by omega)
 have hreg : ∀ j, j < L.length → qa (xP L 0 []) (j : Int) = jZ (qj L j) := fun j hj => by
  have := JF (l := L) L.length 0 (by omega) j (by omega)
  rw [Nat.zero_add] at this
  unfold qa
  rw [Int.toNat_natCast]
  exact (congrArg (·.getD 0) this)
 rw [E.ins i hi]
 rintro ⟨ho, hc⟩
 rw [xN] at ho
 obtain ⟨c, c1, c2, c3, _⟩ := B.jp i hi ho
 have hx : (jn k (qA l i)).2.2.2.1 = ((k + c : Nat) : Int) := by
  have e : jn k (qA l i) = ((qA l i).1, (qA l i).2.1, (qA l i).2.2.1, (qA l i).2.2.2.1 + k, (qA l i).2.2.2.2) := if_pos ho
  rw [e]
  show (qA l i).2.2.2.1 + (k : Int) = _
  omega
 have hsc : qj L (k + c) = qj L (k + i) := by rw [E.stack B.wr c c2, hst, c3]
 rw [hx] at hc
 rcases hc with hc | ⟨hc, hn⟩ | ⟨hc, hn⟩
 ·omega
 ·have : k + c = L.length := by omega
  rw [this, hnil] at hsc
  exact hn (by rw [hreg _ (by omega), ← hsc]; rfl)
 ·exact hn (by rw [hreg _ (by omega), hreg _ (by omega), hsc])
theorem UT {l : List qI} (h0 : 0 < l.length) (h40 : l.length ≤ 40) (hw : ∀ j, j < l.length → jH l (qj l j) (qA l j) = 0 ∨ jH l (qj l j) (qA l j) = 9) (hn : qj l l.length = []) (hj : ∀ j, j < l.length → ¬ gH l (xP l 0 []) j (qA l j)) :
  ((xG l).2 = 9 ∧ ∃ j, j < l.length ∧ jH l (qj l j) (qA l j) = 9) ∨ (xG l).2 = 0 ∧ ∀ j, j < l.length → jH l (qj l j) (qA l j) = 0 := by
 have key : ∀ d i, i + d = l.length → ((∃ a, goM l (l.drop i) i (qj l i) = .inl (a, 9)) ∧ ∃ j, j < l.length ∧ jH l (qj l j) (qA l j) = 9) ∨ goM l (l.drop i) i (qj l i) = .inr [] ∧ ∀ j, i ≤ j → j < l.length → jH l (qj l j) (qA l j) = 0 := by
  intro d
  induction d with
  | zero =>
   intro i hi
   obtain rfl : i = l.length := by omega
   rw [List.drop_length, hn]
   exact .inr ⟨rfl, fun j h1 h2 => by omega⟩
  | succ d ih =>
   intro i hi
   have hlt : i < l.length := by omega
   rw [w6 hlt]
   rcases hw i hlt with h | h
   ·have hc := h
    rw [jt hlt] at h
    rw [if_pos h]
    have := ih (i + 1) (by omega)
    rw [jw, jt hlt] at this
    rcases this with this | ⟨t1, t2⟩
    ·exact .inl this
    ·refine .inr ⟨t1, fun j h1 h2 => ?_⟩
     by_cases he : j = i
     ·rw [he]; exact hc
     ·exact t2 j (by omega) h2
   ·have hc := h
    rw [jt hlt] at h
    rw [if_neg (by rw [h]; decide), h]
    exact .inl ⟨⟨_, rfl⟩, i, hlt, hc⟩
 have hjm : ∀ d i, i + d = l.length → wc l (xP l 0 []) (l.drop i) i = (0, 0) := by
  intro d
  induction d with
  | zero =>
   intro i hi
   obtain rfl : i = l.length := by omega
   rw [List.drop_length]; rfl
  | succ d ih =>
   intro i hi
   have hlt : i < l.length := by omega
   have := hj i hlt
   rw [jt hlt] at this
   rw [wC hlt, if_neg this, ih (i + 1) (by omega)]
 have k0 := key l.length 0 (by omega)
 have j0 := hjm l.length 0 (by omega)
 rw [List.drop_zero] at k0 j0
 unfold xG
 rw [if_neg (by omega)]
 rcases k0 with ⟨⟨a, k0⟩, k9⟩ | ⟨k0, k1⟩
 ·rw [show qj l 0 = [] from rfl] at k0
  rw [k0]; exact .inl ⟨rfl, k9⟩
 ·rw [show qj l 0 = [] from rfl] at k0
  rw [k0]
  dsimp only
  rw [if_pos rfl, j0]
  exact .inr ⟨rfl, fun j h => k1 j (Nat.zero_le _) h⟩
end Go.Proofs.YtdlfmpmpmkffjaaGreatDoor
namespace Go.Proofs.YtdlfmpmpmkffjaaGreatDoor.arenaPlays
open Go Go.Ae
set_option maxRecDepth 100000
variable {g h : AH} {L R : List SP}
end Go.Proofs.YtdlfmpmpmkffjaaGreatDoor.arenaPlays
namespace Go.Proofs.YtdlfmpmpmkffjaaGreatDoor
open Go Go.Ae
set_option maxRecDepth 100000
variable {g h : AH} {L R : List SP}
def M3 (zs : List Int) (m : Int) (C : List Cl) (F : List Int) : VM := { jL zs m with lv := [(C, F)] }
structure FullS (zs : List Int) (T c i : Nat) : Prop where
  len : zs.length = T
  lo : 32 ≤ T
  hi : T ≤ 256
  cls : 1 ≤ c ∧ c ≤ 4
  nn : ∀ z ∈ zs, 0 ≤ z ∧ z < 18446744073709551616
  head : xe zs c = 0
  bump : xe zs 5 = 14 + (i : Int) * (x7 c + 1)
  hdr : ∀ j, j < i → ∀ p : Nat, (p : Int) = 14 + (j : Int) * (x7 c + 1) → xe zs p = (c : Int) + 8
end Go.Proofs.YtdlfmpmpmkffjaaGreatDoor
namespace Go.Proofs.YtdlfmpmpmkffjaaGreatDoor.arenaFull
open Go Go.Ae arenaPlays
set_option maxRecDepth 100000
variable {g h : AH} {L R : List SP}
end Go.Proofs.YtdlfmpmpmkffjaaGreatDoor.arenaFull
namespace Go.Proofs.YtdlfmpmpmkffjaaGreatDoor
open Go Go.Ae
set_option maxRecDepth 100000
end Go.Proofs.YtdlfmpmpmkffjaaGreatDoor
namespace Go.Proofs.YtdlfmpmpmkffjaaGreatDoor
open Go Go.Ae arenaPlays
set_option maxRecDepth 100000
variable {g h : AH} {L R : List SP}
end Go.Proofs.YtdlfmpmpmkffjaaGreatDoor
namespace Go.Proofs.YtdlfmpmpmkffjaaGreatDoor
open Go Go.Ae
set_option maxRecDepth 100000
variable {g h : AH} {L R : List SP}
abbrev Q9 (l : List qI) (n : Nat) (zs : List Int) (m : Int) : RM := jB l (qB l) n z6 (jL zs m)
end Go.Proofs.YtdlfmpmpmkffjaaGreatDoor
namespace Go.Proofs.YtdlfmpmpmkffjaaGreatDoor
open Go Go.Ae
theorem Bld.weak {l : List qI} {st : List Int} (B : Bld true l st) : Bld false l st :=
 ⟨fun x hx => ⟨(B.ok x hx).may, (B.ok x hx).no, (B.ok x hx).n, fun h => (by cases h)⟩, B.wr, B.top, fun j hj ho => (by
  obtain ⟨c, c1, c2, c3, _⟩ := B.jp j hj ho
  exact ⟨c, c1, c2, c3, fun h => by cases h⟩), B.five⟩
theorem VE (p : List qI) : p.map (jn 0) = p := by
 induction p with
 | nil => rfl
 | cons x p ih => rw [List.map_cons, Mk, ih]
theorem Jj (p t : List qI) : Emb p (p ++ t) 0 [] := ⟨by simp, fun i hi => by rw [Mk, Nat.zero_add, kH hi], rfl⟩
section
variable {p : List qI} {op : Int}
theorem qQ4 (B : Bld true p []) (h : op = 20 ∨ op = 22) : Bld false (p ++ [one op]) [] :=
 B.weak.flat ⟨by rcases h with rfl | rfl <;> decide, by rcases h with rfl | rfl <;> decide, by rcases h with rfl | rfl <;> decide, fun h => (by cases h)⟩ (by rcases h with rfl | rfl <;> (unfold Flat; decide)) (by rcases h with rfl | rfl <;> decide)
theorem xA {calm : Bool} {l : List qI} (B : Bld calm l []) : Quiet l := fun x hx => ⟨(B.ok x hx).no, (B.ok x hx).n⟩
theorem yg {l : List qI} (B : Bld true l []) : Qi l := fun x hx => ((B.ok x hx).cal rfl).1
theorem fails (B : Bld true p []) (h0 : 0 < p.length) (h39 : p.length ≤ 39) (h : op = 20 ∨ op = 22) {zs : List Int} (hz : OkN zs) :
  (Q9 (p ++ [one op]) 400 zs 96).kind ≠ 2 ∧
  ((Q9 p 400 zs 96).kind ≠ 2 → (Q9 p 400 zs 96).kind = 4 ∧ (Q9 (p ++ [one op]) 400 zs 96).kind = 4 ∧ (Q9 (p ++ [one op]) 400 zs 96).err = (Q9 p 400 zs 96).err) ∧
  ((Q9 p 400 zs 96).kind = 2 → op = 20 ∧ (Q9 (p ++ [one op]) 400 zs 96).kind = 3 ∧ (Q9 (p ++ [one op]) 400 zs 96).err = 0 ∨ op = 22 ∧ (Q9 (p ++ [one op]) 400 zs 96).kind = 4 ∧ (Q9 (p ++ [one op]) 400 zs 96).err = 13 ∨
   (Q9 (p ++ [one op]) 400 zs 96).kind = 4 ∧ (Q9 (p ++ [one op]) 400 zs 96).err = 6) := by
 have BL := qQ4 B h
 have F : Fit p := yb (by rw [B.fit h0 (by omega)])
 have FL : Fit (p ++ [one op]) := yb (by rw [BL.fit (by simp) (by simp; omega)])
 have Q := xA B
 have QL := xA BL
 have C := yg B
 have G := vF (l := p) (m := 96) hz
 have GL := vF (l := p ++ [one op]) (m := 96) hz
 have f0 := vA zs 96
 have n3 := ZQ F Q C 400 G (by omega)
 have n1 := Jx F Q (n := 400) (zs := zs) (m := 96) G rfl rfl (by omega)
 have rk := (Jg F Q 400 G (by omega)).2.2.2.2
 obtain ⟨a, b⟩ := gj (Jj p [one op]) F FL QL C (o0 := []) rfl 400 (s := z6) (S := z6) (V := jL zs 96) ⟨rfl, rfl, rfl, rfl⟩ GL ⟨0, rfl, Nat.zero_le _⟩ (by omega)
 unfold Q9
 generalize jB p (qB p) 400 z6 (jL zs 96) = A at *
 by_cases k2 : A.kind = 2
 ·obtain ⟨S', x1, x2, x3, x4, x5, x6⟩ := a k2
  have hp : S'.pc = ((p.length : Nat) : Int) := by have := x2.pc; omega
  have hne : ¬ S'.pc = (p ++ [one op]).length := by rw [hp]; simp; omega
  have hins : qA (p ++ [one op]) S'.pc = one op := by
   have e := gd (l := p) (t := [one op]) (k := 0) (x := one op) rfl
   rw [hp]; exact e
  have ho : S'.opn = [] := by
   have e := x3.stk
   rw [hp, Int.toNat_natCast, yO _ (Nat.le_refl _), F.nil] at e
   simpa using e
  have key : op = 20 ∧ (jB (p ++ [one op]) (qB (p ++ [one op])) A.left S' A.v).kind = 3 ∧ (jB (p ++ [one op]) (qB (p ++ [one op])) A.left S' A.v).err = 0 ∨ op = 22 ∧ (jB (p ++ [one op]) (qB (p ++ [one op])) A.left S' A.v).kind = 4 ∧ (jB (p ++ [one op]) (qB (p ++ [one op])) A.left S' A.v).err = 13 ∨
    (jB (p ++ [one op]) (qB (p ++ [one op])) A.left S' A.v).kind = 4 ∧ (jB (p ++ [one op]) (qB (p ++ [one op])) A.left S' A.v).err = 6 := by
   cases A.left with
   | zero =>
    rw [yr, if_neg hne]
    exact .inr (.inr ⟨rfl, rfl⟩)
   | succ m =>
    rw [yF, if_neg hne, hins]
    rcases h with rfl | rfl
    ·have e : doM (qB (p ++ [one 20])) S' A.v (one 20) = ⟨0, S'.pc, true, { S' with opn := [] }, A.v⟩ := by
      show yE _ S'.opn S' A.v = _
      rw [ho]; rfl
     rw [e]
     exact .inl ⟨rfl, rfl, rfl⟩
    ·exact .inr (.inl ⟨rfl, rfl, rfl⟩)
  rw [x1]
  exact ⟨by omega, fun h => absurd k2 h, fun _ => key⟩
 ·obtain ⟨y1, y2⟩ := b k2
  have k4 : A.kind = 4 := by omega
  exact ⟨by rw [y1]; exact k2, fun _ => ⟨k4, by rw [y1]; exact k4, y2⟩, fun h => absurd h k2⟩
end
end Go.Proofs.YtdlfmpmpmkffjaaGreatDoor
namespace Go.Proofs.YtdlfmpmpmkffjaaGreatDoor
open Go Go.Ae
theorem zX (P l : List qI) : ∃ t, qg P l = P ++ t := ⟨_, rfl⟩
theorem vy {L B A T T' : List qI} (h : L = B ++ T) (h2 : B = A ++ T') : L = A ++ (T' ++ T) := by rw [h, h2, List.append_assoc]
theorem wM {P l L T : List qI} (h : L = qg P l ++ T) : Emb l L P.length (qj P P.length) := by
 subst h
 refine ⟨by rw [List.length_append, jl]; omega, fun i hi => ?_, ?_⟩
 ·have e := gd (l := P) (t := l.map (jn P.length) ++ T) (k := i) (x := jn P.length (qA l i)) (by
   rw [List.getElem?_append_left (by simpa using hi), List.getElem?_map, List.getElem?_eq_getElem hi, jt hi]; rfl)
  rw [← List.append_assoc] at e
  exact e
 ·unfold qg
  rw [List.append_assoc, yO _ (Nat.le_refl _)]
theorem y7 {P L T : List qI} {op : Int} (h : L = qg P [one op] ++ T) (ho : op ≠ 12 ∧ op ≠ 13) : qA L (P.length : Int) = one op ∧ qj L P.length = qj P P.length ∧ P.length < L.length := by
 have E := wM h
 have e := E.ins 0 (by simp)
 have hle := E.le
 refine ⟨?_, E.st, by simp at hle; omega⟩
 rw [Nat.add_zero] at e
 rw [e]
 show jn P.length (one op) = one op
 exact if_neg (by show ¬ (op = 12 ∨ op = 13); omega)
theorem gI {P l : List qI} (h : ∀ j, j < l.length → jH l (qj l j) (qA l j) = 0) (hn : qj l l.length = []) : qj (qg P l) (qg P l).length = qj P P.length := by
 have E := wM (P := P) (l := l) (L := qg P l) (T := []) (List.append_nil _).symm
 rw [jl, E.stack h l.length (Nat.le_refl _), hn]
 simp
theorem xS {P : List qI} {op : Int} (ho : op ≠ 12 ∧ op ≠ 13) : qj (qg P [one op]) (qg P [one op]).length = jg (qj P P.length) P.length op := by
 obtain ⟨h1, h2, _⟩ := y7 (P := P) (L := qg P [one op]) (T := []) (op := op) (List.append_nil _).symm ho
 rw [jl]
 show qj (qg P [one op]) (P.length + 1) = _
 rw [jw, h1, h2]
section
variable {p q r : List qI}
def MR (p q r : List qI) : List qI := yd [p, [one 14], q, [one 16], [one 15], r]
def zr (p r : List qI) : List qI := yd [p, r]
structure Un (p q r : List qI) : Prop where
  bp : Bld true p []
  bq : Bld true q []
  br : Bld true r []
  p0 : 0 < p.length
  q0 : 0 < q.length
  r0 : 0 < r.length
  lp : p.length ≤ 11
  lq : q.length ≤ 12
  lr : r.length ≤ 11
theorem Yo (p : List qI) : qg [] p = p := by unfold qg; rw [List.length_nil, VE]; rfl
theorem ML : MR p q r = qg (qg (qg (qg (qg p [one 14]) q) [one 16]) [one 15]) r := by
 show qg (qg (qg (qg (qg (qg [] p) [one 14]) q) [one 16]) [one 15]) r = _
 rw [Yo]
theorem UH : zr p r = qg p r := by
 show qg (qg [] p) r = _
 rw [Yo]
structure Where (p q r L : List qI) : Prop where
  len : L.length = p.length + q.length + 3 + r.length
  e1 : Emb p L 0 []
  i14 : qA L (p.length : Int) = one 14
  e2 : Emb q L (p.length + 1) [(p.length : Int)]
  i16 : qA L ((p.length + 1 + q.length : Nat) : Int) = one 16
  i15 : qA L ((p.length + q.length + 2 : Nat) : Int) = one 15
  e3 : Emb r L (p.length + q.length + 3) []
  s14 : qj L p.length = []
  s16 : qj L (p.length + 1 + q.length) = [(p.length : Int)]
  s15 : qj L (p.length + q.length + 2) = [(p.length : Int)]
  nil : qj L L.length = []
theorem Un.where (U : Un p q r) : Where p q r (MR p q r) := by
 rw [ML]
 obtain ⟨T5, h5⟩ := zX (qg (qg (qg (qg p [one 14]) q) [one 16]) [one 15]) r
 obtain ⟨T4, h4⟩ := zX (qg (qg (qg p [one 14]) q) [one 16]) [one 15]
 obtain ⟨T3, h3⟩ := zX (qg (qg p [one 14]) q) [one 16]
 obtain ⟨T2, h2⟩ := zX (qg p [one 14]) q
 obtain ⟨T1, h1⟩ := zX p [one 14]
 have L5 := h5
 have L4 := vy L5 h4
 have L3 := vy L4 h3
 have L2 := vy L3 h2
 have L1 := vy L2 h1
 have s1 : qj p p.length = [] := U.bp.top
 have s2 : qj (qg p [one 14]) (qg p [one 14]).length = [(p.length : Int)] := by rw [xS (by decide), s1]; rfl
 have s3 := gI (P := qg p [one 14]) U.bq.wr U.bq.top
 rw [s2] at s3
 have s4 : qj (qg (qg (qg p [one 14]) q) [one 16]) (qg (qg (qg p [one 14]) q) [one 16]).length = [(p.length : Int)] := by rw [xS (by decide), s3]; rfl
 have s5 : qj (qg (qg (qg (qg p [one 14]) q) [one 16]) [one 15]) (qg (qg (qg (qg p [one 14]) q) [one 16]) [one 15]).length = [] := by rw [xS (by decide), s4]; rfl
 have s6 := gI (P := qg (qg (qg (qg p [one 14]) q) [one 16]) [one 15]) U.br.wr U.br.top
 rw [s5] at s6
 have n1 : (qg p [one 14]).length = p.length + 1 := by rw [jl]; rfl
 have n2 : (qg (qg p [one 14]) q).length = p.length + 1 + q.length := by rw [jl, n1]
 have n3 : (qg (qg (qg p [one 14]) q) [one 16]).length = p.length + q.length + 2 := by rw [jl, n2]; show _ + 1 = _; omega
 have n4 : (qg (qg (qg (qg p [one 14]) q) [one 16]) [one 15]).length = p.length + q.length + 3 := by rw [jl, n3]; rfl
 have a2 := y7 (P := p) L2 (by decide)
 have a3 := wM (P := qg p [one 14]) L3
 have a4 := y7 (P := qg (qg p [one 14]) q) L4 (by decide)
 have a5 := y7 (P := qg (qg (qg p [one 14]) q) [one 16]) (L := qg (qg (qg (qg (qg p [one 14]) q) [one 16]) [one 15]) r) (T := T5) L5 (by decide)
 have a6 := wM (P := qg (qg (qg (qg p [one 14]) q) [one 16]) [one 15]) (l := r) (T := []) (List.append_nil _).symm
 rw [s2, n1] at a3
 rw [s3, n2] at a4
 rw [s4, n3] at a5
 rw [s5, n4] at a6
 rw [s1] at a2
 refine ⟨by rw [jl, n4], by rw [L1]; exact Jj _ _, a2.1, a3, a4.1, a5.1, a6, a2.2.1, a4.2.1, a5.2.1, s6⟩
theorem Un.short_at (U : Un p q r) : Emb p (zr p r) 0 [] ∧ Emb r (zr p r) p.length [] ∧ (zr p r).length = p.length + r.length ∧ qj (zr p r) (zr p r).length = [] := by
 rw [UH]
 obtain ⟨T, h⟩ := zX p r
 have s1 : qj p p.length = [] := U.bp.top
 have a := wM (P := p) (l := r) (T := []) (List.append_nil (qg p r)).symm
 have e := gI (P := p) U.br.wr U.br.top
 rw [s1] at a e
 exact ⟨by rw [h]; exact Jj _ _, a, jl _ _, e⟩
end
end Go.Proofs.YtdlfmpmpmkffjaaGreatDoor
namespace Go.Proofs.YtdlfmpmpmkffjaaGreatDoor
open Go Go.Ae
theorem zK {P l : List qI} (h1 : Quiet P) (h2 : Quiet l) : Quiet (qg P l) := by
 intro x hx
 rcases List.mem_append.1 hx with hx | hx
 ·exact h1 x hx
 ·obtain ⟨y, hy, rfl⟩ := List.mem_map.1 hx
  have := h2 y hy
  unfold jn
  split
  ·exact this
  ·exact this
theorem gk {P l : List qI} (h1 : Qi P) (h2 : Qi l) : Qi (qg P l) := by
 intro x hx
 rcases List.mem_append.1 hx with hx | hx
 ·exact h1 x hx
 ·obtain ⟨y, hy, rfl⟩ := List.mem_map.1 hx
  rw [xN]; exact h2 y hy
theorem xT {op : Int} (h : op ≠ 23) : Quiet [one op] := by
 intro x hx
 rw [List.mem_singleton] at hx
 subst hx
 exact ⟨h, by show (0 : Int) ≤ 0; decide, by show (0 : Int) < 18446744073709551616; decide⟩
theorem XF {op : Int} (h : op ≠ 20) : Qi [one op] := by
 intro x hx
 rw [List.mem_singleton] at hx
 subst hx
 exact h
theorem V9 {L : List qI} {p : Nat} : opM L [(p : Int)] = (qA L (p : Int)).1 := rfl
theorem OC {A B : VM} (h1 : A.sz = B.sz) (h2 : A.K = B.K) (h3 : A.most = B.most) (h4 : A.lv = B.lv) (h5 : A.need = B.need) : A = B := by
 cases A; cases B; dsimp only at *; subst h1 h2 h3 h4 h5; rfl
section
variable {p q r : List qI} {zs : List Int}
theorem Un.quiet (U : Un p q r) : Quiet (MR p q r) ∧ Qi (MR p q r) ∧ Quiet (zr p r) ∧ Qi (zr p r) := by
 rw [ML, UH]
 have a := xA U.bp
 have b := xA U.bq
 have c := xA U.br
 have a' := yg U.bp
 have b' := yg U.bq
 have c' := yg U.br
 exact ⟨zK (zK (zK (zK (zK a (xT (by decide))) b) (xT (by decide))) (xT (by decide))) c,
  gk (gk (gk (gk (gk a' (XF (by decide))) b') (XF (by decide))) (XF (by decide))) c', zK a c, gk a' c'⟩
theorem Un.check_short (U : Un p q r) : (xG (zr p r)).2 = 0 := by
 obtain ⟨e1, e3, hl, hn⟩ := U.short_at
 have h1 := U.lp
 have h3 := U.lr
 have h0 := U.p0
 generalize zr p r = L at *
 have cls : ∀ j, j < L.length → (∃ i, i < p.length ∧ j = 0 + i) ∨ ∃ i, i < r.length ∧ j = p.length + i := by
  intro j hj
  by_cases c1 : j < p.length
  ·exact .inl ⟨j, c1, by omega⟩
  ·exact .inr ⟨j - p.length, by omega, by omega⟩
 have hw : ∀ j, j < L.length → jH L (qj L j) (qA L (j : Int)) = 0 := by
  intro j hj
  rcases cls j hj with ⟨i, hi, rfl⟩ | ⟨i, hi, rfl⟩
  ·exact (gF e1 U.bp (by omega) hi).resolve_right fun h => h.1 rfl
  ·exact (gF e3 U.br (by omega) hi).resolve_right fun h => h.1 rfl
 rcases UT (l := L) (by omega) (by omega) (fun j hj => .inl (hw j hj)) hn (fun j hj => by
  rcases cls j hj with ⟨i, hi, rfl⟩ | ⟨i, hi, rfl⟩
  ·exact wz e1 U.bp hn hi
  ·exact wz e3 U.br hn hi) with ⟨_, j, hj, h9⟩ | h
 ·rw [hw j hj] at h9; cases h9
 ·exact h.1
end
end Go.Proofs.YtdlfmpmpmkffjaaGreatDoor
namespace Go.Proofs.YtdlfmpmpmkffjaaGreatDoor
open Go Go.Ae
theorem Jq {L : List qI} (FL : Fit L) (QL : Quiet L) {n : Nat} {S : IM} {V : VM} {j : Nat} (G : GI L S V) (hj : S.pc = j) (hlt : j < L.length) (hf : frS V.lv + n < 9000) (hb : (doM (qB L) S V (qA L j)).blk = false) (hk : (jB L (qB L) n S V).kind ≠ 1 ∧ (jB L (qB L) n S V).kind ≠ 4) :
  ∃ m, n = m + 1 ∧ (doM (qB L) S V (qA L j)).e = 0 ∧ jB L (qB L) n S V = jB L (qB L) m { (doM (qB L) S V (qA L j)).s with pc := (doM (qB L) S V (qA L j)).nx } (doM (qB L) S V (qA L j)).v ∧
   GI L { (doM (qB L) S V (qA L j)).s with pc := (doM (qB L) S V (qA L j)).nx } (doM (qB L) S V (qA L j)).v ∧ frS (doM (qB L) S V (qA L j)).v.lv + m < 9000 := by
 cases n with
 | zero => rw [yr, if_neg (by omega)] at hk; exact absurd rfl hk.2
 | succ m =>
  have St := gi FL G hj hlt (by omega) (QL.at hlt).2 (QL.at hlt).1
  rw [yF, if_neg (show ¬ S.pc = L.length by omega), hj] at hk ⊢
  generalize doM (qB L) S V (qA L j) = D at *
  by_cases c0 : D.e = 0
  ·have := St.fr
   rw [if_pos c0, if_neg (by rw [hb]; simp)]
   exact ⟨m, rfl, c0, rfl, St.next c0 hb, by omega⟩
  ·rw [if_neg c0] at hk
   split at hk
   ·exact absurd rfl hk.1
   ·exact absurd rfl hk.2
theorem qJU {l L : List qI} {k : Nat} {st0 : List Int} {o0 : List PtM} (E : Emb l L k st0) (F : Fit l) (FL : Fit L) (QL : Quiet L) (Cl : Qi l) (h0 : o0.length = st0.length) : ∀ (n : Nat) {s S : IM} {V : VM}, Sim k o0 s S → GI L S V → (∃ i : Nat, s.pc = i ∧ i ≤ l.length) → frS V.lv + n < 9000 →
  (jB l (qB l) n s V).kind = 1 ∨ (jB l (qB l) n s V).kind = 2 ∨ (jB l (qB l) n s V).kind = 4 := by
 have hle := E.le
 intro n
 induction n with
 | zero =>
  rintro s S V h G ⟨i, hi, hil⟩ hf
  rw [yr]
  split
  ·exact .inr (.inl rfl)
  ·exact .inr (.inr rfl)
 | succ n ih =>
  rintro s S V h G ⟨i, hi, hil⟩ hf
  have hp := h.pc
  rw [yF]
  by_cases c : s.pc = l.length
  ·rw [if_pos c]; exact .inr (.inl rfl)
  ·have hlt : i < l.length := by omega
   have hSp : S.pc = ((k + i : Nat) : Int) := by omega
   obtain ⟨D, hb, j, hj, hjl⟩ := Qf E F FL QL Cl h0 h G hi hlt
   have St := gi FL G hSp (by omega) (by omega) (QL.at (i := k + i) (by omega)).2 (QL.at (i := k + i) (by omega)).1
   rw [if_neg c, hi]
   generalize doM (qB l) s V (qA l i) = d at *
   generalize doM (qB L) S V (qA L ((k + i : Nat) : Int)) = D' at *
   have hB : D'.blk = false := D.blk.trans hb
   by_cases c0 : d.e = 0
   ·rw [if_pos c0, if_neg (by rw [hb]; simp)]
    have hfr := St.fr
    have G2 := St.next (D.e.trans c0) hB
    have S2 : Sim k o0 { d.s with pc := d.nx } { D'.s with pc := D'.nx } := ⟨D.regs, D.out, D.nx, D.opn⟩
    rw [D.v] at hfr G2
    exact ih S2 G2 ⟨j, hj, hjl⟩ (by omega)
   ·rw [if_neg c0]
    split
    ·exact .inl rfl
    ·exact .inr (.inr rfl)
theorem YG {l L : List qI} {k : Nat} {st0 : List Int} {o0 : List PtM} (E : Emb l L k st0) (F : Fit l) (FL : Fit L) (QL : Quiet L) (Cl : Qi l) (h0 : o0.length = st0.length) {n : Nat} {s S : IM} {V : VM} (h : Sim k o0 s S) (G : GI L S V) (hp : ∃ i : Nat, s.pc = i ∧ i ≤ l.length) (hf : frS V.lv + n < 9000)
  (hk : (jB L (qB L) n S V).kind ≠ 1 ∧ (jB L (qB L) n S V).kind ≠ 4) : (jB l (qB l) n s V).kind = 2 := by
 by_cases c : (jB l (qB l) n s V).kind = 2
 ·exact c
 ·have e := ((gj E F FL QL Cl h0 n h G hp hf).2 c).1
  have := qJU E F FL QL Cl h0 n h G hp hf
  omega
section
variable {p q r : List qI}
def QK (p q r : List qI) : List qI := yd [p, [one 17], q, [one 18], r, [one 19]]
def QY (p q r : List qI) : List qI := yd [p, [one 17], q, [one 20], [one 18], r, [one 19]]
structure JH (p q r L : List qI) (t : Nat) : Prop where
  tl : t ≤ 1
  len : L.length = p.length + q.length + r.length + 3 + t
  e1 : Emb p L 0 []
  i17 : qA L (p.length : Int) = one 17
  s17 : qj L p.length = []
  e2 : Emb q L (p.length + 1) [(p.length : Int)]
  i20 : t = 1 → qA L ((p.length + 1 + q.length : Nat) : Int) = one 20 ∧ qj L (p.length + 1 + q.length) = [(p.length : Int)]
  i18 : qA L ((p.length + 1 + q.length + t : Nat) : Int) = one 18
  s18 : qj L (p.length + 1 + q.length + t) = [(p.length : Int)]
  e3 : Emb r L (p.length + q.length + 2 + t) [((p.length + 1 + q.length + t : Nat) : Int)]
  i19 : qA L ((p.length + q.length + 2 + t + r.length : Nat) : Int) = one 19
  s19 : qj L (p.length + q.length + 2 + t + r.length) = [((p.length + 1 + q.length + t : Nat) : Int)]
  nil : qj L L.length = []
theorem Un.whereA (U : Un p q r) : JH p q r (QK p q r) 0 := by
 have el : QK p q r = qg (qg (qg (qg (qg p [one 17]) q) [one 18]) r) [one 19] := by
  show qg (qg (qg (qg (qg (qg [] p) [one 17]) q) [one 18]) r) [one 19] = _
  rw [Yo]
 rw [el]
 obtain ⟨T5, h5⟩ := zX (qg (qg (qg (qg p [one 17]) q) [one 18]) r) [one 19]
 obtain ⟨T4, h4⟩ := zX (qg (qg (qg p [one 17]) q) [one 18]) r
 obtain ⟨T3, h3⟩ := zX (qg (qg p [one 17]) q) [one 18]
 obtain ⟨T2, h2⟩ := zX (qg p [one 17]) q
 obtain ⟨T1, h1⟩ := zX p [one 17]
 have L4 := vy h5 h4
 have L3 := vy L4 h3
 have L2 := vy L3 h2
 have L1 := vy L2 h1
 have s1 : qj p p.length = [] := U.bp.top
 have n1 : (qg p [one 17]).length = p.length + 1 := by rw [jl]; rfl
 have n2 : (qg (qg p [one 17]) q).length = p.length + 1 + q.length := by rw [jl, n1]
 have n3 : (qg (qg (qg p [one 17]) q) [one 18]).length = p.length + q.length + 2 := by rw [jl, n2]; show _ + 1 = _; omega
 have n4 : (qg (qg (qg (qg p [one 17]) q) [one 18]) r).length = p.length + q.length + 2 + r.length := by rw [jl, n3]
 have s2 : qj (qg p [one 17]) (qg p [one 17]).length = [(p.length : Int)] := by rw [xS (by decide), s1]; rfl
 have s3 := gI (P := qg p [one 17]) U.bq.wr U.bq.top
 rw [s2] at s3
 have s4 : qj (qg (qg (qg p [one 17]) q) [one 18]) (qg (qg (qg p [one 17]) q) [one 18]).length = [((p.length + 1 + q.length : Nat) : Int)] := by rw [xS (by decide), s3, n2]; rfl
 have s5 := gI (P := qg (qg (qg p [one 17]) q) [one 18]) U.br.wr U.br.top
 rw [s4] at s5
 have s6 : qj (qg (qg (qg (qg (qg p [one 17]) q) [one 18]) r) [one 19]) (qg (qg (qg (qg (qg p [one 17]) q) [one 18]) r) [one 19]).length = [] := by rw [xS (by decide), s5]; rfl
 have a2 := y7 (P := p) L2 (by decide)
 have a3 := wM (P := qg p [one 17]) L3
 have a4 := y7 (P := qg (qg p [one 17]) q) L4 (by decide)
 have a5 := wM (P := qg (qg (qg p [one 17]) q) [one 18]) h5
 have a6 := y7 (P := qg (qg (qg (qg p [one 17]) q) [one 18]) r) (op := 19) (T := []) (List.append_nil _).symm (by decide)
 rw [s2, n1] at a3
 rw [s3, n2] at a4
 rw [s4, n3] at a5
 rw [s5, n4] at a6
 rw [s1] at a2
 exact ⟨by omega, by rw [jl, n4]; show _ + 1 = _; omega, by rw [L1]; exact Jj _ _, a2.1, a2.2.1, a3, fun h => (by cases h), a4.1, a4.2.1, a5, a6.1, a6.2.1, s6⟩
theorem Un.whereB (U : Un p q r) : JH p q r (QY p q r) 1 := by
 have el : QY p q r = qg (qg (qg (qg (qg (qg p [one 17]) q) [one 20]) [one 18]) r) [one 19] := by
  show qg (qg (qg (qg (qg (qg (qg [] p) [one 17]) q) [one 20]) [one 18]) r) [one 19] = _
  rw [Yo]
 rw [el]
 obtain ⟨T6, h6⟩ := zX (qg (qg (qg (qg (qg p [one 17]) q) [one 20]) [one 18]) r) [one 19]
 obtain ⟨T5, h5⟩ := zX (qg (qg (qg (qg p [one 17]) q) [one 20]) [one 18]) r
 obtain ⟨T4, h4⟩ := zX (qg (qg (qg p [one 17]) q) [one 20]) [one 18]
 obtain ⟨T3, h3⟩ := zX (qg (qg p [one 17]) q) [one 20]
 obtain ⟨T2, h2⟩ := zX (qg p [one 17]) q
 obtain ⟨T1, h1⟩ := zX p [one 17]
 have L5 := vy h6 h5
 have L4 := vy L5 h4
 have L3 := vy L4 h3
 have L2 := vy L3 h2
 have L1 := vy L2 h1
 have s1 : qj p p.length = [] := U.bp.top
 have n1 : (qg p [one 17]).length = p.length + 1 := by rw [jl]; rfl
 have n2 : (qg (qg p [one 17]) q).length = p.length + 1 + q.length := by rw [jl, n1]
 have n20 : (qg (qg (qg p [one 17]) q) [one 20]).length = p.length + 1 + q.length + 1 := by rw [jl, n2]; rfl
 have n3 : (qg (qg (qg (qg p [one 17]) q) [one 20]) [one 18]).length = p.length + q.length + 2 + 1 := by rw [jl, n20]; show _ + 1 = _; omega
 have n4 : (qg (qg (qg (qg (qg p [one 17]) q) [one 20]) [one 18]) r).length = p.length + q.length + 2 + 1 + r.length := by rw [jl, n3]
 have s2 : qj (qg p [one 17]) (qg p [one 17]).length = [(p.length : Int)] := by rw [xS (by decide), s1]; rfl
 have s3 := gI (P := qg p [one 17]) U.bq.wr U.bq.top
 rw [s2] at s3
 have s20 : qj (qg (qg (qg p [one 17]) q) [one 20]) (qg (qg (qg p [one 17]) q) [one 20]).length = [(p.length : Int)] := by rw [xS (by decide), s3]; rfl
 have s4 : qj (qg (qg (qg (qg p [one 17]) q) [one 20]) [one 18]) (qg (qg (qg (qg p [one 17]) q) [one 20]) [one 18]).length = [((p.length + 1 + q.length + 1 : Nat) : Int)] := by rw [xS (by decide), s20, n20]; rfl
 have s5 := gI (P := qg (qg (qg (qg p [one 17]) q) [one 20]) [one 18]) U.br.wr U.br.top
 rw [s4] at s5
 have s6 : qj (qg (qg (qg (qg (qg (qg p [one 17]) q) [one 20]) [one 18]) r) [one 19]) (qg (qg (qg (qg (qg (qg p [one 17]) q) [one 20]) [one 18]) r) [one 19]).length = [] := by rw [xS (by decide), s5]; rfl
 have a2 := y7 (P := p) L2 (by decide)
 have a3 := wM (P := qg p [one 17]) L3
 have a20 := y7 (P := qg (qg p [one 17]) q) L4 (by decide)
 have a4 := y7 (P := qg (qg (qg p [one 17]) q) [one 20]) L5 (by decide)
 have a5 := wM (P := qg (qg (qg (qg p [one 17]) q) [one 20]) [one 18]) h6
 have a6 := y7 (P := qg (qg (qg (qg (qg p [one 17]) q) [one 20]) [one 18]) r) (op := 19) (T := []) (List.append_nil _).symm (by decide)
 rw [s2, n1] at a3
 rw [s3, n2] at a20
 rw [s20, n20] at a4
 rw [s4, n3] at a5
 rw [s5, n4] at a6
 rw [s1] at a2
 exact ⟨by omega, by rw [jl, n4]; show _ + 1 = _; omega, by rw [L1]; exact Jj _ _, a2.1, a2.2.1, a3, fun _ => ⟨a20.1, a20.2.1⟩, a4.1, a4.2.1, a5, a6.1, a6.2.1, s6⟩
theorem Yn (U : Un p q r) {L : List qI} {t : Nat} (W : JH p q r L t) : (xG L).2 = 9 ∨ (xG L).2 = 0 := by
 have h1 := U.lp
 have h2 := U.lq
 have h3 := U.lr
 have hl := W.len
 have ht := W.tl
 have w17 : jH L (qj L p.length) (qA L (p.length : Int)) = 0 := by rw [W.s17, W.i17]; rfl
 have o17 : opM L [(p.length : Int)] = 17 := by rw [V9, W.i17]
 have o18 : opM L [((p.length + 1 + q.length + t : Nat) : Int)] = 18 := by rw [V9, W.i18]
 have w20 : t = 1 → jH L (qj L (p.length + 1 + q.length)) (qA L ((p.length + 1 + q.length : Nat) : Int)) = 0 := by
  intro h
  rw [(W.i20 h).1, (W.i20 h).2]
  unfold jH
  rw [o17]; rfl
 have w18 : jH L (qj L (p.length + 1 + q.length + t)) (qA L ((p.length + 1 + q.length + t : Nat) : Int)) = 0 := by
  rw [W.s18, W.i18]
  unfold jH
  rw [o17]; rfl
 have w19 : jH L (qj L (p.length + q.length + 2 + t + r.length)) (qA L ((p.length + q.length + 2 + t + r.length : Nat) : Int)) = 0 := by
  rw [W.s19, W.i19]
  unfold jH
  rw [o18]; rfl
 have cls : ∀ j, j < L.length → (∃ i, i < p.length ∧ j = 0 + i) ∨ j = p.length ∨ (∃ i, i < q.length ∧ j = p.length + 1 + i) ∨ (t = 1 ∧ j = p.length + 1 + q.length) ∨ j = p.length + 1 + q.length + t ∨ (∃ i, i < r.length ∧ j = p.length + q.length + 2 + t + i) ∨ j = p.length + q.length + 2 + t + r.length := by
  intro j hj
  by_cases c1 : j < p.length
  ·exact .inl ⟨j, c1, by omega⟩
  by_cases c2 : j = p.length
  ·exact .inr (.inl c2)
  by_cases c3 : j < p.length + 1 + q.length
  ·exact .inr (.inr (.inl ⟨j - (p.length + 1), by omega, by omega⟩))
  by_cases c4 : t = 1 ∧ j = p.length + 1 + q.length
  ·exact .inr (.inr (.inr (.inl c4)))
  by_cases c5 : j = p.length + 1 + q.length + t
  ·exact .inr (.inr (.inr (.inr (.inl c5))))
  by_cases c6 : j < p.length + q.length + 2 + t + r.length
  ·exact .inr (.inr (.inr (.inr (.inr (.inl ⟨j - (p.length + q.length + 2 + t), by omega, by omega⟩)))))
  ·exact .inr (.inr (.inr (.inr (.inr (.inr (by omega))))))
 have nj : ∀ {j : Nat} {op : Int}, qA L (j : Int) = one op → op ≠ 12 ∧ op ≠ 13 → ¬ gH L (xP L 0 []) j (qA L (j : Int)) := by
  intro j op h ho hh
  rw [h] at hh
  have : op = 12 ∨ op = 13 := hh.1
  omega
 rcases UT (l := L) (by omega) (by omega) (fun j hj => by
  rcases cls j hj with ⟨i, hi, rfl⟩ | rfl | ⟨i, hi, rfl⟩ | ⟨h, rfl⟩ | rfl | ⟨i, hi, rfl⟩ | rfl
  ·exact (gF W.e1 U.bp (by omega) hi).imp id (·.2)
  ·exact .inl w17
  ·exact (gF W.e2 U.bq (by omega) hi).imp id (·.2)
  ·exact .inl (w20 h)
  ·exact .inl w18
  ·exact (gF W.e3 U.br (by omega) hi).imp id (·.2)
  ·exact .inl w19) W.nil (fun j hj => by
  rcases cls j hj with ⟨i, hi, rfl⟩ | rfl | ⟨i, hi, rfl⟩ | ⟨h, rfl⟩ | rfl | ⟨i, hi, rfl⟩ | rfl
  ·exact wz W.e1 U.bp W.nil hi
  ·exact nj W.i17 (by decide)
  ·exact wz W.e2 U.bq W.nil hi
  ·exact nj (W.i20 h).1 (by decide)
  ·exact nj W.i18 (by decide)
  ·exact wz W.e3 U.br W.nil hi
  ·exact nj W.i19 (by decide)) with h | h
 ·exact .inl h.1
 ·exact .inr h.1
end
end Go.Proofs.YtdlfmpmpmkffjaaGreatDoor
namespace Go.Proofs.YtdlfmpmpmkffjaaGreatDoor
open Go Go.Ae
section
variable {p q r L : List qI} {zs : List Int} {t : Nat}
theorem MM {V : VM} (h : (zP V).1 = 0) : (zP V).2.lv = ([], []) :: V.lv := by
 show (xq V.lv).2 = _
 have p1 : (xq V.lv).1 = 0 := h
 unfold xq at p1 ⊢
 split at p1
 ·cases p1
 ·rename_i p2; rw [if_neg p2]
theorem MD {V : VM} (h : (zP V).1 = 0) (h1 : V.lv.length = 1) : Mg 0 (zP V).2 V := by
 refine ⟨?_, rfl, rfl, rfl, rfl⟩
 rw [MM h]
 obtain ⟨b, hb⟩ := List.length_eq_one_iff.1 h1
 rw [hb]
 exact ⟨[], ([], []), b, rfl, by show [b] = [(b.1, b.2 ++ [])]; rw [List.append_nil], rfl, List.nodup_nil⟩
theorem Mq {V W : VM} (h : Mg 0 V W) : (xX V).2 = W := by
 obtain ⟨A, x, y, e1, e2, hA, hu⟩ := h.lv
 obtain rfl := List.eq_nil_of_length_eq_zero hA
 have k1 : xL V.lv = (0, [(je y.1 x.1, y.2 ++ x.2)]) := by rw [e1]; rfl
 exact OC h.sz.symm h.K.symm h.most.symm (by show (xL V.lv).2 = W.lv; rw [k1, e2]; rfl) h.need.symm
abbrev s2 (s : IM) : IM := ⟨s.regs, s.out, 0, []⟩
structure Pre (p q L : List qI) (zs : List Int) (A1 : RM) (S3 : IM) (A2 : RM) (m1 : Nat) : Prop where
  e1 : jB p (qB p) 400 z6 (jL zs 96) = A1
  k1 : A1.kind = 2
  lm : m1 ≤ A1.left
  e2 : jB q (qB q) m1 (s2 A1.s) (zP A1.v).2 = A2
  k2 : A2.kind = 2
  op : (zP A1.v).1 = 0
  l1 : A1.v.lv.length = 1
  regs : S3.regs = A2.s.regs
  out : S3.out = A2.s.out
  pc : S3.pc = ((p.length + 1 + q.length : Nat) : Int)
  opn : S3.opn = [⟨17, ((p.length : Nat) : Int), A1.s.regs, A1.s.out.length⟩]
  G : GI L S3 A2.v
  fr : frS A2.v.lv + A2.left < 9000
  le : A2.left ≤ A1.left
  run : jB L (qB L) 400 z6 (jL zs 96) = jB L (qB L) A2.left S3 A2.v
  kp : Kp A1.v.lv A1.s.out A2.s A2.v
  sm : Sm (zP A1.v).2 A2.v
  o2 : A2.s.opn = []
  mg : ∃ W', jB q (qB q) m1 (s2 A1.s) A1.v = { A2 with v := W' } ∧ Mg 0 A2.v W'
theorem MX (U : Un p q r) (W : JH p q r L t) (FL : Fit L) (QL : Quiet L) (hz : OkN zs) (hk : (jB L (qB L) 400 z6 (jL zs 96)).kind ≠ 1 ∧ (jB L (qB L) 400 z6 (jL zs 96)).kind ≠ 4) : ∃ A1 S3 A2 m1, Pre p q L zs A1 S3 A2 m1 := by
 have h1 := U.lp
 have h2 := U.lq
 have h3 := U.lr
 have hl := W.len
 have Fp : Fit p := yb (by rw [U.bp.fit U.p0 (by omega)])
 have Fq : Fit q := yb (by rw [U.bq.fit U.q0 (by omega)])
 have Cp := yg U.bp
 have Cq := yg U.bq
 have f0 := vA zs 96
 have GL := vF (l := L) (m := 96) hz
 have d1 := YG W.e1 Fp FL QL Cp (o0 := []) rfl (n := 400) (s := z6) (S := z6) (V := jL zs 96) ⟨rfl, rfl, rfl, rfl⟩ GL ⟨0, rfl, Nat.zero_le _⟩ (by omega) hk
 obtain ⟨a1, _⟩ := gj W.e1 Fp FL QL Cp (o0 := []) rfl 400 (s := z6) (S := z6) (V := jL zs 96) ⟨rfl, rfl, rfl, rfl⟩ GL ⟨0, rfl, Nat.zero_le _⟩ (by omega)
 generalize hA1 : jB p (qB p) 400 z6 (jL zs 96) = A1 at *
 obtain ⟨S1, x1, x2, x3, x4, x5, x6⟩ := a1 d1
 have hS1 : S1.pc = ((p.length : Nat) : Int) := by have := x2.pc; omega
 have oS1 : S1.opn = [] := by
  have e := x3.stk
  rw [hS1, Int.toNat_natCast, W.s17] at e
  simpa using e
 have l1 : A1.v.lv.length = 1 := by have := x3.lv; rw [oS1] at this; exact this
 rw [x1] at hk
 have hd1 : doM (qB L) S1 A1.v (qA L ((p.length : Nat) : Int)) = jN 17 S1.pc (S1.pc + 1) S1 A1.v := by rw [W.i17]; rfl
 obtain ⟨m1, hm1, c0, eq1, G2, f2⟩ := Jq FL QL x3 hS1 (by omega) x4 (by rw [hd1]; exact JP ..) hk
 rw [hd1] at c0 eq1 G2 f2
 have hop : (zP A1.v).1 = 0 := by
  by_cases h : (zP A1.v).1 = 0
  ·exact h
  ·unfold jN at c0; rw [if_neg h] at c0; exact absurd c0 h
 have hb1 : jN 17 S1.pc (S1.pc + 1) S1 A1.v = ⟨0, S1.pc + 1, false, { S1 with opn := ⟨17, S1.pc, S1.regs, S1.out.length⟩ :: S1.opn }, (zP A1.v).2⟩ := by unfold jN; rw [if_pos hop]
 rw [hb1] at eq1 G2 f2
 dsimp only at eq1 G2 f2
 rw [oS1, hS1, x2.regs, x2.out] at eq1 G2
 have hlv := MM hop
 have hk2 := hk
 rw [eq1] at hk2
 have Sim2 : Sim (p.length + 1) [⟨17, ((p.length : Nat) : Int), A1.s.regs, A1.s.out.length⟩] (s2 A1.s) ⟨A1.s.regs, A1.s.out, ((p.length : Nat) : Int) + 1, [⟨17, ((p.length : Nat) : Int), A1.s.regs, A1.s.out.length⟩]⟩ := ⟨rfl, rfl, by show ((p.length : Nat) : Int) + 1 = 0 + ((p.length + 1 : Nat) : Int); omega, rfl⟩
 have d2 := YG W.e2 Fq FL QL Cq rfl Sim2 G2 ⟨0, rfl, Nat.zero_le _⟩ f2 hk2
 obtain ⟨a2, _⟩ := gj W.e2 Fq FL QL Cq rfl m1 Sim2 G2 ⟨0, rfl, Nat.zero_le _⟩ f2
 have kq := qKT (base := A1.v.lv) (t0 := A1.s.out) W.e2 Fq FL QL Cq rfl m1 Sim2 G2 ⟨0, rfl, Nat.zero_le _⟩ f2 ⟨by show (zP A1.v).2.lv.drop 1 = _; rw [hlv]; rfl, by rw [hlv]; show _ + 1 = 0 + 1 + _; omega, List.take_length, fun p hp => by cases hp⟩
 have mq := Zu W.e2 Fq FL QL Cq rfl m1 Sim2 G2 ⟨0, rfl, Nat.zero_le _⟩ f2 (MD hop l1)
 generalize hA2 : jB q (qB q) m1 (s2 A1.s) (zP A1.v).2 = A2 at *
 obtain ⟨S3, y1, y2, y3, y4, y5, y6⟩ := a2 d2
 obtain ⟨K3, m3⟩ := kq d2
 have oA2 : A2.s.opn = [] := by
  have e := Q8 W.e2 Fq y2 y3 y5 (Nat.le_refl _) rfl
  rw [Fq.nil] at e
  exact List.eq_nil_of_length_eq_zero e
 obtain ⟨W', w1, w2⟩ := mq d2
 rw [oA2] at w2
 refine ⟨A1, S3, A2, m1, hA1, d1, by omega, hA2, d2, hop, l1, y2.regs, y2.out, by have := y2.pc; omega, by rw [y2.opn, oA2]; rfl, y3, y4, by omega, by rw [x1, eq1, y1], K3, m3, oA2, W', w1, w2⟩
theorem NF (U : Un p q r) (W : JH p q r L 0) (FL : Fit L) (QL : Quiet L) (hz : OkN zs) (hk : (jB L (qB L) 400 z6 (jL zs 96)).kind ≠ 1 ∧ (jB L (qB L) 400 z6 (jL zs 96)).kind ≠ 4)
  {T : List qI} (es1 : Emb p T 0 []) (es3 : Emb q T p.length []) (hT : T.length = p.length + q.length) (FT : Fit T) (QT : Quiet T) :
  (jB L (qB L) 400 z6 (jL zs 96)).kind = 2 ∧ (jB T (qB T) 400 z6 (jL zs 96)).kind = 2 ∧ (jB T (qB T) 400 z6 (jL zs 96)).s.regs = (jB L (qB L) 400 z6 (jL zs 96)).s.regs ∧
   (jB T (qB T) 400 z6 (jL zs 96)).s.out = (jB L (qB L) 400 z6 (jL zs 96)).s.out ∧ (jB T (qB T) 400 z6 (jL zs 96)).v = (jB L (qB L) 400 z6 (jL zs 96)).v := by
 obtain ⟨A1, S3, A2, m1, P⟩ := MX U W FL QL hz hk
 have h1 := U.lp
 have h2 := U.lq
 have h3 := U.lr
 have hl := W.len
 have Fp : Fit p := yb (by rw [U.bp.fit U.p0 (by omega)])
 have Fq : Fit q := yb (by rw [U.bq.fit U.q0 (by omega)])
 have Cp := yg U.bp
 have Cq := yg U.bq
 have f0 := vA zs 96
 have GT := vF (l := T) (m := 96) hz
 rw [P.run] at hk ⊢
 have hd : doM (qB L) S3 A2.v (qA L ((p.length + 1 + q.length : Nat) : Int)) = ⟨(xX A2.v).1, qa (qB L) S3.pc + 1, false, { S3 with opn := S3.opn.tail }, (xX A2.v).2⟩ := by
  have := W.i18
  rw [Nat.add_zero] at this
  rw [this]; rfl
 obtain ⟨m2, hm2, c0, eq2, G4, f4⟩ := Jq FL QL P.G P.pc (by omega) P.fr (by rw [hd]) hk
 rw [hd] at eq2
 dsimp only at eq2
 obtain ⟨W', w1, w2⟩ := P.mg
 rw [Mq w2] at eq2
 have hmt : qa (qB L) S3.pc = ((p.length + q.length + 2 + r.length : Nat) : Int) := by
  rw [P.pc]
  have i18 := W.i18
  have i19 := W.i19
  have s19 := W.s19
  rw [Nat.add_zero] at i18 i19 s19
  exact XG FL (by omega) (by rw [i18]; exact .inr (.inr rfl)) (by omega) (by rw [i19]; decide) (by rw [s19]; rfl)
 rw [eq2, wK (by show qa (qB L) S3.pc + 1 = _; omega)]
 obtain ⟨aT, _⟩ := gj es1 Fp FT QT Cp (o0 := []) rfl 400 (s := z6) (S := z6) (V := jL zs 96) ⟨rfl, rfl, rfl, rfl⟩ GT ⟨0, rfl, Nat.zero_le _⟩ (by omega)
 rw [P.e1] at aT
 obtain ⟨T1, t1, t2, t3, t4, t5, t6⟩ := aT P.k1
 have hT1 : T1.pc = ((p.length : Nat) : Int) := by have := t2.pc; omega
 have oT1 : T1.opn = [] := by
  have e := t3.stk
  rw [hT1, Int.toNat_natCast, es3.st] at e
  simpa using e
 have kq : (jB q (qB q) m1 (s2 A1.s) A1.v).kind = 2 := by rw [w1]; exact P.k2
 have more := K4 (l := q) (mt := qB q) m1 (A1.left - m1) kq
 rw [show m1 + (A1.left - m1) = A1.left by have := P.lm; omega, w1] at more
 have SimT : Sim p.length [] (s2 A1.s) T1 := ⟨t2.regs, t2.out, by show T1.pc = 0 + ((p.length : Nat) : Int); omega, by rw [oT1]; rfl⟩
 obtain ⟨a5, _⟩ := gj es3 Fq FT QT Cq rfl A1.left SimT t3 ⟨0, rfl, Nat.zero_le _⟩ t4
 rw [more] at a5
 obtain ⟨T5, v1, v2, v3, v4, v5, v6⟩ := a5 P.k2
 dsimp only at v1 v2 v5
 have pT5 : T5.pc = T.length := by have := v2.pc; omega
 rw [t1, v1, wK pT5]
 exact ⟨rfl, rfl, v2.regs.trans P.regs.symm, v2.out.trans P.out.symm, rfl⟩
theorem U9 (U : Un p q r) (W : JH p q r L 1) (FL : Fit L) (QL : Quiet L) (hz : OkN zs) (hk : (jB L (qB L) 400 z6 (jL zs 96)).kind ≠ 1 ∧ (jB L (qB L) 400 z6 (jL zs 96)).kind ≠ 4)
  {T : List qI} (es1 : Emb p T 0 []) (es3 : Emb r T p.length []) (hT : T.length = p.length + r.length) (FT : Fit T) (QT : Quiet T) :
  (jB L (qB L) 400 z6 (jL zs 96)).kind = 2 ∧ (jB T (qB T) 400 z6 (jL zs 96)).kind = 2 ∧ (jB T (qB T) 400 z6 (jL zs 96)).s.regs = (jB L (qB L) 400 z6 (jL zs 96)).s.regs ∧
   (jB T (qB T) 400 z6 (jL zs 96)).s.out = (jB L (qB L) 400 z6 (jL zs 96)).s.out ∧ (jB T (qB T) 400 z6 (jL zs 96)).v = (jB L (qB L) 400 z6 (jL zs 96)).v := by
 obtain ⟨A1, S3, A2, m1, P⟩ := MX U W FL QL hz hk
 have h1 := U.lp
 have h2 := U.lq
 have h3 := U.lr
 have hl := W.len
 have Fp : Fit p := yb (by rw [U.bp.fit U.p0 (by omega)])
 have Fr : Fit r := yb (by rw [U.br.fit U.r0 (by omega)])
 have Cp := yg U.bp
 have Cr := yg U.br
 have f0 := vA zs 96
 have GT := vF (l := T) (m := 96) hz
 rw [P.run] at hk ⊢
 have hd : doM (qB L) S3 A2.v (qA L ((p.length + 1 + q.length : Nat) : Int)) = yE (qB L) S3.opn S3 A2.v := by rw [(W.i20 rfl).1]; rfl
 have hr : yE (qB L) S3.opn S3 A2.v = if (zy A2.v).1 = 0 then jN 18 (qa (qB L) ((p.length : Nat) : Int)) (qa (qB L) ((p.length : Nat) : Int) + 1) { vn S3 ⟨17, ((p.length : Nat) : Int), A1.s.regs, A1.s.out.length⟩ with opn := [] } (zy A2.v).2
   else ⟨(zy A2.v).1, S3.pc + 1, false, { S3 with opn := [] }, (zy A2.v).2⟩ := by rw [P.opn]; rfl
 obtain ⟨m2, hm2, c0, eq2, G4, f4⟩ := Jq FL QL P.G P.pc (by omega) P.fr (by
  rw [hd, hr]
  split
  ·exact JP ..
  ·rfl) hk
 rw [hd, hr] at c0 eq2 G4 f4
 have hdr : (zy A2.v).1 = 0 := by
  by_cases h : (zy A2.v).1 = 0
  ·exact h
  ·rw [if_neg h] at c0; exact absurd c0 h
 rw [if_pos hdr] at c0 eq2 G4 f4
 have hv : (zy A2.v).2 = A1.v := by
  obtain ⟨d1, _⟩ := MW hdr
  have hlvq := P.kp.lv
  rw [P.o2] at hlvq
  exact OC P.sm.1 P.sm.2.1 P.sm.2.2.1 (by rw [d1, ← List.drop_one]; exact hlvq) P.sm.2.2.2
 have hmt : qa (qB L) ((p.length : Nat) : Int) = ((p.length + 1 + q.length + 1 : Nat) : Int) :=
  XG FL (by omega) (by rw [W.i17]; exact .inr (.inl rfl)) (by omega) (by rw [W.i18]; decide) (by rw [W.s18]; rfl)
 have hbk : ({ vn S3 ⟨17, ((p.length : Nat) : Int), A1.s.regs, A1.s.out.length⟩ with opn := [] } : IM) = ⟨A1.s.regs, A1.s.out, S3.pc, []⟩ := by
  show (⟨A1.s.regs, S3.out.take A1.s.out.length, S3.pc, []⟩ : IM) = _
  rw [P.out, P.kp.out]
 rw [hv, hmt, hbk] at c0 eq2 G4 f4
 have hb2 : jN 18 ((p.length + 1 + q.length + 1 : Nat) : Int) (((p.length + 1 + q.length + 1 : Nat) : Int) + 1) ⟨A1.s.regs, A1.s.out, S3.pc, []⟩ A1.v =
   ⟨0, ((p.length + 1 + q.length + 1 : Nat) : Int) + 1, false, ⟨A1.s.regs, A1.s.out, S3.pc, [⟨18, ((p.length + 1 + q.length + 1 : Nat) : Int), A1.s.regs, A1.s.out.length⟩]⟩, (zP A1.v).2⟩ := by unfold jN; rw [if_pos P.op]
 rw [hb2] at eq2 G4 f4
 dsimp only at eq2 G4 f4
 rw [eq2] at hk ⊢
 have Sim4 : Sim (p.length + q.length + 2 + 1) [⟨18, ((p.length + 1 + q.length + 1 : Nat) : Int), A1.s.regs, A1.s.out.length⟩] (s2 A1.s) ⟨A1.s.regs, A1.s.out, ((p.length + 1 + q.length + 1 : Nat) : Int) + 1, [⟨18, ((p.length + 1 + q.length + 1 : Nat) : Int), A1.s.regs, A1.s.out.length⟩]⟩ :=
  ⟨rfl, rfl, by show ((p.length + 1 + q.length + 1 : Nat) : Int) + 1 = 0 + ((p.length + q.length + 2 + 1 : Nat) : Int); omega, rfl⟩
 have d3 := YG W.e3 Fr FL QL Cr rfl Sim4 G4 ⟨0, rfl, Nat.zero_le _⟩ f4 hk
 obtain ⟨a3, _⟩ := gj W.e3 Fr FL QL Cr rfl m2 Sim4 G4 ⟨0, rfl, Nat.zero_le _⟩ f4
 have mq := Zu W.e3 Fr FL QL Cr rfl m2 Sim4 G4 ⟨0, rfl, Nat.zero_le _⟩ f4 (MD P.op P.l1)
 generalize hA3 : jB r (qB r) m2 (s2 A1.s) (zP A1.v).2 = A3 at *
 obtain ⟨S5, y1, y2, y3, y4, y5, y6⟩ := a3 d3
 have oA3 : A3.s.opn = [] := by
  have e := Q8 W.e3 Fr y2 y3 y5 (Nat.le_refl _) rfl
  rw [Fr.nil] at e
  exact List.eq_nil_of_length_eq_zero e
 obtain ⟨W', w1, w2⟩ := mq d3
 rw [oA3] at w2
 rw [y1] at hk ⊢
 have hS5 : S5.pc = ((p.length + q.length + 2 + 1 + r.length : Nat) : Int) := by have := y2.pc; omega
 have hd5 : doM (qB L) S5 A3.v (qA L ((p.length + q.length + 2 + 1 + r.length : Nat) : Int)) = ⟨(xX A3.v).1, S5.pc + 1, false, { S5 with opn := S5.opn.tail }, (xX A3.v).2⟩ := by rw [W.i19]; rfl
 obtain ⟨m3, hm3, c5, eq5, G6, f6⟩ := Jq FL QL y3 hS5 (by omega) y4 (by rw [hd5]) hk
 rw [hd5] at eq5
 dsimp only at eq5
 rw [Mq w2] at eq5
 rw [eq5, wK (by show S5.pc + 1 = _; omega)]
 obtain ⟨aT, _⟩ := gj es1 Fp FT QT Cp (o0 := []) rfl 400 (s := z6) (S := z6) (V := jL zs 96) ⟨rfl, rfl, rfl, rfl⟩ GT ⟨0, rfl, Nat.zero_le _⟩ (by omega)
 rw [P.e1] at aT
 obtain ⟨T1, t1, t2, t3, t4, t5, t6⟩ := aT P.k1
 have hT1 : T1.pc = ((p.length : Nat) : Int) := by have := t2.pc; omega
 have oT1 : T1.opn = [] := by
  have e := t3.stk
  rw [hT1, Int.toNat_natCast, es3.st] at e
  simpa using e
 have kq : (jB r (qB r) m2 (s2 A1.s) A1.v).kind = 2 := by rw [w1]; exact d3
 have more := K4 (l := r) (mt := qB r) m2 (A1.left - m2) kq
 rw [show m2 + (A1.left - m2) = A1.left by have := P.le; omega, w1] at more
 have SimT : Sim p.length [] (s2 A1.s) T1 := ⟨t2.regs, t2.out, by show T1.pc = 0 + ((p.length : Nat) : Int); omega, by rw [oT1]; rfl⟩
 obtain ⟨a5, _⟩ := gj es3 Fr FT QT Cr rfl A1.left SimT t3 ⟨0, rfl, Nat.zero_le _⟩ t4
 rw [more] at a5
 obtain ⟨T5, v1, v2, v3, v4, v5, v6⟩ := a5 d3
 dsimp only at v1 v2 v5
 have pT5 : T5.pc = T.length := by have := v2.pc; omega
 rw [t1, v1, wK pT5]
 exact ⟨rfl, rfl, v2.regs.trans y2.regs.symm, v2.out.trans y2.out.symm, rfl⟩
end
end Go.Proofs.YtdlfmpmpmkffjaaGreatDoor
namespace Go.Proofs.YtdlfmpmpmkffjaaGreatDoor
open Go Go.Ae
set_option maxRecDepth 100000
theorem Gs {h : AH} {d : Nat} {v : AV} (H : WT Tryz.prog h (d + 3) 43 [v]) : ∃ ks : List qI, Sl (fun b => b < h.nx) h 5 ks.length v (ks.flatMap jj) ∧ ∀ x ∈ ks, 0 ≤ x.2.2.2.2 ∧ x.2.2.2.2 < 18446744073709551616 := by
 obtain ⟨q, xs, S, _, H2⟩ := Kl (sz := 5) Tryz.underlying43 (by kernel_rfl) (by omega) H
 obtain ⟨ks, g1, g3, rfl⟩ := UA (α := qI) (Pr := fun x => 0 ≤ x.2.2.2.2 ∧ x.2.2.2.2 < 18446744073709551616) jj S.len (fun i hi => by
  have := H2 i hi
  generalize (xs.drop (i * 5)).take 5 = row at this
  unfold WT at this
  simp only [Tryz.underlying115] at this
  obtain ⟨g1, g2⟩ := this
  rw [show Tryz.prog.cellsOf 115 = 5 by kernel_rfl] at g1
  match row, g1 with
  | [x, y, z, u, t], _ =>
   have f1 := g2 _ (List.mem_cons_self ..)
   have f2 := g2 _ (List.mem_cons_of_mem _ (List.mem_cons_self ..))
   have f3 := g2 _ (List.mem_cons_of_mem _ (List.mem_cons_of_mem _ (List.mem_cons_self ..)))
   have f4 := g2 _ (List.mem_cons_of_mem _ (List.mem_cons_of_mem _ (List.mem_cons_of_mem _ (List.mem_cons_self ..))))
   have f5 := g2 _ (List.mem_cons_of_mem _ (List.mem_cons_of_mem _ (List.mem_cons_of_mem _ (List.mem_cons_of_mem _ (List.mem_cons_self ..)))))
   rw [show Tryz.prog.cellsOf 3 = 1 by kernel_rfl] at f1 f2 f3 f4
   rw [show Tryz.prog.cellsOf 26 = 1 by kernel_rfl] at f5
   unfold WT at f1 f2 f3 f4 f5
   simp only [Tryz.underlying3, List.drop_zero, List.take_succ_cons, List.take_zero, List.drop_succ_cons] at f1 f2 f3 f4
   simp only [Tryz.underlying26, List.drop_succ_cons, List.drop_zero, List.take_succ_cons, List.take_zero] at f5
   obtain ⟨a, ha, _⟩ := f1
   obtain ⟨b, hb, _⟩ := f2
   obtain ⟨c, hc, _⟩ := f3
   obtain ⟨d, hd, _⟩ := f4
   obtain ⟨e, he, c5⟩ := f5
   cases ha; cases hb; cases hc; cases hd; cases he
   exact ⟨(a, b, c, d, e), ⟨c5.1, Int.lt_of_le_of_lt c5.2 (by decide)⟩, rfl⟩)
 exact ⟨ks, g1 ▸ S, g3⟩
end Go.Proofs.YtdlfmpmpmkffjaaGreatDoor
