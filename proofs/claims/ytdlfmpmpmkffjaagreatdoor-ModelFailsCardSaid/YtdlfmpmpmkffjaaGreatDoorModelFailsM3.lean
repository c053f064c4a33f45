/- Lemmas for 'quietus/quietuslaw22.ModelFails': Programs that are drawn: they may run. The plain law; The words of a heap out of drawn ones; Programs that are drawn: by the books own code; Programs that are drawn: parts shut; all of it; A programs run on a whole heap, as the laws of 21 do it; two that are alike; A program within a greater one: it runs there as it runs alone. The plain law; A program within a greater one: its run. The plain law; ArenaPlays comes to true for every argument: its own walk; ArenaFull comes to true for every argument: its own walk; Cells applied to words by the program (Apply.lean turned to the view layer); Blocks given back: by the program, by the documents own text; A program run whole on words: by the programs own code; Programs joined; a program of one instruction: by the books own code; A program whose last instruction fails. The plain law; A program that is drawn, as an argument; ModelFails comes to true for every argument: its own walk. No condition. -/
import Derived.Test.YtdlfmpmpmkffjaaGreatDoorModelFailsM2
import Derived.Test.YtdlfmpmpmkffjaaGreatDoorModelFailsM1
namespace Go.Proofs.YtdlfmpmpmkffjaaGreatDoor
open Go Go.Ae
theorem w8 {l t : List qb} {j : Nat} (h : j < l.length) : qF (l ++ t) (j : Int) = qF l (j : Int) := by
 unfold qF
 rw [Int.toNat_natCast, List.getElem?_append_left h]
theorem gS {l t : List qb} {k : Nat} {x : qb} (h : t[k]? = some x) : qF (l ++ t) ((l.length + k : Nat) : Int) = x := by
 unfold qF
 rw [Int.toNat_natCast, List.getElem?_append_right (by omega), show l.length + k - l.length = k by omega, h]; rfl
theorem yp {l t : List qb} : ∀ i, i ≤ l.length → qA (l ++ t) i = qA l i := by
 intro i
 induction i with
 | zero => intro _; rfl
 | succ i ih =>
  intro h
  rw [jk, jk, ih (by omega), w8 (by omega)]
theorem qQC {l t : List qb} {st : List Int} (h : StOk l.length st) : opM (l ++ t) st = opM l st := by
 unfold opM
 by_cases h0 : st = []
 ·rw [if_pos h0, if_pos h0]
 ·rw [if_neg h0, if_neg h0]
  have hb := h.inmost h0
  obtain ⟨p, hp⟩ : ∃ p : Nat, jV st = p := ⟨(jV st).toNat, by omega⟩
  rw [hp, w8 (by omega)]
theorem YZ {l t : List qb} {st : List Int} {x : qb} (h : StOk l.length st) : jo (l ++ t) st x = jo l st x := by
 unfold jo
 rw [qQC h]
theorem StOk.mono {i j : Nat} {st : List Int} (h : StOk i st) (hij : i ≤ j) : StOk j st := fun y hy => by have := h y hy; omega
def NR (l : List qb) (calm : Bool) (j : Nat) (x : qb) : Prop := (x.1 = 12 ∨ x.1 = 13) → ∃ c : Nat, x.2.2.2.1 = c ∧ c ≤ l.length ∧ qA l c = qA l j ∧ (calm = true → j < c)
structure QA (calm : Bool) (x : qb) : Prop where
  may : xn x = true
  no : x.1 ≠ 23
  n : 0 ≤ x.2.2.2.2 ∧ x.2.2.2.2 < 18446744073709551616
  cal : calm = true → x.1 ≠ 20 ∧ x.1 ≠ 22 ∧ x.1 ≠ 12
structure Bld (calm : Bool) (l : List qb) (st : List Int) : Prop where
  ok : ∀ x ∈ l, QA calm x
  wr : ∀ j, j < l.length → jo l (qA l j) (qF l j) = 0
  top : qA l l.length = st
  jp : ∀ j, j < l.length → NR l calm j (qF l j)
  five : st.length ≤ 5
def jF (l : List qb) (st : List Int) : List Int := st.map fun p => (qF l p).1
theorem w4 {l t : List qb} {st : List Int} (h : StOk l.length st) : jF (l ++ t) st = jF l st := by
 unfold jF
 refine List.map_congr_left fun p hp => ?_
 have := h p hp
 obtain ⟨q, rfl⟩ : ∃ q : Nat, p = q := ⟨p.toNat, by omega⟩
 rw [w8 (by omega)]
theorem Bld.stok {calm : Bool} {l : List qb} {st : List Int} (B : Bld calm l st) : StOk l.length st := by rw [← B.top]; exact (Q2 l.length).1
theorem Bld.nil (calm : Bool) : Bld calm [] [] := ⟨fun x hx => (by cases hx), fun j hj => (by simp at hj), rfl, fun j hj => (by simp at hj), (by simp)⟩
theorem Bld.ext {calm : Bool} {l t : List qb} {st : List Int} (B : Bld calm l st) (h1 : ∀ x ∈ t, QA calm x) (h2 : ∀ k, k < t.length → jo (l ++ t) (qA (l ++ t) (l.length + k)) (qF (l ++ t) ((l.length + k : Nat) : Int)) = 0)
  (h3 : ∀ k, k < t.length → NR (l ++ t) calm (l.length + k) (qF (l ++ t) ((l.length + k : Nat) : Int))) (h5 : (qA (l ++ t) (l ++ t).length).length ≤ 5) : Bld calm (l ++ t) (qA (l ++ t) (l ++ t).length) := by
 refine ⟨?_, ?_, rfl, ?_, h5⟩
 ·intro x hx
  rcases List.mem_append.1 hx with hx | hx
  ·exact B.ok x hx
  ·exact h1 x hx
 ·intro j hj
  by_cases hjl : j < l.length
  ·rw [yp j (by omega), w8 hjl, YZ ((Q2 j).1.mono (by omega))]
   exact B.wr j hjl
  ·have := h2 (j - l.length) (by simp at hj; omega)
   rwa [show l.length + (j - l.length) = j by omega] at this
 ·intro j hj
  by_cases hjl : j < l.length
  ·intro ho
   rw [w8 hjl] at ho ⊢
   obtain ⟨c, c1, c2, c3, c4⟩ := B.jp j hjl ho
   exact ⟨c, c1, by simp; omega, by rw [yp c c2, yp j (by omega)]; exact c3, c4⟩
  ·have := h3 (j - l.length) (by simp at hj; omega)
   rwa [show l.length + (j - l.length) = j by omega] at this
theorem V7 {l : List qb} {x : qb} : qA (l ++ [x]) (l.length + 1) = jq (qA l l.length) l.length x.1 := by
 have e := gS (l := l) (t := [x]) (k := 0) (x := x) rfl
 rw [Nat.add_zero] at e
 rw [jk, yp _ (Nat.le_refl _), e]
theorem Bld.app {calm : Bool} {l : List qb} {st : List Int} (B : Bld calm l st) {x : qb} (h1 : QA calm x) (h2 : jo l st x = 0) (h3 : x.1 ≠ 12 ∧ x.1 ≠ 13) (h5 : (jq st l.length x.1).length ≤ 5) : Bld calm (l ++ [x]) (jq st l.length x.1) := by
 have e := gS (l := l) (t := [x]) (k := 0) (x := x) rfl
 rw [Nat.add_zero] at e
 have hs : qA (l ++ [x]) (l ++ [x]).length = jq st l.length x.1 := by
  rw [List.length_append, List.length_singleton, V7, B.top]
 rw [← hs] at h5 ⊢
 refine B.ext (by intro y hy; rw [List.mem_singleton] at hy; subst hy; exact h1) ?_ ?_ h5
 ·intro k hk
  obtain rfl : k = 0 := by simpa using hk
  rw [Nat.add_zero, e, yp _ (Nat.le_refl _), B.top, YZ B.stok]
  exact h2
 ·intro k hk
  obtain rfl : k = 0 := by simpa using hk
  rw [Nat.add_zero, e]
  intro ho
  omega
def Flat (op : Int) : Prop := op ≠ 14 ∧ op ≠ 15 ∧ op ≠ 16 ∧ op ≠ 17 ∧ op ≠ 18 ∧ op ≠ 19
theorem Flat.behind {op : Int} (h : Flat op) (st : List Int) (i : Int) : jq st i op = st := by
 obtain ⟨h1, h2, h3, h4, h5, h6⟩ := h
 unfold jq
 rw [if_neg (by unfold zG; simp; omega), if_neg (by unfold jR; rw [if_neg h2, if_neg h5, if_neg h6]; omega)]
theorem Flat.wrong {x : qb} (h : Flat x.1) (hm : xn x = true) (l : List qb) (st : List Int) : jo l st x = 0 := by
 obtain ⟨h1, h2, h3, h4, h5, h6⟩ := h
 unfold jo
 rw [if_neg (by rw [hm]; simp), if_neg (fun hh => by have := hh.1; unfold jR at this; rw [if_neg h2, if_neg h5, if_neg h6] at this; omega), if_neg (fun hh => h3 hh.1),
  if_neg (fun hh => by have := hh.1; unfold zG at this; simp at this; omega)]
theorem Bld.flat {calm : Bool} {l : List qb} {st : List Int} (B : Bld calm l st) {x : qb} (h1 : QA calm x) (hf : Flat x.1) (h3 : x.1 ≠ 12 ∧ x.1 ≠ 13) : Bld calm (l ++ [x]) st := by
 have := B.app h1 (hf.wrong h1.may l st) h3 (by rw [hf.behind]; exact B.five)
 rwa [hf.behind] at this
theorem Bld.two {calm : Bool} {l : List qb} {st : List Int} (B : Bld calm l st) {x y : qb} (hx : QA calm x) (hy : QA calm y) (fx : Flat x.1) (fy : Flat y.1)
  (jx : (x.1 = 12 ∨ x.1 = 13) → x.2.2.2.1 = ((l.length + 2 : Nat) : Int)) (jy : (y.1 = 12 ∨ y.1 = 13) → y.2.2.2.1 = (l.length : Int) ∧ calm = false) : Bld calm (l ++ [x, y]) st := by
 have e0 := gS (l := l) (t := [x, y]) (k := 0) (x := x) rfl
 have e1 := gS (l := l) (t := [x, y]) (k := 1) (x := y) rfl
 rw [Nat.add_zero] at e0
 have s0 : qA (l ++ [x, y]) l.length = st := by rw [yp _ (Nat.le_refl _), B.top]
 have s1 : qA (l ++ [x, y]) (l.length + 1) = st := by rw [jk, s0, e0, fx.behind]
 have s2 : qA (l ++ [x, y]) (l.length + 2) = st := by rw [show l.length + 2 = l.length + 1 + 1 from rfl, jk, s1, e1, fy.behind]
 have hs : qA (l ++ [x, y]) (l ++ [x, y]).length = st := by rw [List.length_append]; exact s2
 have := B.ext (t := [x, y]) (by intro z hz; simp at hz; rcases hz with rfl | rfl; exact hx; exact hy) (fun k hk => by
  have hk : k = 0 ∨ k = 1 := by simp at hk; omega
  rcases hk with rfl | rfl
  ·rw [Nat.add_zero, e0]; exact fx.wrong hx.may _ _
  ·rw [e1]; exact fy.wrong hy.may _ _) (fun k hk => by
  have hk : k = 0 ∨ k = 1 := by simp at hk; omega
  rcases hk with rfl | rfl
  ·rw [Nat.add_zero, e0]
   intro ho
   exact ⟨l.length + 2, jx ho, by simp, by rw [s2, s0], fun _ => by omega⟩
  ·rw [e1]
   intro ho
   obtain ⟨a, b⟩ := jy ho
   exact ⟨l.length, a, by simp, by rw [s0, s1], fun h => by rw [b] at h; cases h⟩) (by rw [hs]; exact B.five)
 rwa [hs] at this
abbrev one (op : Int) : qb := (op, 0, 0, 0, 0)
theorem Km (calm : Bool) {op : Int} (h : op = 14 ∨ op = 15 ∨ op = 16 ∨ op = 17 ∨ op = 18 ∨ op = 19) : QA calm (one op) := by
 refine ⟨?_, by dsimp only; omega, by dsimp only; omega, fun _ => by dsimp only; omega⟩
 rcases h with rfl | rfl | rfl | rfl | rfl | rfl <;> decide
theorem Bld.begin {calm : Bool} {l : List qb} {st : List Int} (B : Bld calm l st) {op : Int} (h : op = 14 ∨ op = 17) (h5 : st.length < 5) : Bld calm (l ++ [one op]) (st ++ [(l.length : Int)]) ∧ jF (l ++ [one op]) (st ++ [(l.length : Int)]) = jF l st ++ [op] := by
 have hb : jq st l.length op = st ++ [(l.length : Int)] := by
  unfold jq
  rw [if_pos (.inl (by unfold zG; exact decide_eq_true h)), if_neg (by rcases h with rfl | rfl <;> decide)]
 have hw : jo l st (one op) = 0 := by
  unfold jo
  rw [if_neg (by rcases h with rfl | rfl <;> decide), if_neg (fun hh => by have := hh.1; rcases h with rfl | rfl <;> exact absurd this (by decide)), if_neg (fun hh => by have := hh.1; dsimp only at this; omega), if_neg (by omega)]
 have := B.app (x := one op) (Km calm (by omega)) hw (by dsimp only; omega) (by rw [hb]; simp; omega)
 rw [hb] at this
 refine ⟨this, ?_⟩
 unfold jF
 rw [List.map_append]
 congr 1
 ·exact w4 B.stok
 ·have e := gS (l := l) (t := [one op]) (k := 0) (x := one op) rfl
  rw [Nat.add_zero] at e
  rw [List.map_singleton, e]
theorem Bld.undo {calm : Bool} {l : List qb} {st : List Int} (B : Bld calm l st) (h : opM l st = 14) : Bld calm (l ++ [one 16]) st := by
 have hb : jq st l.length 16 = st := by
  unfold jq
  rw [if_neg (by decide), if_neg (by decide)]
 have hw : jo l st (one 16) = 0 := by
  unfold jo
  rw [if_neg (by decide), if_neg (fun hh => absurd hh.1 (by decide)), if_neg (fun hh => hh.2 h), if_neg (fun hh => absurd hh.1 (by decide))]
 have := B.app (x := one 16) (Km calm (by omega)) hw (by decide) (by rw [hb]; exact B.five)
 rwa [hb] at this
def xd (o : Int) : Int := if o = 14 then 15 else if o = 17 then 18 else 19
def gL (l : List qb) (st : List Int) : List qb := l ++ [one (xd (opM l st))]
def kq (l : List qb) (st : List Int) : List Int := if opM l st = 17 then st.dropLast ++ [(l.length : Int)] else st.dropLast
theorem Bld.shut {calm : Bool} {l : List qb} {st : List Int} (B : Bld calm l st) (hn : st ≠ []) (ho : opM l st = 14 ∨ opM l st = 17 ∨ opM l st = 18) : Bld calm (gL l st) (kq l st) ∧
  jF (gL l st) (kq l st) = (jF l st).dropLast ++ (if opM l st = 17 then [18] else []) := by
 have hs : jR (xd (opM l st)) = opM l st := by rcases ho with h | h | h <;> rw [h] <;> decide
 have hso : xd (opM l st) = 15 ∨ xd (opM l st) = 18 ∨ xd (opM l st) = 19 := by
  unfold xd
  repeat' split
  all_goals omega
 have he : 0 < jR (xd (opM l st)) := by rw [hs]; omega
 have hlen := List.length_pos_iff.2 hn
 have hb : jq st l.length (xd (opM l st)) = kq l st := by
  unfold jq kq
  rw [if_pos he]
  by_cases h17 : opM l st = 17
  ·rw [if_pos h17, if_pos (.inr (by rw [h17]; decide))]
  ·rw [if_neg h17, if_neg]
   rcases ho with h | h | h
   ·rw [h]; decide
   ·exact absurd h h17
   ·rw [h]; decide
 have hw : jo l st (one (xd (opM l st))) = 0 := by
  unfold jo
  rw [if_neg (by rcases hso with h | h | h <;> rw [h] <;> decide), if_neg (fun hh => hh.2 hs.symm), if_neg (fun hh => by have := hh.1; dsimp only at this; omega), if_neg (fun hh => by
   have := hh.1
   rcases hso with h | h | h <;> rw [h] at this <;> exact absurd this (by decide))]
 have h5 := B.five
 have := B.app (x := one (xd (opM l st))) (Km calm (by omega)) hw (by dsimp only; omega) (by rw [hb]; unfold kq; split <;> simp <;> omega)
 rw [hb] at this
 refine ⟨this, ?_⟩
 unfold gL kq jF
 have hd : (st.dropLast.map fun p => (qF (l ++ [one (xd (opM l st))]) p).1) = (jF l st).dropLast := by
  have := w4 (t := [one (xd (opM l st))]) B.stok.dropLast
  unfold jF at this ⊢
  rw [this, List.map_dropLast]
 split
 ·rename_i h17
  have e := gS (l := l) (t := [one (xd (opM l st))]) (k := 0) (x := one (xd (opM l st))) rfl
  rw [Nat.add_zero] at e
  rw [List.map_append, hd, List.map_singleton, e, h17]; rfl
 ·rw [hd, List.append_nil]; rfl
theorem GN {l : List qb} {st : List Int} (hn : st ≠ []) : opM l st = (jF l st).getLast?.getD 0 := by
 unfold opM jF jV
 rw [if_neg hn, List.getLast?_map, List.getLast?_eq_some_getLast hn]; rfl
theorem Bld.fit {calm : Bool} {l : List qb} (B : Bld calm l []) (h0 : 0 < l.length) (h40 : l.length ≤ 40) : xv l = (0, 0) := by
 have key : ∀ d i, i + d = l.length → goM l (l.drop i) i (qA l i) = .inr [] := by
  intro d
  induction d with
  | zero =>
   intro i hi
   obtain rfl : i = l.length := by omega
   rw [List.drop_length, B.top]; rfl
  | succ d ih =>
   intro i hi
   have hlt : i < l.length := by omega
   rw [Qq hlt]
   have hw := B.wr i hlt
   rw [zP hlt] at hw
   rw [if_pos hw]
   have := ih (i + 1) (by omega)
   rw [jk, zP hlt] at this
   exact this
 have hg := key l.length 0 (by omega)
 have hreg : ∀ j, j < l.length → (xf l 0 [])[j]? = some (jV (qA l j)) := fun j hj => by
  have := XO (l := l) l.length 0 (by omega) j (by omega)
  rw [Nat.zero_add] at this
  exact this
 have hnum : ∀ j : Nat, j < l.length → qd (xf l 0 []) (j : Int) = jV (qA l j) := fun j hj => by
  unfold qd; rw [Int.toNat_natCast, hreg j hj]; rfl
 have hj : ∀ d i, i + d = l.length → wS l (xf l 0 []) (l.drop i) i = (0, 0) := by
  intro d
  induction d with
  | zero =>
   intro i hi
   obtain rfl : i = l.length := by omega
   rw [List.drop_length]; rfl
  | succ d ih =>
   intro i hi
   have hlt : i < l.length := by omega
   rw [kT hlt, if_neg, ih (i + 1) (by omega)]
   rintro ⟨ho, hc⟩
   have hB := B.jp i hlt
   rw [zP hlt] at hB
   obtain ⟨c, c1, c2, c3, _⟩ := hB ho
   rw [c1] at hc
   rcases hc with hc | ⟨hc, hc2⟩ | ⟨hc, hc2⟩
   ·omega
   ·have : c = l.length := by omega
    subst this
    rw [B.top] at c3
    rw [hnum i hlt, ← c3] at hc2
    exact hc2 rfl
   ·rw [hnum c (by omega), hnum i hlt, c3] at hc2
    exact hc2 rfl
 unfold xv
 rw [if_neg (by omega)]
 have hg2 : goM l l 0 [] = .inr [] := hg
 rw [hg2]
 dsimp only
 rw [if_pos rfl]
 exact hj l.length 0 (by omega)
end Go.Proofs.YtdlfmpmpmkffjaaGreatDoor
namespace Go.Proofs.YtdlfmpmpmkffjaaGreatDoor
open Go Go.Ae
set_option maxRecDepth 100000
variable {g h : AH} {L R : List SP}
def OkN (zs : List Int) : Prop := ∀ z ∈ zs, 0 ≤ z ∧ z < 18446744073709551616
theorem OkN.set {zs : List Int} {i : Nat} {x : Int} (h : OkN zs) (hx : 0 ≤ x ∧ x < 18446744073709551616) : OkN (zs.set i x) := by
 intro z hz
 rcases List.mem_or_eq_of_mem_set hz with h1 | rfl
 ·exact h z h1
 ·exact hx
theorem Qr {u x : Bool} {r : AV} {K : AV → Go.Ae.R} {Q : AV → AH → Prop} (hr : u = true → r = .bool x) (w : wp (K (.bool (u && x))) Q) : wp (qn (.bool u) r (.bool false) K) Q := by
 cases u
 ·exact w
 ·rw [hr rfl]; exact w
theorem NE {k : IntKind} {a b : Int} {K : AV → Go.Ae.R} {Q : AV → AH → Prop} (w : ∀ z : Int, wp (K (.int k z)) Q) : wp (qq .and (.int k a) (.int k b) K) Q := by
 rw [vU]; simp only [vt]; exact w _
def tw (c : Int) : Int := zq .i64 (1 * 2 ^ (min c.toNat (IntKind.bits .i64)))
theorem tw_b {c : Int} (h : 1 ≤ c ∧ c ≤ 3) : 2 ≤ tw c ∧ tw c ≤ 8 := by
 obtain rfl | rfl | rfl : c = 1 ∨ c = 2 ∨ c = 3 := by omega
 all_goals decide
theorem Na {x lo hi : Int} (h : lo ≤ hi) : lo ≤ jb x lo hi ∧ jb x lo hi ≤ hi := by
 unfold jb
 have := wK x (show 0 < hi - lo + 1 by omega)
 split <;> omega
def OkZ (zs : List Int) : Prop := OkN zs ∧ zs[0]? = some 0
theorem OkZ.set {zs : List Int} {i : Nat} {x : Int} (h : OkZ zs) (hx : 0 ≤ x ∧ x < 18446744073709551616) (hi : 0 < i) : OkZ (zs.set i x) := ⟨h.1.set hx, by rw [List.getElem?_set_ne (by omega)]; exact h.2⟩
theorem Ut {n : Nat} (hn : 2 ≤ n) {x : Int} {rv bv : AV} {rs bs : List Int} (H : HS g h R) (SR : Rd g R 1 rs.length rv (rs.map (.int .u64))) (hr : ∀ z ∈ rs, 0 ≤ z ∧ z < 18446744073709551616) (S : Rd g R 1 bs.length bv (bs.map (.int .u8))) (hb : ∀ z ∈ bs, 0 ≤ z ∧ z ≤ 255) :
  wp (callT tab qU n (.fn 22 [] []) [.int .i64 x, rv, bv] h) fun r h' => ∃ zs, OkN zs ∧ zs[0]? = some 0 ∧ 32 ≤ zs.length ∧ zs.length ≤ 80 ∧ shut r = true ∧ J0 r ∧ HS g h' (qL 26 1 zs.length r (zs.map (.int .u64)) :: R) := by
 (refine qt (g := W22) rfl (by omega) fun k hk => ?_; show wp (S22 (callT tab qU k) _ _ _ _) _; unfold S22; try simp only [iI, uU, Int.ofNat_eq_natCast])
 refine qx (x7 (by omega) (by omega) (by omega) (by omega)) ?_
 rintro _ _ ⟨rfl, rfl⟩
 have hwb := Na (x := x) (lo := ((32 : Nat) : Int)) (hi := ((80 : Nat) : Int)) (by omega)
 obtain ⟨n, hn⟩ : ∃ n : Nat, jb x ((32 : Nat) : Int) ((80 : Nat) : Int) = (n : Int) := ⟨_, (Int.toNat_of_nonneg (by omega)).symm⟩
 rw [hn] at hwb ⊢
 refine Jj (Nat.le_refl _) (by omega) fun b h3 hb3 A F => ?_
 have H3 : HS g h3 (qL 26 1 n (.slice b 0 n n false) ((List.replicate n (0 : Int)).map (.int .u64)) :: R) := by
  refine H.add (D' := fun a => a = b) F.none ⟨by simp, .inr ⟨b, n, false, _, rfl, fun a => Iff.rfl, A, by rw [xl]; simp, ?_, ?_⟩⟩ ?_
  ·rw [List.take_of_length_le (by rw [xl]; simp), Qw, List.map_replicate]; rfl
  ·rw [if_neg (by simp)]; exact ⟨by rw [xl]; rfl, Nat.le_refl _⟩
  ·rintro a rfl; exact ⟨hb3, A.lt⟩
 have z0 : OkZ (List.replicate n (0 : Int)) := ⟨by intro z hz; rw [List.eq_of_mem_replicate hz]; omega, by rw [List.getElem?_replicate, if_pos (by omega)]⟩
 have hsh : shut (.slice b 0 n n false) = true := rfl
 have hro : J0 (.slice b 0 n n false) := Nat.le_refl n
 generalize AV.slice b 0 n n false = wv at *
 clear H F A
 refine vi (i := 5) H3 (by omega) ⟨rfl, rfl⟩ fun h4 H => ?_
 rw [← List.map_set] at H
 have z1 := z0.set (i := 5) (x := ((14 : Nat) : Int)) (by omega) (by omega)
 have l1 : ((List.replicate n (0 : Int)).set 5 ((14 : Nat) : Int)).length = n := by simp
 generalize (List.replicate n (0 : Int)).set 5 ((14 : Nat) : Int) = zs at *
 clear z0 H3
 refine jm (fun m s h' => ∃ (i : Nat) (zs : List Int), s = (.int .i64 (i : Int), wv, bv, rv, ()) ∧ i ≤ 8 ∧ m = 8 - i ∧ OkZ zs ∧ zs.length = n ∧ HS g h' (qL 26 1 n wv (zs.map (.int .u64)) :: R))
  ?_ (m := 8) (by show 8 < 1000000000; omega) ⟨0, zs, rfl, by omega, by omega, z1, l1, H⟩
 clear H z1 l1 zs
 rintro m ih s h4 hih ⟨i, zs, rfl, hi8, rfl, z1, l1, H⟩
 dsimp only
 refine zy (SR.sl H.drop) (gP ?_)
 refine Jg (fun s g' => ∃ (r : AV) (u x : Bool), s = (r, .bool u, .int .i64 (i : Int), wv, bv, rv, ()) ∧ g' = h4 ∧ (u = true → r = .bool x) ∧ ((u && x) = decide (i < rs.length ∧ i < 8))) ?_ ?_
 ·intro j hj
  refine Uu (fun hl => gP (hj _ _ ⟨_, _, decide (i < 8), rfl, rfl, fun _ => (by congr 1; exact decide_eq_decide.2 (by omega)), ?_⟩)) (fun hl => hj _ _ ⟨_, _, false, rfl, rfl, fun h => absurd (of_decide_eq_true h) hl, ?_⟩)
  ·have hl' : i < rs.length := by omega
   simp [hl']
  ·have hl' : ¬ i < rs.length := by omega
   simp [hl']
 rintro s h4 ⟨r, u, x2, rfl, rfl, hr2, hux⟩
 refine Qr hr2 ?_
 rw [hux]
 dsimp only
 clear hr2 hux
 refine Y8 (fun hi => ?_) fun hi => ?_
 ·have hci : (rs.map (AV.int .u64))[i]? = some (.int .u64 rs[i]) := by rw [List.getElem?_map, List.getElem?_eq_getElem hi.1]; rfl
  have hbi := hr rs[i] (List.getElem_mem hi.1)
  have hb1 := Int.tmod_nonneg ((90 : Nat) : Int) hbi.1
  have hb2 := Int.tmod_lt_of_pos rs[i] (show 0 < ((90 : Nat) : Int) by omega)
  refine ql (by omega) (jn (SR.sl H.drop) hci (wY (by omega) ?_))
  rw [show ((6 : Nat) : Int) + (i : Int) = ((6 + i : Nat) : Int) by omega]
  refine vi H (by omega) ⟨rfl, rfl⟩ fun h6 H6 => ?_
  rw [← List.map_set] at H6
  exact ql (by omega) (hih (8 - (i + 1)) _ _ (by omega) ⟨i + 1, _, rfl, by omega, rfl, z1.set (by omega) (by omega), by simp [l1], H6⟩)
 ·refine zl [] (fun s h' => s = (wv, ()) ∧ ∃ zs, OkZ zs ∧ zs.length = n ∧ HS g h' (qL 26 1 n wv (zs.map (.int .u64)) :: R)) ?_ ?_
  ·intro j hj
   refine jm (fun m s h' => ∃ (i : Nat) (at' : Int) (zs : List Int), s = (.int .i64 (i : Int), .int .i64 at', wv, bv, ()) ∧ i ≤ 8 ∧ m = 8 - i ∧ 14 ≤ at' ∧ at' ≤ n ∧ OkZ zs ∧ zs.length = n ∧ HS g h' (qL 26 1 n wv (zs.map (.int .u64)) :: R))
    ?_ (m := 8) (by show 8 < 1000000000; omega) ⟨0, ((14 : Nat) : Int), zs, rfl, by omega, by omega, by omega, by omega, z1, l1, H⟩
   clear H z1 l1 hih zs ih
   rintro m ih s h5 hih ⟨i, a, zs, rfl, hi8, rfl, ha, ha2, hz, hl, H⟩
   dsimp only
   refine zy (S.sl H.drop) (gP ?_)
   refine Jg (fun s g' => ∃ (r : AV) (u x : Bool), s = (r, .bool u, .int .i64 (i : Int), .int .i64 a, wv, bv, ()) ∧ g' = h5 ∧ (u = true → r = .bool x) ∧ ((u && x) = decide (i < bs.length ∧ i < 8))) ?_ ?_
   ·intro j hj
    refine Uu (fun hl => gP (hj _ _ ⟨_, _, decide (i < 8), rfl, rfl, fun _ => (by congr 1; exact decide_eq_decide.2 (by omega)), ?_⟩)) (fun hl => hj _ _ ⟨_, _, false, rfl, rfl, fun h => absurd (of_decide_eq_true h) hl, ?_⟩)
    ·have hl' : i < bs.length := by omega
     simp [hl']
    ·have hl' : ¬ i < bs.length := by omega
     simp [hl']
   rintro s h5 ⟨r, u, x, rfl, rfl, hr, hux⟩
   refine Qr hr ?_
   rw [hux]
   dsimp only
   refine Y8 (fun hi => ?_) fun hi => hj _ _ ⟨rfl, zs, hz, hl, H⟩
   have hci : (bs.map (AV.int .u8))[i]? = some (.int .u8 bs[i]) := by rw [List.getElem?_map, List.getElem?_eq_getElem hi.1]; rfl
   have hbi := hb bs[i] (List.getElem_mem hi.1)
   have hb1 := Int.tmod_nonneg ((3 : Nat) : Int) hbi.1
   have hb2 := Int.tmod_lt_of_pos bs[i] (show 0 < ((3 : Nat) : Int) by omega)
   refine jn (S.sl H.drop) hci (wY (by omega) (zD (by omega) (ql (by omega) ?_)))
   obtain ⟨c, hc⟩ : ∃ c, c = Int.tmod bs[i] ((3 : Nat) : Int) + ((1 : Nat) : Int) := ⟨_, rfl⟩
   rw [← hc]
   have hcb : 1 ≤ c ∧ c ≤ 3 := by omega
   have htw := tw_b hcb
   refine ql (by omega) (xJ (by omega) (Ug (by omega) ?_))
   show wp (qq .add _ (.int .i64 (tw c)) _) _
   refine ql (by omega) (jH H .here (xO (fun hg => qY (hj _ _ ⟨rfl, zs, hz, hl, H⟩)) fun hg => qQ ?_))
   obtain ⟨p, rfl⟩ : ∃ p : Nat, a = (p : Int) := ⟨a.toNat, by omega⟩
   refine xJ (by omega) ?_
   refine vi H (by omega) ⟨rfl, rfl⟩ fun h6 H => ?_
   rw [← List.map_set] at H
   have hz2 := hz.set (i := p) (x := c) (by omega) (by omega)
   have hl2 : (zs.set p c).length = n := by simp [hl]
   generalize zs.set p c = zs2 at *
   clear hz hl
   refine zl [] (fun s h' => s = (.int .i64 c, .int .i64 (i : Int), .int .i64 (p : Int), wv, bv, ()) ∧ ∃ zs, OkZ zs ∧ zs.length = n ∧ HS g h' (qL 26 1 n wv (zs.map (.int .u64)) :: R)) ?_ ?_
   ·intro j hj
    refine jn (S.sl H.drop) hci (NE fun z => ?_)
    refine xO (fun _ => qY ?_) fun _ => qQ ?_
    ·refine ql (by omega) (xJ (by omega) ?_)
     refine vi H (by omega) ⟨rfl, rfl⟩ fun h7 H7 => ?_
     rw [← List.map_set] at H7
     exact hj _ _ ⟨rfl, _, hz2.set (by omega) (by omega), by simp [hl2], H7⟩
    ·refine jn (S.sl H.drop) hci (NE fun z => ?_)
     refine xO (fun _ => qY ?_) fun _ => qQ (hj _ _ ⟨rfl, zs2, hz2, hl2, H⟩)
     refine ql (by omega) (ql (by omega) (jT (by omega) ?_))
     obtain ⟨d, hd⟩ : ∃ d : Nat, ((1 : Nat) : Int) + c - ((1 : Nat) : Int) = (d : Int) := ⟨c.toNat, by omega⟩
     rw [hd]
     have hdn : d < zs2.length := by omega
     refine jn (x := .int .u64 zs2[d]) (H.sl .here) (by rw [List.getElem?_map, List.getElem?_eq_getElem hdn]; rfl) ?_
     rw [show (p : Int) + ((1 : Nat) : Int) = ((p + 1 : Nat) : Int) by omega]
     refine vi H (by omega) ⟨rfl, rfl⟩ fun h7 H7 => ?_
     rw [← List.map_set] at H7
     refine ql (by omega) (jT (by omega) (ql (by omega) (xJ (by omega) ?_)))
     rw [hd]
     refine vi H7 (by omega) ⟨rfl, rfl⟩ fun h8 H8 => ?_
     rw [← List.map_set] at H8
     exact hj _ _ ⟨rfl, _, (hz2.set (hz2.1 zs2[d] (List.getElem_mem hdn)) (by omega)).set (by omega) (by omega), by simp [hl2], H8⟩
   rintro s h7 ⟨rfl, zs3, hz3, hl3, H⟩
   dsimp only
   refine ql (by omega) (xJ (by omega) (Ug (by omega) ?_))
   show wp (qq .add _ (.int .i64 (tw c)) _) _
   refine ql (by omega) (xJ (by omega) ?_)
   refine vi (i := 5) H (by omega) ⟨rfl, rfl⟩ fun h8 H8 => ?_
   rw [← List.map_set] at H8
   refine ql (by omega) (hih (8 - (i + 1)) _ _ (by omega) ⟨i + 1, _, _, rfl, by omega, rfl, by omega, by omega, hz3.set (by omega) (by omega), by simp [hl3], H8⟩)
  rintro s h5 ⟨rfl, zs, hz, hl, H⟩
  dsimp only
  refine qI (qk ⟨zs, hz.1, hz.2, by omega, by omega, hsh, hro, ?_⟩)
  rw [hl]
  exact H
end Go.Proofs.YtdlfmpmpmkffjaaGreatDoor
namespace Go.Proofs.YtdlfmpmpmkffjaaGreatDoor
open Go Go.Ae
set_option maxRecDepth 100000
variable {g h : AH} {L R : List SP}
def zH (lv : AV) (l : List qb) : SP := qL 28 5 l.length lv (l.flatMap jW)
def kC (ov : AV) (o : List Int) : SP := qL 3 1 o.length ov (o.map (.int .i64))
theorem wm {n : Nat} (hn : 2 ≤ n) {x : Int} : wp (callT tab qU n (.fn 58 [] []) [.int .i64 x] h) fun v h' => v = .int .i64 (jb x 0 6) ∧ h' = h := by
 (refine qt (g := W58) rfl (by omega) fun k hk => ?_; show wp (S58 (callT tab qU k) _ _) _; unfold S58; try simp only [iI, uU, Int.ofNat_eq_natCast])
 refine qx (x7 (by omega) (by omega) (by omega) (by omega)) ?_
 rintro _ _ ⟨rfl, rfl⟩
 exact qk ⟨rfl, rfl⟩
theorem y0 {l : List qb} {lv : AV} {t : List qb} {tv : AV} {K2 : AV → AH → Go.Ae.R} {Q : AV → AH → Prop} {D' : Nat → Prop} (H : HS g h (zH lv l :: R)) (S : Sl D' h 5 t.length tv (t.flatMap jW)) (hl : l.length + t.length ≤ 100000)
  (w : ∀ v' h', HS g h' (zH v' (l ++ t) :: R) → wp (K2 v' h') Q) : wp (jX h 28 5 lv tv K2) Q := by
 refine zr H S (by omega) (by omega) (Qm t) fun v' h' H' => w v' h' ?_
 unfold zH
 rw [List.length_append, List.flatMap_append]
 exact H'
theorem OP {a n : Int} (h : 0 ≤ a ∧ a ≤ 7) : xn (1, a, 0, 0, n) = true := by simp [xn, jC, xm]; omega
theorem may_2 {a b : Int} (h : 0 ≤ a ∧ a ≤ 7) (h2 : 0 ≤ b ∧ b ≤ 7) : xn (2, a, b, 0, 0) = true := by simp [xn, jC, xm]; omega
theorem may_3 {o a b c : Int} (ho : 3 ≤ o ∧ o ≤ 7) (h : 0 ≤ a ∧ a ≤ 7) (h2 : 0 ≤ b ∧ b ≤ 7) (h3 : 0 ≤ c ∧ c ≤ 7) : xn (o, a, b, c, 0) = true := by
 rcases (show o = 3 ∨ o = 4 ∨ o = 5 ∨ o = 6 ∨ o = 7 by omega) with rfl | rfl | rfl | rfl | rfl <;> (simp [xn, jC, xm]; omega)
theorem QV {o a b c : Int} (ho : o = 8 ∨ o = 9) (h : 0 ≤ a ∧ a ≤ 7) (h2 : 0 ≤ b ∧ b ≤ 7) (h3 : 0 ≤ c ∧ c ≤ 15) : xn (o, a, b, c, 0) = true := by
 rcases ho with rfl | rfl <;> (simp [xn, jC, xm]; omega)
theorem Om {a b : Int} (h : 0 ≤ a ∧ a ≤ 7) (h2 : 0 ≤ b ∧ b ≤ 7) : xn (10, a, b, 0, 0) = true := by simp [xn, jC, xm]; omega
theorem ZW {o a : Int} (ho : o = 11 ∨ o = 21) (h : 0 ≤ a ∧ a ≤ 7) : xn (o, a, 0, 0, 0) = true := by
 rcases ho with rfl | rfl <;> (simp [xn, jC, xm]; omega)
theorem OB {a c : Int} (h : 0 ≤ a ∧ a ≤ 7) (h3 : 0 ≤ c ∧ c ≤ 40) : xn (13, a, 0, c, 0) = true := by simp [xn, jC, xm]; omega
structure XD (x : qb) : Prop where
  flat : Flat x.1
  nj : x.1 ≠ 12 ∧ x.1 ≠ 13
  ok : ∀ calm, QA calm x
theorem XD.of {x : qb} (h1 : xn x = true) (h2 : (1 ≤ x.1 ∧ x.1 ≤ 11) ∨ x.1 = 21) (h3 : 0 ≤ x.2.2.2.2 ∧ x.2.2.2.2 < 18446744073709551616) : XD x :=
 ⟨⟨by omega, by omega, by omega, by omega, by omega, by omega⟩, by omega, fun _ => ⟨h1, by omega, h3, fun _ => by omega⟩⟩
set_option maxHeartbeats 4000000 in
theorem kD {n : Nat} (hn : 3 ≤ n) {kx : qb} (hN : 0 ≤ kx.2.2.2.2 ∧ kx.2.2.2.2 < 18446744073709551616) (H : HS g h R) :
  wp (callT tab qU n (.fn 59 [] []) [.agg (jW kx)] h) fun r h' => ∃ x, r = .agg (jW x) ∧ XD x ∧ HS g h' R := by
 (refine qt (g := W59) rfl (by omega) fun k hk => ?_; show wp (S59 (callT tab qU k) _ _) _; unfold S59; try simp only [iI, uU, Int.ofNat_eq_natCast])
 refine jJ H rfl fun b0 h1 H1 => ?_
 refine jJ H1 rfl fun b2 h2 H2 => ?_
 have H2 : HS g h2 (qa b2 [.int .i64 ((0 : Nat) : Int), .int .i64 ((0 : Nat) : Int), .int .i64 ((0 : Nat) : Int), .int .i64 ((0 : Nat) : Int), .int .u64 ((0 : Nat) : Int)] :: qa b0 (jW kx) :: R) := H2
 clear H H1
 refine qV ?_
 try dsimp only
 refine qK (qz H2 (b := b0) e_1 rfl ?_)
 refine qx (wm (by omega)) ?_
 rintro _ _ ⟨rfl, rfl⟩
 refine qK (qz H2 (b := b0) e_1 rfl ?_)
 refine qx (wm (by omega)) ?_
 rintro _ _ ⟨rfl, rfl⟩
 refine qK (qz H2 (b := b0) e_1 rfl ?_)
 refine qx (wm (by omega)) ?_
 rintro _ _ ⟨rfl, rfl⟩
 refine vH H2 (b := b0) e_1 rfl H2 e_1 rfl (HS.lt H2 e_1) ?_
 refine vH H2 (b := b0) e_1 rfl H2 e_1 rfl (HS.lt H2 e_1) ?_
 refine vH H2 (b := b0) e_1 rfl H2 e_1 rfl (HS.lt H2 e_1) ?_
 refine qK (qz H2 (b := b0) e_1 rfl ?_)
 refine qx (x7 (by omega) (by omega) (by omega) (by omega)) ?_
 rintro _ _ ⟨rfl, rfl⟩
 refine qK (qz H2 (b := b0) e_1 rfl ?_)
 refine qx (x7 (by omega) (by omega) (by omega) (by omega)) ?_
 rintro _ _ ⟨rfl, rfl⟩
 have ha := jh kx.2.1 (show (0 : Int) ≤ 6 by omega)
 have hb := jh kx.2.2.1 (show (0 : Int) ≤ 6 by omega)
 have hc := jh kx.2.2.2.1 (show (0 : Int) ≤ 6 by omega)
 have hat := jh kx.2.2.2.1 (show (((6 : Nat) : Int)) ≤ ((15 : Nat) : Int) by omega)
 have hw := jh kx.1 (show (((0 : Nat) : Int)) ≤ ((19 : Nat) : Int) by omega)
 generalize jb kx.2.1 0 6 = a at *
 generalize jb kx.2.2.1 0 6 = b at *
 generalize jb kx.2.2.2.1 0 6 = c at *
 generalize jb kx.2.2.2.1 ((6 : Nat) : Int) ((15 : Nat) : Int) = at_ at *
 generalize jb kx.1 ((0 : Nat) : Int) ((19 : Nat) : Int) = w at *
 have fin : ∀ (x : qb) (h0 : AH), XD x → HS g h0 (qa b2 [.int .i64 ((0 : Nat) : Int), .int .i64 ((0 : Nat) : Int), .int .i64 ((0 : Nat) : Int), .int .i64 ((0 : Nat) : Int), .int .u64 ((0 : Nat) : Int)] :: qa b0 (jW kx) :: R) →
   wp (qv h0 (.ptr b2 0) (.agg (jW x)) 5 fun h22 => qP [] h22 fun h23 => qT h23 (.ptr b2 0) 5 fun v24 => some (v24, h23)) fun r h' => ∃ x, r = .agg (jW x) ∧ XD x ∧ HS g h' R := by
  intro x h0 hx H0
  refine jD H0 (b := b2) .here rfl (by show 0 + 5 ≤ 5; omega) rfl fun h6 H6 => ?_
  have H6 : HS g h6 (qa b2 (jW x) :: qa b0 (jW kx) :: R) := H6
  refine qI (jj H6 (b := b2) (off := 0) .here rfl (by omega) (l := jW x) rfl ?_)
  exact qk ⟨x, rfl, hx, H6.drop.drop⟩
 have z0 : (0 : Int) ≤ 0 ∧ (0 : Int) < 18446744073709551616 := by omega
 have hd : w = 0 ∨ w = 1 ∨ w = 2 ∨ w = 3 ∨ w = 4 ∨ w = 5 ∨ w = 6 ∨ w = 7 ∨ w = 8 ∨ w = 9 ∨ w = 10 ∨ w = 11 ∨ w = 12 ∨ w = 13 ∨ w = 14 ∨ w = 15 ∨ w = 16 ∨ 17 ≤ w := by omega
 rcases hd with h0 | h0 | h0 | h0 | h0 | h0 | h0 | h0 | h0 | h0 | h0 | h0 | h0 | h0 | h0 | h0 | h0 | h0
 all_goals (first | with_reducible (refine qV ?_; (try dsimp only); refine qG (by omega) ?_; refine qQ ?_; refine qG (by omega) ?_; refine qQ ?_; refine qG (by omega) ?_; refine qQ ?_; refine qG (by omega) ?_; refine qQ ?_; refine qG (by omega) ?_; refine qQ ?_; refine qV ?_; (try dsimp only); refine qG (by omega) ?_; refine qQ ?_; refine qG (by omega) ?_; refine qQ ?_; refine qG (by omega) ?_; refine qQ ?_; refine qV ?_; (try dsimp only); refine qG (by omega) ?_; refine qQ ?_; refine qG (by omega) ?_; refine qQ ?_; refine qG (by omega) ?_; refine qQ ?_; refine qG (by omega) ?_; refine qQ ?_; refine qG (by omega) ?_; refine qQ ?_; refine qV ?_; (try dsimp only); refine qG (by omega) ?_; refine qQ ?_; refine qG (by omega) ?_; refine qQ ?_; refine qG (by omega) ?_; refine qQ ?_; refine qH (by omega) ?_; refine qY ?_; refine qo rfl ?_) | with_reducible (refine qV ?_; (try dsimp only); refine qG (by omega) ?_; refine qQ ?_; refine qG (by omega) ?_; refine qQ ?_; refine qG (by omega) ?_; refine qQ ?_; refine qG (by omega) ?_; refine qQ ?_; refine qG (by omega) ?_; refine qQ ?_; refine qV ?_; (try dsimp only); refine qG (by omega) ?_; refine qQ ?_; refine qG (by omega) ?_; refine qQ ?_; refine qG (by omega) ?_; refine qQ ?_; refine qV ?_; (try dsimp only); refine qG (by omega) ?_; refine qQ ?_; refine qG (by omega) ?_; refine qQ ?_; refine qG (by omega) ?_; refine qQ ?_; refine qG (by omega) ?_; refine qQ ?_; refine qG (by omega) ?_; refine qQ ?_; refine qV ?_; (try dsimp only); refine qG (by omega) ?_; refine qQ ?_; refine qG (by omega) ?_; refine qQ ?_; refine qG (by omega) ?_; refine qQ ?_; refine qG (by omega) ?_; refine qQ ?_; refine qo rfl ?_) | with_reducible (refine qV ?_; (try dsimp only); refine qG (by omega) ?_; refine qQ ?_; refine qG (by omega) ?_; refine qQ ?_; refine qG (by omega) ?_; refine qQ ?_; refine qG (by omega) ?_; refine qQ ?_; refine qG (by omega) ?_; refine qQ ?_; refine qV ?_; (try dsimp only); refine qG (by omega) ?_; refine qQ ?_; refine qG (by omega) ?_; refine qQ ?_; refine qG (by omega) ?_; refine qQ ?_; refine qV ?_; (try dsimp only); refine qG (by omega) ?_; refine qQ ?_; refine qG (by omega) ?_; refine qQ ?_; refine qG (by omega) ?_; refine qQ ?_; refine qG (by omega) ?_; refine qQ ?_; refine qG (by omega) ?_; refine qQ ?_; refine qV ?_; (try dsimp only); refine qG (by omega) ?_; refine qQ ?_; refine qG (by omega) ?_; refine qQ ?_; refine qH (by omega) ?_; refine qY ?_; refine qo rfl ?_) | with_reducible (refine qV ?_; (try dsimp only); refine qG (by omega) ?_; refine qQ ?_; refine qG (by omega) ?_; refine qQ ?_; refine qG (by omega) ?_; refine qQ ?_; refine qG (by omega) ?_; refine qQ ?_; refine qG (by omega) ?_; refine qQ ?_; refine qV ?_; (try dsimp only); refine qG (by omega) ?_; refine qQ ?_; refine qG (by omega) ?_; refine qQ ?_; refine qG (by omega) ?_; refine qQ ?_; refine qV ?_; (try dsimp only); refine qG (by omega) ?_; refine qQ ?_; refine qG (by omega) ?_; refine qQ ?_; refine qG (by omega) ?_; refine qQ ?_; refine qG (by omega) ?_; refine qQ ?_; refine qG (by omega) ?_; refine qQ ?_; refine qV ?_; (try dsimp only); refine qG (by omega) ?_; refine qQ ?_; refine qH (by omega) ?_; refine qY ?_; refine qo rfl ?_) | with_reducible (refine qV ?_; (try dsimp only); refine qG (by omega) ?_; refine qQ ?_; refine qG (by omega) ?_; refine qQ ?_; refine qG (by omega) ?_; refine qQ ?_; refine qG (by omega) ?_; refine qQ ?_; refine qG (by omega) ?_; refine qQ ?_; refine qV ?_; (try dsimp only); refine qG (by omega) ?_; refine qQ ?_; refine qG (by omega) ?_; refine qQ ?_; refine qG (by omega) ?_; refine qQ ?_; refine qV ?_; (try dsimp only); refine qG (by omega) ?_; refine qQ ?_; refine qG (by omega) ?_; refine qQ ?_; refine qG (by omega) ?_; refine qQ ?_; refine qG (by omega) ?_; refine qQ ?_; refine qG (by omega) ?_; refine qQ ?_; refine qV ?_; (try dsimp only); refine qH (by omega) ?_; refine qY ?_; refine qY ?_; refine qo rfl ?_) | with_reducible (refine qV ?_; (try dsimp only); refine qG (by omega) ?_; refine qQ ?_; refine qG (by omega) ?_; refine qQ ?_; refine qG (by omega) ?_; refine qQ ?_; refine qG (by omega) ?_; refine qQ ?_; refine qG (by omega) ?_; refine qQ ?_; refine qV ?_; (try dsimp only); refine qG (by omega) ?_; refine qQ ?_; refine qG (by omega) ?_; refine qQ ?_; refine qG (by omega) ?_; refine qQ ?_; refine qV ?_; (try dsimp only); refine qG (by omega) ?_; refine qQ ?_; refine qG (by omega) ?_; refine qQ ?_; refine qG (by omega) ?_; refine qQ ?_; refine qG (by omega) ?_; refine qQ ?_; refine qH (by omega) ?_; refine qY ?_; refine qK ?_; refine qz (by assumption) e_1 rfl ?_) | with_reducible (refine qV ?_; (try dsimp only); refine qG (by omega) ?_; refine qQ ?_; refine qG (by omega) ?_; refine qQ ?_; refine qG (by omega) ?_; refine qQ ?_; refine qG (by omega) ?_; refine qQ ?_; refine qG (by omega) ?_; refine qQ ?_; refine qV ?_; (try dsimp only); refine qG (by omega) ?_; refine qQ ?_; refine qG (by omega) ?_; refine qQ ?_; refine qG (by omega) ?_; refine qQ ?_; refine qV ?_; (try dsimp only); refine qG (by omega) ?_; refine qQ ?_; refine qG (by omega) ?_; refine qQ ?_; refine qG (by omega) ?_; refine qQ ?_; refine qH (by omega) ?_; refine qY ?_; refine qK ?_; refine qz (by assumption) e_1 rfl ?_) | with_reducible (refine qV ?_; (try dsimp only); refine qG (by omega) ?_; refine qQ ?_; refine qG (by omega) ?_; refine qQ ?_; refine qG (by omega) ?_; refine qQ ?_; refine qG (by omega) ?_; refine qQ ?_; refine qG (by omega) ?_; refine qQ ?_; refine qV ?_; (try dsimp only); refine qG (by omega) ?_; refine qQ ?_; refine qG (by omega) ?_; refine qQ ?_; refine qG (by omega) ?_; refine qQ ?_; refine qV ?_; (try dsimp only); refine qG (by omega) ?_; refine qQ ?_; refine qG (by omega) ?_; refine qQ ?_; refine qH (by omega) ?_; refine qY ?_; refine qo rfl ?_) | with_reducible (refine qV ?_; (try dsimp only); refine qG (by omega) ?_; refine qQ ?_; refine qG (by omega) ?_; refine qQ ?_; refine qG (by omega) ?_; refine qQ ?_; refine qG (by omega) ?_; refine qQ ?_; refine qG (by omega) ?_; refine qQ ?_; refine qV ?_; (try dsimp only); refine qG (by omega) ?_; refine qQ ?_; refine qG (by omega) ?_; refine qQ ?_; refine qG (by omega) ?_; refine qQ ?_; refine qV ?_; (try dsimp only); refine qG (by omega) ?_; refine qQ ?_; refine qH (by omega) ?_; refine qY ?_; refine qY ?_; refine qo rfl ?_) | with_reducible (refine qV ?_; (try dsimp only); refine qG (by omega) ?_; refine qQ ?_; refine qG (by omega) ?_; refine qQ ?_; refine qG (by omega) ?_; refine qQ ?_; refine qG (by omega) ?_; refine qQ ?_; refine qG (by omega) ?_; refine qQ ?_; refine qV ?_; (try dsimp only); refine qG (by omega) ?_; refine qQ ?_; refine qG (by omega) ?_; refine qQ ?_; refine qG (by omega) ?_; refine qQ ?_; refine qV ?_; (try dsimp only); refine qH (by omega) ?_; refine qY ?_; refine qY ?_; refine qo rfl ?_) | with_reducible (refine qV ?_; (try dsimp only); refine qG (by omega) ?_; refine qQ ?_; refine qG (by omega) ?_; refine qQ ?_; refine qG (by omega) ?_; refine qQ ?_; refine qG (by omega) ?_; refine qQ ?_; refine qG (by omega) ?_; refine qQ ?_; refine qV ?_; (try dsimp only); refine qG (by omega) ?_; refine qQ ?_; refine qG (by omega) ?_; refine qQ ?_; refine qH (by omega) ?_; refine qY ?_; refine qo rfl ?_) | with_reducible (refine qV ?_; (try dsimp only); refine qG (by omega) ?_; refine qQ ?_; refine qG (by omega) ?_; refine qQ ?_; refine qG (by omega) ?_; refine qQ ?_; refine qG (by omega) ?_; refine qQ ?_; refine qG (by omega) ?_; refine qQ ?_; refine qV ?_; (try dsimp only); refine qG (by omega) ?_; refine qQ ?_; refine qH (by omega) ?_; refine qY ?_; refine qY ?_; refine qo rfl ?_) | with_reducible (refine qV ?_; (try dsimp only); refine qG (by omega) ?_; refine qQ ?_; refine qG (by omega) ?_; refine qQ ?_; refine qG (by omega) ?_; refine qQ ?_; refine qG (by omega) ?_; refine qQ ?_; refine qG (by omega) ?_; refine qQ ?_; refine qV ?_; (try dsimp only); refine qH (by omega) ?_; refine qY ?_; refine qY ?_; refine qo rfl ?_) | with_reducible (refine qV ?_; (try dsimp only); refine qG (by omega) ?_; refine qQ ?_; refine qG (by omega) ?_; refine qQ ?_; refine qG (by omega) ?_; refine qQ ?_; refine qG (by omega) ?_; refine qQ ?_; refine qH (by omega) ?_; refine qY ?_; refine qK ?_; refine qz (by assumption) e_1 rfl ?_) | with_reducible (refine qV ?_; (try dsimp only); refine qG (by omega) ?_; refine qQ ?_; refine qH (by omega) ?_; refine qY ?_; refine qK ?_; refine qz (by assumption) e_1 rfl ?_; refine qo rfl ?_) | with_reducible (refine qV ?_; (try dsimp only); refine qG (by omega) ?_; refine qQ ?_; refine qG (by omega) ?_; refine qQ ?_; refine qH (by omega) ?_; refine qY ?_; refine qK ?_; refine qz (by assumption) e_1 rfl ?_) | with_reducible (refine qV ?_; (try dsimp only); refine qG (by omega) ?_; refine qQ ?_; refine qG (by omega) ?_; refine qQ ?_; refine qG (by omega) ?_; refine qQ ?_; refine qH (by omega) ?_; refine qY ?_; refine qo rfl ?_) | with_reducible (refine qV ?_; (try dsimp only); refine qH (by omega) ?_; refine qY ?_; refine qY ?_; refine qK ?_; refine qz (by assumption) e_1 rfl ?_; refine qo rfl ?_))
 ·exact fin (1, a, 0, 0, kx.2.2.2.2) _ (.of (OP (by omega)) (by dsimp only; omega) hN) H2
 ·exact fin (1, a, 0, 0, kx.2.2.2.2) _ (.of (OP (by omega)) (by dsimp only; omega) hN) H2
 ·refine wY (by decide) ?_
  obtain ⟨m, hm⟩ : ∃ m : Nat, kx.2.2.2.2 = m := ⟨kx.2.2.2.2.toNat, by omega⟩
  have ht : kx.2.2.2.2.tmod ((20 : Nat) : Int) = ((m % 20 : Nat) : Int) := by rw [hm]; rfl
  rw [ht]
  with_reducible (refine qo rfl ?_)
  exact fin (1, a, 0, 0, ((m % 20 : Nat) : Int)) _ (.of (OP (by omega)) (by dsimp only; omega) (by dsimp only; omega)) H2
 ·exact fin (2, a, b, 0, 0) _ (.of (may_2 (by omega) (by omega)) (by dsimp only; omega) z0) H2
 ·refine wY (by decide) ?_
  obtain ⟨m, hm⟩ : ∃ m : Nat, kx.2.2.2.2 = m := ⟨kx.2.2.2.2.toNat, by omega⟩
  have ht : kx.2.2.2.2.tmod ((64 : Nat) : Int) = ((m % 64 : Nat) : Int) := by rw [hm]; rfl
  rw [ht]
  refine zD (by omega) ?_
  refine qx (x7 (by omega) (by omega) (by omega) (by omega)) ?_
  rintro _ _ ⟨rfl, rfl⟩
  have ho := jh ((m % 64 : Nat) : Int) (show (((0 : Nat) : Int)) ≤ ((4 : Nat) : Int) by omega)
  generalize jb ((m % 64 : Nat) : Int) ((0 : Nat) : Int) ((4 : Nat) : Int) = o at *
  with_reducible (refine ql (by omega) ?_; refine qo rfl ?_)
  exact fin (((3 : Nat) : Int) + o, a, b, c, 0) _ (.of (may_3 (by omega) (by omega) (by omega) (by omega)) (by dsimp only; omega) z0) H2
 ·exact fin (8, a, 7, at_, 0) _ (.of (QV (.inl rfl) (by omega) (by omega) (by omega)) (by dsimp only; omega) z0) H2
 ·exact fin (8, a, 7, at_, 0) _ (.of (QV (.inl rfl) (by omega) (by omega) (by omega)) (by dsimp only; omega) z0) H2
 ·exact fin (8, a, 7, at_, 0) _ (.of (QV (.inl rfl) (by omega) (by omega) (by omega)) (by dsimp only; omega) z0) H2
 ·exact fin (9, 7, b, at_, 0) _ (.of (QV (.inr rfl) (by omega) (by omega) (by omega)) (by dsimp only; omega) z0) H2
 ·exact fin (9, 7, b, at_, 0) _ (.of (QV (.inr rfl) (by omega) (by omega) (by omega)) (by dsimp only; omega) z0) H2
 ·exact fin (9, 7, b, at_, 0) _ (.of (QV (.inr rfl) (by omega) (by omega) (by omega)) (by dsimp only; omega) z0) H2
 ·refine qx (x7 (by omega) (by omega) (by omega) (by omega)) ?_
  rintro _ _ ⟨rfl, rfl⟩
  have ho := jh kx.2.2.2.1 (show (((0 : Nat) : Int)) ≤ ((3 : Nat) : Int) by omega)
  generalize jb kx.2.2.2.1 ((0 : Nat) : Int) ((3 : Nat) : Int) = o at *
  with_reducible (refine qo rfl ?_)
  exact fin (8, a, b, o, 0) _ (.of (QV (.inl rfl) (by omega) (by omega) (by omega)) (by dsimp only; omega) z0) H2
 ·refine qx (x7 (by omega) (by omega) (by omega) (by omega)) ?_
  rintro _ _ ⟨rfl, rfl⟩
  have ho := jh kx.2.2.2.1 (show (((0 : Nat) : Int)) ≤ ((3 : Nat) : Int) by omega)
  generalize jb kx.2.2.2.1 ((0 : Nat) : Int) ((3 : Nat) : Int) = o at *
  with_reducible (refine qo rfl ?_)
  exact fin (9, a, b, o, 0) _ (.of (QV (.inr rfl) (by omega) (by omega) (by omega)) (by dsimp only; omega) z0) H2
 ·exact fin (10, a, b, 0, 0) _ (.of (Om (by omega) (by omega)) (by dsimp only; omega) z0) H2
 ·exact fin (10, a, b, 0, 0) _ (.of (Om (by omega) (by omega)) (by dsimp only; omega) z0) H2
 ·exact fin (11, a, 0, 0, 0) _ (.of (ZW (.inl rfl) (by omega)) (by dsimp only; omega) z0) H2
 ·exact fin (8, a, 7, at_, 0) _ (.of (QV (.inl rfl) (by omega) (by omega) (by omega)) (by dsimp only; omega) z0) H2
 ·exact fin (21, a, 0, 0, 0) _ (.of (ZW (.inr rfl) (by omega)) (by dsimp only; omega) z0) H2
end Go.Proofs.YtdlfmpmpmkffjaaGreatDoor
namespace Go.Proofs.YtdlfmpmpmkffjaaGreatDoor
open Go Go.Ae
set_option maxRecDepth 100000
variable {g h : AH} {L R : List SP}
theorem Us (l : List Int) : jA (l.map (AV.int .i64)) = true := by
 unfold jA
 rw [List.all_eq_true]
 intro y hy
 obtain ⟨z, _, rfl⟩ := List.mem_map.1 hy
 rfl
theorem ya (l : List qb) (st : List Int) : (jF l st).length = st.length := by simp [jF]
theorem Kh {l : List qb} {st : List Int} (hn : st ≠ []) : (jF l st)[st.length - 1]? = some (opM l st) := by
 have hl := List.length_pos_iff.2 hn
 rw [GN hn, List.getLast?_eq_getElem?, ya, List.getElem?_eq_getElem (by rw [ya]; omega)]; rfl
theorem J7 {l : List qb} {st : List Int} : (gL l st).length = l.length + 1 := by simp [gL]
theorem GF {n : Nat} (hn : 1 ≤ n) {calm : Bool} {l : List qb} {st : List Int} {lv ov : AV} (B : Bld calm l st) (hne : st ≠ []) (ho : opM l st = 14 ∨ opM l st = 17 ∨ opM l st = 18) (hl : l.length ≤ 1000)
  (H : HS g h (zH lv l :: kC ov (jF l st) :: R)) :
  wp (callT tab qU n (.fn 57 [] []) [lv, ov] h) fun r h' => ∃ lv' ov', r = .tup [lv', ov'] ∧ HS g h' (zH lv' (gL l st) :: kC ov' (jF (gL l st) (kq l st)) :: R) := by
 (refine qt (g := W57) rfl (by omega) fun k hk => ?_; show wp (S57 (callT tab qU k) _ _ _) _; unfold S57; try simp only [iI, uU, Int.ofNat_eq_natCast])
 have hp := List.length_pos_iff.2 hne
 have h5 := B.five
 have hol := ya l st
 have hat := Kh (l := l) hne
 obtain ⟨B2, hops⟩ := B.shut hne ho
 rw [hops]
 have H0 : HS g h (qL 28 5 l.length lv (l.flatMap jW) :: qL 3 1 (jF l st).length ov ((jF l st).map (.int .i64)) :: R) := H
 refine jH H0 e_1 ?_
 rw [hol]
 refine jT (by omega) ?_
 rw [show (st.length : Int) - ((1 : Nat) : Int) = ((st.length - 1 : Nat) : Int) by omega]
 refine jn (H0.sl e_1) (x := .int .i64 (opM l st)) (by rw [List.getElem?_map, hat]; rfl) ?_
 have hdl : (jF l st).dropLast = (jF l st).take (st.length - 1) := by rw [List.dropLast_eq_take, hol]
 have tail : ∀ (op : Int), (opM l st = 14 ∧ op = 15 ∨ opM l st = 18 ∧ op = 19) →
   wp (qw (α := AV × AV × Unit → AH → Go.Ae.R) (fun s5 h6 => some ((.tup [s5.2.1, s5.1]), h6)) fun j7 => qm [(.int .i64 ((0 : Nat) : Int)), (.int .i64 ((0 : Nat) : Int)), (.int .i64 ((0 : Nat) : Int)), (.int .i64 ((0 : Nat) : Int)), (.int .u64 ((0 : Nat) : Int))] [(0, 1, (.int .i64 op))] fun v8 =>
    q8 h 28 [(.int .i64 ((0 : Nat) : Int)), (.int .i64 ((0 : Nat) : Int)), (.int .i64 ((0 : Nat) : Int)), (.int .i64 ((0 : Nat) : Int)), (.int .u64 ((0 : Nat) : Int))] 1 [(0, 5, v8)] fun v9 h10 =>
    jX h10 28 5 lv v9 fun v11 h12 => ju h12 3 1 ov none (some (.int .i64 ((st.length - 1 : Nat) : Int))) fun v13 =>
    zQ ov (some (3 * 65536 + 1)) v13 h10 h12 h.nx <| j7 (v13, v11, ()) h12)
   fun r h' => ∃ lv' ov', r = .tup [lv', ov'] ∧ HS g h' (zH lv' (gL l st) :: kC ov' ((jF l st).dropLast ++ (if opM l st = 17 then [18] else [])) :: R) := by
  intro op hop
  refine qV ?_
  try dsimp only
  refine qo (l := jW (one op)) rfl ?_
  refine jw (n := 1) (l := jW (one op)) (sz := 5) H0 rfl rfl rfl rfl fun v9 h10 H10 => ?_
  have S : Sl (fun _ => True) h10 5 [one op].length v9 ([one op].flatMap jW) := H10.sl .here
  refine y0 (H10.sel (P := zH lv l) e_1) S (by simp; omega) fun v11 h12 H12 => ?_
  refine kK (hi := st.length - 1) (H12.sel (P := qL 3 1 (jF l st).length ov ((jF l st).map (.int .i64))) e_2) (by omega) (by omega) fun v13 H13 => ?_
  refine Oj H10 (s := e_2) H12 e_2 H0 e_1 (by omega) (by omega) rfl ?_
  rw [Nat.mul_one, ← List.map_take, ← hdl] at H13
  have h17 : ¬ opM l st = 17 := by omega
  rw [if_neg h17, List.append_nil]
  refine qk ⟨v11, v13, rfl, ?_⟩
  have e : gL l st = l ++ [one op] := by
   unfold gL xd
   rcases hop with ⟨h1, h2⟩ | ⟨h1, h2⟩
   ·rw [h1, h2]; rfl
   ·rw [h1, h2]; rfl
  rw [e]
  unfold kC
  rw [show (jF l st).dropLast.length = st.length - 1 by rw [List.length_dropLast, hol]]
  exact H13.sub (.cons e_1 (.cons .here (.drop .refl)))
 by_cases c14 : opM l st = 14
 ·refine qH c14 (qY ?_)
  exact tail 15 (.inl ⟨c14, rfl⟩)
 refine qG c14 (qQ ?_)
 by_cases c17 : opM l st = 17
 ·refine qH c17 (qY ?_)
  refine kK (hi := st.length - 1) (H0.sel (P := qL 3 1 (jF l st).length ov ((jF l st).map (.int .i64))) e_1) (by omega) (by omega) fun v15 H2 => ?_
  rw [Nat.mul_one, ← List.map_take, ← hdl] at H2
  have hdn : (jF l st).dropLast.length = st.length - 1 := by rw [List.length_dropLast, hol]
  have S : Sl (fun _ => True) h 1 (st.length - 1) v15 ((jF l st).dropLast.map (.int .i64)) := H2.sl .here
  refine zr (H2.nils (e := 3) (sz := 1)) S (by omega) (by omega) (Us _) fun v16 h3 H3 => ?_
  rw [List.nil_append, Nat.zero_add] at H3
  refine jw (n := 1) (l := [.int .i64 ((18 : Nat) : Int)]) (sz := 1) H3 rfl rfl rfl rfl fun v18 h4 H4 => ?_
  refine zr (H4.sel e_1) (H4.sl .here) (by omega) (by omega) rfl fun v20 h5 H5 => ?_
  refine qo (l := jW (one 18)) rfl ?_
  refine jw (n := 1) (l := jW (one 18)) (sz := 5) H5 rfl rfl rfl rfl fun v23 h6 H6 => ?_
  have S6 : Sl (fun _ => True) h6 5 [one 18].length v23 ([one 18].flatMap jW) := H6.sl .here
  refine y0 (H6.sel (P := zH lv l) e_4) S6 (by simp; omega) fun v25 h7 H7 => ?_
  rw [if_pos c17]
  refine qk ⟨v25, v20, rfl, ?_⟩
  have e : gL l st = l ++ [one 18] := by unfold gL xd; rw [c17]; rfl
  rw [e]
  unfold kC
  rw [List.length_append, hdn, List.map_append]
  exact H7.sub (.cons .here (.cons e_1 (.drop (.drop (.drop .refl)))))
 ·refine qG c17 (qQ ?_)
  exact tail 19 (.inr ⟨by omega, rfl⟩)
def gp (o : List Int) : Nat := (o.map fun x => if x = 17 then 2 else 1).sum
theorem Kq (a b : List Int) : gp (a ++ b) = gp a + gp b := by simp [gp]
theorem qJP (o : List Int) : gp o ≤ 2 * o.length := by
 induction o with
 | nil => simp [gp]
 | cons x o ih => simp only [gp, List.map_cons, List.sum_cons, List.length_cons] at *; split <;> omega
theorem MZ {l : List qb} {st : List Int} (hne : st ≠ []) : gp ((jF l st).dropLast ++ (if opM l st = 17 then [18] else [])) + 1 = gp (jF l st) := by
 have h1 : jF l st ≠ [] := by intro h; have := congrArg List.length h; rw [ya] at this; exact hne (List.eq_nil_of_length_eq_zero this)
 have h2 := List.dropLast_concat_getLast h1
 have h3 : (jF l st).getLast h1 = opM l st := by rw [GN hne, List.getLast?_eq_some_getLast h1]; rfl
 rw [h3] at h2
 have h4 : gp (jF l st) = gp (jF l st).dropLast + (if opM l st = 17 then 2 else 1) := by
  conv => lhs; rw [← h2]
  rw [Kq]; simp [gp]
 rw [Kq, h4]
 split
 ·simp [gp]
 ·simp [gp]
def OpsK (l : List qb) (st : List Int) : Prop := ∀ o ∈ jF l st, o = 14 ∨ o = 17 ∨ o = 18
theorem OpsK.at {l : List qb} {st : List Int} (h : OpsK l st) (hne : st ≠ []) : opM l st = 14 ∨ opM l st = 17 ∨ opM l st = 18 := h _ (List.mem_of_getElem? (Kh hne))
set_option maxHeartbeats 8000000 in
theorem NO {n : Nat} (hn : 5 ≤ n) {calm : Bool} {ks : List qb} {kv : AV} {most : Int} (hN : ∀ x ∈ ks, 0 ≤ x.2.2.2.2 ∧ x.2.2.2.2 < 18446744073709551616) (hm : 1 ≤ most ∧ most ≤ 40) (H : HS g h R) (S : Rd g R 5 ks.length kv (ks.flatMap jW)) :
  wp (callT tab qU n (.fn 23 [] []) [kv, .int .i64 most, .bool calm] h) fun r h' => ∃ lv l, r = .agg [lv] ∧ Bld calm l [] ∧ 0 < l.length ∧ (l.length : Int) ≤ most ∧ HS g h' (zH lv l :: R) := by
 (refine qt (g := W23) rfl (by omega) fun k hk => ?_; show wp (S23 (callT tab qU k) _ _ _ _) _; unfold S23; try simp only [iI, uU, Int.ofNat_eq_natCast])
 refine jJ H rfl fun b0 h1 H1 => ?_
 clear H
 have H1 := (H1.nils (e := 3) (sz := 1)).nils (e := 28) (sz := 5)
 refine zl [] (fun s h' => ∃ (l : List qb) (st : List Int) (lv ov : AV), s = (ov, lv, .ptr b0 0, ()) ∧ Bld calm l st ∧ OpsK l st ∧ (l.length : Int) + 2 * st.length ≤ most ∧ HS g h' (zH lv l :: kC ov (jF l st) :: qa b0 [.nils] :: R)) ?_ ?_
 rotate_left
 ·rintro s h2 ⟨l, st, lv, ov, rfl, B, OK, hle, H2⟩
  dsimp only
  have hW : (l.length : Int) + gp (jF l st) ≤ most := by
   have := qJP (jF l st)
   rw [ya] at this; omega
  refine jm (fun m s h' => ∃ (l : List qb) (st : List Int) (lv ov : AV), s = (ov, lv, .ptr b0 0, ()) ∧ m = gp (jF l st) ∧ Bld calm l st ∧ OpsK l st ∧ (l.length : Int) + gp (jF l st) ≤ most ∧ HS g h' (zH lv l :: kC ov (jF l st) :: qa b0 [.nils] :: R))
   ?_ (m := gp (jF l st)) (by show _ < 1000000000; omega) ⟨l, st, lv, ov, rfl, rfl, B, OK, hW, H2⟩
  clear H2 hW hle OK B st lv ov l
  rintro m ih s h3 hih ⟨l, st, lv, ov, rfl, rfl, B, OK, hW, H⟩
  dsimp only
  have hol := ya l st
  refine jH (n := (jF l st).length) (H : HS g h3 (zH lv l :: qL 3 1 (jF l st).length ov ((jF l st).map (.int .i64)) :: qa b0 [.nils] :: R)) e_1 ?_
  rw [hol]
  by_cases h0 : st = []
  ·subst h0
   refine xA (by simp) (qQ ?_)
   refine zl [] (fun s h' => ∃ (l : List qb) (lv : AV), s = (lv, .ptr b0 0, ()) ∧ Bld calm l [] ∧ 0 < l.length ∧ (l.length : Int) ≤ most ∧ HS g h' (zH lv l :: qa b0 [.nils] :: R)) ?_ ?_
   ·intro j hj
    refine jH (n := l.length) (H : HS g h3 (qL 28 5 l.length lv (l.flatMap jW) :: kC ov (jF l []) :: qa b0 [.nils] :: R)) .here ?_
    by_cases hl0 : l.length = 0
    ·refine qH (by omega) (qY ?_)
     obtain rfl := List.eq_nil_of_length_eq_zero hl0
     refine qo (l := jW (1, 0, 0, 0, 1)) rfl ?_
     refine jw (n := 1) (l := jW (1, 0, 0, 0, 1)) (sz := 5) H rfl rfl rfl rfl fun v27 h4 H4 => ?_
     have S1 : Sl (fun _ => True) h4 5 [((1, 0, 0, 0, 1) : qb)].length v27 ([((1, 0, 0, 0, 1) : qb)].flatMap jW) := H4.sl .here
     refine y0 (H4.sel (P := zH lv []) e_1) S1 (by simp) fun v29 h5 H5 => ?_
     refine hj _ _ ⟨_, v29, rfl, B.flat (x := (1, 0, 0, 0, 1)) ⟨by decide, by decide, by decide, fun _ => by decide⟩ (by unfold Flat; decide) (by decide), by simp, by simp; omega, H5.sub (.cons .here (.drop (.drop (.cons .here .refl))))⟩
    ·refine qG (by omega) (qQ ?_)
     exact hj _ _ ⟨l, lv, rfl, B, by omega, by omega, H.sub (.cons .here (.drop (.cons .here .refl)))⟩
   ·rintro s h5 ⟨l, lv, rfl, B, hl0, hlm, H5⟩
    dsimp only
    have ol := H5.one (e := 28) (sz := 5) (n := l.length) .here
    refine qo (l := [lv]) (by simp only [vy, ol.1]; rfl) ?_
    refine jD H5 (b := b0) e_1 rfl (by simp) (by show jA [lv] = true; simp [jA, ol.2]) fun h6 H6 => ?_
    have H6 : HS g h6 (qa b0 [lv] :: zH lv l :: R) := H6
    refine qI ?_
    refine jj H6 (b := b0) (off := 0) .here rfl (by omega) (l := [lv]) rfl ?_
    exact qk ⟨lv, l, rfl, B, hl0, hlm, H6.drop⟩
  ·have hp := List.length_pos_iff.2 h0
   refine xR (by omega) (qY ?_)
   refine qx (GF (by omega) B h0 (OK.at h0) (by omega) H) ?_
   rintro _ h4 ⟨lv', ov', rfl, H4⟩
   obtain ⟨B2, hops⟩ := B.shut h0 (OK.at h0)
   have hw := MZ (l := l) h0
   rw [← hops] at hw
   refine qc rfl (qc rfl ?_)
   refine hih (gp (jF (gL l st) (kq l st))) _ _ (by omega) ⟨_, _, lv', ov', rfl, rfl, B2, ?_, by rw [J7]; omega, H4⟩
   intro o ho
   rw [hops] at ho
   rcases List.mem_append.1 ho with ho | ho
   ·exact OK o ((List.dropLast_sublist _).subset ho)
   ·split at ho
    ·rw [List.mem_singleton] at ho; omega
    ·cases ho
 intro j5 hj5
 refine jm (fun m s h' => ∃ (i : Nat) (l : List qb) (st : List Int) (lv ov : AV), s = (.int .i64 (i : Int), ov, lv, .ptr b0 0, .bool calm, .int .i64 most, kv, ()) ∧ m = 41 - l.length ∧ i ≤ l.length ∧ Bld calm l st ∧ OpsK l st ∧ (l.length : Int) + 2 * st.length ≤ most ∧ HS g h' (zH lv l :: kC ov (jF l st) :: qa b0 [.nils] :: R))
  ?_ (m := 41) (by show _ < 1000000000; omega) ⟨0, [], [], .nils, .nils, rfl, rfl, by simp, Bld.nil calm, (fun o ho => by cases ho), by simp; omega, H1⟩
 clear H1
 rintro m ih s h2 hih ⟨i, l, st, lv, ov, rfl, rfl, hil, B, OK, hle, H⟩
 dsimp only
 refine zy (S.sl H.drop.drop.drop) ?_
 refine zW (fun hlt => qY ?_) fun hge => qQ (hj5 _ _ ⟨l, st, lv, ov, rfl, B, OK, hle, H⟩)
 have hlt : i < ks.length := by omega
 refine zu (l := jW ks[i]) (S.sl H.drop.drop.drop) hlt (by omega) (QK (sz := 5) (fun _ => rfl) (List.getElem?_eq_getElem hlt)) ?_
 have hNi := hN ks[i] (List.getElem_mem hlt)
 generalize ks[i] = kx at *
 refine jJ H rfl fun b3 h3 H3 => jD H3 .here rfl (by show 0 + 5 ≤ 5; omega) rfl fun h5 H5 => ?_
 have H5 : HS g h5 (qa b3 (jW kx) :: zH lv l :: kC ov (jF l st) :: qa b0 [.nils] :: R) := H5
 have H6 : HS g h5 (qa b3 (jW kx) :: qL 28 5 l.length lv (l.flatMap jW) :: qL 3 1 (jF l st).length ov ((jF l st).map (.int .i64)) :: qa b0 [.nils] :: R) := H5
 clear H H3
 have hol := ya l st
 refine jH H6 e_2 ?_
 rw [hol]
 refine jH H6 e_1 ?_
 refine Yu (by omega) (ql (by omega) (ql (by omega) ?_))
 refine xO (fun hg => qY (hj5 _ _ ⟨l, st, lv, ov, rfl, B, OK, hle, H5.drop⟩)) fun hg => qQ ?_
 refine qK (qz H5 (b := b3) .here rfl ?_)
 refine qx (x7 (by omega) (by omega) (by omega) (by omega)) ?_
 rintro _ h5 ⟨rfl, rfl⟩
 have hwb := jh kx.1 (show (((0 : Nat) : Int)) ≤ ((40 : Nat) : Int) by omega)
 generalize jb kx.1 ((0 : Nat) : Int) ((40 : Nat) : Int) = w at *
 refine zl [] (fun s h' => ∃ (l' : List qb) (st' : List Int) (lv' ov' : AV), s = (.int .i64 (i : Int), ov', lv', .ptr b0 0, .bool calm, .int .i64 most, kv, ()) ∧ Bld calm l' st' ∧ OpsK l' st' ∧ (l'.length : Int) + 2 * st'.length ≤ most ∧ l.length < l'.length ∧ HS g h' (zH lv' l' :: kC ov' (jF l' st') :: qa b0 [.nils] :: R)) ?_ ?_
 rotate_left
 ·rintro s h7 ⟨l', st', lv', ov', rfl, B', OK', hle', hlt', H7⟩
  dsimp only
  refine ql (by omega) ?_
  exact hih (41 - l'.length) _ _ (by omega) ⟨i + 1, l', st', lv', ov', rfl, rfl, by omega, B', OK', hle', H7⟩
 intro j hj
 have hfive := B.five
 have hll : l.length ≤ 100 := by omega
 have same : ∀ {t : List qb}, OpsK (l ++ t) st := fun {t} o ho => OK o (by rw [w4 B.stok] at ho; exact ho)
 have hsame : ∀ {t : List qb}, jF (l ++ t) st = jF l st := w4 B.stok
 have dflt : wp (qT h5 (.ptr b3 0) 5 fun v218 => qW (callT tab qU k) (.fn 59 [] []) [v218] h5 fun v219 h220 => q8 h220 28 [(.int .i64 ((0 : Nat) : Int)), (.int .i64 ((0 : Nat) : Int)), (.int .i64 ((0 : Nat) : Int)), (.int .i64 ((0 : Nat) : Int)), (.int .u64 ((0 : Nat) : Int))] 1 [(0, 5, v219)] fun v221 h222 =>
   jX h222 28 5 lv v221 fun v223 h224 => j (.int .i64 (i : Int), ov, v223, .ptr b0 0, .bool calm, .int .i64 most, kv, ()) h224 []) (fun r h' => ∃ lv l, r = .agg [lv] ∧ Bld calm l [] ∧ 0 < l.length ∧ (l.length : Int) ≤ most ∧ HS g h' (zH lv l :: R)) := by
  refine jj H5 (b := b3) (off := 0) .here rfl (by omega) (l := jW kx) rfl ?_
  refine qx (kD (by omega) hNi H5) ?_
  rintro _ h7 ⟨x, rfl, hx, H7⟩
  refine jw (n := 1) (l := jW x) (sz := 5) H7 rfl rfl rfl rfl fun v8 h8 H8 => ?_
  have S1 : Sl (fun _ => True) h8 5 [x].length v8 ([x].flatMap jW) := by simpa using H8.sl .here
  refine y0 (H8.sel (P := zH lv l) e_2) S1 (by simp; omega) fun v9 h9 H9 => ?_
  refine hj _ _ ⟨l ++ [x], st, v9, ov, rfl, B.flat (hx.ok calm) hx.flat hx.nj, same, by simp; omega, by simp, ?_⟩
  rw [hsame]
  exact H9.sub (.cons .here (.drop (.drop (.cons .here (.cons .here .refl)))))
 have beg : ∀ op : Int, op = 14 ∨ op = 17 → st.length < 5 → wp (q8 h5 28 [(.int .i64 ((0 : Nat) : Int)), (.int .i64 ((0 : Nat) : Int)), (.int .i64 ((0 : Nat) : Int)), (.int .i64 ((0 : Nat) : Int)), (.int .u64 ((0 : Nat) : Int))] 1 [(0, 5, .agg (jW (one op)))] fun v63 h64 => jX h64 28 5 lv v63 fun v65 h66 =>
   q8 h66 3 [(.int .i64 ((0 : Nat) : Int))] 1 [(0, 1, (.int .i64 op))] fun v67 h68 => jX h68 3 1 ov v67 fun v69 h70 => j (.int .i64 (i : Int), v69, v65, .ptr b0 0, .bool calm, .int .i64 most, kv, ()) h70 []) (fun r h' => ∃ lv l, r = .agg [lv] ∧ Bld calm l [] ∧ 0 < l.length ∧ (l.length : Int) ≤ most ∧ HS g h' (zH lv l :: R)) := by
  intro op hop hs5
  refine jw (n := 1) (l := jW (one op)) (sz := 5) H5 rfl rfl rfl rfl fun v8 h8 H8 => ?_
  have S1 : Sl (fun _ => True) h8 5 [one op].length v8 ([one op].flatMap jW) := by simpa using H8.sl .here
  refine y0 (H8.sel (P := zH lv l) e_2) S1 (by simp; omega) fun v9 h9 H9 => ?_
  refine jw (n := 1) (l := [.int .i64 op]) (sz := 1) H9 rfl rfl rfl rfl fun v10 h10 H10 => ?_
  refine zr (H10.sel (P := qL 3 1 (jF l st).length ov ((jF l st).map (.int .i64))) e_4) (H10.sl .here) (by omega) (by omega) rfl fun v11 h11 H11 => ?_
  obtain ⟨B2, ho2⟩ := B.begin hop hs5
  refine hj _ _ ⟨l ++ [one op], st ++ [(l.length : Int)], v9, v11, rfl, B2, ?_, by simp; omega, by simp, ?_⟩
  ·intro o ho
   rw [ho2] at ho
   rcases List.mem_append.1 ho with ho | ho
   ·exact OK o ho
   ·rw [List.mem_singleton] at ho; omega
  ·rw [ho2]
   unfold kC
   rw [List.length_append, List.map_append]
   exact H11.sub (.cons e_2 (.cons .here (.drop (.drop (.drop (.cons .here .refl))))))
 have shu : 0 < st.length → wp (qW (callT tab qU k) (.fn 57 [] []) [lv, ov] h5 fun v98 h99 => qB v98 0 fun v100 => qB v98 1 fun v101 => j (.int .i64 (i : Int), v101, v100, .ptr b0 0, .bool calm, .int .i64 most, kv, ()) h99 []) (fun r h' => ∃ lv l, r = .agg [lv] ∧ Bld calm l [] ∧ 0 < l.length ∧ (l.length : Int) ≤ most ∧ HS g h' (zH lv l :: R)) := by
  intro hp
  have hne := List.length_pos_iff.1 hp
  refine qx (GF (by omega) B hne (OK.at hne) (by omega) (H5.sub (L' := zH lv l :: kC ov (jF l st) :: qa b3 (jW kx) :: qa b0 [.nils] :: R) (.cons e_1 (.cons e_1 (.cons .here (.cons .here .refl)))))) ?_
  rintro _ h7 ⟨lv', ov', rfl, H7⟩
  obtain ⟨B2, hops⟩ := B.shut hne (OK.at hne)
  have hsl : (kq l st).length ≤ st.length := by unfold kq; split <;> simp <;> omega
  refine qc rfl (qc rfl ?_)
  refine hj _ _ ⟨_, _, lv', ov', rfl, B2, ?_, by rw [J7]; omega, by rw [J7]; omega, H7.sub (.cons .here (.cons .here (.drop (.cons .here .refl))))⟩
  intro o ho
  rw [hops] at ho
  rcases List.mem_append.1 ho with ho | ho
  ·exact OK o ((List.dropLast_sublist _).subset ho)
  ·split at ho
   ·rw [List.mem_singleton] at ho; omega
   ·cases ho
 have und : opM l st = 14 → wp (q8 h5 28 [(.int .i64 ((0 : Nat) : Int)), (.int .i64 ((0 : Nat) : Int)), (.int .i64 ((0 : Nat) : Int)), (.int .i64 ((0 : Nat) : Int)), (.int .u64 ((0 : Nat) : Int))] 1 [(0, 5, .agg (jW (one 16)))] fun v8 h8 => jX h8 28 5 lv v8 fun v9 h9 => j (.int .i64 (i : Int), ov, v9, .ptr b0 0, .bool calm, .int .i64 most, kv, ()) h9 []) (fun r h' => ∃ lv l, r = .agg [lv] ∧ Bld calm l [] ∧ 0 < l.length ∧ (l.length : Int) ≤ most ∧ HS g h' (zH lv l :: R)) := by
  intro h14
  refine jw (n := 1) (l := jW (one 16)) (sz := 5) H5 rfl rfl rfl rfl fun v8 h8 H8 => ?_
  have S1 : Sl (fun _ => True) h8 5 [one 16].length v8 ([one 16].flatMap jW) := by simpa using H8.sl .here
  refine y0 (H8.sel (P := zH lv l) e_2) S1 (by simp; omega) fun v9 h9 H9 => ?_
  refine hj _ _ ⟨l ++ [one 16], st, v9, ov, rfl, B.undo h14, same, by simp; omega, by simp, ?_⟩
  rw [hsame]
  exact H9.sub (.cons .here (.drop (.drop (.cons .here (.cons .here .refl)))))
 have pair : ∀ (x y : qb) (h7 : AH), HS g h7 (qa b3 (jW kx) :: zH lv l :: kC ov (jF l st) :: qa b0 [.nils] :: R) → Bld calm (l ++ [x, y]) st → (l.length : Int) + 2 * st.length + 5 ≤ most → wp (q8 h7 28 [(.int .i64 ((0 : Nat) : Int)), (.int .i64 ((0 : Nat) : Int)), (.int .i64 ((0 : Nat) : Int)), (.int .i64 ((0 : Nat) : Int)), (.int .u64 ((0 : Nat) : Int))] 2 [(0, 5, .agg (jW x)), (5, 5, .agg (jW y))] fun v8 h8 =>
   jX h8 28 5 lv v8 fun v9 h9 => j (.int .i64 (i : Int), ov, v9, .ptr b0 0, .bool calm, .int .i64 most, kv, ()) h9 []) (fun r h' => ∃ lv l, r = .agg [lv] ∧ Bld calm l [] ∧ 0 < l.length ∧ (l.length : Int) ≤ most ∧ HS g h' (zH lv l :: R)) := by
  intro x y h7 H7 B7 hm7
  refine jw (n := 2) (l := jW x ++ jW y) (sz := 5) H7 rfl rfl rfl rfl fun v8 h8 H8 => ?_
  have S1 : Sl (fun _ => True) h8 5 [x, y].length v8 ([x, y].flatMap jW) := by simpa using H8.sl .here
  refine y0 (H8.sel (P := zH lv l) e_2) S1 (by simp; omega) fun v9 h9 H9 => ?_
  refine hj _ _ ⟨l ++ [x, y], st, v9, ov, rfl, B7, same, by simp; omega, by simp, ?_⟩
  rw [hsame]
  exact H9.sub (.cons .here (.drop (.drop (.cons .here (.cons .here .refl)))))
 have zer : ∀ r : Int, 0 ≤ r ∧ r ≤ 6 → QA calm (13, r, 0, ((l.length : Int) + ((2 : Nat) : Int)), 0) := fun r hr => ⟨OB (by omega) (by omega), by show (13 : Int) ≠ 23; decide, by show (0 : Int) ≤ 0 ∧ (0 : Int) < 18446744073709551616; decide, fun _ => by show (13 : Int) ≠ 20 ∧ (13 : Int) ≠ 22 ∧ (13 : Int) ≠ 12; decide⟩
 have two : ∀ op : Int, op = 20 ∨ op = 22 → calm = false → wp (qW (callT tab qU k) (.fn 58 [] []) [.int .i64 kx.2.1] h5 fun v131 h132 => qr lv fun v133 => qq .add v133 (.int .i64 ((2 : Nat) : Int)) fun v134 =>
   qm [(.int .i64 ((0 : Nat) : Int)), (.int .i64 ((0 : Nat) : Int)), (.int .i64 ((0 : Nat) : Int)), (.int .i64 ((0 : Nat) : Int)), (.int .u64 ((0 : Nat) : Int))] [(0, 1, (.int .i64 ((13 : Nat) : Int))), (1, 1, v131), (3, 1, v134)] fun v135 => qm [(.int .i64 ((0 : Nat) : Int)), (.int .i64 ((0 : Nat) : Int)), (.int .i64 ((0 : Nat) : Int)), (.int .i64 ((0 : Nat) : Int)), (.int .u64 ((0 : Nat) : Int))] [(0, 1, (.int .i64 op))] fun v136 =>
   q8 h132 28 [(.int .i64 ((0 : Nat) : Int)), (.int .i64 ((0 : Nat) : Int)), (.int .i64 ((0 : Nat) : Int)), (.int .i64 ((0 : Nat) : Int)), (.int .u64 ((0 : Nat) : Int))] 2 [(0, 5, v135), (5, 5, v136)] fun v8 h8 => jX h8 28 5 lv v8 fun v9 h9 => j (.int .i64 (i : Int), ov, v9, .ptr b0 0, .bool calm, .int .i64 most, kv, ()) h9 []) (fun r h' => ∃ lv l, r = .agg [lv] ∧ Bld calm l [] ∧ 0 < l.length ∧ (l.length : Int) ≤ most ∧ HS g h' (zH lv l :: R)) := by
  intro op hop hcal
  refine qx (wm (by omega)) ?_
  rintro _ h5 ⟨rfl, rfl⟩
  have hr := jh kx.2.1 (show (0 : Int) ≤ 6 by omega)
  refine jH (n := l.length) H6 e_1 (ql (by omega) ?_)
  refine qo (l := jW (13, jb kx.2.1 0 6, 0, ((l.length : Int) + ((2 : Nat) : Int)), 0)) rfl ?_
  refine qo (l := jW (one op)) rfl ?_
  refine pair _ _ _ H5 (B.two (zer _ hr) ⟨by rcases hop with rfl | rfl <;> decide, by dsimp only; omega, by show (0 : Int) ≤ 0 ∧ (0 : Int) < 18446744073709551616; decide, fun hh => by rw [hcal] at hh; cases hh⟩ (by show Flat 13; unfold Flat; decide) (by unfold Flat; dsimp only; omega) (fun _ => rfl) (fun hh => by dsimp only at hh; omega)) (by omega)
 have ovr : wp (qw (α := AV × AV × AV × AV × AV × AV × AV × Unit → AH → Go.Ae.R) (fun s180 h181 => j (s180.1, s180.2.1, s180.2.2.1, s180.2.2.2.1, s180.2.2.2.2.1, s180.2.2.2.2.2.1, s180.2.2.2.2.2.2.1, ()) h181 []) fun j182 =>
   qW (callT tab qU k) (.fn 58 [] []) [.int .i64 kx.2.2.1] h5 fun v185 h186 => qr lv fun v187 => qq .add v187 (.int .i64 ((2 : Nat) : Int)) fun v188 =>
   qm [(.int .i64 ((0 : Nat) : Int)), (.int .i64 ((0 : Nat) : Int)), (.int .i64 ((0 : Nat) : Int)), (.int .i64 ((0 : Nat) : Int)), (.int .u64 ((0 : Nat) : Int))] [(0, 1, (.int .i64 ((13 : Nat) : Int))), (1, 1, v185), (3, 1, v188)] fun v189 => qT h186 (.ptr b3 0) 5 fun v190 => qW (callT tab qU k) (.fn 59 [] []) [v190] h186 fun v191 h192 =>
   q8 h192 28 [(.int .i64 ((0 : Nat) : Int)), (.int .i64 ((0 : Nat) : Int)), (.int .i64 ((0 : Nat) : Int)), (.int .i64 ((0 : Nat) : Int)), (.int .u64 ((0 : Nat) : Int))] 2 [(0, 5, v189), (5, 5, v191)] fun v193 h194 => jX h194 28 5 lv v193 fun v195 h196 =>
   zQ (.ptr b3 0) (some 5) v190 h5 h186 h5.nx <| j182 (.int .i64 (i : Int), ov, v195, .ptr b0 0, .bool calm, .int .i64 most, kv, ()) h196) (fun r h' => ∃ lv l, r = .agg [lv] ∧ Bld calm l [] ∧ 0 < l.length ∧ (l.length : Int) ≤ most ∧ HS g h' (zH lv l :: R)) := by
  refine qV ?_
  try dsimp only
  refine qx (wm (by omega)) ?_
  rintro _ h5 ⟨rfl, rfl⟩
  have hr := jh kx.2.2.1 (show (0 : Int) ≤ 6 by omega)
  refine jH (n := l.length) H6 e_1 (ql (by omega) ?_)
  refine qo (l := jW (13, jb kx.2.2.1 0 6, 0, ((l.length : Int) + ((2 : Nat) : Int)), 0)) rfl ?_
  refine jj H5 (b := b3) (off := 0) .here rfl (by omega) (l := jW kx) rfl ?_
  refine qx (kD (by omega) hNi H5) ?_
  rintro _ h7 ⟨x, rfl, hx, H7⟩
  refine jw (n := 2) (l := jW (13, jb kx.2.2.1 0 6, 0, ((l.length : Int) + ((2 : Nat) : Int)), 0) ++ jW x) (sz := 5) H7 rfl rfl rfl rfl fun v8 h8 H8 => ?_
  have S1 : Sl (fun _ => True) h8 5 [((13, jb kx.2.2.1 0 6, 0, ((l.length : Int) + ((2 : Nat) : Int)), 0) : qb), x].length v8 ([((13, jb kx.2.2.1 0 6, 0, ((l.length : Int) + ((2 : Nat) : Int)), 0) : qb), x].flatMap jW) := by simpa using H8.sl .here
  refine y0 (H8.sel (P := zH lv l) e_2) S1 (by simp; omega) fun v9 h9 H9 => ?_
  refine zi H5 (b := b3) .here rfl H5 .here rfl rfl (by omega) (HS.lt H5 .here) ?_
  refine hj _ _ ⟨_, st, v9, ov, rfl, B.two (zer _ hr) (hx.ok calm) (by show Flat 13; unfold Flat; decide) hx.flat (fun _ => rfl) (fun hh => by have := hx.nj; omega), same, by simp; omega, by simp, ?_⟩
  rw [hsame]
  exact H9.sub (.cons .here (.drop (.drop (.cons .here (.cons .here .refl)))))
 have bak : calm = false → wp (qw (α := AV × AV × AV × AV × AV × AV × AV × Unit → AH → Go.Ae.R) (fun s180 h181 => j (s180.1, s180.2.1, s180.2.2.1, s180.2.2.2.1, s180.2.2.2.2.1, s180.2.2.2.2.2.1, s180.2.2.2.2.2.2.1, ()) h181 []) fun j182 =>
   qT h5 (.ptr b3 0) 5 fun v205 => qW (callT tab qU k) (.fn 59 [] []) [v205] h5 fun v206 h207 => qJ (.ptr b3 0) 2 fun v208 => qZ h207 v208 fun v209 =>
   qW (callT tab qU k) (.fn 58 [] []) [v209] h207 fun v210 h211 => qr lv fun v212 =>
   qm [(.int .i64 ((0 : Nat) : Int)), (.int .i64 ((0 : Nat) : Int)), (.int .i64 ((0 : Nat) : Int)), (.int .i64 ((0 : Nat) : Int)), (.int .u64 ((0 : Nat) : Int))] [(0, 1, (.int .i64 ((13 : Nat) : Int))), (1, 1, v210), (3, 1, v212)] fun v213 =>
   q8 h211 28 [(.int .i64 ((0 : Nat) : Int)), (.int .i64 ((0 : Nat) : Int)), (.int .i64 ((0 : Nat) : Int)), (.int .i64 ((0 : Nat) : Int)), (.int .u64 ((0 : Nat) : Int))] 2 [(0, 5, v206), (5, 5, v213)] fun v214 h215 => jX h215 28 5 lv v214 fun v216 h217 =>
   zQ v208 none v209 h5 h207 h5.nx <| j182 (.int .i64 (i : Int), ov, v216, .ptr b0 0, .bool calm, .int .i64 most, kv, ()) h217) (fun r h' => ∃ lv l, r = .agg [lv] ∧ Bld calm l [] ∧ 0 < l.length ∧ (l.length : Int) ≤ most ∧ HS g h' (zH lv l :: R)) := by
  intro hcal
  refine qV ?_
  try dsimp only
  refine jj H5 (b := b3) (off := 0) .here rfl (by omega) (l := jW kx) rfl ?_
  refine qx (kD (by omega) hNi H5) ?_
  rintro _ h7 ⟨x, rfl, hx, H7⟩
  refine qK (qz H7 (b := b3) .here rfl ?_)
  refine qx (wm (by omega)) ?_
  rintro _ h7 ⟨rfl, rfl⟩
  have hr := jh kx.2.2.1 (show (0 : Int) ≤ 6 by omega)
  have H7' : HS g h7 (qa b3 (jW kx) :: qL 28 5 l.length lv (l.flatMap jW) :: kC ov (jF l st) :: qa b0 [.nils] :: R) := H7
  refine jH (n := l.length) H7' e_1 ?_
  refine qo (l := jW (13, jb kx.2.2.1 0 6, 0, (l.length : Int), 0)) rfl ?_
  refine jw (n := 2) (l := jW x ++ jW (13, jb kx.2.2.1 0 6, 0, (l.length : Int), 0)) (sz := 5) H7 rfl rfl rfl rfl fun v8 h8 H8 => ?_
  have S1 : Sl (fun _ => True) h8 5 [x, ((13, jb kx.2.2.1 0 6, 0, (l.length : Int), 0) : qb)].length v8 ([x, ((13, jb kx.2.2.1 0 6, 0, (l.length : Int), 0) : qb)].flatMap jW) := by simpa using H8.sl .here
  refine y0 (H8.sel (P := zH lv l) e_2) S1 (by simp; omega) fun v9 h9 H9 => ?_
  refine vH H5 (b := b3) .here rfl H7 .here rfl (HS.lt H5 .here) ?_
  refine hj _ _ ⟨l ++ [x, (13, jb kx.2.2.1 0 6, 0, (l.length : Int), 0)], st, v9, ov, rfl, B.two (hx.ok calm) ⟨OB (by omega) (by omega), by show (13 : Int) ≠ 23; decide, by show (0 : Int) ≤ 0 ∧ (0 : Int) < 18446744073709551616; decide, fun _ => by show (13 : Int) ≠ 20 ∧ (13 : Int) ≠ 22 ∧ (13 : Int) ≠ 12; decide⟩ hx.flat (by show Flat 13; unfold Flat; decide) (fun hh => by have := hx.nj; omega) (fun _ => ⟨rfl, hcal⟩), same, by simp; omega, by simp, ?_⟩
  rw [hsame]
  exact H9.sub (.cons .here (.drop (.drop (.cons .here (.cons .here .refl)))))
 have hd : (w = 20 ∧ st.length < 5) ∨ (w = 20 ∧ ¬ st.length < 5) ∨ (w = 21 ∧ st.length < 5) ∨ (w = 21 ∧ ¬ st.length < 5) ∨ (w = 22 ∧ st.length < 5) ∨ (w = 22 ∧ ¬ st.length < 5) ∨ (w = 23 ∧ 0 < st.length) ∨ (w = 23 ∧ ¬ 0 < st.length) ∨ (w = 24 ∧ 0 < st.length) ∨ (w = 24 ∧ ¬ 0 < st.length) ∨ (w = 25 ∧ 0 < st.length) ∨ (w = 25 ∧ ¬ 0 < st.length) ∨ (w = 26 ∧ calm = true) ∨ (w = 26 ∧ calm = false ∧ 0 < st.length) ∨ (w = 26 ∧ calm = false ∧ ¬ 0 < st.length) ∨ (w = 27 ∧ calm = true) ∨ (w = 27 ∧ calm = false ∧ 0 < st.length) ∨ (w = 27 ∧ calm = false ∧ ¬ 0 < st.length) ∨ (w = 28 ∧ calm = true) ∨ (w = 28 ∧ calm = false) ∨ (w = 29 ∧ calm = true) ∨ (w = 29 ∧ calm = false) ∨ (w = 30) ∨ (w = 31) ∨ (w = 32 ∧ calm = true) ∨ (w = 32 ∧ calm = false) ∨ (w < 20 ∨ 32 < w) := by
  cases calm <;> simp only [reduceCtorEq, and_true, true_and, and_false, false_and, or_false, false_or] <;> omega
 rcases hd with ⟨hw1, hs1⟩ | ⟨hw1, hs1⟩ | ⟨hw1, hs1⟩ | ⟨hw1, hs1⟩ | ⟨hw1, hs1⟩ | ⟨hw1, hs1⟩ | ⟨hw1, hs1⟩ | ⟨hw1, hs1⟩ | ⟨hw1, hs1⟩ | ⟨hw1, hs1⟩ | ⟨hw1, hs1⟩ | ⟨hw1, hs1⟩ | ⟨hw1, rfl⟩ | ⟨hw1, rfl, hs1⟩ | ⟨hw1, rfl, hs1⟩ | ⟨hw1, rfl⟩ | ⟨hw1, rfl, hs1⟩ | ⟨hw1, rfl, hs1⟩ | ⟨hw1, rfl⟩ | ⟨hw1, rfl⟩ | ⟨hw1, rfl⟩ | ⟨hw1, rfl⟩ | hw1 | hw1 | ⟨hw1, rfl⟩ | ⟨hw1, rfl⟩ | hw1
 all_goals repeat (first | with_reducible refine qG (by omega) ?_ | with_reducible refine qH (by omega) ?_ | (with_reducible refine qV ?_; try dsimp only) | (with_reducible refine qi ?_; try dsimp only) | (with_reducible refine qp ?_; try dsimp only) | (with_reducible refine qh ?_; try dsimp only) | (with_reducible refine qS ?_; try dsimp only) | with_reducible refine qO ?_ | with_reducible refine qE ?_ | with_reducible refine qY ?_ | with_reducible refine qQ ?_ | with_reducible refine zh (by omega) ?_ | with_reducible refine zC (by omega) ?_ | with_reducible refine xR (by omega) ?_ | with_reducible refine xA (by omega) ?_ | with_reducible refine jU ?_ | with_reducible refine jc ?_ | with_reducible refine jT (by omega) ?_ | with_reducible refine qK ?_ | (with_reducible refine jP ?_; try dsimp only) | with_reducible refine qz H6 .here rfl ?_ | with_reducible refine qo rfl ?_)
 ·exact beg 14 (.inl rfl) (by omega)
 ·exact dflt
 ·exact beg 17 (.inr rfl) (by omega)
 ·exact dflt
 ·exact beg 17 (.inr rfl) (by omega)
 ·exact dflt
 ·exact shu (by omega)
 ·exact dflt
 ·exact shu (by omega)
 ·exact dflt
 ·rw [show (st.length : Int) - ((1 : Nat) : Int) = ((st.length - 1 : Nat) : Int) by omega]
  refine jn (H6.sl e_2) (x := .int .i64 (opM l st)) (by rw [List.getElem?_map, Kh (List.length_pos_iff.1 hs1)]; rfl) ?_
  by_cases h14 : opM l st = 14
  ·refine qH h14 ?_
   with_reducible (refine qO ?_; refine qY ?_; refine qo rfl ?_)
   exact und h14
  ·refine qG h14 ?_
   with_reducible (refine qO ?_; refine qQ ?_; refine qG (by omega) ?_; refine qV ?_; (try dsimp only); refine qS ?_; (try dsimp only); refine qG (by omega) ?_; refine qE ?_; refine qV ?_; (try dsimp only); refine qh ?_; (try dsimp only); refine qE ?_; refine qV ?_; (try dsimp only); refine qh ?_; (try dsimp only); refine qE ?_; refine qQ ?_; refine qG (by omega) ?_; refine qV ?_; (try dsimp only); refine qh ?_; (try dsimp only); refine qE ?_; refine qQ ?_; refine qG (by omega) ?_; refine qV ?_; (try dsimp only); refine qh ?_; (try dsimp only); refine qE ?_; refine qQ ?_; refine qG (by omega) ?_; refine qV ?_; (try dsimp only); refine qS ?_; (try dsimp only); refine qG (by omega) ?_; refine qE ?_; refine qQ ?_; refine qG (by omega) ?_; refine qV ?_; (try dsimp only); refine qh ?_; (try dsimp only); refine qE ?_; refine qQ ?_)
   exact dflt
 ·exact dflt
 ·exact dflt
 ·exact two 20 (.inl rfl) rfl
 ·exact dflt
 ·exact dflt
 ·exact two 20 (.inl rfl) rfl
 ·exact dflt
 ·exact dflt
 ·exact two 20 (.inl rfl) rfl
 ·exact dflt
 ·exact two 22 (.inr rfl) rfl
 ·exact ovr
 ·exact ovr
 ·exact dflt
 ·exact bak rfl
 ·exact dflt
end Go.Proofs.YtdlfmpmpmkffjaaGreatDoor
namespace Go.Proofs.YtdlfmpmpmkffjaaGreatDoor
open Go Go.Ae
set_option maxRecDepth 100000
variable {g h : AH} {L R : List SP}
theorem kR {p : Int} {c : Cl} {l : List Cl} : zV p (c :: l) = if c.1 = p then some c.2 else zV p l := rfl
theorem qQ4 (zs : List Int) {i : Nat} (h0 : 0 < i) (h : i < szZ zs.length) : zV (i : Int) (kW zs) = some (zm zs i) := by
 have e : kW zs = (kW zs).take (i - 1) ++ [((i : Int), zm zs i)] ++ (kW zs).drop i := by
  have hk := Yb zs (show i - 1 + 1 < szZ zs.length by omega)
  rw [show i - 1 + 1 = i by omega] at hk
  have := List.take_add_one (l := kW zs) (i := i - 1)
  rw [show i - 1 + 1 = i by omega, hk, Option.toList_some] at this
  rw [← this, List.take_append_drop]
 have hg : ∀ (l1 l2 : List Cl), zV (i : Int) l1 = none → zV (i : Int) (l1 ++ l2) = zV (i : Int) l2 := by
  intro l1 l2
  induction l1 with
  | nil => intro _; rfl
  | cons c l ih =>
   intro hn
   rw [kR] at hn
   split at hn
   ·cases hn
   ·rename_i hc
    show zV (i : Int) (c :: (l ++ l2)) = _
    rw [kR, if_neg hc]
    exact ih hn
 rw [e, List.append_assoc, hg _ _ (U4 zs (by omega))]
 show zV (i : Int) (((i : Int), zm zs i) :: _) = _
 rw [kR, if_pos rfl]
theorem Gt {zs : List Int} {m : Int} (hz : ∀ z ∈ zs, 0 ≤ z ∧ z < 18446744073709551616) : ja (xu zs m) := by
 refine ⟨MA zs m, ?_, ?_⟩
 ·intro c hc
  obtain ⟨i, _, rfl⟩ := List.mem_map.1 hc
  show 0 ≤ zm zs (i + 1) ∧ zm zs (i + 1) < 18446744073709551616
  unfold zm
  cases hzi : zs[i + 1]? with
  | none => simp
  | some z => exact hz z (List.mem_of_getElem? hzi)
 ·intro x hx
  simp [xu] at hx
  subst hx
  intro c hc; cases hc
theorem Mg (op a n : Int) (s : IM) (V : VM) : (zX op a n s V).blk = false := by unfold zX; split <;> rfl
theorem GV {mt : List Int} {s : IM} {V : VM} {x : qb} (h : 1 ≤ x.1 ∧ x.1 ≤ 23) (h1 : x.1 ≠ 20) (h3 : x.1 ≠ 23) : (doM mt s V x).blk = false := by
 unfold doM
 by_cases c1 : x.1 = 1
 ·rw [if_pos c1]
 rw [if_neg c1]
 by_cases c2 : x.1 = 2
 ·rw [if_pos c2]
 rw [if_neg c2]
 by_cases c3 : x.1 = 3
 ·rw [if_pos c3]
 rw [if_neg c3]
 by_cases c4 : x.1 = 4
 ·rw [if_pos c4]
 rw [if_neg c4]
 by_cases c5 : x.1 = 5
 ·rw [if_pos c5]
 rw [if_neg c5]
 by_cases c6 : x.1 = 6
 ·rw [if_pos c6]
 rw [if_neg c6]
 by_cases c7 : x.1 = 7
 ·rw [if_pos c7]
 rw [if_neg c7]
 by_cases c12 : x.1 = 12
 ·rw [if_pos c12]
 rw [if_neg c12]
 by_cases c13 : x.1 = 13
 ·rw [if_pos c13]
 rw [if_neg c13]
 by_cases c21 : x.1 = 21
 ·rw [if_pos c21]; split <;> rfl
 rw [if_neg c21]
 by_cases c22 : x.1 = 22
 ·rw [if_pos c22]
 rw [if_neg c22]
 by_cases c8 : x.1 = 8 ∨ x.1 = 9 ∨ x.1 = 10 ∨ x.1 = 11
 ·rw [if_pos c8]
 rw [if_neg c8]
 unfold gt
 by_cases t1 : x.1 = 14 ∨ x.1 = 17
 ·rw [if_pos t1]; exact Mg ..
 rw [if_neg t1]
 by_cases t2 : x.1 = 15 ∨ x.1 = 19
 ·rw [if_pos t2]
 rw [if_neg t2]
 by_cases t3 : x.1 = 18
 ·rw [if_pos t3]
 rw [if_neg t3]
 by_cases t4 : x.1 = 16
 ·rw [if_pos t4]
 omega
def Calm (l : List qb) : Prop := ∀ x ∈ l, x.1 ≠ 20
theorem N9 {l : List qb} (F : Fit l) (Q : Quiet l) (C : Calm l) : ∀ (n : Nat) {s : IM} {V : VM}, GI l s V → frS V.lv + n < 9000 → (zg l (qf l) n s V).kind ≠ 3 := by
 intro n
 induction n with
 | zero =>
  intro s V G hf
  rw [ka]
  split
  ·show (2 : Int) ≠ 3; decide
  ·show (4 : Int) ≠ 3; decide
 | succ n ih =>
  intro s V G hf
  rw [kU]
  split
  ·show (2 : Int) ≠ 3; decide
  ·rename_i h0
   obtain ⟨i, hi, hil⟩ := G.pc
   have hlt : i < l.length := by omega
   rw [hi]
   have S := JK F G hi hlt (by omega) (Q.at hlt).2 (Q.at hlt).1
   have hb : (doM (qf l) s V (qF l i)).blk = false := by
    have hw := zo (F.ok i hlt)
    have hb := KZ hw.1 (Q.at hlt).1
    refine GV (by omega) ?_ (Q.at hlt).1
    rw [zP hlt]
    exact C _ (List.getElem_mem hlt)
   generalize doM (qf l) s V (qF l i) = D at *
   rw [hb]
   split
   ·rename_i h1
    rw [if_neg (by simp)]
    have hfr := S.fr
    exact ih (S.next h1 hb) (by omega)
   ·split
    ·show (1 : Int) ≠ 3; decide
    ·show (4 : Int) ≠ 3; decide
theorem VI {l : List qb} (F : Fit l) (Q : Quiet l) {zs : List Int} {m : Int} {n : Nat} {s : IM} {V : VM} (G : GI l s V) (hK : V.K = kW zs) (hs : V.sz = szZ zs.length) (hf : frS V.lv + n < 9000) : (zg l (qf l) n s V).kind ≠ 1 := by
 intro h
 obtain ⟨_, _, _, d, _⟩ := Ku F Q n G hf
 obtain ⟨_, d1, d2, d3⟩ := d h
 generalize (zg l (qf l) n s V).v.need = p at *
 obtain ⟨i, rfl⟩ : ∃ i : Nat, p = i := ⟨p.toNat, by omega⟩
 rw [hK, qQ4 zs (by omega) (by omega)] at d3
 cases d3
theorem YI {l : List qb} {zs : List Int} {m : Int} (hz : OkN zs) : GI l XL (xu zs m) := qJD rfl (Gt hz)
theorem X0 (zs : List Int) (m : Int) : frS (xu zs m).lv = 0 := by simp [xu, frS]
section
variable {x y v u : Nat} {l l' : List qb} {b b' : Int} {mt mt' : List Int} {s s' : IM} {e e' f f' n1 n2 nx nx' : Int} {V W : VM}
end
end Go.Proofs.YtdlfmpmpmkffjaaGreatDoor
namespace Go.Proofs.YtdlfmpmpmkffjaaGreatDoor
open Go Go.Ae
def zj (k : Nat) (x : qb) : qb := if x.1 = 12 ∨ x.1 = 13 then (x.1, x.2.1, x.2.2.1, x.2.2.2.1 + k, x.2.2.2.2) else x
theorem gv {k : Nat} {x : qb} : (zj k x).1 = x.1 := by unfold zj; split <;> rfl
theorem VG (x : qb) : zj 0 x = x := by unfold zj; split <;> simp
structure Emb (l L : List qb) (k : Nat) (st0 : List Int) : Prop where
  le : k + l.length ≤ L.length
  ins : ∀ i : Nat, i < l.length → qF L ((k + i : Nat) : Int) = zj k (qF l i)
  st : qA L k = st0
theorem US {st0 s : List Int} {k i : Nat} {op : Int} (h : 0 < jR op → s ≠ []) : jq (st0 ++ s.map (· + (k : Int))) ((k + i : Nat) : Int) op = st0 ++ (jq s i op).map (· + (k : Int)) := by
 have hd : 0 < jR op → (st0 ++ s.map (· + (k : Int))).dropLast = st0 ++ s.dropLast.map (· + (k : Int)) := by
  intro h0
  rw [List.dropLast_append_of_ne_nil (by simpa using h h0), List.map_dropLast]
 have e : [((k + i : Nat) : Int)] = [(i : Int)].map (· + (k : Int)) := by simp; omega
 unfold jq
 by_cases c1 : zG op = true ∨ op = 18
 ·rw [if_pos c1, if_pos c1]
  by_cases c2 : 0 < jR op
  ·rw [if_pos c2, if_pos c2, hd c2, List.map_append, e, List.append_assoc]
  ·rw [if_neg c2, if_neg c2, List.map_append, e, List.append_assoc]
 ·rw [if_neg c1, if_neg c1]
  by_cases c2 : 0 < jR op
  ·rw [if_pos c2, if_pos c2, hd c2]
  ·rw [if_neg c2, if_neg c2]
section
variable {l L : List qb} {k : Nat} {st0 : List Int}
theorem Emb.stack (E : Emb l L k st0) (hw : ∀ j, j < l.length → jo l (qA l j) (qF l j) = 0) : ∀ i, i ≤ l.length → qA L (k + i) = st0 ++ (qA l i).map (· + (k : Int)) := by
 intro i
 induction i with
 | zero => intro _; rw [Nat.add_zero, E.st]; simp [qA]
 | succ i ih =>
  intro hi
  rw [← Nat.add_assoc, jk, ih (by omega), E.ins i (by omega), gv, US fun h => (zw (hw i (by omega))).2.1 (.inl h), jk]
theorem UD {s : List Int} (h : s ≠ []) : jV (st0 ++ s.map (· + (k : Int))) = jV s + k := by
 unfold jV
 rw [List.getLast?_append, List.getLast?_map, List.getLast?_eq_some_getLast h]; rfl
theorem ZN (F : Fit l) {p e : Nat} (hp : p < l.length) (ho : (qF l p).1 = 14 ∨ (qF l p).1 = 17 ∨ (qF l p).1 = 18) (he : e < l.length) (h1 : 0 < jR (qF l e).1) (h2 : jV (qA l e) = p) : qd (qf l) (p : Int) = e := by
 obtain ⟨e0, _, _, _, _, _, hu⟩ := JZ F hp ho
 obtain ⟨e1, g1, g2, g3, g4, g5⟩ := yQ F hp ho
 have hin : jV (qA l (p + 1)) = p := by
  rw [jk]
  unfold jq
  rw [if_pos (by unfold zG; simp; omega)]
  unfold jV
  rw [List.getLast?_concat]; rfl
 have a := hu e he h1 h2
 have b := hu e1 g3 (by rw [g4]; omega) (by rw [g5, hin])
 rw [g1, a, b]
theorem qJ3 (F : Fit l) {u e : Nat} (hu : u < l.length) (ho : (qF l u).1 = 16) (he : e < l.length) (h1 : 0 < jR (qF l e).1) (h2 : jV (qA l e) = jV (qA l u)) : qd (qf l) (u : Int) = e := by
 obtain ⟨e1, g1, g2, g3, g4, g5⟩ := vh F hu ho
 obtain ⟨q, q1, q2, _, q3⟩ := xC g5
 have hq := (zo (F.ok u hu)).2.2.1 ho
 rw [Je g5 q1] at hq
 obtain ⟨e0, _, _, _, _, _, hU⟩ := JZ F (p := q) (by omega) (.inl hq)
 have a := hU e he h1 (h2.trans q1)
 have b := hU e1 g2 (by rw [g3]; decide) (by rw [g4, q1])
 rw [g1, a, b]
theorem Emb.mt (E : Emb l L k st0) (F : Fit l) (FL : Fit L) {i : Nat} (hi : i < l.length) (ho : (qF l i).1 = 14 ∨ (qF l i).1 = 17 ∨ (qF l i).1 = 18 ∨ (qF l i).1 = 16) : qd (qf L) ((k + i : Nat) : Int) = qd (qf l) (i : Int) + k := by
 have hle := E.le
 by_cases h : (qF l i).1 = 16
 ·obtain ⟨e1, g1, g2, g3, g4, g5⟩ := vh F hi h
  rw [g1, qJ3 FL (u := k + i) (e := k + e1) (by omega) (by rw [E.ins i hi, gv]; exact h) (by omega) (by rw [E.ins e1 g2, gv, g3]; decide) (by rw [E.stack F.ok _ (by omega), E.stack F.ok _ (by omega), g4])]
  omega
 ·obtain ⟨e1, g1, g2, g3, g4, g5⟩ := yQ F hi (by omega)
  have hin : jV (qA l (i + 1)) = i := by
   rw [jk]
   unfold jq
   rw [if_pos (by unfold zG; simp; omega)]
   unfold jV
   rw [List.getLast?_concat]; rfl
  have hne : qA l e1 ≠ [] := by
   intro h0
   rw [← g5, h0, kP] at hin
   omega
  rw [g1, ZN FL (p := k + i) (e := k + e1) (by omega) (by rw [E.ins i hi, gv]; omega) (by omega) (by rw [E.ins e1 g3, gv, g4]; omega) (by rw [E.stack F.ok _ (by omega), UD hne, g5, hin]; omega)]
  omega
end
def kL (k : Nat) (p : PtM) : PtM := { p with pc := p.pc + k }
structure Sim (k : Nat) (o0 : List PtM) (s S : IM) : Prop where
  regs : S.regs = s.regs
  out : S.out = s.out
  pc : S.pc = s.pc + k
  opn : S.opn = s.opn.map (kL k) ++ o0
structure SimS (k : Nat) (o0 : List PtM) (d D : SM) : Prop where
  e : D.e = d.e
  blk : D.blk = d.blk
  v : D.v = d.v
  nx : D.nx = d.nx + k
  regs : D.s.regs = d.s.regs
  out : D.s.out = d.s.out
  opn : D.s.opn = d.s.opn.map (kL k) ++ o0
section
variable {l L : List qb} {k : Nat} {st0 : List Int} {o0 : List PtM} {s S : IM} {V : VM}
theorem Va {x : qb} (h : Sim k o0 s S) : (je S V x).1 = (je s V x).1 ∧ (je S V x).2.2 = (je s V x).2.2 ∧ (je S V x).2.1.regs = (je s V x).2.1.regs ∧ (je S V x).2.1.out = (je s V x).2.1.out ∧ (je S V x).2.1.opn = (je s V x).2.1.opn.map (kL k) ++ o0 := by
 unfold je setR
 rw [h.regs]
 by_cases c1 : x.1 = 8
 ·rw [if_pos c1, if_pos c1]
  split
  ·split
   ·exact ⟨rfl, rfl, rfl, h.out, h.opn⟩
   ·exact ⟨rfl, rfl, h.regs, h.out, h.opn⟩
  ·exact ⟨rfl, rfl, h.regs, h.out, h.opn⟩
 rw [if_neg c1, if_neg c1]
 by_cases c2 : x.1 = 9
 ·rw [if_pos c2, if_pos c2]
  split
  ·exact ⟨rfl, rfl, h.regs, h.out, h.opn⟩
  ·exact ⟨rfl, rfl, h.regs, h.out, h.opn⟩
 rw [if_neg c2, if_neg c2]
 by_cases c3 : x.1 = 10
 ·rw [if_pos c3, if_pos c3]
  split
  ·exact ⟨rfl, rfl, h.regs, h.out, h.opn⟩
  ·split
   ·exact ⟨rfl, rfl, rfl, h.out, h.opn⟩
   ·exact ⟨rfl, rfl, h.regs, h.out, h.opn⟩
 rw [if_neg c3, if_neg c3]
 split
 ·exact ⟨rfl, rfl, h.regs, h.out, h.opn⟩
 ·exact ⟨rfl, rfl, h.regs, h.out, h.opn⟩
theorem MH {op : Int} (h : Sim k o0 s S) : SimS k o0 (zX op s.pc (s.pc + 1) s V) (zX op S.pc (S.pc + 1) S V) := by
 unfold zX
 have hp := h.pc
 split
 ·refine ⟨rfl, rfl, rfl, by show S.pc + 1 = s.pc + 1 + k; omega, h.regs, h.out, ?_⟩
  show _ :: S.opn = _ :: (s.opn.map (kL k)) ++ o0
  rw [h.opn, List.cons_append]
  unfold kL
  rw [h.regs, h.out, hp]
 ·exact ⟨rfl, rfl, rfl, by show S.pc + 1 = s.pc + 1 + k; omega, h.regs, h.out, h.opn⟩
theorem qZp {mt MT : List Int} {x : qb} (h : Sim k o0 s S) (hx : 1 ≤ x.1 ∧ x.1 ≤ 22) (h20 : x.1 ≠ 20) (hm : x.1 = 16 ∨ x.1 = 18 → qd MT S.pc = qd mt s.pc + k) (ho : x.1 = 15 ∨ x.1 = 16 ∨ x.1 = 18 ∨ x.1 = 19 → s.opn ≠ []) :
  SimS k o0 (doM mt s V x) (doM MT S V (zj k x)) := by
 have hp := h.pc
 have hr := h.regs
 have hnx : S.pc + 1 = s.pc + 1 + k := by omega
 by_cases cj : x.1 = 12 ∨ x.1 = 13
 ·have ex : zj k x = (x.1, x.2.1, x.2.2.1, x.2.2.2.1 + k, x.2.2.2.2) := if_pos cj
  rw [ex]
  unfold doM
  rcases cj with cj | cj
  ·simp only [cj]
   exact ⟨rfl, rfl, rfl, rfl, h.regs, h.out, h.opn⟩
  ·simp only [cj]
   refine ⟨rfl, rfl, rfl, ?_, h.regs, h.out, h.opn⟩
   show (if qd S.regs x.2.1 = 0 then x.2.2.2.1 + (k : Int) else S.pc + 1) = (if qd s.regs x.2.1 = 0 then x.2.2.2.1 else s.pc + 1) + k
   rw [hr]
   split
   ·rfl
   ·exact hnx
 have ex : zj k x = x := if_neg cj
 rw [ex]
 unfold doM
 by_cases c1 : x.1 = 1
 ·rw [if_pos c1, if_pos c1]; unfold setR; rw [hr]; exact ⟨rfl, rfl, rfl, hnx, rfl, h.out, h.opn⟩
 rw [if_neg c1, if_neg c1]
 by_cases c2 : x.1 = 2
 ·rw [if_pos c2, if_pos c2]; unfold setR; rw [hr]; exact ⟨rfl, rfl, rfl, hnx, rfl, h.out, h.opn⟩
 rw [if_neg c2, if_neg c2]
 by_cases c3 : x.1 = 3
 ·rw [if_pos c3, if_pos c3]; unfold setR; rw [hr]; exact ⟨rfl, rfl, rfl, hnx, rfl, h.out, h.opn⟩
 rw [if_neg c3, if_neg c3]
 by_cases c4 : x.1 = 4
 ·rw [if_pos c4, if_pos c4]; unfold setR; rw [hr]; exact ⟨rfl, rfl, rfl, hnx, rfl, h.out, h.opn⟩
 rw [if_neg c4, if_neg c4]
 by_cases c5 : x.1 = 5
 ·rw [if_pos c5, if_pos c5]; unfold setR; rw [hr]; exact ⟨rfl, rfl, rfl, hnx, rfl, h.out, h.opn⟩
 rw [if_neg c5, if_neg c5]
 by_cases c6 : x.1 = 6
 ·rw [if_pos c6, if_pos c6]; unfold setR; rw [hr]; exact ⟨rfl, rfl, rfl, hnx, rfl, h.out, h.opn⟩
 rw [if_neg c6, if_neg c6]
 by_cases c7 : x.1 = 7
 ·rw [if_pos c7, if_pos c7]; unfold setR; rw [hr]; exact ⟨rfl, rfl, rfl, hnx, rfl, h.out, h.opn⟩
 rw [if_neg c7, if_neg c7]
 rw [if_neg (fun h => cj (.inl h)), if_neg (fun h => cj (.inl h)), if_neg (fun h => cj (.inr h)), if_neg (fun h => cj (.inr h))]
 by_cases c21 : x.1 = 21
 ·rw [if_pos c21, if_pos c21, h.out, hr]
  split
  ·exact ⟨rfl, rfl, rfl, hnx, h.regs, h.out, h.opn⟩
  ·exact ⟨rfl, rfl, rfl, hnx, rfl, rfl, h.opn⟩
 rw [if_neg c21, if_neg c21]
 by_cases c22 : x.1 = 22
 ·rw [if_pos c22, if_pos c22]; exact ⟨rfl, rfl, rfl, hnx, h.regs, h.out, h.opn⟩
 rw [if_neg c22, if_neg c22]
 by_cases c8 : x.1 = 8 ∨ x.1 = 9 ∨ x.1 = 10 ∨ x.1 = 11
 ·rw [if_pos c8, if_pos c8]
  obtain ⟨a, b, c, d, e⟩ := Va (V := V) (x := x) h
  exact ⟨a, rfl, b, hnx, c, d, e⟩
 rw [if_neg c8, if_neg c8]
 unfold gt
 by_cases t1 : x.1 = 14 ∨ x.1 = 17
 ·rw [if_pos t1, if_pos t1]; exact MH h
 rw [if_neg t1, if_neg t1]
 have tl : x.1 = 15 ∨ x.1 = 16 ∨ x.1 = 18 ∨ x.1 = 19 → S.opn.tail = s.opn.tail.map (kL k) ++ o0 := by
  intro hh
  have := ho hh
  rw [h.opn]
  cases hs : s.opn with
  | nil => exact absurd hs this
  | cons p o => rfl
 by_cases t2 : x.1 = 15 ∨ x.1 = 19
 ·rw [if_pos t2, if_pos t2]; exact ⟨rfl, rfl, rfl, hnx, h.regs, h.out, tl (by omega)⟩
 rw [if_neg t2, if_neg t2]
 by_cases t3 : x.1 = 18
 ·rw [if_pos t3, if_pos t3]
  have := hm (.inr t3)
  exact ⟨rfl, rfl, rfl, by show qd MT S.pc + 1 = qd mt s.pc + 1 + k; omega, h.regs, h.out, tl (by omega)⟩
 rw [if_neg t3, if_neg t3]
 by_cases t4 : x.1 = 16
 ·rw [if_pos t4, if_pos t4]
  have := hm (.inl t4)
  have hh : XA S.opn = kL k (XA s.opn) := by
   have := ho (.inr (.inl t4))
   rw [h.opn]
   cases hs : s.opn with
   | nil => exact absurd hs this
   | cons p o => rfl
  refine ⟨rfl, rfl, rfl, by show qd MT S.pc + 1 = qd mt s.pc + 1 + k; omega, ?_, ?_, tl (by omega)⟩
  ·show (XA S.opn).regs = (XA s.opn).regs
   rw [hh]; rfl
  ·show S.out.take (XA S.opn).told = s.out.take (XA s.opn).told
   rw [hh, h.out]; rfl
 omega
end
end Go.Proofs.YtdlfmpmpmkffjaaGreatDoor
namespace Go.Proofs.YtdlfmpmpmkffjaaGreatDoor
open Go Go.Ae
theorem do_nx {l : List qb} (F : Fit l) {s : IM} {V : VM} {i : Nat} (hi : s.pc = i) (hlt : i < l.length) (h20 : (qF l i).1 ≠ 20) (h23 : (qF l i).1 ≠ 23) : ∃ j : Nat, (doM (qf l) s V (qF l i)).nx = j ∧ j ≤ l.length := by
 have hm := KZ (zo (F.ok i hlt)).1 h23
 have hj := F.jump i hlt
 have h1 : ∃ j : Nat, s.pc + 1 = j ∧ j ≤ l.length := ⟨i + 1, by omega, by omega⟩
 have hmt : (qF l i).1 = 16 ∨ (qF l i).1 = 18 → ∃ j : Nat, qd (qf l) s.pc + 1 = j ∧ j ≤ l.length := by
  intro h
  rw [hi]
  rcases h with h | h
  ·obtain ⟨e, e1, e2, _⟩ := vh F hlt h
   exact ⟨e + 1, by omega, by omega⟩
  ·obtain ⟨e, e1, _, e2, _⟩ := yQ F hlt (.inr (.inr h))
   exact ⟨e + 1, by omega, by omega⟩
 have hc : (qF l i).1 = 12 ∨ (qF l i).1 = 13 → ∃ j : Nat, (qF l i).2.2.2.1 = j ∧ j ≤ l.length := by
  intro h
  refine ⟨(qF l i).2.2.2.1.toNat, by omega, ?_⟩
  by_cases hc : (l.length : Int) < (qF l i).2.2.2.1
  ·exact absurd ⟨h, .inl hc⟩ hj
  ·omega
 generalize qF l i = x at *
 unfold doM
 by_cases c1 : x.1 = 1
 ·rw [if_pos c1]; exact h1
 rw [if_neg c1]
 by_cases c2 : x.1 = 2
 ·rw [if_pos c2]; exact h1
 rw [if_neg c2]
 by_cases c3 : x.1 = 3
 ·rw [if_pos c3]; exact h1
 rw [if_neg c3]
 by_cases c4 : x.1 = 4
 ·rw [if_pos c4]; exact h1
 rw [if_neg c4]
 by_cases c5 : x.1 = 5
 ·rw [if_pos c5]; exact h1
 rw [if_neg c5]
 by_cases c6 : x.1 = 6
 ·rw [if_pos c6]; exact h1
 rw [if_neg c6]
 by_cases c7 : x.1 = 7
 ·rw [if_pos c7]; exact h1
 rw [if_neg c7]
 by_cases c12 : x.1 = 12
 ·rw [if_pos c12]; exact hc (.inl c12)
 rw [if_neg c12]
 by_cases c13 : x.1 = 13
 ·rw [if_pos c13]
  show ∃ j : Nat, (if qd s.regs x.2.1 = 0 then x.2.2.2.1 else s.pc + 1) = j ∧ j ≤ l.length
  split
  ·exact hc (.inr c13)
  ·exact h1
 rw [if_neg c13]
 by_cases c21 : x.1 = 21
 ·rw [if_pos c21]; split <;> exact h1
 rw [if_neg c21]
 by_cases c22 : x.1 = 22
 ·rw [if_pos c22]; exact h1
 rw [if_neg c22]
 by_cases c8 : x.1 = 8 ∨ x.1 = 9 ∨ x.1 = 10 ∨ x.1 = 11
 ·rw [if_pos c8]; exact h1
 rw [if_neg c8]
 unfold gt
 by_cases t1 : x.1 = 14 ∨ x.1 = 17
 ·rw [if_pos t1]; unfold zX; split <;> exact h1
 rw [if_neg t1]
 by_cases t2 : x.1 = 15 ∨ x.1 = 19
 ·rw [if_pos t2]; exact h1
 rw [if_neg t2]
 by_cases t3 : x.1 = 18
 ·rw [if_pos t3]; exact hmt (.inr t3)
 rw [if_neg t3]
 by_cases t4 : x.1 = 16
 ·rw [if_pos t4]; exact hmt (.inl t4)
 clear h1 hmt hc
 omega
section
variable {l L : List qb} {k : Nat} {st0 : List Int} {o0 : List PtM}
theorem qJN (E : Emb l L k st0) (F : Fit l) {s S : IM} {V : VM} (h : Sim k o0 s S) (G : GI L S V) {i : Nat} (hi : s.pc = i) (hil : i ≤ l.length) (h0 : o0.length = st0.length) : s.opn.length = (qA l i).length := by
 have e := congrArg List.length G.stk
 rw [h.pc, hi, show ((i : Int) + (k : Int)).toNat = k + i by omega, E.stack F.ok i hil, h.opn] at e
 simp at e
 omega
theorem NT (E : Emb l L k st0) (F : Fit l) (FL : Fit L) (QL : Quiet L) (Cl : Calm l) (h0 : o0.length = st0.length) {s S : IM} {V : VM} (h : Sim k o0 s S) (G : GI L S V) {i : Nat} (hi : s.pc = i) (hlt : i < l.length) :
  SimS k o0 (doM (qf l) s V (qF l i)) (doM (qf L) S V (qF L ((k + i : Nat) : Int))) ∧ (doM (qf l) s V (qF l i)).blk = false ∧ ∃ j : Nat, (doM (qf l) s V (qF l i)).nx = j ∧ j ≤ l.length := by
 have hle := E.le
 have hq : (qF l i).1 ≠ 23 := by
  have := (QL.at (i := k + i) (by omega)).1
  rwa [E.ins i hlt, gv] at this
 have h20 : (qF l i).1 ≠ 20 := by rw [zP hlt]; exact Cl _ (List.getElem_mem hlt)
 have hw := F.ok i hlt
 have hb := KZ (zo hw).1 hq
 have hlen := qJN E F h G hi (by omega) h0
 have hso : S.pc = ((k + i : Nat) : Int) := by have := h.pc; omega
 rw [E.ins i hlt]
 refine ⟨qZp h (by omega) h20 (fun ho => ?_) (fun ho hn => ?_), GV (by omega) h20 hq, do_nx F hi hlt h20 hq⟩
 ·rw [hso, hi, E.mt F FL hlt (by omega)]
 ·rw [hn] at hlen
  have : qA l i ≠ [] := (zw hw).2.1 (by
   rcases ho with ho | ho | ho | ho
   ·exact .inl (by rw [ho]; decide)
   ·exact .inr ho
   ·exact .inl (by rw [ho]; decide)
   ·exact .inl (by rw [ho]; decide))
  exact this (List.eq_nil_of_length_eq_zero hlen.symm)
theorem qQo (E : Emb l L k st0) (F : Fit l) (FL : Fit L) (QL : Quiet L) (Cl : Calm l) (h0 : o0.length = st0.length) : ∀ (n : Nat) {s S : IM} {V : VM}, Sim k o0 s S → GI L S V → (∃ i : Nat, s.pc = i ∧ i ≤ l.length) → frS V.lv + n < 9000 →
  ((zg l (qf l) n s V).kind = 2 → ∃ S', zg L (qf L) n S V = zg L (qf L) (zg l (qf l) n s V).left S' (zg l (qf l) n s V).v ∧ Sim k o0 (zg l (qf l) n s V).s S' ∧ GI L S' (zg l (qf l) n s V).v ∧
   frS (zg l (qf l) n s V).v.lv + (zg l (qf l) n s V).left < 9000 ∧ (zg l (qf l) n s V).s.pc = l.length ∧ (zg l (qf l) n s V).left ≤ n) ∧
  ((zg l (qf l) n s V).kind ≠ 2 → (zg L (qf L) n S V).kind = (zg l (qf l) n s V).kind ∧ (zg L (qf L) n S V).err = (zg l (qf l) n s V).err) := by
 have hle := E.le
 intro n
 induction n with
 | zero =>
  rintro s S V h G ⟨i, hi, hil⟩ hf
  have hp := h.pc
  rw [ka]
  by_cases c : s.pc = l.length
  ·rw [if_pos c]
   exact ⟨fun _ => ⟨S, rfl, h, G, hf, c, Nat.le_refl _⟩, fun hk => absurd rfl hk⟩
  ·rw [if_neg c, ka, if_neg (by omega)]
   exact ⟨fun hk => (by cases hk), fun _ => ⟨rfl, rfl⟩⟩
 | succ n ih =>
  rintro s S V h G ⟨i, hi, hil⟩ hf
  have hp := h.pc
  rw [kU]
  by_cases c : s.pc = l.length
  ·rw [if_pos c]
   exact ⟨fun _ => ⟨S, rfl, h, G, hf, c, Nat.le_refl _⟩, fun hk => absurd rfl hk⟩
  ·have hlt : i < l.length := by omega
   have hSp : S.pc = ((k + i : Nat) : Int) := by omega
   obtain ⟨D, hb, j, hj, hjl⟩ := NT E F FL QL Cl h0 h G hi hlt
   have St := JK FL G hSp (by omega) (by omega) (QL.at (i := k + i) (by omega)).2 (QL.at (i := k + i) (by omega)).1
   have e1 := kU (l := L) (mt := qf L) (n := n) (s := S) (V := V)
   rw [if_neg (show ¬ S.pc = L.length by omega), hSp] at e1
   rw [if_neg c, e1, hi]
   clear e1
   generalize doM (qf l) s V (qF l i) = d at *
   generalize doM (qf L) S V (qF L ((k + i : Nat) : Int)) = D' at *
   have hB : D'.blk = false := D.blk.trans hb
   by_cases c0 : d.e = 0
   ·rw [if_pos c0, if_neg (by rw [hb]; simp), if_pos (D.e.trans c0), if_neg (by rw [hB]; simp)]
    have hfr := St.fr
    have G2 := St.next (D.e.trans c0) hB
    have S2 : Sim k o0 { d.s with pc := d.nx } { D'.s with pc := D'.nx } := ⟨D.regs, D.out, D.nx, D.opn⟩
    rw [D.v] at hfr G2 ⊢
    obtain ⟨a, b⟩ := ih S2 G2 ⟨j, hj, hjl⟩ (by omega)
    refine ⟨fun hk => ?_, b⟩
    obtain ⟨S', x1, x2, x3, x4, x5, x6⟩ := a hk
    exact ⟨S', x1, x2, x3, x4, x5, by omega⟩
   ·have c0' : ¬ D'.e = 0 := by rw [D.e]; exact c0
    rw [if_neg c0, if_neg c0']
    by_cases c11 : d.e = 11
    ·rw [if_pos c11, if_pos (D.e.trans c11)]
     exact ⟨fun hk => (by cases hk), fun _ => ⟨rfl, rfl⟩⟩
    ·have c11' : ¬ D'.e = 11 := by rw [D.e]; exact c11
     rw [if_neg c11, if_neg c11']
     exact ⟨fun hk => (by cases hk), fun _ => ⟨rfl, D.e⟩⟩
end
end Go.Proofs.YtdlfmpmpmkffjaaGreatDoor
namespace Go.Proofs.YtdlfmpmpmkffjaaGreatDoor.arenaPlays
open Go Go.Ae
set_option maxRecDepth 100000
variable {g h : AH} {L R : List SP}
end Go.Proofs.YtdlfmpmpmkffjaaGreatDoor.arenaPlays
namespace Go.Proofs.YtdlfmpmpmkffjaaGreatDoor
open Go Go.Ae
set_option maxRecDepth 100000
variable {g h : AH} {L R : List SP}
def Gg (zs : List Int) : List Int := (List.range (szZ zs.length)).map fun i => if i = 0 then 0 else zm zs i
def putZ (l : List Int) (c : Cl) : List Int := if 1 ≤ c.1 ∧ c.1 < l.length then l.set c.1.toNat c.2 else l
def xG (zs : List Int) (cs : List Cl) : List Int := cs.foldl putZ (Gg zs)
def ME (zs : List Int) (m : Int) (C : List Cl) (F : List Int) : VM := { xu zs m with lv := [(C, F)] }
structure FullS (zs : List Int) (T c i : Nat) : Prop where
  len : zs.length = T
  lo : 32 ≤ T
  hi : T ≤ 256
  cls : 1 ≤ c ∧ c ≤ 4
  nn : ∀ z ∈ zs, 0 ≤ z ∧ z < 18446744073709551616
  head : zm zs c = 0
  bump : zm zs 5 = 14 + (i : Int) * (yW c + 1)
  hdr : ∀ j, j < i → ∀ p : Nat, (p : Int) = 14 + (j : Int) * (yW c + 1) → zm zs p = (c : Int) + 8
end Go.Proofs.YtdlfmpmpmkffjaaGreatDoor
namespace Go.Proofs.YtdlfmpmpmkffjaaGreatDoor.arenaFull
open Go Go.Ae arenaPlays
set_option maxRecDepth 100000
variable {g h : AH} {L R : List SP}
end Go.Proofs.YtdlfmpmpmkffjaaGreatDoor.arenaFull
namespace Go.Proofs.YtdlfmpmpmkffjaaGreatDoor
open Go Go.Ae
set_option maxRecDepth 100000
def xZ (n : Nat) : Nat := max 32 (min n 256)
def yE (zs : List Int) : List Int := (List.range (xZ zs.length)).map fun i => if i = 0 then 0 else zs[i]?.getD 0
def wI (l : List Int) (c : Int × Int) : List Int := if 1 ≤ c.1 ∧ c.1 < l.length then l.set c.1.toNat c.2 else l
def QT (zs : List Int) (cs : List (Int × Int)) : List Int := cs.foldl wI (yE zs)
theorem On (l : List Int) (c : Int × Int) : (wI l c).length = l.length := by unfold wI; split <;> simp
theorem XU (cs : List (Int × Int)) : ∀ l : List Int, (cs.foldl wI l).length = l.length := by
 induction cs with
 | nil => intro l; rfl
 | cons c cs ih => intro l; rw [List.foldl_cons, ih, On]
theorem Yj (zs : List Int) : (yE zs).length = xZ zs.length := by simp [yE]
theorem QF (n : Nat) : 32 ≤ xZ n ∧ xZ n ≤ 256 := by unfold xZ; omega
theorem Z1 (zs : List Int) : vL (List.replicate (xZ zs.length) (AV.int .u64 0)) 1 (((zs.map (AV.int .u64)).drop (min 1 zs.length)).take (min (zs.length - min 1 zs.length) (xZ zs.length - 1) * 1)) = (yE zs).map (AV.int .u64) := by
 have hb := QF zs.length
 have hl : (((zs.map (AV.int .u64)).drop (min 1 zs.length)).take (min (zs.length - min 1 zs.length) (xZ zs.length - 1) * 1)).length = min (zs.length - min 1 zs.length) (xZ zs.length - 1) := by simp
 apply List.ext_getElem?
 intro i
 rw [KM (by rw [hl, List.length_replicate]; omega), hl]
 by_cases hi : i < xZ zs.length
 ·have hr : ((yE zs).map (AV.int .u64))[i]? = some (AV.int .u64 (if i = 0 then 0 else zs[i]?.getD 0)) := by
   simp [yE, List.getElem?_range hi]
  rw [hr]
  split
  ·rename_i h1
   rw [if_neg (by omega), List.getElem?_take_of_lt (by omega), List.getElem?_drop, show min 1 zs.length + (i - 1) = i by omega, List.getElem?_map, List.getElem?_eq_getElem (by omega)]
   rfl
  ·rename_i h1
   rw [List.getElem?_replicate, if_pos hi]
   congr 2
   by_cases h0 : i = 0
   ·rw [if_pos h0]
   ·rw [if_neg h0, List.getElem?_eq_none (by omega)]; rfl
 ·rw [if_neg (by omega), List.getElem?_eq_none (by simp; omega), List.getElem?_eq_none (by simp [yE]; omega)]
theorem Vm {D1 D2 : Nat → Prop} {n p q : Nat} (hn : 1 ≤ n) {a0 a1 : AV} {zs : List Int} {cs : List (Int × Int)} {h : AH} (S0 : Sl D1 h 1 p a0 (zs.map (.int .u64))) (hs : shut a0 = true) (hr : J0 a0)
  (S1 : Sl D2 h 2 q a1 (cs.flatMap js)) (hp : p < 1000000000) (hq : q < 1000000000) :
  wp (callT tab qU n (.fn 43 [] []) [a0, a1] h) fun v h' => ∃ b e, v = .slice b 0 (xZ p) (xZ p) false ∧ h.nx ≤ b ∧ Row h' b ((QT zs cs).map (.int .u64)) e false ∧ Old h.nx h h' := by
 have hzl : zs.length = p := by simpa using S0.len
 have hcl : cs.length = q := by
  have := S1.len
  rw [QJ (sz := 2) js (fun _ => rfl)] at this
  omega
 have hN := QF p
 (refine qt (g := W43) rfl (by omega) fun k hk => ?_; show wp (S43 (callT tab qU k) _ _ _) _; unfold S43; try simp only [iI, uU, Int.ofNat_eq_natCast])
 refine zy S0 (zS (ze ?_))
 rw [show max ((32 : Nat) : Int) (min (p : Int) ((256 : Nat) : Int)) = ((xZ p : Nat) : Int) by unfold xZ; omega]
 refine Jj (Nat.le_refl _) (by omega) fun b h4 hb A F4 => ?_
 rw [Qw] at A
 refine Y5 (hi := xZ p) (lo := 1) rfl (z6 (by omega)) ?_
 rw [show Nat.beq (xZ p) 1 = false from zE (by omega), cond_false]
 have S0' := S0.fr F4 (fun _ _ hf => hf)
 have S1' := S1.fr F4 (fun _ _ hf => hf)
 refine zy S0' (zS ?_)
 rw [show min ((1 : Nat) : Int) (p : Int) = ((min 1 p : Nat) : Int) by omega]
 refine qQ5 S0' hs hr (by omega) fun v8 S8 _ _ => ?_
 refine qQd S8 A (by simp; omega) (by omega) ?_ fun h10 A10 F10 hx10 => ?_
 ·unfold jA
  rw [List.all_eq_true]
  intro v hv
  have := List.mem_of_mem_take hv
  have := List.mem_of_mem_drop this
  obtain ⟨z, _, rfl⟩ := List.mem_map.1 this
  rfl
 have e10 := Z1 zs
 rw [hzl] at e10
 rw [show ((0 : Nat) + 1 * 1) = 1 from rfl, Nat.mul_one] at A10
 rw [Nat.mul_one] at e10
 obtain ⟨e, A10⟩ : ∃ e, Row h10 b ((yE zs).map (.int .u64)) e false := ⟨_, by rw [← e10]; simpa using A10⟩
 have O10 : Old h.nx h h10 := ((Old.refl h.nx h).step F4 (fun _ hf => hf.elim)).step F10 (by rintro x rfl; exact hb)
 have O4 : Old h.nx h h4 := (Old.refl h.nx h).step F4 (fun _ hf => hf.elim)
 refine zy (S1.old O10) ?_
 refine jm (fun m s g => ∃ i : Nat, s = (.int .i64 (i : Int), .int .i64 (q : Int), a1, .slice b 0 (xZ p) (xZ p) false, ()) ∧ i ≤ q ∧ m = q - i ∧ Row g b (((cs.take i).foldl wI (yE zs)).map (.int .u64)) e false ∧ Old h.nx h g) ?_ (m := q)
  (by show q < 1000000000; omega) ⟨0, rfl, by omega, by omega, A10, O10⟩
 rintro m ih s g hih ⟨i, rfl, h1, rfl, A, O⟩
 dsimp only
 have S1g := S1.old O
 refine zW (fun hlt => qY ?_) fun hge => qQ (qI (qk ?_))
 ·have hi : i < q := by omega
  refine qV ?_
  refine zu (l := js cs[i]) S1g hi (by omega) ?_ ?_
  ·rw [gA (sz := 2) js (fun _ => rfl), List.drop_eq_getElem_cons (by omega), List.flatMap_cons]; rfl
  refine NV rfl fun b2 h25 hb2 A2 F2 => ?_
  refine Qk A2 rfl (by show 0 + 2 ≤ 2; omega) rfl fun h26 A3 F3 hx3 => ?_
  obtain ⟨e3, A3⟩ : ∃ e3, Row h26 b2 [.int .i64 cs[i].1, .int .u64 cs[i].2] e3 false := ⟨_, A3⟩
  have O26 : Old h.nx h h26 := (O.step F2 (fun _ hf => hf.elim)).step F3 (by rintro x rfl; exact Nat.le_trans O.nx hb2)
  have hbg := A.lt
  have A26 := (A.fr F2 (fun hf => hf)).fr F3 (fun hf : b = b2 => by omega)
  have hlen : ((cs.take i).foldl wI (yE zs)).length = xZ p := by rw [XU, Yj, hzl]
  have next : ∀ g', Row g' b ((wI ((cs.take i).foldl wI (yE zs)) cs[i]).map (.int .u64)) e false → Old h.nx h g' → wp (ih (.int .i64 ((i : Int) + ((1 : Nat) : Int)), .int .i64 (q : Int), a1, .slice b 0 (xZ p) (xZ p) false, ()) g' []) fun v h' => ∃ b e, v = .slice b 0 (xZ p) (xZ p) false ∧ h.nx ≤ b ∧ Row h' b ((QT zs cs).map (.int .u64)) e false ∧ Old h.nx h h' := fun g' A' O' =>
   hih (q - (i + 1)) _ _ (by omega) ⟨i + 1, rfl, by omega, rfl, by rw [List.take_succ_eq_append_getElem (by omega), List.foldl_append]; exact A', O'⟩
  refine Ye A3 rfl (yI (fun hc1 => ?_) fun hc1 => ?_)
  ·repeat (first | with_reducible refine qY ?_ | with_reducible refine qQ ?_ | (with_reducible refine qi ?_; try dsimp only) | (with_reducible refine qp ?_; try dsimp only) | (with_reducible refine qh ?_; try dsimp only) | (with_reducible refine qS ?_; try dsimp only) | (with_reducible refine jP ?_; try dsimp only) | with_reducible refine qO ?_ | with_reducible refine qE ?_ | (with_reducible refine qV ?_; try dsimp only) | with_reducible refine qI ?_ | with_reducible refine jU ?_ | with_reducible refine jc ?_ | with_reducible refine ql (by omega) ?_ | with_reducible refine jT (by omega) ?_ | with_reducible refine zt (by omega) ?_ | with_reducible refine zf (by omega) ?_ | with_reducible refine zS ?_ | with_reducible refine ze ?_)
   refine Ye A3 rfl (qJ4 (zW (fun hc2 => ?_) fun hc2 => ?_))
   ·repeat (first | with_reducible refine qY ?_ | with_reducible refine qQ ?_ | (with_reducible refine qi ?_; try dsimp only) | (with_reducible refine qp ?_; try dsimp only) | (with_reducible refine qh ?_; try dsimp only) | (with_reducible refine qS ?_; try dsimp only) | (with_reducible refine jP ?_; try dsimp only) | with_reducible refine qO ?_ | with_reducible refine qE ?_ | (with_reducible refine qV ?_; try dsimp only) | with_reducible refine qI ?_ | with_reducible refine jU ?_ | with_reducible refine jc ?_ | with_reducible refine ql (by omega) ?_ | with_reducible refine jT (by omega) ?_ | with_reducible refine zt (by omega) ?_ | with_reducible refine zf (by omega) ?_ | with_reducible refine zS ?_ | with_reducible refine ze ?_)
    refine Ye A3 rfl (Ye A3 rfl ?_)
    obtain ⟨j, hj⟩ : ∃ j : Nat, cs[i].1 = (j : Int) := ⟨cs[i].1.toNat, by omega⟩
    rw [hj]
    refine Zf A26 rfl rfl (by omega) (by simp [hlen]; omega) fun h39 A39 F39 hx39 => ?_
    repeat (first | with_reducible refine qY ?_ | with_reducible refine qQ ?_ | (with_reducible refine qi ?_; try dsimp only) | (with_reducible refine qp ?_; try dsimp only) | (with_reducible refine qh ?_; try dsimp only) | (with_reducible refine qS ?_; try dsimp only) | (with_reducible refine jP ?_; try dsimp only) | with_reducible refine qO ?_ | with_reducible refine qE ?_ | (with_reducible refine qV ?_; try dsimp only) | with_reducible refine qI ?_ | with_reducible refine jU ?_ | with_reducible refine jc ?_ | with_reducible refine ql (by omega) ?_ | with_reducible refine jT (by omega) ?_ | with_reducible refine zt (by omega) ?_ | with_reducible refine zf (by omega) ?_ | with_reducible refine zS ?_ | with_reducible refine ze ?_)
    refine next h39 ?_ (O26.step F39 (by rintro x rfl; exact hb))
    rw [show wI ((cs.take i).foldl wI (yE zs)) cs[i] = ((cs.take i).foldl wI (yE zs)).set j cs[i].2 from (if_pos (by rw [hlen]; omega)).trans (by rw [show cs[i].1.toNat = j by omega]), List.map_set]
    simpa using A39
   ·repeat (first | with_reducible refine qY ?_ | with_reducible refine qQ ?_ | (with_reducible refine qi ?_; try dsimp only) | (with_reducible refine qp ?_; try dsimp only) | (with_reducible refine qh ?_; try dsimp only) | (with_reducible refine qS ?_; try dsimp only) | (with_reducible refine jP ?_; try dsimp only) | with_reducible refine qO ?_ | with_reducible refine qE ?_ | (with_reducible refine qV ?_; try dsimp only) | with_reducible refine qI ?_ | with_reducible refine jU ?_ | with_reducible refine jc ?_ | with_reducible refine ql (by omega) ?_ | with_reducible refine jT (by omega) ?_ | with_reducible refine zt (by omega) ?_ | with_reducible refine zf (by omega) ?_ | with_reducible refine zS ?_ | with_reducible refine ze ?_)
    refine next h26 ?_ O26
    rw [show wI ((cs.take i).foldl wI (yE zs)) cs[i] = (cs.take i).foldl wI (yE zs) from if_neg (by rw [hlen]; omega)]
    exact A26
  ·repeat (first | with_reducible refine qY ?_ | with_reducible refine qQ ?_ | (with_reducible refine qi ?_; try dsimp only) | (with_reducible refine qp ?_; try dsimp only) | (with_reducible refine qh ?_; try dsimp only) | (with_reducible refine qS ?_; try dsimp only) | (with_reducible refine jP ?_; try dsimp only) | with_reducible refine qO ?_ | with_reducible refine qE ?_ | (with_reducible refine qV ?_; try dsimp only) | with_reducible refine qI ?_ | with_reducible refine jU ?_ | with_reducible refine jc ?_ | with_reducible refine ql (by omega) ?_ | with_reducible refine jT (by omega) ?_ | with_reducible refine zt (by omega) ?_ | with_reducible refine zf (by omega) ?_ | with_reducible refine zS ?_ | with_reducible refine ze ?_)
   refine next h26 ?_ O26
   rw [show wI ((cs.take i).foldl wI (yE zs)) cs[i] = (cs.take i).foldl wI (yE zs) from if_neg (by rw [hlen]; omega)]
   exact A26
 ·refine ⟨b, e, rfl, hb, ?_, O⟩
  rw [List.take_of_length_le (by omega)] at A
  exact A
theorem VN (zs : List Int) (cs : List Cl) : QT zs cs = xG zs cs := by
 have e1 : ∀ n : Nat, szZ (n : Int) = xZ n := by intro n; unfold szZ xZ; omega
 have e2 : yE zs = Gg zs := by
  unfold yE Gg
  rw [e1]
  rfl
 unfold QT xG
 rw [e2]
 rfl
theorem Ub {g h : AH} {R : List SP} {n : Nat} (hn : 1 ≤ n) {zs : List Int} {cs : List Cl} {a0 c : AV} (H : HS g h R) (S : Rd g R 1 zs.length a0 (zs.map (.int .u64))) (hs : shut a0 = true) (hr : J0 a0) (S1 : Rd g R 2 cs.length c (cs.flatMap js)) (hz : zs.length < 100000) (hc : cs.length < 100000) :
  wp (callT tab qU n (.fn 43 [] []) [a0, c] h) fun r h' => ∃ e, HS g h' (qL e 1 (xG zs cs).length r ((xG zs cs).map (.int .u64)) :: R) := by
 obtain ⟨v, h', er, b, e, rfl, hb, A, O⟩ := Vm hn (S.sl H) hs hr (S1.sl H) (by omega) (by omega)
 have hl : (QT zs cs).length = xZ zs.length := by unfold QT; rw [XU, Yj]
 refine ⟨_, h', er, e, ?_⟩
 rw [← VN]
 refine H.add (D' := fun a => a = b) O ⟨by simp, .inr ⟨b, xZ zs.length, false, _, by rw [hl], fun a => Iff.rfl, A, by simp, by rw [List.take_of_length_le (by simp)], ?_⟩⟩ ?_
 ·rw [if_neg (by simp)]; exact ⟨by simp [hl], by omega⟩
 ·rintro a rfl; exact ⟨hb, A.lt⟩
end Go.Proofs.YtdlfmpmpmkffjaaGreatDoor
namespace Go.Proofs.YtdlfmpmpmkffjaaGreatDoor
open Go Go.Ae arenaPlays
set_option maxRecDepth 100000
variable {g h : AH} {L R : List SP}
def Shp (v : AV) : Prop := v = .nils ∨ ∃ b o n cp x, v = .slice b o n cp x
theorem shp {e : TypeId} {sz n : Nat} {v : AV} {xs : List AV} (H : HS g h L) (s : Sel L (qL e sz n v xs) R) : Shp v := by
 obtain ⟨D, h1, ⟨rfl, rfl, _⟩ | ⟨b, cp, o, ys, rfl, _⟩⟩ := H.p s
 ·exact .inl rfl
 ·exact .inr ⟨_, _, _, _, _, rfl⟩
end Go.Proofs.YtdlfmpmpmkffjaaGreatDoor
namespace Go.Proofs.YtdlfmpmpmkffjaaGreatDoor
open Go Go.Ae
set_option maxRecDepth 100000
variable {g h : AH} {L R : List SP}
abbrev xz (l : List qb) (n : Nat) (zs : List Int) (m : Int) : RM := zg l (qf l) n XL (xu zs m)
def zv (r : RM) : List Cl := if r.kind = 2 then zz r.v.lv else []
def yw (r : RM) : List Int := if r.kind = 2 then vY r.v.lv else []
def G7 (r : RM) : List UInt8 := if r.kind = 2 then Ul r.s.out else []
def Jt (r : RM) (cv fv wv : AV) : List AV := [.int .i64 r.kind, .int .i64 r.err, .str (G7 r), cv, fv, wv]
theorem O3 {er k : Int} {tx : List UInt8} {cv fv wv : AV} (h1 : Shp cv) (h2 : Shp fv) (h3 : Shp wv) : jA [.int .i64 k, .int .i64 er, .str tx, cv, fv, wv] = true := by
 rcases h1 with rfl | ⟨b, o, n, cp, x, rfl⟩ <;> rcases h2 with rfl | ⟨b, o, n, cp, x, rfl⟩ <;> rcases h3 with rfl | ⟨b, o, n, cp, x, rfl⟩ <;> rfl
theorem Yo {v : AV} (h : Shp v) : One v := by
 rcases h with rfl | ⟨b, o, n, cp, x, rfl⟩ <;> exact ⟨rfl, rfl⟩
theorem VJ {n : Nat} (hn : 18 ≤ n) {l : List qb} {pv wv : AV} {zs : List Int} {fuel m : Int} (H : HS g h R) (S : Rd g R 5 l.length pv (l.flatMap jW)) (Sw : Rd g R 1 zs.length wv (zs.map (.int .u64))) (hs : shut wv = true) (hr : J0 wv) (hz : OkN zs) (hzl : zs.length < 100000) (hc : (xv l).2 = 0) (Q : Quiet l) :
  wp (callT tab qU n (.fn 41 [] []) [wv, .agg [pv], .int .i64 fuel, .int .i64 m] h) fun r h' => ∃ cv fv av e1 e2 e3, r = .agg (Jt (xz l (yP fuel) zs m) cv fv av) ∧
   HS g h' (qL e1 2 (zv (xz l (yP fuel) zs m)).length cv ((zv (xz l (yP fuel) zs m)).flatMap js) :: qL e2 1 (yw (xz l (yP fuel) zs m)).length fv ((yw (xz l (yP fuel) zs m)).map (.int .i64)) ::
    qL e3 1 (xG zs (zv (xz l (yP fuel) zs m))).length av ((xG zs (zv (xz l (yP fuel) zs m))).map (.int .u64)) :: R) := by
 (refine qt (g := W41) rfl (by omega) fun k hk => ?_; show wp (S41 (callT tab qU k) _ _ _ _ _) _; unfold S41; try simp only [iI, uU, Int.ofNat_eq_natCast])
 have F := Y6 hc
 have hle := F.le
 refine jJ H (xD (gJ (S.sl H))) fun b0 h1 H1 => ?_
 refine jJ H1 rfl fun b1 h2 H2 => ?_
 refine qx (Md (zs := zs) (by omega) H2 Sw.more.more) ?_
 rintro _ h3 ⟨v, rfl, H3⟩
 refine jj H3 (b := b0) (off := 0) e_2 rfl (by omega) (l := [pv]) rfl ?_
 refine qx (qJF (by omega) H3 S.more.more.more (by omega)) ?_
 rintro _ h4 ⟨x, rfl, H4⟩
 have hm : Jn l = qf l := by unfold Jn; rw [if_pos hc]
 rw [hm, hc] at H4
 have hfz : yP fuel ≤ 400 := by unfold yP; omega
 have G0 := YI (l := l) (m := m) hz
 have f0 := X0 zs m
 refine qx (Z7 (V := xu zs m) (by omega) F Q G0 (by omega) (by omega) H4) ?_
 rintro _ h5 ⟨rfl, nx, H5⟩
 obtain ⟨RB, rfr, _, _, rk⟩ := Ku F Q (yP fuel) G0 (by omega)
 unfold xz
 generalize zg l (qf l) (yP fuel) XL (xu zs m) = RM at *
 refine qx (qQU (by omega) H5) ?_
 rintro _ h5 ⟨rfl, rfl⟩
 refine qo (l := [.int .i64 RM.kind, .int .i64 RM.err, .str [], .nils, .nils, .nils]) rfl ?_
 refine jJ H5 rfl fun b2 h6 H6 => ?_
 refine jD H6 (b := b2) .here rfl (by show 0 + 6 ≤ 6; omega) rfl fun h7 H7 => ?_
 have H7 : HS g h7 (qa b2 [.int .i64 RM.kind, .int .i64 RM.err, .str [], .nils, .nils, .nils] :: IntC x v l 0 (qf l) RM.s RM.err (if RM.kind = 1 then 0 else RM.kind) (RM.left : Int) nx :: ViewC v RM.v :: qa b1 [.int .i64 ((0 : Nat) : Int), .int .i64 ((0 : Nat) : Int), .str [], .nils, .nils, .nils] :: qa b0 [pv] :: R) := H7
 clear H1 H2 H3 H4 H5 H6
 refine zl [] (fun s h' => s = (.ptr b2 0, .ptr b1 0, wv, ()) ∧ ∃ cv fv e1 e2, HS g h' (qa b2 [.int .i64 RM.kind, .int .i64 RM.err, .str (G7 RM), cv, fv, .nils] :: qL e1 2 (zv RM).length cv ((zv RM).flatMap js) :: qL e2 1 (yw RM).length fv ((yw RM).map (.int .i64)) ::
   qa b1 [.int .i64 ((0 : Nat) : Int), .int .i64 ((0 : Nat) : Int), .str [], .nils, .nils, .nils] :: R)) ?_ ?_
 rotate_left
 ·rintro s h8 ⟨rfl, cv, fv, e1, e2, H8⟩
  dsimp only
  have hcs : (zv RM).length < 100000 := by
   unfold zv
   split
   ·have h1 := Xy RM.v.lv []
    have h2 := RB.good.ok.lvs.held
    have h3 := RB.good.ok.lvs.le
    simp at h1; unfold zz; omega
   ·simp
  have w1 := shp H8 e_1
  have w2 := shp H8 e_2
  with_reducible (refine qK ?_; refine qz (by assumption) .here rfl ?_)
  refine qx (Ub (zs := zs) (cs := zv RM) (by omega) H8 (Sw.more.more.more.more) hs hr (H8.rd e_1) hzl hcs) ?_
  rintro av h9 ⟨e3, H9⟩
  have w3 := shp H9 .here
  refine qK ?_
  refine jB H9 (b := b2) e_1 (Yo w3) (by show 5 < 6; omega) fun h10 H10 => ?_
  have H10 : HS g h10 (qa b2 (Jt RM cv fv av) :: qL e3 1 (xG zs (zv RM)).length av ((xG zs (zv RM)).map (.int .u64)) :: qL e1 2 (zv RM).length cv ((zv RM).flatMap js) :: qL e2 1 (yw RM).length fv ((yw RM).map (.int .i64)) ::
   qa b1 [.int .i64 ((0 : Nat) : Int), .int .i64 ((0 : Nat) : Int), .str [], .nils, .nils, .nils] :: R) := H10
  refine jj H10 (b := b2) (off := 0) .here rfl (by omega) (l := Jt RM cv fv av) rfl ?_
  refine jD H10 (b := b1) e_4 rfl (by show 0 + 6 ≤ 6; omega) (O3 w1 w2 w3) fun h11 H11 => ?_
  have H11 : HS g h11 (qa b1 (Jt RM cv fv av) :: qa b2 (Jt RM cv fv av) :: qL e3 1 (xG zs (zv RM)).length av ((xG zs (zv RM)).map (.int .u64)) :: qL e1 2 (zv RM).length cv ((zv RM).flatMap js) :: qL e2 1 (yw RM).length fv ((yw RM).map (.int .i64)) :: R) := H11
  refine qI ?_
  refine jj H11 (b := b1) (off := 0) .here rfl (by omega) (l := Jt RM cv fv av) rfl ?_
  exact qk ⟨cv, fv, av, e1, e2, e3, rfl, H11.sub (.cons e_3 (.cons e_3 (.cons e_2 (.drop (.drop .refl)))))⟩
 intro j hj
 with_reducible (refine qK ?_; refine qz (by assumption) .here rfl ?_)
 by_cases k2 : RM.kind = 2
 ·refine qH k2 ?_
  refine qY ?_
  refine qx (Ms (by omega) (H7.sel (P := IntC x v l 0 (qf l) RM.s RM.err (if RM.kind = 1 then 0 else RM.kind) (RM.left : Int) nx) e_1) RB.gb.out) ?_
  rintro _ h8 ⟨p, rfl, H8⟩
  refine qx (qQr (by omega) H8 (by have := RB.gb.out; omega) RB.gb.its) ?_
  rintro _ h9 ⟨rfl, H9⟩
  refine qx (Mq (by omega) (H9.sel (P := ViewC v RM.v) e_3) RB.good.ok) fun cv h10 H10 => ?_
  refine qx (VO (by omega) (H10.sel (P := ViewC v RM.v) e_1) RB.good.ok) fun fv h11 H11 => ?_
  clear H8 H9 H10
  have w1 := shp H11 .here
  have w2 := shp H11 e_2
  refine qK ?_
  refine jB H11 (b := b2) e_5 (x := .str (Ul RM.s.out)) ⟨rfl, rfl⟩ (by show 2 < 6; omega) fun h12 H12 => ?_
  refine qK ?_
  refine jB H12 (b := b2) .here (Yo w2) (by show 3 < 6; omega) fun h13 H13 => ?_
  refine qK ?_
  refine jB H13 (b := b2) .here (Yo w1) (by show 4 < 6; omega) fun h14 H14 => ?_
  skip
  have t1 : G7 RM = Ul RM.s.out := if_pos k2
  have t2 : zv RM = zz RM.v.lv := if_pos k2
  have t3 : yw RM = vY RM.v.lv := if_pos k2
  refine hj _ _ ⟨rfl, cv, fv, 67, 3, ?_⟩
  rw [t1, t2, t3]
  have H15 : HS g h14 (qa b2 [.int .i64 RM.kind, .int .i64 RM.err, .str (Ul RM.s.out), cv, fv, .nils] :: _) := H14
  exact H15.sub (.cons .here (.cons e_2 (.cons .here (.cons e_3 (.drop (.drop (.drop (.drop .refl))))))))
 ·refine qG k2 ?_
  refine qQ ?_
  have t1 : G7 RM = [] := if_neg k2
  have t2 : zv RM = [] := if_neg k2
  have t3 : yw RM = [] := if_neg k2
  refine hj _ _ ⟨rfl, .nils, .nils, 67, 3, ?_⟩
  rw [t1, t2, t3]
  have H8 := (H7.nils (e := 3) (sz := 1)).nils (e := 67) (sz := 2)
  exact H8.sub (.cons e_2 (.cons .here (.cons .here (.drop (.drop (.cons .here (.drop .refl)))))))
end Go.Proofs.YtdlfmpmpmkffjaaGreatDoor
namespace Go.Proofs.YtdlfmpmpmkffjaaGreatDoor
open Go Go.Ae
set_option maxRecDepth 100000
variable {g h : AH} {L R : List SP}
theorem qJ0 {n : Nat} (hn : 1 ≤ n) {op : Int} (H : HS g h R) : wp (callT tab qU n (.fn 36 [] []) [.int .i64 op] h) fun r h' => ∃ lv, r = .agg [lv] ∧ HS g h' (zH lv [one op] :: R) := by
 (refine qt (g := W36) rfl (by omega) fun k hk => ?_; show wp (S36 (callT tab qU k) _ _) _; unfold S36; try simp only [iI, uU, Int.ofNat_eq_natCast])
 refine jJ H rfl fun b0 h1 H1 => ?_
 refine qo (l := jW (one op)) rfl ?_
 refine jw (n := 1) (l := jW (one op)) (sz := 5) H1 rfl rfl rfl rfl fun v3 h2 H2 => ?_
 have ol := H2.one (e := 28) (sz := 5) (n := 1) .here
 refine qo (l := [v3]) (by simp only [vy, ol.1]; rfl) ?_
 refine jD H2 (b := b0) e_1 rfl (by simp) (by show jA [v3] = true; simp [jA, ol.2]) fun h3 H3 => ?_
 refine jj H3 (b := b0) (off := 0) .here rfl (by omega) (l := [v3]) rfl ?_
 refine qk ⟨v3, rfl, ?_⟩
 have H4 : HS g h3 (qa b0 [v3] :: zH v3 [one op] :: R) := H3
 exact H4.drop
def g9 (p l : List qb) : List qb := p ++ l.map (zj p.length)
def vA (ls : List (List qb)) : List qb := ls.foldl g9 []
theorem Mk (p l : List qb) : (g9 p l).length = p.length + l.length := by simp [g9]
theorem Ua (ls : List (List qb)) (l : List qb) : vA (ls ++ [l]) = g9 (vA ls) l := by simp [vA]
theorem Mw (ls : List (List qb)) (h : ∀ l ∈ ls, l.length ≤ 40) : (vA ls).length ≤ 40 * ls.length := by
 suffices H : ∀ (ls : List (List qb)) (p : List qb), (∀ l ∈ ls, l.length ≤ 40) → (ls.foldl g9 p).length ≤ p.length + 40 * ls.length by
  have := H ls [] h
  simpa [vA] using this
 intro ls
 induction ls with
 | nil => intro p _; simp
 | cons l ls ih =>
  intro p h
  have h1 := ih (g9 p l) fun x hx => h x (List.mem_cons_of_mem _ hx)
  have h2 := h l (List.mem_cons_self ..)
  rw [Mk] at h1
  simp only [List.foldl_cons, List.length_cons]
  omega
theorem NB {n : Nat} (hn : 1 ≤ n) {ps : List (AV × List qb)} {av : AV} (H : HS g h R) (S : Rd g R 1 ps.length av (ps.map (·.1))) (SS : ∀ q ∈ ps, Rd g R 5 q.2.length q.1 (q.2.flatMap jW)) (hb : ∀ q ∈ ps, ∀ x ∈ q.2, (x.1 = 12 ∨ x.1 = 13) → 0 ≤ x.2.2.2.1 ∧ x.2.2.2.1 ≤ 40)
  (hl : ∀ q ∈ ps, q.2.length ≤ 40) (hp : ps.length ≤ 20) : wp (callT tab qU n (.fn 35 [] []) [av] h) fun r h' => ∃ lv, r = .agg [lv] ∧ HS g h' (zH lv (vA (ps.map (·.2))) :: R) := by
 (refine qt (g := W35) rfl (by omega) fun k hk => ?_; show wp (S35 (callT tab qU k) _ _) _; unfold S35; try simp only [iI, uU, Int.ofNat_eq_natCast])
 refine jJ H rfl fun b0 h1 H1 => ?_
 refine jJ H1 rfl fun b2 h2 H2 => ?_
 clear H H1
 refine jm (fun m s h' => ∃ (i : Nat) (lv : AV), s = (.int .i64 (i : Int), .ptr b2 0, .ptr b0 0, av, ()) ∧ i ≤ ps.length ∧ m = ps.length - i ∧ HS g h' (zH lv (vA ((ps.take i).map (·.2))) :: qa b2 [lv] :: qa b0 [.nils] :: R))
  ?_ (m := ps.length) (by show _ < 1000000000; omega) ⟨0, .nils, rfl, by omega, by omega, H2.nils⟩
 clear H2
 rintro m ih s h3 hih ⟨i, lv, rfl, hi, rfl, H⟩
 dsimp only
 have H0 : HS g h3 (qL 28 5 (vA ((ps.take i).map (·.2))).length lv ((vA ((ps.take i).map (·.2))).flatMap jW) :: qa b2 [lv] :: qa b0 [.nils] :: R) := H
 refine zy (S.sl H.drop.drop.drop) ?_
 refine zW (fun hlt => qY ?_) fun hge => qQ ?_
 rotate_left
 ·obtain rfl : i = ps.length := by omega
  rw [List.take_length] at H
  have ol := H0.one (e := 28) (sz := 5) .here
  refine jj H (b := b2) (off := 0) e_1 rfl (by omega) (l := [lv]) rfl ?_
  refine jD H (b := b0) e_2 rfl (by simp) (by show jA [lv] = true; simp [jA, ol.2]) fun h4 H4 => ?_
  have H4 : HS g h4 (qa b0 [lv] :: zH lv (vA (ps.map (·.2))) :: qa b2 [lv] :: R) := H4
  refine qI ?_
  refine jj H4 (b := b0) (off := 0) .here rfl (by omega) (l := [lv]) rfl ?_
  exact qk ⟨lv, rfl, H4.sub (.cons e_1 (.drop (.drop .refl)))⟩
 have hlt : i < ps.length := by omega
 have hq := List.getElem_mem hlt
 have SQ := SS _ hq
 have hbq := hb _ hq
 have hlq := hl _ hq
 have hav : (ps.map (·.1))[i * 1 + 0]? = some ps[i].1 := by rw [Nat.mul_one, Nat.add_zero, List.getElem?_map, List.getElem?_eq_getElem hlt]; rfl
 have hsn : vA ((ps.take (i + 1)).map (·.2)) = g9 (vA ((ps.take i).map (·.2))) ps[i].2 := by
  rw [List.take_add_one, List.getElem?_eq_getElem hlt, Option.toList_some, List.map_append, List.map_singleton, Ua]
 have hpl := Mw ((ps.take i).map (·.2)) (by
  intro l hl2
  obtain ⟨q, hq, rfl⟩ := List.mem_map.1 hl2
  exact hl q (List.mem_of_mem_take hq))
 have hpl : (vA ((ps.take i).map (·.2))).length ≤ 800 := by
  rw [List.length_map, List.length_take] at hpl
  omega
 generalize hp0 : vA ((ps.take i).map (·.2)) = p at *
 generalize hl0 : ps[i].2 = l at *
 generalize hv0 : ps[i].1 = pv at *
 with_reducible (refine qK ?_; refine qz (by assumption) e_1 rfl ?_; refine jH (by assumption) .here ?_)
 refine jm (fun m s h' => ∃ (k : Nat) (lv : AV), s = (.int .i64 (k : Int), .int .i64 (p.length : Int), .int .i64 (i : Int), .ptr b2 0, .ptr b0 0, av, ()) ∧ k ≤ l.length ∧ m = l.length - k ∧ HS g h' (zH lv (p ++ (l.take k).map (zj p.length)) :: qa b2 [lv] :: qa b0 [.nils] :: R))
  ?_ (m := l.length) (by show _ < 1000000000; omega) ⟨0, lv, rfl, by omega, by omega, by simpa using H⟩
 clear H H0
 rintro m ih2 s h4 hih2 ⟨k2, lv2, rfl, hk2, rfl, H⟩
 dsimp only
 refine Jx (S.sl H.drop.drop.drop) (by omega) (by omega) hav ?_
 refine zy (SQ.sl H.drop.drop.drop) ?_
 refine zW (fun hlt2 => qY ?_) fun hge2 => qQ ?_
 rotate_left
 ·obtain rfl : k2 = l.length := by omega
  rw [List.take_length] at H
  refine ql (by omega) ?_
  exact hih (ps.length - (i + 1)) _ _ (by omega) ⟨i + 1, lv2, rfl, by omega, rfl, by rw [hsn]; exact H⟩
 have hlt2 : k2 < l.length := by omega
 refine Jx (S.sl H.drop.drop.drop) (by omega) (by omega) hav ?_
 refine zu (l := jW l[k2]) (SQ.sl H.drop.drop.drop) hlt2 (by omega) (QK (sz := 5) (fun _ => rfl) (List.getElem?_eq_getElem hlt2)) ?_
 have hbx := hbq l[k2] (List.getElem_mem hlt2)
 have hts : (l.take (k2 + 1)).map (zj p.length) = (l.take k2).map (zj p.length) ++ [zj p.length l[k2]] := by
  rw [List.take_add_one, List.getElem?_eq_getElem hlt2, Option.toList_some, List.map_append, List.map_singleton]
 generalize l[k2] = x at *
 refine jJ H rfl fun b3 h5 H5 => jD H5 .here rfl (by show 0 + 5 ≤ 5; omega) rfl fun h6 H6 => ?_
 have H6 : HS g h6 (qa b3 (jW x) :: zH lv2 (p ++ (l.take k2).map (zj p.length)) :: qa b2 [lv2] :: qa b0 [.nils] :: R) := H6
 clear H H5
 refine zl [] (fun s h' => s = (.ptr b3 0, .int .i64 (k2 : Int), .int .i64 (p.length : Int), .int .i64 (i : Int), .ptr b2 0, .ptr b0 0, av, ()) ∧ HS g h' (qa b3 (jW (zj p.length x)) :: zH lv2 (p ++ (l.take k2).map (zj p.length)) :: qa b2 [lv2] :: qa b0 [.nils] :: R)) ?_ ?_
 rotate_left
 ·rintro s h7 ⟨rfl, H7⟩
  dsimp only
  with_reducible (refine qK ?_; refine qz (by assumption) e_2 rfl ?_)
  refine jj H7 (b := b3) (off := 0) .here rfl (by omega) (l := jW (zj p.length x)) rfl ?_
  refine jw (n := 1) (l := jW (zj p.length x)) (sz := 5) H7 rfl rfl rfl rfl fun v8 h8 H8 => ?_
  have S1 : Sl (fun _ => True) h8 5 [zj p.length x].length v8 ([zj p.length x].flatMap jW) := by simpa using H8.sl .here
  refine y0 (H8.sel (P := zH lv2 (p ++ (l.take k2).map (zj p.length))) e_2) S1 (by simp; omega) fun v9 h9 H9 => ?_
  refine qK ?_
  have ol := HS.one (e := 28) (sz := 5) (n := (p ++ (l.take k2).map (zj p.length) ++ [zj p.length x]).length) H9 .here
  refine jB H9 (b := b2) e_3 ol (by simp) fun h10 H10 => ?_
  refine ql (by omega) ?_
  refine hih2 (l.length - (k2 + 1)) _ _ (by omega) ⟨k2 + 1, v9, rfl, by omega, rfl, ?_⟩
  rw [hts, ← List.append_assoc]
  have H11 : HS g h10 (qa b2 [v9] :: zH v9 (p ++ (l.take k2).map (zj p.length) ++ [zj p.length x]) :: _) := H10
  exact H11.sub (.cons e_1 (.cons .here (.drop (.drop (.cons .here .refl)))))
 intro j hj
 by_cases hop : x.1 = 12 ∨ x.1 = 13
 ·have ex : zj p.length x = (x.1, x.2.1, x.2.2.1, x.2.2.2.1 + p.length, x.2.2.2.2) := if_pos hop
  have hc := hbx hop
  rcases hop with hop | hop
  ·with_reducible (refine qK ?_; refine qz (by assumption) .here rfl ?_; refine qH (by omega) ?_; refine qV ?_; (try dsimp only); refine qp ?_; (try dsimp only); refine qO ?_; refine qY ?_; refine qK ?_; refine qz (by assumption) .here rfl ?_; refine ql (by omega) ?_; refine qK ?_)
   refine jB H6 (b := b3) .here ⟨rfl, rfl⟩ (by show 3 < 5; omega) fun h7 H7 => ?_
   exact hj _ _ ⟨rfl, by rw [ex]; exact H7⟩
  ·with_reducible (refine qK ?_; refine qz (by assumption) .here rfl ?_; refine qG (by omega) ?_; refine qV ?_; (try dsimp only); refine qS ?_; (try dsimp only); refine qK ?_; refine qz (by assumption) .here rfl ?_; refine qH (by omega) ?_; refine qE ?_; refine qY ?_; refine qK ?_; refine qz (by assumption) .here rfl ?_; refine ql (by omega) ?_; refine qK ?_)
   refine jB H6 (b := b3) .here ⟨rfl, rfl⟩ (by show 3 < 5; omega) fun h7 H7 => ?_
   exact hj _ _ ⟨rfl, by rw [ex]; exact H7⟩
 ·have ex : zj p.length x = x := if_neg hop
  with_reducible (refine qK ?_; refine qz (by assumption) .here rfl ?_; refine qG (by omega) ?_; refine qV ?_; (try dsimp only); refine qS ?_; (try dsimp only); refine qK ?_; refine qz (by assumption) .here rfl ?_; refine qG (by omega) ?_; refine qE ?_; refine qQ ?_)
  exact hj _ _ ⟨rfl, by rw [ex]; exact H6⟩
end Go.Proofs.YtdlfmpmpmkffjaaGreatDoor
namespace Go.Proofs.YtdlfmpmpmkffjaaGreatDoor
open Go Go.Ae
theorem Bld.weak {l : List qb} {st : List Int} (B : Bld true l st) : Bld false l st :=
 ⟨fun x hx => ⟨(B.ok x hx).may, (B.ok x hx).no, (B.ok x hx).n, fun h => (by cases h)⟩, B.wr, B.top, fun j hj ho => (by
  obtain ⟨c, c1, c2, c3, _⟩ := B.jp j hj ho
  exact ⟨c, c1, c2, c3, fun h => by cases h⟩), B.five⟩
theorem Kf {zs : List Int} (h0 : zs[0]? = some 0) (h1 : 32 ≤ zs.length) (h2 : zs.length ≤ 80) : xG zs [] = zs := by
 show Gg zs = zs
 unfold Gg
 have hs : szZ zs.length = zs.length := by unfold szZ; omega
 rw [hs]
 refine List.ext_getElem? fun i => ?_
 rw [List.getElem?_map]
 by_cases hi : i < zs.length
 ·rw [List.getElem?_range hi, List.getElem?_eq_getElem hi]
  show some (if i = 0 then 0 else zm zs i) = some zs[i]
  by_cases hz : i = 0
  ·subst hz
   rw [List.getElem?_eq_getElem hi] at h0
   rw [if_pos rfl]
   exact h0.symm
  ·rw [if_neg hz]
   unfold zm
   rw [List.getElem?_eq_getElem hi]; rfl
 ·rw [List.getElem?_eq_none (by simpa using hi), List.getElem?_eq_none (by simpa using hi)]; rfl
theorem UO (p : List qb) : p.map (zj 0) = p := by
 induction p with
 | nil => rfl
 | cons x p ih => rw [List.map_cons, VG, ih]
theorem OL {p : List qb} {op : Int} (h : op = 20 ∨ op = 22) : vA [p, [one op]] = p ++ [one op] := by
 have e : zj p.length (one op) = one op := if_neg (by rcases h with rfl | rfl <;> decide)
 show g9 (g9 [] p) [one op] = _
 have e1 : g9 [] p = p := by unfold g9; rw [List.length_nil, UO]; rfl
 rw [e1]
 unfold g9
 rw [List.map_singleton, e]
theorem qQe (p t : List qb) : Emb p (p ++ t) 0 [] := ⟨by simp, fun i hi => by rw [VG, Nat.zero_add, w8 hi], rfl⟩
section
variable {p : List qb} {op : Int}
theorem GC (B : Bld true p []) (h : op = 20 ∨ op = 22) : Bld false (p ++ [one op]) [] :=
 B.weak.flat ⟨by rcases h with rfl | rfl <;> decide, by rcases h with rfl | rfl <;> decide, by rcases h with rfl | rfl <;> decide, fun h => (by cases h)⟩ (by rcases h with rfl | rfl <;> (unfold Flat; decide)) (by rcases h with rfl | rfl <;> decide)
theorem wc {calm : Bool} {l : List qb} (B : Bld calm l []) : Quiet l := fun x hx => ⟨(B.ok x hx).no, (B.ok x hx).n⟩
theorem Nw {l : List qb} (B : Bld true l []) : Calm l := fun x hx => ((B.ok x hx).cal rfl).1
theorem qZC (B : Bld true p []) (h0 : 0 < p.length) (h39 : p.length ≤ 39) (h : op = 20 ∨ op = 22) {zs : List Int} (hz : OkN zs) :
  (xz (p ++ [one op]) 400 zs 96).kind ≠ 2 ∧
  ((xz p 400 zs 96).kind ≠ 2 → (xz p 400 zs 96).kind = 4 ∧ (xz (p ++ [one op]) 400 zs 96).kind = 4 ∧ (xz (p ++ [one op]) 400 zs 96).err = (xz p 400 zs 96).err) ∧
  ((xz p 400 zs 96).kind = 2 → op = 20 ∧ (xz (p ++ [one op]) 400 zs 96).kind = 3 ∧ (xz (p ++ [one op]) 400 zs 96).err = 0 ∨ op = 22 ∧ (xz (p ++ [one op]) 400 zs 96).kind = 4 ∧ (xz (p ++ [one op]) 400 zs 96).err = 13 ∨
   (xz (p ++ [one op]) 400 zs 96).kind = 4 ∧ (xz (p ++ [one op]) 400 zs 96).err = 6) := by
 have BL := GC B h
 have F : Fit p := Y6 (by rw [B.fit h0 (by omega)])
 have FL : Fit (p ++ [one op]) := Y6 (by rw [BL.fit (by simp) (by simp; omega)])
 have Q := wc B
 have QL := wc BL
 have C := Nw B
 have G := YI (l := p) (m := 96) hz
 have GL := YI (l := p ++ [one op]) (m := 96) hz
 have f0 := X0 zs 96
 have n3 := N9 F Q C 400 G (by omega)
 have n1 := VI F Q (n := 400) (zs := zs) (m := 96) G rfl rfl (by omega)
 have rk := (Ku F Q 400 G (by omega)).2.2.2.2
 obtain ⟨a, b⟩ := qQo (qQe p [one op]) F FL QL C (o0 := []) rfl 400 (s := XL) (S := XL) (V := xu zs 96) ⟨rfl, rfl, rfl, rfl⟩ GL ⟨0, rfl, Nat.zero_le _⟩ (by omega)
 unfold xz
 generalize zg p (qf p) 400 XL (xu zs 96) = A at *
 by_cases k2 : A.kind = 2
 ·obtain ⟨S', x1, x2, x3, x4, x5, x6⟩ := a k2
  have hp : S'.pc = ((p.length : Nat) : Int) := by have := x2.pc; omega
  have hne : ¬ S'.pc = (p ++ [one op]).length := by rw [hp]; simp; omega
  have hins : qF (p ++ [one op]) S'.pc = one op := by
   have e := gS (l := p) (t := [one op]) (k := 0) (x := one op) rfl
   rw [hp]; exact e
  have ho : S'.opn = [] := by
   have e := x3.stk
   rw [hp, Int.toNat_natCast, yp _ (Nat.le_refl _), F.nil] at e
   simpa using e
  have key : op = 20 ∧ (zg (p ++ [one op]) (qf (p ++ [one op])) A.left S' A.v).kind = 3 ∧ (zg (p ++ [one op]) (qf (p ++ [one op])) A.left S' A.v).err = 0 ∨ op = 22 ∧ (zg (p ++ [one op]) (qf (p ++ [one op])) A.left S' A.v).kind = 4 ∧ (zg (p ++ [one op]) (qf (p ++ [one op])) A.left S' A.v).err = 13 ∨
    (zg (p ++ [one op]) (qf (p ++ [one op])) A.left S' A.v).kind = 4 ∧ (zg (p ++ [one op]) (qf (p ++ [one op])) A.left S' A.v).err = 6 := by
   cases A.left with
   | zero =>
    rw [ka, if_neg hne]
    exact .inr (.inr ⟨rfl, rfl⟩)
   | succ m =>
    rw [kU, if_neg hne, hins]
    rcases h with rfl | rfl
    ·have e : doM (qf (p ++ [one 20])) S' A.v (one 20) = ⟨0, S'.pc, true, { S' with opn := [] }, A.v⟩ := by
      show yS _ S'.opn S' A.v = _
      rw [ho]; rfl
     rw [e]
     exact .inl ⟨rfl, rfl, rfl⟩
    ·exact .inr (.inl ⟨rfl, rfl, rfl⟩)
  rw [x1]
  exact ⟨by omega, fun h => absurd k2 h, fun _ => key⟩
 ·obtain ⟨y1, y2⟩ := b k2
  have k4 : A.kind = 4 := by omega
  exact ⟨by rw [y1]; exact k2, fun _ => ⟨k4, by rw [y1]; exact k4, y2⟩, fun h => absurd h k2⟩
end
end Go.Proofs.YtdlfmpmpmkffjaaGreatDoor
namespace Go.Proofs.YtdlfmpmpmkffjaaGreatDoor
open Go Go.Ae
set_option maxRecDepth 100000
theorem qJ8 {h : AH} {d : Nat} {v : AV} (H : WT Tryz.prog h (d + 3) 43 [v]) : ∃ ks : List qb, Sl (fun b => b < h.nx) h 5 ks.length v (ks.flatMap jW) ∧ ∀ x ∈ ks, 0 ≤ x.2.2.2.2 ∧ x.2.2.2.2 < 18446744073709551616 := by
 obtain ⟨q, xs, S, _, H2⟩ := KF (sz := 5) Tryz.underlying43 (by kernel_rfl) (by omega) H
 obtain ⟨ks, g1, g3, rfl⟩ := KX (α := qb) (Pr := fun x => 0 ≤ x.2.2.2.2 ∧ x.2.2.2.2 < 18446744073709551616) jW S.len (fun i hi => by
  have := H2 i hi
  generalize (xs.drop (i * 5)).take 5 = row at this
  unfold WT at this
  simp only [Tryz.underlying115] at this
  obtain ⟨g1, g2⟩ := this
  rw [show Tryz.prog.cellsOf 115 = 5 by kernel_rfl] at g1
  match row, g1 with
  | [x, y, z, u, t], _ =>
   have f1 := g2 _ (List.mem_cons_self ..)
   have f2 := g2 _ (List.mem_cons_of_mem _ (List.mem_cons_self ..))
   have f3 := g2 _ (List.mem_cons_of_mem _ (List.mem_cons_of_mem _ (List.mem_cons_self ..)))
   have f4 := g2 _ (List.mem_cons_of_mem _ (List.mem_cons_of_mem _ (List.mem_cons_of_mem _ (List.mem_cons_self ..))))
   have f5 := g2 _ (List.mem_cons_of_mem _ (List.mem_cons_of_mem _ (List.mem_cons_of_mem _ (List.mem_cons_of_mem _ (List.mem_cons_self ..)))))
   rw [show Tryz.prog.cellsOf 3 = 1 by kernel_rfl] at f1 f2 f3 f4
   rw [show Tryz.prog.cellsOf 26 = 1 by kernel_rfl] at f5
   unfold WT at f1 f2 f3 f4 f5
   simp only [Tryz.underlying3, List.drop_zero, List.take_succ_cons, List.take_zero, List.drop_succ_cons] at f1 f2 f3 f4
   simp only [Tryz.underlying26, List.drop_succ_cons, List.drop_zero, List.take_succ_cons, List.take_zero] at f5
   obtain ⟨a, ha, _⟩ := f1
   obtain ⟨b, hb, _⟩ := f2
   obtain ⟨c, hc, _⟩ := f3
   obtain ⟨d, hd, _⟩ := f4
   obtain ⟨e, he, c5⟩ := f5
   cases ha; cases hb; cases hc; cases hd; cases he
   exact ⟨(a, b, c, d, e), ⟨c5.1, Int.lt_of_le_of_lt c5.2 (by decide)⟩, rfl⟩)
 exact ⟨ks, g1 ▸ S, g3⟩
end Go.Proofs.YtdlfmpmpmkffjaaGreatDoor
namespace Go.Proofs.YtdlfmpmpmkffjaaGreatDoor.modelFails
open Go Go.Ae
set_option maxRecDepth 100000
variable {g h : AH} {L R : List SP}
theorem law {k : Nat} (hk : 24 ≤ k) {x : Int} {how : Bool} {a0 a2 a3 : AV} {ks : List qb} {rs bs : List Int} (S0 : Sl (fun b => b < h.nx) h 5 ks.length a0 (ks.flatMap jW)) (hN : ∀ x ∈ ks, 0 ≤ x.2.2.2.2 ∧ x.2.2.2.2 < 18446744073709551616)
  (S1 : Sl (fun b => b < h.nx) h 1 rs.length a2 (rs.map (.int .u64))) (hr : ∀ z ∈ rs, 0 ≤ z ∧ z < 18446744073709551616)
  (S2 : Sl (fun b => b < h.nx) h 1 bs.length a3 (bs.map (.int .u8))) (hb : ∀ z ∈ bs, 0 ≤ z ∧ z ≤ 255) :
  wp (W10 (y3 8 (callT tab qU k)) [a0, .int .i64 x, a2, a3, .bool how] h) fun v _ => v = .bool true := by
 show wp (S10 (y3 _ (callT tab qU _)) _ _ _ _ _ _) _
 unfold S10
 try simp only [iI, uU, Int.ofNat_eq_natCast]
 refine qZ3 ?_
 refine jU ?_; refine qQ ?_
 refine y7 (by decide) (Ut (by omega) (HS.nil h) (Rd.arg S1) hr (Rd.arg S2) hb) ?_
 rintro wv h1 ⟨zs, hz, hz0, hz1, hz2, hsh, hro, H1⟩
 have haz := Kf hz0 hz1 hz2
 refine zl [] (fun s h' => ∃ op : Int, (op = 20 ∧ how = true ∨ op = 22 ∧ how = false) ∧ s = (.int .i64 op, wv, .bool how, a0, ()) ∧ h' = h1) ?_ ?_
 ·intro j hj
  cases how with
  | true => exact qY (hj _ _ ⟨20, .inl ⟨rfl, rfl⟩, rfl, rfl⟩)
  | false => exact qQ (hj _ _ ⟨22, .inr ⟨rfl, rfl⟩, rfl, rfl⟩)
 rintro s h1 ⟨op, hop, rfl, rfl⟩
 dsimp only
 have hop2 : op = 20 ∨ op = 22 := by
  rcases hop with ⟨h, _⟩ | ⟨h, _⟩
  ·exact .inl h
  ·exact .inr h
 refine y7 (by decide) (NO (calm := true) (most := ((39 : Nat) : Int)) (by omega) hN (by omega) H1 (Rd.arg S0)) ?_
 rintro _ h2 ⟨pv, l, rfl, B, hl0, hl39, H2⟩
 have hc : (xv l).2 = 0 := by rw [B.fit hl0 (by omega)]
 have BL := GC B hop2
 have hcL : (xv (l ++ [one op])).2 = 0 := by rw [BL.fit (by simp) (by simp; omega)]
 obtain ⟨f1, f2, f3⟩ := qZC B hl0 (by omega) hop2 hz
 refine jJ H2 rfl fun b0 h3 H3 => ?_
 have op1 := H3.one (e := 28) (sz := 5) (n := l.length) e_1
 refine jD H3 (b := b0) .here rfl (by simp) (by show jA [pv] = true; simp [jA, op1.2]) fun h4 H4 => ?_
 have H4 : HS h h4 (qa b0 [pv] :: zH pv l :: qL 26 1 zs.length wv (zs.map (.int .u64)) :: []) := H4
 clear H1 H2 H3
 refine jj H4 (b := b0) (off := 0) .here rfl (by omega) (l := [pv]) rfl ?_
 refine y7 (by decide) (VJ (zs := zs) (fuel := ((400 : Nat) : Int)) (m := ((96 : Nat) : Int)) (by omega) H4 (H4.rd (e := 28) (sz := 5) (n := l.length) e_1) (H4.rd e_2) hsh hro hz (by omega) hc (wc B)) ?_
 rintro _ h5 ⟨cv, fv, av, e1, e2, e3, rfl, H5⟩
 rw [show yP ((400 : Nat) : Int) = 400 by decide] at H5 ⊢
 change HS h h5 (qL e1 2 (zv (xz l 400 zs 96)).length cv ((zv (xz l 400 zs 96)).flatMap js) :: qL e2 1 (yw (xz l 400 zs 96)).length fv ((yw (xz l 400 zs 96)).map (.int .i64)) ::
  qL e3 1 (xG zs (zv (xz l 400 zs 96))).length av ((xG zs (zv (xz l 400 zs 96))).map (.int .u64)) :: _) at H5
 change wp (q9 h5 _ _ fun v17 h18 => qv h18 v17 (.agg (Jt (xz l 400 zs 96) cv fv av)) 6 _) _
 generalize xz l 400 zs 96 = A at *
 have w1 := shp H5 .here
 have w2 := shp H5 e_1
 have w3 := shp H5 e_2
 refine jJ H5 rfl fun b1 h6 H6 => ?_
 refine jD H6 (b := b1) .here rfl (by show 0 + 6 ≤ 6; omega) (O3 w1 w2 w3) fun h7 H7 => ?_
 have H7 : HS h h7 (qa b1 (Jt A cv fv av) :: qL e1 2 (zv A).length cv ((zv A).flatMap js) :: qL e2 1 (yw A).length fv ((yw A).map (.int .i64)) :: qL e3 1 (xG zs (zv A)).length av ((xG zs (zv A)).map (.int .u64)) ::
  qa b0 [pv] :: zH pv l :: qL 26 1 zs.length wv (zs.map (.int .u64)) :: []) := H7
 clear H4 H5 H6
 with_reducible (refine qV ?_; (try dsimp only))
 refine jj H7 (b := b0) (off := 0) e_4 rfl (by omega) (l := [pv]) rfl ?_
 refine y7 (by decide) (qJ0 (by omega) H7) ?_
 rintro _ h8 ⟨ov, rfl, H8⟩
 have oo := H8.one (e := 28) (sz := 5) (n := 1) .here
 have op2 := H8.one (e := 28) (sz := 5) (n := l.length) e_6
 refine jw (n := 2) (l := [pv, ov]) (sz := 1) H8 rfl rfl rfl (by simp [jA, op2.2, oo.2]) fun jv h9 H9 => ?_
 obtain ⟨ej, H9⟩ : ∃ e : TypeId, HS h h9 (qL e 1 2 jv [pv, ov] :: _) := ⟨_, H9⟩
 have hjb : ∀ x ∈ l, (x.1 = 12 ∨ x.1 = 13) → 0 ≤ x.2.2.2.1 ∧ x.2.2.2.1 ≤ 40 := fun x hx _ => (KZ (B.ok x hx).may (B.ok x hx).no).2.2.2.1
 refine y7 (by decide) (NB (ps := [(pv, l), (ov, [one op])]) (by omega) H9 (H9.rd .here) (fun q hq => by
  simp only [List.mem_cons, List.not_mem_nil, or_false] at hq
  rcases hq with rfl | rfl
  ·exact H9.rd (e := 28) (sz := 5) (n := l.length) e_7
  ·exact H9.rd (e := 28) (sz := 5) (n := 1) e_1) (fun q hq => by
  simp only [List.mem_cons, List.not_mem_nil, or_false] at hq
  rcases hq with rfl | rfl
  ·exact hjb
  ·intro x hx _
   rw [List.mem_singleton] at hx
   subst hx
   exact ⟨Int.le_refl _, by show (0 : Int) ≤ 40; decide⟩) (fun q hq => by
  simp only [List.mem_cons, List.not_mem_nil, or_false] at hq
  rcases hq with rfl | rfl
  ·show l.length ≤ 40; omega
  ·show 1 ≤ 40; decide) (by show 2 ≤ 20; decide)) ?_
 rintro _ h10 ⟨lj, rfl, H10⟩
 rw [show vA ([(pv, l), (ov, [one op])].map (·.2)) = l ++ [one op] from OL hop2] at H10
 refine y7 (by decide) (VJ (zs := zs) (fuel := ((400 : Nat) : Int)) (m := ((96 : Nat) : Int)) (by omega) H10 (H10.rd (e := 28) (sz := 5) (n := (l ++ [one op]).length) .here) (H10.rd e_9) hsh hro hz (by omega) hcL (wc BL)) ?_
 rintro _ h11 ⟨cv2, fv2, av2, e4, e5, e6, rfl, H11⟩
 rw [show yP ((400 : Nat) : Int) = 400 by decide] at H11 ⊢
 change HS h h11 (qL e4 2 (zv (xz (l ++ [one op]) 400 zs 96)).length cv2 ((zv (xz (l ++ [one op]) 400 zs 96)).flatMap js) :: qL e5 1 (yw (xz (l ++ [one op]) 400 zs 96)).length fv2 ((yw (xz (l ++ [one op]) 400 zs 96)).map (.int .i64)) ::
  qL e6 1 (xG zs (zv (xz (l ++ [one op]) 400 zs 96))).length av2 ((xG zs (zv (xz (l ++ [one op]) 400 zs 96))).map (.int .u64)) :: _) at H11
 change wp (q9 h11 _ _ fun v17 h18 => qv h18 v17 (.agg (Jt (xz (l ++ [one op]) 400 zs 96) cv2 fv2 av2)) 6 _) _
 generalize xz (l ++ [one op]) 400 zs 96 = O at *
 have t1 : G7 O = [] := if_neg f1
 have t2 : zv O = [] := if_neg f1
 have t3 : yw O = [] := if_neg f1
 rw [t2, t3, haz] at H11
 have w1 := shp H11 .here
 have w2 := shp H11 e_1
 have w3 := shp H11 e_2
 refine jJ H11 rfl fun b2 h12 H12 => ?_
 refine jD H12 (b := b2) .here rfl (by show 0 + 6 ≤ 6; omega) (O3 w1 w2 w3) fun h13 H13 => ?_
 refine zi H7 (b := b0) e_4 rfl H8 e_5 rfl rfl (by omega) (HS.lt H7 e_4) ?_
 have H13 : HS h h13 (qa b2 [.int .i64 O.kind, .int .i64 O.err, .str [], cv2, fv2, av2] :: qL e4 2 0 cv2 [] :: qL e5 1 0 fv2 [] :: qL e6 1 zs.length av2 (zs.map (.int .u64)) :: zH lj (l ++ [one op]) :: qL ej 1 2 jv [pv, ov] :: zH ov [one op] ::
  qa b1 (Jt A cv fv av) :: qL e1 2 (zv A).length cv ((zv A).flatMap js) :: qL e2 1 (yw A).length fv ((yw A).map (.int .i64)) :: qL e3 1 (xG zs (zv A)).length av ((xG zs (zv A)).map (.int .u64)) ::
  qa b0 [pv] :: zH pv l :: qL 26 1 zs.length wv (zs.map (.int .u64)) :: []) := by rw [← t1]; exact H13
 unfold Jt at H13
 clear H7 H8 H9 H10 H11 H12
 with_reducible (refine qK ?_; refine qz (by assumption) .here rfl ?_)
 refine y7 (by decide) (KU (by omega) (H13.sl e_3) (H13.sl (n := zs.length) (v := wv) (xs := zs.map (.int .u64)) e_13) (by omega)) ?_
 rintro _ h13 ⟨rfl, rfl⟩
 rw [decide_eq_true rfl]
 with_reducible (refine jU ?_; refine qV ?_; (try dsimp only); refine qS ?_; (try dsimp only); refine qK ?_; refine qz (by assumption) .here rfl ?_)
 refine Vq (t := false) rfl ?_
 with_reducible (refine qE ?_; refine qV ?_; (try dsimp only); refine qS ?_; (try dsimp only); refine qK ?_; refine qz (by assumption) .here rfl ?_; refine jH (by assumption) e_1 ?_; refine zZ (by omega) ?_; refine qE ?_; refine qV ?_; (try dsimp only); refine qS ?_; (try dsimp only); refine qK ?_; refine qz (by assumption) .here rfl ?_; refine jH (by assumption) e_2 ?_; refine zZ (by omega) ?_; refine qE ?_; refine qV ?_; (try dsimp only); refine qS ?_; (try dsimp only); refine qK ?_; refine qz (by assumption) .here rfl ?_; refine qG (by omega) ?_; refine qE ?_; refine qQ ?_; refine qK ?_; refine qz (by assumption) e_7 rfl ?_)
 by_cases k2 : A.kind = 2
 ·have fin := f3 k2
  with_reducible (refine zZ (by omega) ?_; refine qQ ?_; refine qV ?_; (try dsimp only))
  rcases hop with ⟨rfl, rfl⟩ | ⟨rfl, rfl⟩
  ·have fin : O.kind = 3 ∧ O.err = 0 ∨ O.kind = 4 ∧ O.err = 6 := by omega
   clear f1 f2 f3
   rcases fin with ⟨q1, q2⟩ | ⟨q1, q2⟩
   ·with_reducible (refine qi ?_; (try dsimp only); refine qK ?_; refine qz (by assumption) .here rfl ?_; refine qH (by omega) ?_; refine qO ?_; refine qV ?_; (try dsimp only); refine qi ?_; (try dsimp only); refine qK ?_; refine qz (by assumption) .here rfl ?_; refine qH (by omega) ?_; refine qO ?_; refine qV ?_; (try dsimp only); refine qp ?_; (try dsimp only); refine qV ?_; (try dsimp only); refine jP ?_; (try dsimp only); refine qV ?_; (try dsimp only); refine qp ?_; (try dsimp only); refine qV ?_; (try dsimp only); refine jP ?_; (try dsimp only); refine qV ?_; (try dsimp only); refine qp ?_; (try dsimp only); refine qO ?_; refine qV ?_; (try dsimp only); refine qp ?_; (try dsimp only); refine qV ?_; (try dsimp only); refine jP ?_; (try dsimp only); refine qV ?_; (try dsimp only); refine qp ?_; (try dsimp only); refine qO ?_; refine qI ?_)
    exact qk rfl
   ·with_reducible (refine qi ?_; (try dsimp only); refine qK ?_; refine qz (by assumption) .here rfl ?_; refine qG (by omega) ?_; refine qO ?_; refine qV ?_; (try dsimp only); refine qh ?_; (try dsimp only); refine qE ?_; refine qV ?_; (try dsimp only); refine qS ?_; (try dsimp only); refine jU ?_; refine qV ?_; (try dsimp only); refine qh ?_; (try dsimp only); refine qV ?_; (try dsimp only); refine qS ?_; (try dsimp only); refine qE ?_; refine qV ?_; (try dsimp only); refine qh ?_; (try dsimp only); refine qV ?_; (try dsimp only); refine qS ?_; (try dsimp only); refine qE ?_; refine qE ?_; refine qV ?_; (try dsimp only); refine qS ?_; (try dsimp only); refine qK ?_; refine qz (by assumption) .here rfl ?_; refine qH (by omega) ?_; refine qV ?_; (try dsimp only); refine qi ?_; (try dsimp only); refine qK ?_; refine qz (by assumption) .here rfl ?_; refine qH (by omega) ?_; refine qV ?_; (try dsimp only); refine qS ?_; (try dsimp only); refine qO ?_; refine qE ?_; refine qI ?_)
    exact qk rfl
  ·have fin : O.kind = 4 ∧ O.err = 13 ∨ O.kind = 4 ∧ O.err = 6 := by omega
   clear f1 f2 f3
   rcases fin with ⟨q1, q2⟩ | ⟨q1, q2⟩
   ·with_reducible (refine qh ?_; (try dsimp only); refine qE ?_; refine qV ?_; (try dsimp only); refine qh ?_; (try dsimp only); refine qE ?_; refine qV ?_; (try dsimp only); refine qS ?_; (try dsimp only); refine jc ?_; refine qV ?_; (try dsimp only); refine qi ?_; (try dsimp only); refine qK ?_; refine qz (by assumption) .here rfl ?_; refine qH (by omega) ?_; refine qV ?_; (try dsimp only); refine qS ?_; (try dsimp only); refine qO ?_; refine qV ?_; (try dsimp only); refine qi ?_; (try dsimp only); refine qK ?_; refine qz (by assumption) .here rfl ?_; refine qH (by omega) ?_; refine qV ?_; (try dsimp only); refine qS ?_; (try dsimp only); refine qO ?_; refine qE ?_; refine qV ?_; (try dsimp only); refine qp ?_; (try dsimp only); refine qV ?_; (try dsimp only); refine jP ?_; (try dsimp only); refine qV ?_; (try dsimp only); refine qp ?_; (try dsimp only); refine qO ?_; refine qI ?_)
    exact qk rfl
   ·with_reducible (refine qh ?_; (try dsimp only); refine qE ?_; refine qV ?_; (try dsimp only); refine qh ?_; (try dsimp only); refine qE ?_; refine qV ?_; (try dsimp only); refine qS ?_; (try dsimp only); refine jc ?_; refine qV ?_; (try dsimp only); refine qi ?_; (try dsimp only); refine qK ?_; refine qz (by assumption) .here rfl ?_; refine qH (by omega) ?_; refine qV ?_; (try dsimp only); refine qS ?_; (try dsimp only); refine qO ?_; refine qV ?_; (try dsimp only); refine qi ?_; (try dsimp only); refine qK ?_; refine qz (by assumption) .here rfl ?_; refine qG (by omega) ?_; refine qV ?_; (try dsimp only); refine qS ?_; (try dsimp only); refine qO ?_; refine qE ?_; refine qV ?_; (try dsimp only); refine qS ?_; (try dsimp only); refine qK ?_; refine qz (by assumption) .here rfl ?_; refine qH (by omega) ?_; refine qV ?_; (try dsimp only); refine qi ?_; (try dsimp only); refine qK ?_; refine qz (by assumption) .here rfl ?_; refine qH (by omega) ?_; refine qV ?_; (try dsimp only); refine qS ?_; (try dsimp only); refine qO ?_; refine qE ?_; refine qI ?_)
    exact qk rfl
 ·obtain ⟨g1, g2, g3⟩ := f2 k2
  with_reducible (refine zA (by omega) ?_; refine qY ?_; refine qK ?_; refine qz (by assumption) e_7 rfl ?_; refine qH (by omega) ?_; refine qV ?_; (try dsimp only); refine qi ?_; (try dsimp only); refine qK ?_; refine qz (by assumption) e_7 rfl ?_)
  have u2 : zv A = [] := if_neg k2
  rw [u2, haz] at H13
  skip
  refine y7 (by decide) (KU (by omega) (H13.sl (v := av) (xs := zs.map (.int .u64)) e_10) (H13.sl (n := zs.length) (v := wv) (xs := zs.map (.int .u64)) e_13) (by omega)) ?_
  rintro _ h13 ⟨rfl, rfl⟩
  rw [decide_eq_true rfl]
  with_reducible (refine qO ?_; refine qV ?_; (try dsimp only); refine qi ?_; (try dsimp only); refine qK ?_; refine qz (by assumption) .here rfl ?_; refine qH (by omega) ?_; refine qV ?_; (try dsimp only); refine qi ?_; (try dsimp only); refine qK ?_; refine qz (by assumption) .here rfl ?_; refine qK ?_; refine qz (by assumption) e_7 rfl ?_; refine qH (by omega) ?_; refine qV ?_; (try dsimp only); refine qi ?_; (try dsimp only); refine qO ?_; refine qV ?_; (try dsimp only); refine qp ?_; (try dsimp only); refine qV ?_; (try dsimp only); refine qi ?_; (try dsimp only); refine qO ?_; refine qO ?_; refine qI ?_)
  exact qk rfl
theorem told {h : AH} {l : List AV} (H : WTs Tryz.prog h 8 Tryz.f10.params.toList l) : wp (W10 (y3 8 (callT tab qU 60)) l h) fun v _ => v = .bool true := by
 have e : Tryz.f10.params.toList = [43, 3, 38, 44, 4] := by kernel_rfl
 rw [e] at H
 obtain ⟨a0, a1, a2, a3, a4, rfl, H0, H1, H2, H3, H4⟩ := WTs5 H
 simp only [WTV, Tryz.underlying3, Tryz.underlying4, Tryz.underlying5, Tryz.underlying26, Tryz.underlying38, Tryz.underlying43, Tryz.underlying44, Tryz.underlying115] at H0 H1 H2 H3 H4
 obtain ⟨ks, S0, hN⟩ := qJ8 H0
 obtain ⟨rs, S1, b1⟩ := U3 Tryz.underlying38 Tryz.underlying26 (by kernel_rfl) H2
 obtain ⟨bs, S2, b2⟩ := U3 Tryz.underlying44 Tryz.underlying5 (by kernel_rfl) H3
 unfold WT at H1 H4
 simp only [Tryz.underlying3, Tryz.underlying4] at H1 H4
 obtain ⟨x, hx, _⟩ := H1
 obtain ⟨m, hm⟩ := H4
 cases hx; cases hm
 exact law (by omega) S0 hN S1 (fun z hz => ⟨(b1 z hz).1, Int.lt_of_le_of_lt (b1 z hz).2 (by decide)⟩) S2 b2
end Go.Proofs.YtdlfmpmpmkffjaaGreatDoor.modelFails
