/- Lemmas for 'quietus/quietuslaw21.InterpUndo': Programs that are drawn: they may run. The plain law; The words of a heap out of drawn ones; Programs that are drawn: by the books own code; Programs that are drawn: parts shut; all of it; A programs run on a whole heap, as the laws of 21 do it; two that are alike; A program within a greater one: it runs there as it runs alone. The plain law; A program within a greater one: its run. The plain law; What a part of a program leaves alone: the levels below, what was told before. The plain law; Programs joined; a program of one instruction: by the books own code; A part that is undone. The plain law; ArenaPlays comes to true for every argument: its own walk; ArenaFull comes to true for every argument: its own walk; Cells applied to words by the program (Apply.lean turned to the view layer); Blocks given back: by the program, by the documents own text; A program run whole on words: by the programs own code; A program whose last instruction fails. The plain law; A part that is undone: what stands where; its run. The plain law; A part that is undone leaves nothing. The plain law; A program that is drawn, as an argument; InterpUndo comes to true for every argument: its own walk. No condition. -/
import Derived.Test.YtdlfmpmpmkffjaaGreatDoorInterpUndoM2
import Derived.Test.YtdlfmpmpmkffjaaGreatDoorInterpUndoM1
namespace Go.Proofs.YtdlfmpmpmkffjaaGreatDoor
open Go Go.Ae
theorem kz {l t : List qF} {j : Nat} (h : j < l.length) : qA (l ++ t) (j : Int) = qA l (j : Int) := by
 unfold qA
 rw [Int.toNat_natCast, List.getElem?_append_left h]
theorem gP {l t : List qF} {k : Nat} {x : qF} (h : t[k]? = some x) : qA (l ++ t) ((l.length + k : Nat) : Int) = x := by
 unfold qA
 rw [Int.toNat_natCast, List.getElem?_append_right (by omega), show l.length + k - l.length = k by omega, h]; rfl
theorem yw {l t : List qF} : ∀ i, i ≤ l.length → qx (l ++ t) i = qx l i := by
 intro i
 induction i with
 | zero => intro _; rfl
 | succ i ih =>
  intro h
  rw [jk, jk, ih (by omega), kz (by omega)]
theorem qXH {l t : List qF} {st : List Int} (h : StOk l.length st) : opM (l ++ t) st = opM l st := by
 unfold opM
 by_cases h0 : st = []
 ·rw [if_pos h0, if_pos h0]
 ·rw [if_neg h0, if_neg h0]
  have hb := h.inmost h0
  obtain ⟨p, hp⟩ : ∃ p : Nat, q8 st = p := ⟨(q8 st).toNat, by omega⟩
  rw [hp, kz (by omega)]
theorem YR {l t : List qF} {st : List Int} {x : qF} (h : StOk l.length st) : jE (l ++ t) st x = jE l st x := by
 unfold jE
 rw [qXH h]
theorem StOk.mono {i j : Nat} {st : List Int} (h : StOk i st) (hij : i ≤ j) : StOk j st := fun y hy => by have := h y hy; omega
def qQu (l : List qF) (calm : Bool) (j : Nat) (x : qF) : Prop := (x.1 = 12 ∨ x.1 = 13) → ∃ c : Nat, x.2.2.2.1 = c ∧ c ≤ l.length ∧ qx l c = qx l j ∧ (calm = true → j < c)
structure QC (calm : Bool) (x : qF) : Prop where
  may : xD x = true
  no : x.1 ≠ 23
  n : 0 ≤ x.2.2.2.2 ∧ x.2.2.2.2 < 18446744073709551616
  cal : calm = true → x.1 ≠ 20 ∧ x.1 ≠ 22 ∧ x.1 ≠ 12
structure Bld (calm : Bool) (l : List qF) (st : List Int) : Prop where
  ok : ∀ x ∈ l, QC calm x
  wr : ∀ j, j < l.length → jE l (qx l j) (qA l j) = 0
  top : qx l l.length = st
  jp : ∀ j, j < l.length → qQu l calm j (qA l j)
  five : st.length ≤ 5
def jH (l : List qF) (st : List Int) : List Int := st.map fun p => (qA l p).1
theorem kM {l t : List qF} {st : List Int} (h : StOk l.length st) : jH (l ++ t) st = jH l st := by
 unfold jH
 refine List.map_congr_left fun p hp => ?_
 have := h p hp
 obtain ⟨q, rfl⟩ : ∃ q : Nat, p = q := ⟨p.toNat, by omega⟩
 rw [kz (by omega)]
theorem Bld.stok {calm : Bool} {l : List qF} {st : List Int} (B : Bld calm l st) : StOk l.length st := by rw [← B.top]; exact (QB l.length).1
theorem Bld.nil (calm : Bool) : Bld calm [] [] := ⟨fun x hx => (by cases hx), fun j hj => (by simp at hj), rfl, fun j hj => (by simp at hj), (by simp)⟩
theorem Bld.ext {calm : Bool} {l t : List qF} {st : List Int} (B : Bld calm l st) (h1 : ∀ x ∈ t, QC calm x) (h2 : ∀ k, k < t.length → jE (l ++ t) (qx (l ++ t) (l.length + k)) (qA (l ++ t) ((l.length + k : Nat) : Int)) = 0)
  (h3 : ∀ k, k < t.length → qQu (l ++ t) calm (l.length + k) (qA (l ++ t) ((l.length + k : Nat) : Int))) (h5 : (qx (l ++ t) (l ++ t).length).length ≤ 5) : Bld calm (l ++ t) (qx (l ++ t) (l ++ t).length) := by
 refine ⟨?_, ?_, rfl, ?_, h5⟩
 ·intro x hx
  rcases List.mem_append.1 hx with hx | hx
  ·exact B.ok x hx
  ·exact h1 x hx
 ·intro j hj
  by_cases hjl : j < l.length
  ·rw [yw j (by omega), kz hjl, YR ((QB j).1.mono (by omega))]
   exact B.wr j hjl
  ·have := h2 (j - l.length) (by simp at hj; omega)
   rwa [show l.length + (j - l.length) = j by omega] at this
 ·intro j hj
  by_cases hjl : j < l.length
  ·intro ho
   rw [kz hjl] at ho ⊢
   obtain ⟨c, c1, c2, c3, c4⟩ := B.jp j hjl ho
   exact ⟨c, c1, by simp; omega, by rw [yw c c2, yw j (by omega)]; exact c3, c4⟩
  ·have := h3 (j - l.length) (by simp at hj; omega)
   rwa [show l.length + (j - l.length) = j by omega] at this
theorem Mh {l : List qF} {x : qF} : qx (l ++ [x]) (l.length + 1) = jj (qx l l.length) l.length x.1 := by
 have e := gP (l := l) (t := [x]) (k := 0) (x := x) rfl
 rw [Nat.add_zero] at e
 rw [jk, yw _ (Nat.le_refl _), e]
theorem Bld.app {calm : Bool} {l : List qF} {st : List Int} (B : Bld calm l st) {x : qF} (h1 : QC calm x) (h2 : jE l st x = 0) (h3 : x.1 ≠ 12 ∧ x.1 ≠ 13) (h5 : (jj st l.length x.1).length ≤ 5) : Bld calm (l ++ [x]) (jj st l.length x.1) := by
 have e := gP (l := l) (t := [x]) (k := 0) (x := x) rfl
 rw [Nat.add_zero] at e
 have hs : qx (l ++ [x]) (l ++ [x]).length = jj st l.length x.1 := by
  rw [List.length_append, List.length_singleton, Mh, B.top]
 rw [← hs] at h5 ⊢
 refine B.ext (by intro y hy; rw [List.mem_singleton] at hy; subst hy; exact h1) ?_ ?_ h5
 ·intro k hk
  obtain rfl : k = 0 := by simpa using hk
  rw [Nat.add_zero, e, yw _ (Nat.le_refl _), B.top, YR B.stok]
  exact h2
 ·intro k hk
  obtain rfl : k = 0 := by simpa using hk
  rw [Nat.add_zero, e]
  intro ho
  omega
def Flat (op : Int) : Prop := op ≠ 14 ∧ op ≠ 15 ∧ op ≠ 16 ∧ op ≠ 17 ∧ op ≠ 18 ∧ op ≠ 19
theorem Flat.behind {op : Int} (h : Flat op) (st : List Int) (i : Int) : jj st i op = st := by
 obtain ⟨h1, h2, h3, h4, h5, h6⟩ := h
 unfold jj
 rw [if_neg (by unfold zG; simp; omega), if_neg (by unfold jS; rw [if_neg h2, if_neg h5, if_neg h6]; omega)]
theorem Flat.wrong {x : qF} (h : Flat x.1) (hm : xD x = true) (l : List qF) (st : List Int) : jE l st x = 0 := by
 obtain ⟨h1, h2, h3, h4, h5, h6⟩ := h
 unfold jE
 rw [if_neg (by rw [hm]; simp), if_neg (fun hh => by have := hh.1; unfold jS at this; rw [if_neg h2, if_neg h5, if_neg h6] at this; omega), if_neg (fun hh => h3 hh.1),
  if_neg (fun hh => by have := hh.1; unfold zG at this; simp at this; omega)]
theorem Bld.flat {calm : Bool} {l : List qF} {st : List Int} (B : Bld calm l st) {x : qF} (h1 : QC calm x) (hf : Flat x.1) (h3 : x.1 ≠ 12 ∧ x.1 ≠ 13) : Bld calm (l ++ [x]) st := by
 have := B.app h1 (hf.wrong h1.may l st) h3 (by rw [hf.behind]; exact B.five)
 rwa [hf.behind] at this
theorem Bld.two {calm : Bool} {l : List qF} {st : List Int} (B : Bld calm l st) {x y : qF} (hx : QC calm x) (hy : QC calm y) (fx : Flat x.1) (fy : Flat y.1)
  (jx : (x.1 = 12 ∨ x.1 = 13) → x.2.2.2.1 = ((l.length + 2 : Nat) : Int)) (jy : (y.1 = 12 ∨ y.1 = 13) → y.2.2.2.1 = (l.length : Int) ∧ calm = false) : Bld calm (l ++ [x, y]) st := by
 have e0 := gP (l := l) (t := [x, y]) (k := 0) (x := x) rfl
 have e1 := gP (l := l) (t := [x, y]) (k := 1) (x := y) rfl
 rw [Nat.add_zero] at e0
 have s0 : qx (l ++ [x, y]) l.length = st := by rw [yw _ (Nat.le_refl _), B.top]
 have s1 : qx (l ++ [x, y]) (l.length + 1) = st := by rw [jk, s0, e0, fx.behind]
 have s2 : qx (l ++ [x, y]) (l.length + 2) = st := by rw [show l.length + 2 = l.length + 1 + 1 from rfl, jk, s1, e1, fy.behind]
 have hs : qx (l ++ [x, y]) (l ++ [x, y]).length = st := by rw [List.length_append]; exact s2
 have := B.ext (t := [x, y]) (by intro z hz; simp at hz; rcases hz with rfl | rfl; exact hx; exact hy) (fun k hk => by
  have hk : k = 0 ∨ k = 1 := by simp at hk; omega
  rcases hk with rfl | rfl
  ·rw [Nat.add_zero, e0]; exact fx.wrong hx.may _ _
  ·rw [e1]; exact fy.wrong hy.may _ _) (fun k hk => by
  have hk : k = 0 ∨ k = 1 := by simp at hk; omega
  rcases hk with rfl | rfl
  ·rw [Nat.add_zero, e0]
   intro ho
   exact ⟨l.length + 2, jx ho, by simp, by rw [s2, s0], fun _ => by omega⟩
  ·rw [e1]
   intro ho
   obtain ⟨a, b⟩ := jy ho
   exact ⟨l.length, a, by simp, by rw [s0, s1], fun h => by rw [b] at h; cases h⟩) (by rw [hs]; exact B.five)
 rwa [hs] at this
abbrev one (op : Int) : qF := (op, 0, 0, 0, 0)
theorem VO (calm : Bool) {op : Int} (h : op = 14 ∨ op = 15 ∨ op = 16 ∨ op = 17 ∨ op = 18 ∨ op = 19) : QC calm (one op) := by
 refine ⟨?_, by dsimp only; omega, by dsimp only; omega, fun _ => by dsimp only; omega⟩
 rcases h with rfl | rfl | rfl | rfl | rfl | rfl <;> decide
theorem Bld.begin {calm : Bool} {l : List qF} {st : List Int} (B : Bld calm l st) {op : Int} (h : op = 14 ∨ op = 17) (h5 : st.length < 5) : Bld calm (l ++ [one op]) (st ++ [(l.length : Int)]) ∧ jH (l ++ [one op]) (st ++ [(l.length : Int)]) = jH l st ++ [op] := by
 have hb : jj st l.length op = st ++ [(l.length : Int)] := by
  unfold jj
  rw [if_pos (.inl (by unfold zG; exact decide_eq_true h)), if_neg (by rcases h with rfl | rfl <;> decide)]
 have hw : jE l st (one op) = 0 := by
  unfold jE
  rw [if_neg (by rcases h with rfl | rfl <;> decide), if_neg (fun hh => by have := hh.1; rcases h with rfl | rfl <;> exact absurd this (by decide)), if_neg (fun hh => by have := hh.1; dsimp only at this; omega), if_neg (by omega)]
 have := B.app (x := one op) (VO calm (by omega)) hw (by dsimp only; omega) (by rw [hb]; simp; omega)
 rw [hb] at this
 refine ⟨this, ?_⟩
 unfold jH
 rw [List.map_append]
 congr 1
 ·exact kM B.stok
 ·have e := gP (l := l) (t := [one op]) (k := 0) (x := one op) rfl
  rw [Nat.add_zero] at e
  rw [List.map_singleton, e]
theorem Bld.undo {calm : Bool} {l : List qF} {st : List Int} (B : Bld calm l st) (h : opM l st = 14) : Bld calm (l ++ [one 16]) st := by
 have hb : jj st l.length 16 = st := by
  unfold jj
  rw [if_neg (by decide), if_neg (by decide)]
 have hw : jE l st (one 16) = 0 := by
  unfold jE
  rw [if_neg (by decide), if_neg (fun hh => absurd hh.1 (by decide)), if_neg (fun hh => hh.2 h), if_neg (fun hh => absurd hh.1 (by decide))]
 have := B.app (x := one 16) (VO calm (by omega)) hw (by decide) (by rw [hb]; exact B.five)
 rwa [hb] at this
def xr (o : Int) : Int := if o = 14 then 15 else if o = 17 then 18 else 19
def ga (l : List qF) (st : List Int) : List qF := l ++ [one (xr (opM l st))]
def kf (l : List qF) (st : List Int) : List Int := if opM l st = 17 then st.dropLast ++ [(l.length : Int)] else st.dropLast
theorem Bld.shut {calm : Bool} {l : List qF} {st : List Int} (B : Bld calm l st) (hn : st ≠ []) (ho : opM l st = 14 ∨ opM l st = 17 ∨ opM l st = 18) : Bld calm (ga l st) (kf l st) ∧
  jH (ga l st) (kf l st) = (jH l st).dropLast ++ (if opM l st = 17 then [18] else []) := by
 have hs : jS (xr (opM l st)) = opM l st := by rcases ho with h | h | h <;> rw [h] <;> decide
 have hso : xr (opM l st) = 15 ∨ xr (opM l st) = 18 ∨ xr (opM l st) = 19 := by
  unfold xr
  repeat' split
  all_goals omega
 have he : 0 < jS (xr (opM l st)) := by rw [hs]; omega
 have hlen := List.length_pos_iff.2 hn
 have hb : jj st l.length (xr (opM l st)) = kf l st := by
  unfold jj kf
  rw [if_pos he]
  by_cases h17 : opM l st = 17
  ·rw [if_pos h17, if_pos (.inr (by rw [h17]; decide))]
  ·rw [if_neg h17, if_neg]
   rcases ho with h | h | h
   ·rw [h]; decide
   ·exact absurd h h17
   ·rw [h]; decide
 have hw : jE l st (one (xr (opM l st))) = 0 := by
  unfold jE
  rw [if_neg (by rcases hso with h | h | h <;> rw [h] <;> decide), if_neg (fun hh => hh.2 hs.symm), if_neg (fun hh => by have := hh.1; dsimp only at this; omega), if_neg (fun hh => by
   have := hh.1
   rcases hso with h | h | h <;> rw [h] at this <;> exact absurd this (by decide))]
 have h5 := B.five
 have := B.app (x := one (xr (opM l st))) (VO calm (by omega)) hw (by dsimp only; omega) (by rw [hb]; unfold kf; split <;> simp <;> omega)
 rw [hb] at this
 refine ⟨this, ?_⟩
 unfold ga kf jH
 have hd : (st.dropLast.map fun p => (qA (l ++ [one (xr (opM l st))]) p).1) = (jH l st).dropLast := by
  have := kM (t := [one (xr (opM l st))]) B.stok.dropLast
  unfold jH at this ⊢
  rw [this, List.map_dropLast]
 split
 ·rename_i h17
  have e := gP (l := l) (t := [one (xr (opM l st))]) (k := 0) (x := one (xr (opM l st))) rfl
  rw [Nat.add_zero] at e
  rw [List.map_append, hd, List.map_singleton, e, h17]; rfl
 ·rw [hd, List.append_nil]; rfl
theorem UC {l : List qF} {st : List Int} (hn : st ≠ []) : opM l st = (jH l st).getLast?.getD 0 := by
 unfold opM jH q8
 rw [if_neg hn, List.getLast?_map, List.getLast?_eq_some_getLast hn]; rfl
theorem Bld.fit {calm : Bool} {l : List qF} (B : Bld calm l []) (h0 : 0 < l.length) (h40 : l.length ≤ 40) : zd l = (0, 0) := by
 have key : ∀ d i, i + d = l.length → goM l (l.drop i) i (qx l i) = .inr [] := by
  intro d
  induction d with
  | zero =>
   intro i hi
   obtain rfl : i = l.length := by omega
   rw [List.drop_length, B.top]; rfl
  | succ d ih =>
   intro i hi
   have hlt : i < l.length := by omega
   rw [ws hlt]
   have hw := B.wr i hlt
   rw [js hlt] at hw
   rw [if_pos hw]
   have := ih (i + 1) (by omega)
   rw [jk, js hlt] at this
   exact this
 have hg := key l.length 0 (by omega)
 have hreg : ∀ j, j < l.length → (xq l 0 [])[j]? = some (q8 (qx l j)) := fun j hj => by
  have := JZ (l := l) l.length 0 (by omega) j (by omega)
  rw [Nat.zero_add] at this
  exact this
 have hnum : ∀ j : Nat, j < l.length → qU (xq l 0 []) (j : Int) = q8 (qx l j) := fun j hj => by
  unfold qU; rw [Int.toNat_natCast, hreg j hj]; rfl
 have hj : ∀ d i, i + d = l.length → wA l (xq l 0 []) (l.drop i) i = (0, 0) := by
  intro d
  induction d with
  | zero =>
   intro i hi
   obtain rfl : i = l.length := by omega
   rw [List.drop_length]; rfl
  | succ d ih =>
   intro i hi
   have hlt : i < l.length := by omega
   rw [wV hlt, if_neg, ih (i + 1) (by omega)]
   rintro ⟨ho, hc⟩
   have hB := B.jp i hlt
   rw [js hlt] at hB
   obtain ⟨c, c1, c2, c3, _⟩ := hB ho
   rw [c1] at hc
   rcases hc with hc | ⟨hc, hc2⟩ | ⟨hc, hc2⟩
   ·omega
   ·have : c = l.length := by omega
    subst this
    rw [B.top] at c3
    rw [hnum i hlt, ← c3] at hc2
    exact hc2 rfl
   ·rw [hnum c (by omega), hnum i hlt, c3] at hc2
    exact hc2 rfl
 unfold zd
 rw [if_neg (by omega)]
 have hg2 : goM l l 0 [] = .inr [] := hg
 rw [hg2]
 dsimp only
 rw [if_pos rfl]
 exact hj l.length 0 (by omega)
end Go.Proofs.YtdlfmpmpmkffjaaGreatDoor
namespace Go.Proofs.YtdlfmpmpmkffjaaGreatDoor
open Go Go.Ae
set_option maxRecDepth 100000
variable {g h : AH} {L R : List SP}
def OkN (zs : List Int) : Prop := ∀ z ∈ zs, 0 ≤ z ∧ z < 18446744073709551616
theorem OkN.set {zs : List Int} {i : Nat} {x : Int} (h : OkN zs) (hx : 0 ≤ x ∧ x < 18446744073709551616) : OkN (zs.set i x) := by
 intro z hz
 rcases List.mem_or_eq_of_mem_set hz with h1 | rfl
 ·exact h z h1
 ·exact hx
theorem JE {u x : Bool} {r : AV} {K : AV → Go.Ae.R} {Q : AV → AH → Prop} (hr : u = true → r = .bool x) (w : wp (K (.bool (u && x))) Q) : wp (qm (.bool u) r (.bool false) K) Q := by
 cases u
 ·exact w
 ·rw [hr rfl]; exact w
theorem qQN {k : IntKind} {a b : Int} {K : AV → Go.Ae.R} {Q : AV → AH → Prop} (w : ∀ z : Int, wp (K (.int k z)) Q) : wp (qq .and (.int k a) (.int k b) K) Q := by
 rw [gJ]; simp only [gD]; exact w _
def tw (c : Int) : Int := zw .i64 (1 * 2 ^ (min c.toNat (IntKind.bits .i64)))
theorem tw_b {c : Int} (h : 1 ≤ c ∧ c ≤ 3) : 2 ≤ tw c ∧ tw c ≤ 8 := by
 obtain rfl | rfl | rfl : c = 1 ∨ c = 2 ∨ c = 3 := by omega
 all_goals decide
theorem qQn {x lo hi : Int} (h : lo ≤ hi) : lo ≤ jd x lo hi ∧ jd x lo hi ≤ hi := by
 unfold jd
 have := wo x (show 0 < hi - lo + 1 by omega)
 split <;> omega
def OkZ (zs : List Int) : Prop := OkN zs ∧ zs[0]? = some 0
theorem OkZ.set {zs : List Int} {i : Nat} {x : Int} (h : OkZ zs) (hx : 0 ≤ x ∧ x < 18446744073709551616) (hi : 0 < i) : OkZ (zs.set i x) := ⟨h.1.set hx, by rw [List.getElem?_set_ne (by omega)]; exact h.2⟩
theorem UH {n : Nat} (hn : 2 ≤ n) {x : Int} {rv bv : AV} {rs bs : List Int} (H : HS g h R) (SR : Rd g R 1 rs.length rv (rs.map (.int .u64))) (hr : ∀ z ∈ rs, 0 ≤ z ∧ z < 18446744073709551616) (S : Rd g R 1 bs.length bv (bs.map (.int .u8))) (hb : ∀ z ∈ bs, 0 ≤ z ∧ z ≤ 255) :
  wp (callT tab qS n (.fn 22 [] []) [.int .i64 x, rv, bv] h) fun r h' => ∃ zs, OkN zs ∧ zs[0]? = some 0 ∧ 32 ≤ zs.length ∧ zs.length ≤ 80 ∧ shut r = true ∧ O3 r ∧ HS g h' (qa 26 1 zs.length r (zs.map (.int .u64)) :: R) := by
 (refine qn (g := W22) rfl (by omega) fun k hk => ?_; show wp (S22 (callT tab qS k) _ _ _ _) _; unfold S22; try simp only [iI, uU, Int.ofNat_eq_natCast])
 refine qz (yj (by omega) (by omega) (by omega) (by omega)) ?_
 rintro _ _ ⟨rfl, rfl⟩
 have hwb := qQn (x := x) (lo := ((32 : Nat) : Int)) (hi := ((80 : Nat) : Int)) (by omega)
 obtain ⟨n, hn⟩ : ∃ n : Nat, jd x ((32 : Nat) : Int) ((80 : Nat) : Int) = (n : Int) := ⟨_, (Int.toNat_of_nonneg (by omega)).symm⟩
 rw [hn] at hwb ⊢
 refine GF (Nat.le_refl _) (by omega) fun b h3 hb3 A F => ?_
 have H3 : HS g h3 (qa 26 1 n (.slice b 0 n n false) ((List.replicate n (0 : Int)).map (.int .u64)) :: R) := by
  refine H.add (D' := fun a => a = b) F.none ⟨by simp, .inr ⟨b, n, false, _, rfl, fun a => Iff.rfl, A, by rw [yJ]; simp, ?_, ?_⟩⟩ ?_
  ·rw [List.take_of_length_le (by rw [yJ]; simp), Xy, List.map_replicate]; rfl
  ·rw [if_neg (by simp)]; exact ⟨by rw [yJ]; rfl, Nat.le_refl _⟩
  ·rintro a rfl; exact ⟨hb3, A.lt⟩
 have z0 : OkZ (List.replicate n (0 : Int)) := ⟨by intro z hz; rw [List.eq_of_mem_replicate hz]; omega, by rw [List.getElem?_replicate, if_pos (by omega)]⟩
 have hsh : shut (.slice b 0 n n false) = true := rfl
 have hro : O3 (.slice b 0 n n false) := Nat.le_refl n
 generalize AV.slice b 0 n n false = wv at *
 clear H F A
 refine gA (i := 5) H3 (by omega) ⟨rfl, rfl⟩ fun h4 H => ?_
 rw [← List.map_set] at H
 have z1 := z0.set (i := 5) (x := ((14 : Nat) : Int)) (by omega) (by omega)
 have l1 : ((List.replicate n (0 : Int)).set 5 ((14 : Nat) : Int)).length = n := by simp
 generalize (List.replicate n (0 : Int)).set 5 ((14 : Nat) : Int) = zs at *
 clear z0 H3
 refine jr (fun m s h' => ∃ (i : Nat) (zs : List Int), s = (.int .i64 (i : Int), wv, bv, rv, ()) ∧ i ≤ 8 ∧ m = 8 - i ∧ OkZ zs ∧ zs.length = n ∧ HS g h' (qa 26 1 n wv (zs.map (.int .u64)) :: R))
  ?_ (m := 8) (by show 8 < 1000000000; omega) ⟨0, zs, rfl, by omega, by omega, z1, l1, H⟩
 clear H z1 l1 zs
 rintro m ih s h4 hih ⟨i, zs, rfl, hi8, rfl, z1, l1, H⟩
 dsimp only
 refine zW (SR.sl H.drop) (wz ?_)
 refine Jf (fun s g' => ∃ (r : AV) (u x : Bool), s = (r, .bool u, .int .i64 (i : Int), wv, bv, rv, ()) ∧ g' = h4 ∧ (u = true → r = .bool x) ∧ ((u && x) = decide (i < rs.length ∧ i < 8))) ?_ ?_
 ·intro j hj
  refine MQ (fun hl => wz (hj _ _ ⟨_, _, decide (i < 8), rfl, rfl, fun _ => (by congr 1; exact decide_eq_decide.2 (by omega)), ?_⟩)) (fun hl => hj _ _ ⟨_, _, false, rfl, rfl, fun h => absurd (of_decide_eq_true h) hl, ?_⟩)
  ·have hl' : i < rs.length := by omega
   simp [hl']
  ·have hl' : ¬ i < rs.length := by omega
   simp [hl']
 rintro s h4 ⟨r, u, x2, rfl, rfl, hr2, hux⟩
 refine JE hr2 ?_
 rw [hux]
 dsimp only
 clear hr2 hux
 refine Gi (fun hi => ?_) fun hi => ?_
 ·have hci : (rs.map (AV.int .u64))[i]? = some (.int .u64 rs[i]) := by rw [List.getElem?_map, List.getElem?_eq_getElem hi.1]; rfl
  have hbi := hr rs[i] (List.getElem_mem hi.1)
  have hb1 := Int.tmod_nonneg ((90 : Nat) : Int) hbi.1
  have hb2 := Int.tmod_lt_of_pos rs[i] (show 0 < ((90 : Nat) : Int) by omega)
  refine qe (by omega) (jf (SR.sl H.drop) hci (wu (by omega) ?_))
  rw [show ((6 : Nat) : Int) + (i : Int) = ((6 + i : Nat) : Int) by omega]
  refine gA H (by omega) ⟨rfl, rfl⟩ fun h6 H6 => ?_
  rw [← List.map_set] at H6
  exact qe (by omega) (hih (8 - (i + 1)) _ _ (by omega) ⟨i + 1, _, rfl, by omega, rfl, z1.set (by omega) (by omega), by simp [l1], H6⟩)
 ·refine xx [] (fun s h' => s = (wv, ()) ∧ ∃ zs, OkZ zs ∧ zs.length = n ∧ HS g h' (qa 26 1 n wv (zs.map (.int .u64)) :: R)) ?_ ?_
  ·intro j hj
   refine jr (fun m s h' => ∃ (i : Nat) (at' : Int) (zs : List Int), s = (.int .i64 (i : Int), .int .i64 at', wv, bv, ()) ∧ i ≤ 8 ∧ m = 8 - i ∧ 14 ≤ at' ∧ at' ≤ n ∧ OkZ zs ∧ zs.length = n ∧ HS g h' (qa 26 1 n wv (zs.map (.int .u64)) :: R))
    ?_ (m := 8) (by show 8 < 1000000000; omega) ⟨0, ((14 : Nat) : Int), zs, rfl, by omega, by omega, by omega, by omega, z1, l1, H⟩
   clear H z1 l1 hih zs ih
   rintro m ih s h5 hih ⟨i, a, zs, rfl, hi8, rfl, ha, ha2, hz, hl, H⟩
   dsimp only
   refine zW (S.sl H.drop) (wz ?_)
   refine Jf (fun s g' => ∃ (r : AV) (u x : Bool), s = (r, .bool u, .int .i64 (i : Int), .int .i64 a, wv, bv, ()) ∧ g' = h5 ∧ (u = true → r = .bool x) ∧ ((u && x) = decide (i < bs.length ∧ i < 8))) ?_ ?_
   ·intro j hj
    refine MQ (fun hl => wz (hj _ _ ⟨_, _, decide (i < 8), rfl, rfl, fun _ => (by congr 1; exact decide_eq_decide.2 (by omega)), ?_⟩)) (fun hl => hj _ _ ⟨_, _, false, rfl, rfl, fun h => absurd (of_decide_eq_true h) hl, ?_⟩)
    ·have hl' : i < bs.length := by omega
     simp [hl']
    ·have hl' : ¬ i < bs.length := by omega
     simp [hl']
   rintro s h5 ⟨r, u, x, rfl, rfl, hr, hux⟩
   refine JE hr ?_
   rw [hux]
   dsimp only
   refine Gi (fun hi => ?_) fun hi => hj _ _ ⟨rfl, zs, hz, hl, H⟩
   have hci : (bs.map (AV.int .u8))[i]? = some (.int .u8 bs[i]) := by rw [List.getElem?_map, List.getElem?_eq_getElem hi.1]; rfl
   have hbi := hb bs[i] (List.getElem_mem hi.1)
   have hb1 := Int.tmod_nonneg ((3 : Nat) : Int) hbi.1
   have hb2 := Int.tmod_lt_of_pos bs[i] (show 0 < ((3 : Nat) : Int) by omega)
   refine jf (S.sl H.drop) hci (wu (by omega) (zM (by omega) (qe (by omega) ?_)))
   obtain ⟨c, hc⟩ : ∃ c, c = Int.tmod bs[i] ((3 : Nat) : Int) + ((1 : Nat) : Int) := ⟨_, rfl⟩
   rw [← hc]
   have hcb : 1 ≤ c ∧ c ≤ 3 := by omega
   have htw := tw_b hcb
   refine qe (by omega) (zt (by omega) (UR (by omega) ?_))
   show wp (qq .add _ (.int .i64 (tw c)) _) _
   refine qe (by omega) (jR H .here (xd (fun hg => qY (hj _ _ ⟨rfl, zs, hz, hl, H⟩)) fun hg => qQ ?_))
   obtain ⟨p, rfl⟩ : ∃ p : Nat, a = (p : Int) := ⟨a.toNat, by omega⟩
   refine zt (by omega) ?_
   refine gA H (by omega) ⟨rfl, rfl⟩ fun h6 H => ?_
   rw [← List.map_set] at H
   have hz2 := hz.set (i := p) (x := c) (by omega) (by omega)
   have hl2 : (zs.set p c).length = n := by simp [hl]
   generalize zs.set p c = zs2 at *
   clear hz hl
   refine xx [] (fun s h' => s = (.int .i64 c, .int .i64 (i : Int), .int .i64 (p : Int), wv, bv, ()) ∧ ∃ zs, OkZ zs ∧ zs.length = n ∧ HS g h' (qa 26 1 n wv (zs.map (.int .u64)) :: R)) ?_ ?_
   ·intro j hj
    refine jf (S.sl H.drop) hci (qQN fun z => ?_)
    refine xd (fun _ => qY ?_) fun _ => qQ ?_
    ·refine qe (by omega) (zt (by omega) ?_)
     refine gA H (by omega) ⟨rfl, rfl⟩ fun h7 H7 => ?_
     rw [← List.map_set] at H7
     exact hj _ _ ⟨rfl, _, hz2.set (by omega) (by omega), by simp [hl2], H7⟩
    ·refine jf (S.sl H.drop) hci (qQN fun z => ?_)
     refine xd (fun _ => qY ?_) fun _ => qQ (hj _ _ ⟨rfl, zs2, hz2, hl2, H⟩)
     refine qe (by omega) (qe (by omega) (jh (by omega) ?_))
     obtain ⟨d, hd⟩ : ∃ d : Nat, ((1 : Nat) : Int) + c - ((1 : Nat) : Int) = (d : Int) := ⟨c.toNat, by omega⟩
     rw [hd]
     have hdn : d < zs2.length := by omega
     refine jf (x := .int .u64 zs2[d]) (H.sl .here) (by rw [List.getElem?_map, List.getElem?_eq_getElem hdn]; rfl) ?_
     rw [show (p : Int) + ((1 : Nat) : Int) = ((p + 1 : Nat) : Int) by omega]
     refine gA H (by omega) ⟨rfl, rfl⟩ fun h7 H7 => ?_
     rw [← List.map_set] at H7
     refine qe (by omega) (jh (by omega) (qe (by omega) (zt (by omega) ?_)))
     rw [hd]
     refine gA H7 (by omega) ⟨rfl, rfl⟩ fun h8 H8 => ?_
     rw [← List.map_set] at H8
     exact hj _ _ ⟨rfl, _, (hz2.set (hz2.1 zs2[d] (List.getElem_mem hdn)) (by omega)).set (by omega) (by omega), by simp [hl2], H8⟩
   rintro s h7 ⟨rfl, zs3, hz3, hl3, H⟩
   dsimp only
   refine qe (by omega) (zt (by omega) (UR (by omega) ?_))
   show wp (qq .add _ (.int .i64 (tw c)) _) _
   refine qe (by omega) (zt (by omega) ?_)
   refine gA (i := 5) H (by omega) ⟨rfl, rfl⟩ fun h8 H8 => ?_
   rw [← List.map_set] at H8
   refine qe (by omega) (hih (8 - (i + 1)) _ _ (by omega) ⟨i + 1, _, _, rfl, by omega, rfl, by omega, by omega, hz3.set (by omega) (by omega), by simp [hl3], H8⟩)
  rintro s h5 ⟨rfl, zs, hz, hl, H⟩
  dsimp only
  refine qR (qk ⟨zs, hz.1, hz.2, by omega, by omega, hsh, hro, ?_⟩)
  rw [hl]
  exact H
theorem US {n : Nat} (hn : 2 ≤ n) {x : Int} {rv bv : AV} {rs bs : List Int} (H : HS g h R) (SR : Rd g R 1 rs.length rv (rs.map (.int .u64))) (hr : ∀ z ∈ rs, 0 ≤ z ∧ z < 18446744073709551616) (S : Rd g R 1 bs.length bv (bs.map (.int .u8))) (hb : ∀ z ∈ bs, 0 ≤ z ∧ z ≤ 255) :
  wp (callT tab qS n (.fn 22 [] []) [.int .i64 x, rv, bv] h) fun r h' => ∃ zs, OkN zs ∧ 32 ≤ zs.length ∧ zs.length ≤ 80 ∧ shut r = true ∧ O3 r ∧ HS g h' (qa 26 1 zs.length r (zs.map (.int .u64)) :: R) := by
 obtain ⟨r, h', e, zs, a, _, b⟩ := UH hn (x := x) H SR hr S hb
 exact ⟨r, h', e, zs, a, b⟩
end Go.Proofs.YtdlfmpmpmkffjaaGreatDoor
namespace Go.Proofs.YtdlfmpmpmkffjaaGreatDoor
open Go Go.Ae
set_option maxRecDepth 100000
variable {g h : AH} {L R : List SP}
def zN (lv : AV) (l : List qF) : SP := qa 28 5 l.length lv (l.flatMap jY)
def kr (ov : AV) (o : List Int) : SP := qa 3 1 o.length ov (o.map (.int .i64))
theorem kG {n : Nat} (hn : 2 ≤ n) {x : Int} : wp (callT tab qS n (.fn 58 [] []) [.int .i64 x] h) fun v h' => v = .int .i64 (jd x 0 6) ∧ h' = h := by
 (refine qn (g := W58) rfl (by omega) fun k hk => ?_; show wp (S58 (callT tab qS k) _ _) _; unfold S58; try simp only [iI, uU, Int.ofNat_eq_natCast])
 refine qz (yj (by omega) (by omega) (by omega) (by omega)) ?_
 rintro _ _ ⟨rfl, rfl⟩
 exact qk ⟨rfl, rfl⟩
theorem vV {l : List qF} {lv : AV} {t : List qF} {tv : AV} {K2 : AV → AH → Go.Ae.R} {Q : AV → AH → Prop} {D' : Nat → Prop} (H : HS g h (zN lv l :: R)) (S : Sl D' h 5 t.length tv (t.flatMap jY)) (hl : l.length + t.length ≤ 100000)
  (w : ∀ v' h', HS g h' (zN v' (l ++ t) :: R) → wp (K2 v' h') Q) : wp (qu h 28 5 lv tv K2) Q := by
 refine zm H S (by omega) (by omega) (Jv t) fun v' h' H' => w v' h' ?_
 unfold zN
 rw [List.length_append, List.flatMap_append]
 exact H'
theorem qQb {a n : Int} (h : 0 ≤ a ∧ a ≤ 7) : xD (1, a, 0, 0, n) = true := by simp [xD, jC, xh]; omega
theorem may_2 {a b : Int} (h : 0 ≤ a ∧ a ≤ 7) (h2 : 0 ≤ b ∧ b ≤ 7) : xD (2, a, b, 0, 0) = true := by simp [xD, jC, xh]; omega
theorem may_3 {o a b c : Int} (ho : 3 ≤ o ∧ o ≤ 7) (h : 0 ≤ a ∧ a ≤ 7) (h2 : 0 ≤ b ∧ b ≤ 7) (h3 : 0 ≤ c ∧ c ≤ 7) : xD (o, a, b, c, 0) = true := by
 rcases (show o = 3 ∨ o = 4 ∨ o = 5 ∨ o = 6 ∨ o = 7 by omega) with rfl | rfl | rfl | rfl | rfl <;> (simp [xD, jC, xh]; omega)
theorem Qe {o a b c : Int} (ho : o = 8 ∨ o = 9) (h : 0 ≤ a ∧ a ≤ 7) (h2 : 0 ≤ b ∧ b ≤ 7) (h3 : 0 ≤ c ∧ c ≤ 15) : xD (o, a, b, c, 0) = true := by
 rcases ho with rfl | rfl <;> (simp [xD, jC, xh]; omega)
theorem OM {a b : Int} (h : 0 ≤ a ∧ a ≤ 7) (h2 : 0 ≤ b ∧ b ≤ 7) : xD (10, a, b, 0, 0) = true := by simp [xD, jC, xh]; omega
theorem OP {o a : Int} (ho : o = 11 ∨ o = 21) (h : 0 ≤ a ∧ a ≤ 7) : xD (o, a, 0, 0, 0) = true := by
 rcases ho with rfl | rfl <;> (simp [xD, jC, xh]; omega)
theorem Zt {a c : Int} (h : 0 ≤ a ∧ a ≤ 7) (h3 : 0 ≤ c ∧ c ≤ 40) : xD (13, a, 0, c, 0) = true := by simp [xD, jC, xh]; omega
structure Xx (x : qF) : Prop where
  flat : Flat x.1
  nj : x.1 ≠ 12 ∧ x.1 ≠ 13
  ok : ∀ calm, QC calm x
theorem Xx.of {x : qF} (h1 : xD x = true) (h2 : (1 ≤ x.1 ∧ x.1 ≤ 11) ∨ x.1 = 21) (h3 : 0 ≤ x.2.2.2.2 ∧ x.2.2.2.2 < 18446744073709551616) : Xx x :=
 ⟨⟨by omega, by omega, by omega, by omega, by omega, by omega⟩, by omega, fun _ => ⟨h1, by omega, h3, fun _ => by omega⟩⟩
set_option maxHeartbeats 4000000 in
theorem QG {n : Nat} (hn : 3 ≤ n) {kx : qF} (hN : 0 ≤ kx.2.2.2.2 ∧ kx.2.2.2.2 < 18446744073709551616) (H : HS g h R) :
  wp (callT tab qS n (.fn 59 [] []) [.agg (jY kx)] h) fun r h' => ∃ x, r = .agg (jY x) ∧ Xx x ∧ HS g h' R := by
 (refine qn (g := W59) rfl (by omega) fun k hk => ?_; show wp (S59 (callT tab qS k) _ _) _; unfold S59; try simp only [iI, uU, Int.ofNat_eq_natCast])
 refine jQ H rfl fun b0 h1 H1 => ?_
 refine jQ H1 rfl fun b2 h2 H2 => ?_
 have H2 : HS g h2 (qc b2 [.int .i64 ((0 : Nat) : Int), .int .i64 ((0 : Nat) : Int), .int .i64 ((0 : Nat) : Int), .int .i64 ((0 : Nat) : Int), .int .u64 ((0 : Nat) : Int)] :: qc b0 (jY kx) :: R) := H2
 clear H H1
 refine qW ?_
 try dsimp only
 refine qV (qv H2 (b := b0) e_1 rfl ?_)
 refine qz (kG (by omega)) ?_
 rintro _ _ ⟨rfl, rfl⟩
 refine qV (qv H2 (b := b0) e_1 rfl ?_)
 refine qz (kG (by omega)) ?_
 rintro _ _ ⟨rfl, rfl⟩
 refine qV (qv H2 (b := b0) e_1 rfl ?_)
 refine qz (kG (by omega)) ?_
 rintro _ _ ⟨rfl, rfl⟩
 refine vS H2 (b := b0) e_1 rfl H2 e_1 rfl (HS.lt H2 e_1) ?_
 refine vS H2 (b := b0) e_1 rfl H2 e_1 rfl (HS.lt H2 e_1) ?_
 refine vS H2 (b := b0) e_1 rfl H2 e_1 rfl (HS.lt H2 e_1) ?_
 refine qV (qv H2 (b := b0) e_1 rfl ?_)
 refine qz (yj (by omega) (by omega) (by omega) (by omega)) ?_
 rintro _ _ ⟨rfl, rfl⟩
 refine qV (qv H2 (b := b0) e_1 rfl ?_)
 refine qz (yj (by omega) (by omega) (by omega) (by omega)) ?_
 rintro _ _ ⟨rfl, rfl⟩
 have ha := jm kx.2.1 (show (0 : Int) ≤ 6 by omega)
 have hb := jm kx.2.2.1 (show (0 : Int) ≤ 6 by omega)
 have hc := jm kx.2.2.2.1 (show (0 : Int) ≤ 6 by omega)
 have hat := jm kx.2.2.2.1 (show (((6 : Nat) : Int)) ≤ ((15 : Nat) : Int) by omega)
 have hw := jm kx.1 (show (((0 : Nat) : Int)) ≤ ((19 : Nat) : Int) by omega)
 generalize jd kx.2.1 0 6 = a at *
 generalize jd kx.2.2.1 0 6 = b at *
 generalize jd kx.2.2.2.1 0 6 = c at *
 generalize jd kx.2.2.2.1 ((6 : Nat) : Int) ((15 : Nat) : Int) = at_ at *
 generalize jd kx.1 ((0 : Nat) : Int) ((19 : Nat) : Int) = w at *
 have fin : ∀ (x : qF) (h0 : AH), Xx x → HS g h0 (qc b2 [.int .i64 ((0 : Nat) : Int), .int .i64 ((0 : Nat) : Int), .int .i64 ((0 : Nat) : Int), .int .i64 ((0 : Nat) : Int), .int .u64 ((0 : Nat) : Int)] :: qc b0 (jY kx) :: R) →
   wp (qw h0 (.ptr b2 0) (.agg (jY x)) 5 fun h22 => qT [] h22 fun h23 => qP h23 (.ptr b2 0) 5 fun v24 => some (v24, h23)) fun r h' => ∃ x, r = .agg (jY x) ∧ Xx x ∧ HS g h' R := by
  intro x h0 hx H0
  refine jD H0 (b := b2) .here rfl (by show 0 + 5 ≤ 5; omega) rfl fun h6 H6 => ?_
  have H6 : HS g h6 (qc b2 (jY x) :: qc b0 (jY kx) :: R) := H6
  refine qR (jK H6 (b := b2) (off := 0) .here rfl (by omega) (l := jY x) rfl ?_)
  exact qk ⟨x, rfl, hx, H6.drop.drop⟩
 have z0 : (0 : Int) ≤ 0 ∧ (0 : Int) < 18446744073709551616 := by omega
 have hd : w = 0 ∨ w = 1 ∨ w = 2 ∨ w = 3 ∨ w = 4 ∨ w = 5 ∨ w = 6 ∨ w = 7 ∨ w = 8 ∨ w = 9 ∨ w = 10 ∨ w = 11 ∨ w = 12 ∨ w = 13 ∨ w = 14 ∨ w = 15 ∨ w = 16 ∨ 17 ≤ w := by omega
 rcases hd with h0 | h0 | h0 | h0 | h0 | h0 | h0 | h0 | h0 | h0 | h0 | h0 | h0 | h0 | h0 | h0 | h0 | h0
 all_goals (first | with_reducible (refine qW ?_; (try dsimp only); refine qK (by omega) ?_; refine qQ ?_; refine qK (by omega) ?_; refine qQ ?_; refine qK (by omega) ?_; refine qQ ?_; refine qK (by omega) ?_; refine qQ ?_; refine qK (by omega) ?_; refine qQ ?_; refine qW ?_; (try dsimp only); refine qK (by omega) ?_; refine qQ ?_; refine qK (by omega) ?_; refine qQ ?_; refine qK (by omega) ?_; refine qQ ?_; refine qW ?_; (try dsimp only); refine qK (by omega) ?_; refine qQ ?_; refine qK (by omega) ?_; refine qQ ?_; refine qK (by omega) ?_; refine qQ ?_; refine qK (by omega) ?_; refine qQ ?_; refine qK (by omega) ?_; refine qQ ?_; refine qW ?_; (try dsimp only); refine qK (by omega) ?_; refine qQ ?_; refine qK (by omega) ?_; refine qQ ?_; refine qK (by omega) ?_; refine qQ ?_; refine qM (by omega) ?_; refine qY ?_; refine qp rfl ?_) | with_reducible (refine qW ?_; (try dsimp only); refine qK (by omega) ?_; refine qQ ?_; refine qK (by omega) ?_; refine qQ ?_; refine qK (by omega) ?_; refine qQ ?_; refine qK (by omega) ?_; refine qQ ?_; refine qK (by omega) ?_; refine qQ ?_; refine qW ?_; (try dsimp only); refine qK (by omega) ?_; refine qQ ?_; refine qK (by omega) ?_; refine qQ ?_; refine qK (by omega) ?_; refine qQ ?_; refine qW ?_; (try dsimp only); refine qK (by omega) ?_; refine qQ ?_; refine qK (by omega) ?_; refine qQ ?_; refine qK (by omega) ?_; refine qQ ?_; refine qK (by omega) ?_; refine qQ ?_; refine qK (by omega) ?_; refine qQ ?_; refine qW ?_; (try dsimp only); refine qK (by omega) ?_; refine qQ ?_; refine qK (by omega) ?_; refine qQ ?_; refine qK (by omega) ?_; refine qQ ?_; refine qK (by omega) ?_; refine qQ ?_; refine qp rfl ?_) | with_reducible (refine qW ?_; (try dsimp only); refine qK (by omega) ?_; refine qQ ?_; refine qK (by omega) ?_; refine qQ ?_; refine qK (by omega) ?_; refine qQ ?_; refine qK (by omega) ?_; refine qQ ?_; refine qK (by omega) ?_; refine qQ ?_; refine qW ?_; (try dsimp only); refine qK (by omega) ?_; refine qQ ?_; refine qK (by omega) ?_; refine qQ ?_; refine qK (by omega) ?_; refine qQ ?_; refine qW ?_; (try dsimp only); refine qK (by omega) ?_; refine qQ ?_; refine qK (by omega) ?_; refine qQ ?_; refine qK (by omega) ?_; refine qQ ?_; refine qK (by omega) ?_; refine qQ ?_; refine qK (by omega) ?_; refine qQ ?_; refine qW ?_; (try dsimp only); refine qK (by omega) ?_; refine qQ ?_; refine qK (by omega) ?_; refine qQ ?_; refine qM (by omega) ?_; refine qY ?_; refine qp rfl ?_) | with_reducible (refine qW ?_; (try dsimp only); refine qK (by omega) ?_; refine qQ ?_; refine qK (by omega) ?_; refine qQ ?_; refine qK (by omega) ?_; refine qQ ?_; refine qK (by omega) ?_; refine qQ ?_; refine qK (by omega) ?_; refine qQ ?_; refine qW ?_; (try dsimp only); refine qK (by omega) ?_; refine qQ ?_; refine qK (by omega) ?_; refine qQ ?_; refine qK (by omega) ?_; refine qQ ?_; refine qW ?_; (try dsimp only); refine qK (by omega) ?_; refine qQ ?_; refine qK (by omega) ?_; refine qQ ?_; refine qK (by omega) ?_; refine qQ ?_; refine qK (by omega) ?_; refine qQ ?_; refine qK (by omega) ?_; refine qQ ?_; refine qW ?_; (try dsimp only); refine qK (by omega) ?_; refine qQ ?_; refine qM (by omega) ?_; refine qY ?_; refine qp rfl ?_) | with_reducible (refine qW ?_; (try dsimp only); refine qK (by omega) ?_; refine qQ ?_; refine qK (by omega) ?_; refine qQ ?_; refine qK (by omega) ?_; refine qQ ?_; refine qK (by omega) ?_; refine qQ ?_; refine qK (by omega) ?_; refine qQ ?_; refine qW ?_; (try dsimp only); refine qK (by omega) ?_; refine qQ ?_; refine qK (by omega) ?_; refine qQ ?_; refine qK (by omega) ?_; refine qQ ?_; refine qW ?_; (try dsimp only); refine qK (by omega) ?_; refine qQ ?_; refine qK (by omega) ?_; refine qQ ?_; refine qK (by omega) ?_; refine qQ ?_; refine qK (by omega) ?_; refine qQ ?_; refine qK (by omega) ?_; refine qQ ?_; refine qW ?_; (try dsimp only); refine qM (by omega) ?_; refine qY ?_; refine qY ?_; refine qp rfl ?_) | with_reducible (refine qW ?_; (try dsimp only); refine qK (by omega) ?_; refine qQ ?_; refine qK (by omega) ?_; refine qQ ?_; refine qK (by omega) ?_; refine qQ ?_; refine qK (by omega) ?_; refine qQ ?_; refine qK (by omega) ?_; refine qQ ?_; refine qW ?_; (try dsimp only); refine qK (by omega) ?_; refine qQ ?_; refine qK (by omega) ?_; refine qQ ?_; refine qK (by omega) ?_; refine qQ ?_; refine qW ?_; (try dsimp only); refine qK (by omega) ?_; refine qQ ?_; refine qK (by omega) ?_; refine qQ ?_; refine qK (by omega) ?_; refine qQ ?_; refine qK (by omega) ?_; refine qQ ?_; refine qM (by omega) ?_; refine qY ?_; refine qV ?_; refine qv (by assumption) e_1 rfl ?_) | with_reducible (refine qW ?_; (try dsimp only); refine qK (by omega) ?_; refine qQ ?_; refine qK (by omega) ?_; refine qQ ?_; refine qK (by omega) ?_; refine qQ ?_; refine qK (by omega) ?_; refine qQ ?_; refine qK (by omega) ?_; refine qQ ?_; refine qW ?_; (try dsimp only); refine qK (by omega) ?_; refine qQ ?_; refine qK (by omega) ?_; refine qQ ?_; refine qK (by omega) ?_; refine qQ ?_; refine qW ?_; (try dsimp only); refine qK (by omega) ?_; refine qQ ?_; refine qK (by omega) ?_; refine qQ ?_; refine qK (by omega) ?_; refine qQ ?_; refine qM (by omega) ?_; refine qY ?_; refine qV ?_; refine qv (by assumption) e_1 rfl ?_) | with_reducible (refine qW ?_; (try dsimp only); refine qK (by omega) ?_; refine qQ ?_; refine qK (by omega) ?_; refine qQ ?_; refine qK (by omega) ?_; refine qQ ?_; refine qK (by omega) ?_; refine qQ ?_; refine qK (by omega) ?_; refine qQ ?_; refine qW ?_; (try dsimp only); refine qK (by omega) ?_; refine qQ ?_; refine qK (by omega) ?_; refine qQ ?_; refine qK (by omega) ?_; refine qQ ?_; refine qW ?_; (try dsimp only); refine qK (by omega) ?_; refine qQ ?_; refine qK (by omega) ?_; refine qQ ?_; refine qM (by omega) ?_; refine qY ?_; refine qp rfl ?_) | with_reducible (refine qW ?_; (try dsimp only); refine qK (by omega) ?_; refine qQ ?_; refine qK (by omega) ?_; refine qQ ?_; refine qK (by omega) ?_; refine qQ ?_; refine qK (by omega) ?_; refine qQ ?_; refine qK (by omega) ?_; refine qQ ?_; refine qW ?_; (try dsimp only); refine qK (by omega) ?_; refine qQ ?_; refine qK (by omega) ?_; refine qQ ?_; refine qK (by omega) ?_; refine qQ ?_; refine qW ?_; (try dsimp only); refine qK (by omega) ?_; refine qQ ?_; refine qM (by omega) ?_; refine qY ?_; refine qY ?_; refine qp rfl ?_) | with_reducible (refine qW ?_; (try dsimp only); refine qK (by omega) ?_; refine qQ ?_; refine qK (by omega) ?_; refine qQ ?_; refine qK (by omega) ?_; refine qQ ?_; refine qK (by omega) ?_; refine qQ ?_; refine qK (by omega) ?_; refine qQ ?_; refine qW ?_; (try dsimp only); refine qK (by omega) ?_; refine qQ ?_; refine qK (by omega) ?_; refine qQ ?_; refine qK (by omega) ?_; refine qQ ?_; refine qW ?_; (try dsimp only); refine qM (by omega) ?_; refine qY ?_; refine qY ?_; refine qp rfl ?_) | with_reducible (refine qW ?_; (try dsimp only); refine qK (by omega) ?_; refine qQ ?_; refine qK (by omega) ?_; refine qQ ?_; refine qK (by omega) ?_; refine qQ ?_; refine qK (by omega) ?_; refine qQ ?_; refine qK (by omega) ?_; refine qQ ?_; refine qW ?_; (try dsimp only); refine qK (by omega) ?_; refine qQ ?_; refine qK (by omega) ?_; refine qQ ?_; refine qM (by omega) ?_; refine qY ?_; refine qp rfl ?_) | with_reducible (refine qW ?_; (try dsimp only); refine qK (by omega) ?_; refine qQ ?_; refine qK (by omega) ?_; refine qQ ?_; refine qK (by omega) ?_; refine qQ ?_; refine qK (by omega) ?_; refine qQ ?_; refine qK (by omega) ?_; refine qQ ?_; refine qW ?_; (try dsimp only); refine qK (by omega) ?_; refine qQ ?_; refine qM (by omega) ?_; refine qY ?_; refine qY ?_; refine qp rfl ?_) | with_reducible (refine qW ?_; (try dsimp only); refine qK (by omega) ?_; refine qQ ?_; refine qK (by omega) ?_; refine qQ ?_; refine qK (by omega) ?_; refine qQ ?_; refine qK (by omega) ?_; refine qQ ?_; refine qK (by omega) ?_; refine qQ ?_; refine qW ?_; (try dsimp only); refine qM (by omega) ?_; refine qY ?_; refine qY ?_; refine qp rfl ?_) | with_reducible (refine qW ?_; (try dsimp only); refine qK (by omega) ?_; refine qQ ?_; refine qK (by omega) ?_; refine qQ ?_; refine qK (by omega) ?_; refine qQ ?_; refine qK (by omega) ?_; refine qQ ?_; refine qM (by omega) ?_; refine qY ?_; refine qV ?_; refine qv (by assumption) e_1 rfl ?_) | with_reducible (refine qW ?_; (try dsimp only); refine qK (by omega) ?_; refine qQ ?_; refine qM (by omega) ?_; refine qY ?_; refine qV ?_; refine qv (by assumption) e_1 rfl ?_; refine qp rfl ?_) | with_reducible (refine qW ?_; (try dsimp only); refine qK (by omega) ?_; refine qQ ?_; refine qK (by omega) ?_; refine qQ ?_; refine qM (by omega) ?_; refine qY ?_; refine qV ?_; refine qv (by assumption) e_1 rfl ?_) | with_reducible (refine qW ?_; (try dsimp only); refine qK (by omega) ?_; refine qQ ?_; refine qK (by omega) ?_; refine qQ ?_; refine qK (by omega) ?_; refine qQ ?_; refine qM (by omega) ?_; refine qY ?_; refine qp rfl ?_) | with_reducible (refine qW ?_; (try dsimp only); refine qM (by omega) ?_; refine qY ?_; refine qY ?_; refine qV ?_; refine qv (by assumption) e_1 rfl ?_; refine qp rfl ?_))
 ·exact fin (1, a, 0, 0, kx.2.2.2.2) _ (.of (qQb (by omega)) (by dsimp only; omega) hN) H2
 ·exact fin (1, a, 0, 0, kx.2.2.2.2) _ (.of (qQb (by omega)) (by dsimp only; omega) hN) H2
 ·refine wu (by decide) ?_
  obtain ⟨m, hm⟩ : ∃ m : Nat, kx.2.2.2.2 = m := ⟨kx.2.2.2.2.toNat, by omega⟩
  have ht : kx.2.2.2.2.tmod ((20 : Nat) : Int) = ((m % 20 : Nat) : Int) := by rw [hm]; rfl
  rw [ht]
  with_reducible (refine qp rfl ?_)
  exact fin (1, a, 0, 0, ((m % 20 : Nat) : Int)) _ (.of (qQb (by omega)) (by dsimp only; omega) (by dsimp only; omega)) H2
 ·exact fin (2, a, b, 0, 0) _ (.of (may_2 (by omega) (by omega)) (by dsimp only; omega) z0) H2
 ·refine wu (by decide) ?_
  obtain ⟨m, hm⟩ : ∃ m : Nat, kx.2.2.2.2 = m := ⟨kx.2.2.2.2.toNat, by omega⟩
  have ht : kx.2.2.2.2.tmod ((64 : Nat) : Int) = ((m % 64 : Nat) : Int) := by rw [hm]; rfl
  rw [ht]
  refine zM (by omega) ?_
  refine qz (yj (by omega) (by omega) (by omega) (by omega)) ?_
  rintro _ _ ⟨rfl, rfl⟩
  have ho := jm ((m % 64 : Nat) : Int) (show (((0 : Nat) : Int)) ≤ ((4 : Nat) : Int) by omega)
  generalize jd ((m % 64 : Nat) : Int) ((0 : Nat) : Int) ((4 : Nat) : Int) = o at *
  with_reducible (refine qe (by omega) ?_; refine qp rfl ?_)
  exact fin (((3 : Nat) : Int) + o, a, b, c, 0) _ (.of (may_3 (by omega) (by omega) (by omega) (by omega)) (by dsimp only; omega) z0) H2
 ·exact fin (8, a, 7, at_, 0) _ (.of (Qe (.inl rfl) (by omega) (by omega) (by omega)) (by dsimp only; omega) z0) H2
 ·exact fin (8, a, 7, at_, 0) _ (.of (Qe (.inl rfl) (by omega) (by omega) (by omega)) (by dsimp only; omega) z0) H2
 ·exact fin (8, a, 7, at_, 0) _ (.of (Qe (.inl rfl) (by omega) (by omega) (by omega)) (by dsimp only; omega) z0) H2
 ·exact fin (9, 7, b, at_, 0) _ (.of (Qe (.inr rfl) (by omega) (by omega) (by omega)) (by dsimp only; omega) z0) H2
 ·exact fin (9, 7, b, at_, 0) _ (.of (Qe (.inr rfl) (by omega) (by omega) (by omega)) (by dsimp only; omega) z0) H2
 ·exact fin (9, 7, b, at_, 0) _ (.of (Qe (.inr rfl) (by omega) (by omega) (by omega)) (by dsimp only; omega) z0) H2
 ·refine qz (yj (by omega) (by omega) (by omega) (by omega)) ?_
  rintro _ _ ⟨rfl, rfl⟩
  have ho := jm kx.2.2.2.1 (show (((0 : Nat) : Int)) ≤ ((3 : Nat) : Int) by omega)
  generalize jd kx.2.2.2.1 ((0 : Nat) : Int) ((3 : Nat) : Int) = o at *
  with_reducible (refine qp rfl ?_)
  exact fin (8, a, b, o, 0) _ (.of (Qe (.inl rfl) (by omega) (by omega) (by omega)) (by dsimp only; omega) z0) H2
 ·refine qz (yj (by omega) (by omega) (by omega) (by omega)) ?_
  rintro _ _ ⟨rfl, rfl⟩
  have ho := jm kx.2.2.2.1 (show (((0 : Nat) : Int)) ≤ ((3 : Nat) : Int) by omega)
  generalize jd kx.2.2.2.1 ((0 : Nat) : Int) ((3 : Nat) : Int) = o at *
  with_reducible (refine qp rfl ?_)
  exact fin (9, a, b, o, 0) _ (.of (Qe (.inr rfl) (by omega) (by omega) (by omega)) (by dsimp only; omega) z0) H2
 ·exact fin (10, a, b, 0, 0) _ (.of (OM (by omega) (by omega)) (by dsimp only; omega) z0) H2
 ·exact fin (10, a, b, 0, 0) _ (.of (OM (by omega) (by omega)) (by dsimp only; omega) z0) H2
 ·exact fin (11, a, 0, 0, 0) _ (.of (OP (.inl rfl) (by omega)) (by dsimp only; omega) z0) H2
 ·exact fin (8, a, 7, at_, 0) _ (.of (Qe (.inl rfl) (by omega) (by omega) (by omega)) (by dsimp only; omega) z0) H2
 ·exact fin (21, a, 0, 0, 0) _ (.of (OP (.inr rfl) (by omega)) (by dsimp only; omega) z0) H2
end Go.Proofs.YtdlfmpmpmkffjaaGreatDoor
namespace Go.Proofs.YtdlfmpmpmkffjaaGreatDoor
open Go Go.Ae
set_option maxRecDepth 100000
variable {g h : AH} {L R : List SP}
theorem VX (l : List Int) : jz (l.map (AV.int .i64)) = true := by
 unfold jz
 rw [List.all_eq_true]
 intro y hy
 obtain ⟨z, _, rfl⟩ := List.mem_map.1 hy
 rfl
theorem yf (l : List qF) (st : List Int) : (jH l st).length = st.length := by simp [jH]
theorem UE {l : List qF} {st : List Int} (hn : st ≠ []) : (jH l st)[st.length - 1]? = some (opM l st) := by
 have hl := List.length_pos_iff.2 hn
 rw [UC hn, List.getLast?_eq_getElem?, yf, List.getElem?_eq_getElem (by rw [yf]; omega)]; rfl
theorem Xm {l : List qF} {st : List Int} : (ga l st).length = l.length + 1 := by simp [ga]
theorem Ki {n : Nat} (hn : 1 ≤ n) {calm : Bool} {l : List qF} {st : List Int} {lv ov : AV} (B : Bld calm l st) (hne : st ≠ []) (ho : opM l st = 14 ∨ opM l st = 17 ∨ opM l st = 18) (hl : l.length ≤ 1000)
  (H : HS g h (zN lv l :: kr ov (jH l st) :: R)) :
  wp (callT tab qS n (.fn 57 [] []) [lv, ov] h) fun r h' => ∃ lv' ov', r = .tup [lv', ov'] ∧ HS g h' (zN lv' (ga l st) :: kr ov' (jH (ga l st) (kf l st)) :: R) := by
 (refine qn (g := W57) rfl (by omega) fun k hk => ?_; show wp (S57 (callT tab qS k) _ _ _) _; unfold S57; try simp only [iI, uU, Int.ofNat_eq_natCast])
 have hp := List.length_pos_iff.2 hne
 have h5 := B.five
 have hol := yf l st
 have hat := UE (l := l) hne
 obtain ⟨B2, hops⟩ := B.shut hne ho
 rw [hops]
 have H0 : HS g h (qa 28 5 l.length lv (l.flatMap jY) :: qa 3 1 (jH l st).length ov ((jH l st).map (.int .i64)) :: R) := H
 refine jR H0 e_1 ?_
 rw [hol]
 refine jh (by omega) ?_
 rw [show (st.length : Int) - ((1 : Nat) : Int) = ((st.length - 1 : Nat) : Int) by omega]
 refine jf (H0.sl e_1) (x := .int .i64 (opM l st)) (by rw [List.getElem?_map, hat]; rfl) ?_
 have hdl : (jH l st).dropLast = (jH l st).take (st.length - 1) := by rw [List.dropLast_eq_take, hol]
 have tail : ∀ (op : Int), (opM l st = 14 ∧ op = 15 ∨ opM l st = 18 ∧ op = 19) →
   wp (qC (α := AV × AV × Unit → AH → Go.Ae.R) (fun s5 h6 => some ((.tup [s5.2.1, s5.1]), h6)) fun j7 => qi [(.int .i64 ((0 : Nat) : Int)), (.int .i64 ((0 : Nat) : Int)), (.int .i64 ((0 : Nat) : Int)), (.int .i64 ((0 : Nat) : Int)), (.int .u64 ((0 : Nat) : Int))] [(0, 1, (.int .i64 op))] fun v8 =>
    qr h 28 [(.int .i64 ((0 : Nat) : Int)), (.int .i64 ((0 : Nat) : Int)), (.int .i64 ((0 : Nat) : Int)), (.int .i64 ((0 : Nat) : Int)), (.int .u64 ((0 : Nat) : Int))] 1 [(0, 5, v8)] fun v9 h10 =>
    qu h10 28 5 lv v9 fun v11 h12 => zH h12 3 1 ov none (some (.int .i64 ((st.length - 1 : Nat) : Int))) fun v13 =>
    jn ov (some (3 * 65536 + 1)) v13 h10 h12 h.nx <| j7 (v13, v11, ()) h12)
   fun r h' => ∃ lv' ov', r = .tup [lv', ov'] ∧ HS g h' (zN lv' (ga l st) :: kr ov' ((jH l st).dropLast ++ (if opM l st = 17 then [18] else [])) :: R) := by
  intro op hop
  refine qW ?_
  try dsimp only
  refine qp (l := jY (one op)) rfl ?_
  refine jw (n := 1) (l := jY (one op)) (sz := 5) H0 rfl rfl rfl rfl fun v9 h10 H10 => ?_
  have S : Sl (fun _ => True) h10 5 [one op].length v9 ([one op].flatMap jY) := H10.sl .here
  refine vV (H10.sel (P := zN lv l) e_1) S (by simp; omega) fun v11 h12 H12 => ?_
  refine kP (hi := st.length - 1) (H12.sel (P := qa 3 1 (jH l st).length ov ((jH l st).map (.int .i64))) e_2) (by omega) (by omega) fun v13 H13 => ?_
  refine Ou H10 (s := e_2) H12 e_2 H0 e_1 (by omega) (by omega) rfl ?_
  rw [Nat.mul_one, ← List.map_take, ← hdl] at H13
  have h17 : ¬ opM l st = 17 := by omega
  rw [if_neg h17, List.append_nil]
  refine qk ⟨v11, v13, rfl, ?_⟩
  have e : ga l st = l ++ [one op] := by
   unfold ga xr
   rcases hop with ⟨h1, h2⟩ | ⟨h1, h2⟩
   ·rw [h1, h2]; rfl
   ·rw [h1, h2]; rfl
  rw [e]
  unfold kr
  rw [show (jH l st).dropLast.length = st.length - 1 by rw [List.length_dropLast, hol]]
  exact H13.sub (.cons e_1 (.cons .here (.drop .refl)))
 by_cases c14 : opM l st = 14
 ·refine qM c14 (qY ?_)
  exact tail 15 (.inl ⟨c14, rfl⟩)
 refine qK c14 (qQ ?_)
 by_cases c17 : opM l st = 17
 ·refine qM c17 (qY ?_)
  refine kP (hi := st.length - 1) (H0.sel (P := qa 3 1 (jH l st).length ov ((jH l st).map (.int .i64))) e_1) (by omega) (by omega) fun v15 H2 => ?_
  rw [Nat.mul_one, ← List.map_take, ← hdl] at H2
  have hdn : (jH l st).dropLast.length = st.length - 1 := by rw [List.length_dropLast, hol]
  have S : Sl (fun _ => True) h 1 (st.length - 1) v15 ((jH l st).dropLast.map (.int .i64)) := H2.sl .here
  refine zm (H2.nils (e := 3) (sz := 1)) S (by omega) (by omega) (VX _) fun v16 h3 H3 => ?_
  rw [List.nil_append, Nat.zero_add] at H3
  refine jw (n := 1) (l := [.int .i64 ((18 : Nat) : Int)]) (sz := 1) H3 rfl rfl rfl rfl fun v18 h4 H4 => ?_
  refine zm (H4.sel e_1) (H4.sl .here) (by omega) (by omega) rfl fun v20 h5 H5 => ?_
  refine qp (l := jY (one 18)) rfl ?_
  refine jw (n := 1) (l := jY (one 18)) (sz := 5) H5 rfl rfl rfl rfl fun v23 h6 H6 => ?_
  have S6 : Sl (fun _ => True) h6 5 [one 18].length v23 ([one 18].flatMap jY) := H6.sl .here
  refine vV (H6.sel (P := zN lv l) e_4) S6 (by simp; omega) fun v25 h7 H7 => ?_
  rw [if_pos c17]
  refine qk ⟨v25, v20, rfl, ?_⟩
  have e : ga l st = l ++ [one 18] := by unfold ga xr; rw [c17]; rfl
  rw [e]
  unfold kr
  rw [List.length_append, hdn, List.map_append]
  exact H7.sub (.cons .here (.cons e_1 (.drop (.drop (.drop .refl)))))
 ·refine qK c17 (qQ ?_)
  exact tail 19 (.inr ⟨by omega, rfl⟩)
def wG (o : List Int) : Nat := (o.map fun x => if x = 17 then 2 else 1).sum
theorem KH (a b : List Int) : wG (a ++ b) = wG a + wG b := by simp [wG]
theorem qJo (o : List Int) : wG o ≤ 2 * o.length := by
 induction o with
 | nil => simp [wG]
 | cons x o ih => simp only [wG, List.map_cons, List.sum_cons, List.length_cons] at *; split <;> omega
theorem Mo {l : List qF} {st : List Int} (hne : st ≠ []) : wG ((jH l st).dropLast ++ (if opM l st = 17 then [18] else [])) + 1 = wG (jH l st) := by
 have h1 : jH l st ≠ [] := by intro h; have := congrArg List.length h; rw [yf] at this; exact hne (List.eq_nil_of_length_eq_zero this)
 have h2 := List.dropLast_concat_getLast h1
 have h3 : (jH l st).getLast h1 = opM l st := by rw [UC hne, List.getLast?_eq_some_getLast h1]; rfl
 rw [h3] at h2
 have h4 : wG (jH l st) = wG (jH l st).dropLast + (if opM l st = 17 then 2 else 1) := by
  conv => lhs; rw [← h2]
  rw [KH]; simp [wG]
 rw [KH, h4]
 split
 ·simp [wG]
 ·simp [wG]
def OpsK (l : List qF) (st : List Int) : Prop := ∀ o ∈ jH l st, o = 14 ∨ o = 17 ∨ o = 18
theorem OpsK.at {l : List qF} {st : List Int} (h : OpsK l st) (hne : st ≠ []) : opM l st = 14 ∨ opM l st = 17 ∨ opM l st = 18 := h _ (List.mem_of_getElem? (UE hne))
set_option maxHeartbeats 8000000 in
theorem XJ {n : Nat} (hn : 5 ≤ n) {calm : Bool} {ks : List qF} {kv : AV} {most : Int} (hN : ∀ x ∈ ks, 0 ≤ x.2.2.2.2 ∧ x.2.2.2.2 < 18446744073709551616) (hm : 1 ≤ most ∧ most ≤ 40) (H : HS g h R) (S : Rd g R 5 ks.length kv (ks.flatMap jY)) :
  wp (callT tab qS n (.fn 23 [] []) [kv, .int .i64 most, .bool calm] h) fun r h' => ∃ lv l, r = .agg [lv] ∧ Bld calm l [] ∧ 0 < l.length ∧ (l.length : Int) ≤ most ∧ HS g h' (zN lv l :: R) := by
 (refine qn (g := W23) rfl (by omega) fun k hk => ?_; show wp (S23 (callT tab qS k) _ _ _ _) _; unfold S23; try simp only [iI, uU, Int.ofNat_eq_natCast])
 refine jQ H rfl fun b0 h1 H1 => ?_
 clear H
 have H1 := (H1.nils (e := 3) (sz := 1)).nils (e := 28) (sz := 5)
 refine xx [] (fun s h' => ∃ (l : List qF) (st : List Int) (lv ov : AV), s = (ov, lv, .ptr b0 0, ()) ∧ Bld calm l st ∧ OpsK l st ∧ (l.length : Int) + 2 * st.length ≤ most ∧ HS g h' (zN lv l :: kr ov (jH l st) :: qc b0 [.nils] :: R)) ?_ ?_
 rotate_left
 ·rintro s h2 ⟨l, st, lv, ov, rfl, B, OK, hle, H2⟩
  dsimp only
  have hW : (l.length : Int) + wG (jH l st) ≤ most := by
   have := qJo (jH l st)
   rw [yf] at this; omega
  refine jr (fun m s h' => ∃ (l : List qF) (st : List Int) (lv ov : AV), s = (ov, lv, .ptr b0 0, ()) ∧ m = wG (jH l st) ∧ Bld calm l st ∧ OpsK l st ∧ (l.length : Int) + wG (jH l st) ≤ most ∧ HS g h' (zN lv l :: kr ov (jH l st) :: qc b0 [.nils] :: R))
   ?_ (m := wG (jH l st)) (by show _ < 1000000000; omega) ⟨l, st, lv, ov, rfl, rfl, B, OK, hW, H2⟩
  clear H2 hW hle OK B st lv ov l
  rintro m ih s h3 hih ⟨l, st, lv, ov, rfl, rfl, B, OK, hW, H⟩
  dsimp only
  have hol := yf l st
  refine jR (n := (jH l st).length) (H : HS g h3 (zN lv l :: qa 3 1 (jH l st).length ov ((jH l st).map (.int .i64)) :: qc b0 [.nils] :: R)) e_1 ?_
  rw [hol]
  by_cases h0 : st = []
  ·subst h0
   refine xA (by simp) (qQ ?_)
   refine xx [] (fun s h' => ∃ (l : List qF) (lv : AV), s = (lv, .ptr b0 0, ()) ∧ Bld calm l [] ∧ 0 < l.length ∧ (l.length : Int) ≤ most ∧ HS g h' (zN lv l :: qc b0 [.nils] :: R)) ?_ ?_
   ·intro j hj
    refine jR (n := l.length) (H : HS g h3 (qa 28 5 l.length lv (l.flatMap jY) :: kr ov (jH l []) :: qc b0 [.nils] :: R)) .here ?_
    by_cases hl0 : l.length = 0
    ·refine qM (by omega) (qY ?_)
     obtain rfl := List.eq_nil_of_length_eq_zero hl0
     refine qp (l := jY (1, 0, 0, 0, 1)) rfl ?_
     refine jw (n := 1) (l := jY (1, 0, 0, 0, 1)) (sz := 5) H rfl rfl rfl rfl fun v27 h4 H4 => ?_
     have S1 : Sl (fun _ => True) h4 5 [((1, 0, 0, 0, 1) : qF)].length v27 ([((1, 0, 0, 0, 1) : qF)].flatMap jY) := H4.sl .here
     refine vV (H4.sel (P := zN lv []) e_1) S1 (by simp) fun v29 h5 H5 => ?_
     refine hj _ _ ⟨_, v29, rfl, B.flat (x := (1, 0, 0, 0, 1)) ⟨by decide, by decide, by decide, fun _ => by decide⟩ (by unfold Flat; decide) (by decide), by simp, by simp; omega, H5.sub (.cons .here (.drop (.drop (.cons .here .refl))))⟩
    ·refine qK (by omega) (qQ ?_)
     exact hj _ _ ⟨l, lv, rfl, B, by omega, by omega, H.sub (.cons .here (.drop (.cons .here .refl)))⟩
   ·rintro s h5 ⟨l, lv, rfl, B, hl0, hlm, H5⟩
    dsimp only
    have ol := H5.one (e := 28) (sz := 5) (n := l.length) .here
    refine qp (l := [lv]) (by simp only [vN, ol.1]; rfl) ?_
    refine jD H5 (b := b0) e_1 rfl (by simp) (by show jz [lv] = true; simp [jz, ol.2]) fun h6 H6 => ?_
    have H6 : HS g h6 (qc b0 [lv] :: zN lv l :: R) := H6
    refine qR ?_
    refine jK H6 (b := b0) (off := 0) .here rfl (by omega) (l := [lv]) rfl ?_
    exact qk ⟨lv, l, rfl, B, hl0, hlm, H6.drop⟩
  ·have hp := List.length_pos_iff.2 h0
   refine xe (by omega) (qY ?_)
   refine qz (Ki (by omega) B h0 (OK.at h0) (by omega) H) ?_
   rintro _ h4 ⟨lv', ov', rfl, H4⟩
   obtain ⟨B2, hops⟩ := B.shut h0 (OK.at h0)
   have hw := Mo (l := l) h0
   rw [← hops] at hw
   refine qH rfl (qH rfl ?_)
   refine hih (wG (jH (ga l st) (kf l st))) _ _ (by omega) ⟨_, _, lv', ov', rfl, rfl, B2, ?_, by rw [Xm]; omega, H4⟩
   intro o ho
   rw [hops] at ho
   rcases List.mem_append.1 ho with ho | ho
   ·exact OK o ((List.dropLast_sublist _).subset ho)
   ·split at ho
    ·rw [List.mem_singleton] at ho; omega
    ·cases ho
 intro j5 hj5
 refine jr (fun m s h' => ∃ (i : Nat) (l : List qF) (st : List Int) (lv ov : AV), s = (.int .i64 (i : Int), ov, lv, .ptr b0 0, .bool calm, .int .i64 most, kv, ()) ∧ m = 41 - l.length ∧ i ≤ l.length ∧ Bld calm l st ∧ OpsK l st ∧ (l.length : Int) + 2 * st.length ≤ most ∧ HS g h' (zN lv l :: kr ov (jH l st) :: qc b0 [.nils] :: R))
  ?_ (m := 41) (by show _ < 1000000000; omega) ⟨0, [], [], .nils, .nils, rfl, rfl, by simp, Bld.nil calm, (fun o ho => by cases ho), by simp; omega, H1⟩
 clear H1
 rintro m ih s h2 hih ⟨i, l, st, lv, ov, rfl, rfl, hil, B, OK, hle, H⟩
 dsimp only
 refine zW (S.sl H.drop.drop.drop) ?_
 refine zg (fun hlt => qY ?_) fun hge => qQ (hj5 _ _ ⟨l, st, lv, ov, rfl, B, OK, hle, H⟩)
 have hlt : i < ks.length := by omega
 refine zn (l := jY ks[i]) (S.sl H.drop.drop.drop) hlt (by omega) (QH (sz := 5) (fun _ => rfl) (List.getElem?_eq_getElem hlt)) ?_
 have hNi := hN ks[i] (List.getElem_mem hlt)
 generalize ks[i] = kx at *
 refine jQ H rfl fun b3 h3 H3 => jD H3 .here rfl (by show 0 + 5 ≤ 5; omega) rfl fun h5 H5 => ?_
 have H5 : HS g h5 (qc b3 (jY kx) :: zN lv l :: kr ov (jH l st) :: qc b0 [.nils] :: R) := H5
 have H6 : HS g h5 (qc b3 (jY kx) :: qa 28 5 l.length lv (l.flatMap jY) :: qa 3 1 (jH l st).length ov ((jH l st).map (.int .i64)) :: qc b0 [.nils] :: R) := H5
 clear H H3
 have hol := yf l st
 refine jR H6 e_2 ?_
 rw [hol]
 refine jR H6 e_1 ?_
 refine GR (by omega) (qe (by omega) (qe (by omega) ?_))
 refine xd (fun hg => qY (hj5 _ _ ⟨l, st, lv, ov, rfl, B, OK, hle, H5.drop⟩)) fun hg => qQ ?_
 refine qV (qv H5 (b := b3) .here rfl ?_)
 refine qz (yj (by omega) (by omega) (by omega) (by omega)) ?_
 rintro _ h5 ⟨rfl, rfl⟩
 have hwb := jm kx.1 (show (((0 : Nat) : Int)) ≤ ((40 : Nat) : Int) by omega)
 generalize jd kx.1 ((0 : Nat) : Int) ((40 : Nat) : Int) = w at *
 refine xx [] (fun s h' => ∃ (l' : List qF) (st' : List Int) (lv' ov' : AV), s = (.int .i64 (i : Int), ov', lv', .ptr b0 0, .bool calm, .int .i64 most, kv, ()) ∧ Bld calm l' st' ∧ OpsK l' st' ∧ (l'.length : Int) + 2 * st'.length ≤ most ∧ l.length < l'.length ∧ HS g h' (zN lv' l' :: kr ov' (jH l' st') :: qc b0 [.nils] :: R)) ?_ ?_
 rotate_left
 ·rintro s h7 ⟨l', st', lv', ov', rfl, B', OK', hle', hlt', H7⟩
  dsimp only
  refine qe (by omega) ?_
  exact hih (41 - l'.length) _ _ (by omega) ⟨i + 1, l', st', lv', ov', rfl, rfl, by omega, B', OK', hle', H7⟩
 intro j hj
 have hfive := B.five
 have hll : l.length ≤ 100 := by omega
 have same : ∀ {t : List qF}, OpsK (l ++ t) st := fun {t} o ho => OK o (by rw [kM B.stok] at ho; exact ho)
 have hsame : ∀ {t : List qF}, jH (l ++ t) st = jH l st := kM B.stok
 have dflt : wp (qP h5 (.ptr b3 0) 5 fun v218 => qG (callT tab qS k) (.fn 59 [] []) [v218] h5 fun v219 h220 => qr h220 28 [(.int .i64 ((0 : Nat) : Int)), (.int .i64 ((0 : Nat) : Int)), (.int .i64 ((0 : Nat) : Int)), (.int .i64 ((0 : Nat) : Int)), (.int .u64 ((0 : Nat) : Int))] 1 [(0, 5, v219)] fun v221 h222 =>
   qu h222 28 5 lv v221 fun v223 h224 => j (.int .i64 (i : Int), ov, v223, .ptr b0 0, .bool calm, .int .i64 most, kv, ()) h224 []) (fun r h' => ∃ lv l, r = .agg [lv] ∧ Bld calm l [] ∧ 0 < l.length ∧ (l.length : Int) ≤ most ∧ HS g h' (zN lv l :: R)) := by
  refine jK H5 (b := b3) (off := 0) .here rfl (by omega) (l := jY kx) rfl ?_
  refine qz (QG (by omega) hNi H5) ?_
  rintro _ h7 ⟨x, rfl, hx, H7⟩
  refine jw (n := 1) (l := jY x) (sz := 5) H7 rfl rfl rfl rfl fun v8 h8 H8 => ?_
  have S1 : Sl (fun _ => True) h8 5 [x].length v8 ([x].flatMap jY) := by simpa using H8.sl .here
  refine vV (H8.sel (P := zN lv l) e_2) S1 (by simp; omega) fun v9 h9 H9 => ?_
  refine hj _ _ ⟨l ++ [x], st, v9, ov, rfl, B.flat (hx.ok calm) hx.flat hx.nj, same, by simp; omega, by simp, ?_⟩
  rw [hsame]
  exact H9.sub (.cons .here (.drop (.drop (.cons .here (.cons .here .refl)))))
 have beg : ∀ op : Int, op = 14 ∨ op = 17 → st.length < 5 → wp (qr h5 28 [(.int .i64 ((0 : Nat) : Int)), (.int .i64 ((0 : Nat) : Int)), (.int .i64 ((0 : Nat) : Int)), (.int .i64 ((0 : Nat) : Int)), (.int .u64 ((0 : Nat) : Int))] 1 [(0, 5, .agg (jY (one op)))] fun v63 h64 => qu h64 28 5 lv v63 fun v65 h66 =>
   qr h66 3 [(.int .i64 ((0 : Nat) : Int))] 1 [(0, 1, (.int .i64 op))] fun v67 h68 => qu h68 3 1 ov v67 fun v69 h70 => j (.int .i64 (i : Int), v69, v65, .ptr b0 0, .bool calm, .int .i64 most, kv, ()) h70 []) (fun r h' => ∃ lv l, r = .agg [lv] ∧ Bld calm l [] ∧ 0 < l.length ∧ (l.length : Int) ≤ most ∧ HS g h' (zN lv l :: R)) := by
  intro op hop hs5
  refine jw (n := 1) (l := jY (one op)) (sz := 5) H5 rfl rfl rfl rfl fun v8 h8 H8 => ?_
  have S1 : Sl (fun _ => True) h8 5 [one op].length v8 ([one op].flatMap jY) := by simpa using H8.sl .here
  refine vV (H8.sel (P := zN lv l) e_2) S1 (by simp; omega) fun v9 h9 H9 => ?_
  refine jw (n := 1) (l := [.int .i64 op]) (sz := 1) H9 rfl rfl rfl rfl fun v10 h10 H10 => ?_
  refine zm (H10.sel (P := qa 3 1 (jH l st).length ov ((jH l st).map (.int .i64))) e_4) (H10.sl .here) (by omega) (by omega) rfl fun v11 h11 H11 => ?_
  obtain ⟨B2, ho2⟩ := B.begin hop hs5
  refine hj _ _ ⟨l ++ [one op], st ++ [(l.length : Int)], v9, v11, rfl, B2, ?_, by simp; omega, by simp, ?_⟩
  ·intro o ho
   rw [ho2] at ho
   rcases List.mem_append.1 ho with ho | ho
   ·exact OK o ho
   ·rw [List.mem_singleton] at ho; omega
  ·rw [ho2]
   unfold kr
   rw [List.length_append, List.map_append]
   exact H11.sub (.cons e_2 (.cons .here (.drop (.drop (.drop (.cons .here .refl))))))
 have shu : 0 < st.length → wp (qG (callT tab qS k) (.fn 57 [] []) [lv, ov] h5 fun v98 h99 => qB v98 0 fun v100 => qB v98 1 fun v101 => j (.int .i64 (i : Int), v101, v100, .ptr b0 0, .bool calm, .int .i64 most, kv, ()) h99 []) (fun r h' => ∃ lv l, r = .agg [lv] ∧ Bld calm l [] ∧ 0 < l.length ∧ (l.length : Int) ≤ most ∧ HS g h' (zN lv l :: R)) := by
  intro hp
  have hne := List.length_pos_iff.1 hp
  refine qz (Ki (by omega) B hne (OK.at hne) (by omega) (H5.sub (L' := zN lv l :: kr ov (jH l st) :: qc b3 (jY kx) :: qc b0 [.nils] :: R) (.cons e_1 (.cons e_1 (.cons .here (.cons .here .refl)))))) ?_
  rintro _ h7 ⟨lv', ov', rfl, H7⟩
  obtain ⟨B2, hops⟩ := B.shut hne (OK.at hne)
  have hsl : (kf l st).length ≤ st.length := by unfold kf; split <;> simp <;> omega
  refine qH rfl (qH rfl ?_)
  refine hj _ _ ⟨_, _, lv', ov', rfl, B2, ?_, by rw [Xm]; omega, by rw [Xm]; omega, H7.sub (.cons .here (.cons .here (.drop (.cons .here .refl))))⟩
  intro o ho
  rw [hops] at ho
  rcases List.mem_append.1 ho with ho | ho
  ·exact OK o ((List.dropLast_sublist _).subset ho)
  ·split at ho
   ·rw [List.mem_singleton] at ho; omega
   ·cases ho
 have und : opM l st = 14 → wp (qr h5 28 [(.int .i64 ((0 : Nat) : Int)), (.int .i64 ((0 : Nat) : Int)), (.int .i64 ((0 : Nat) : Int)), (.int .i64 ((0 : Nat) : Int)), (.int .u64 ((0 : Nat) : Int))] 1 [(0, 5, .agg (jY (one 16)))] fun v8 h8 => qu h8 28 5 lv v8 fun v9 h9 => j (.int .i64 (i : Int), ov, v9, .ptr b0 0, .bool calm, .int .i64 most, kv, ()) h9 []) (fun r h' => ∃ lv l, r = .agg [lv] ∧ Bld calm l [] ∧ 0 < l.length ∧ (l.length : Int) ≤ most ∧ HS g h' (zN lv l :: R)) := by
  intro h14
  refine jw (n := 1) (l := jY (one 16)) (sz := 5) H5 rfl rfl rfl rfl fun v8 h8 H8 => ?_
  have S1 : Sl (fun _ => True) h8 5 [one 16].length v8 ([one 16].flatMap jY) := by simpa using H8.sl .here
  refine vV (H8.sel (P := zN lv l) e_2) S1 (by simp; omega) fun v9 h9 H9 => ?_
  refine hj _ _ ⟨l ++ [one 16], st, v9, ov, rfl, B.undo h14, same, by simp; omega, by simp, ?_⟩
  rw [hsame]
  exact H9.sub (.cons .here (.drop (.drop (.cons .here (.cons .here .refl)))))
 have pair : ∀ (x y : qF) (h7 : AH), HS g h7 (qc b3 (jY kx) :: zN lv l :: kr ov (jH l st) :: qc b0 [.nils] :: R) → Bld calm (l ++ [x, y]) st → (l.length : Int) + 2 * st.length + 5 ≤ most → wp (qr h7 28 [(.int .i64 ((0 : Nat) : Int)), (.int .i64 ((0 : Nat) : Int)), (.int .i64 ((0 : Nat) : Int)), (.int .i64 ((0 : Nat) : Int)), (.int .u64 ((0 : Nat) : Int))] 2 [(0, 5, .agg (jY x)), (5, 5, .agg (jY y))] fun v8 h8 =>
   qu h8 28 5 lv v8 fun v9 h9 => j (.int .i64 (i : Int), ov, v9, .ptr b0 0, .bool calm, .int .i64 most, kv, ()) h9 []) (fun r h' => ∃ lv l, r = .agg [lv] ∧ Bld calm l [] ∧ 0 < l.length ∧ (l.length : Int) ≤ most ∧ HS g h' (zN lv l :: R)) := by
  intro x y h7 H7 B7 hm7
  refine jw (n := 2) (l := jY x ++ jY y) (sz := 5) H7 rfl rfl rfl rfl fun v8 h8 H8 => ?_
  have S1 : Sl (fun _ => True) h8 5 [x, y].length v8 ([x, y].flatMap jY) := by simpa using H8.sl .here
  refine vV (H8.sel (P := zN lv l) e_2) S1 (by simp; omega) fun v9 h9 H9 => ?_
  refine hj _ _ ⟨l ++ [x, y], st, v9, ov, rfl, B7, same, by simp; omega, by simp, ?_⟩
  rw [hsame]
  exact H9.sub (.cons .here (.drop (.drop (.cons .here (.cons .here .refl)))))
 have zer : ∀ r : Int, 0 ≤ r ∧ r ≤ 6 → QC calm (13, r, 0, ((l.length : Int) + ((2 : Nat) : Int)), 0) := fun r hr => ⟨Zt (by omega) (by omega), by show (13 : Int) ≠ 23; decide, by show (0 : Int) ≤ 0 ∧ (0 : Int) < 18446744073709551616; decide, fun _ => by show (13 : Int) ≠ 20 ∧ (13 : Int) ≠ 22 ∧ (13 : Int) ≠ 12; decide⟩
 have two : ∀ op : Int, op = 20 ∨ op = 22 → calm = false → wp (qG (callT tab qS k) (.fn 58 [] []) [.int .i64 kx.2.1] h5 fun v131 h132 => qs lv fun v133 => qq .add v133 (.int .i64 ((2 : Nat) : Int)) fun v134 =>
   qi [(.int .i64 ((0 : Nat) : Int)), (.int .i64 ((0 : Nat) : Int)), (.int .i64 ((0 : Nat) : Int)), (.int .i64 ((0 : Nat) : Int)), (.int .u64 ((0 : Nat) : Int))] [(0, 1, (.int .i64 ((13 : Nat) : Int))), (1, 1, v131), (3, 1, v134)] fun v135 => qi [(.int .i64 ((0 : Nat) : Int)), (.int .i64 ((0 : Nat) : Int)), (.int .i64 ((0 : Nat) : Int)), (.int .i64 ((0 : Nat) : Int)), (.int .u64 ((0 : Nat) : Int))] [(0, 1, (.int .i64 op))] fun v136 =>
   qr h132 28 [(.int .i64 ((0 : Nat) : Int)), (.int .i64 ((0 : Nat) : Int)), (.int .i64 ((0 : Nat) : Int)), (.int .i64 ((0 : Nat) : Int)), (.int .u64 ((0 : Nat) : Int))] 2 [(0, 5, v135), (5, 5, v136)] fun v8 h8 => qu h8 28 5 lv v8 fun v9 h9 => j (.int .i64 (i : Int), ov, v9, .ptr b0 0, .bool calm, .int .i64 most, kv, ()) h9 []) (fun r h' => ∃ lv l, r = .agg [lv] ∧ Bld calm l [] ∧ 0 < l.length ∧ (l.length : Int) ≤ most ∧ HS g h' (zN lv l :: R)) := by
  intro op hop hcal
  refine qz (kG (by omega)) ?_
  rintro _ h5 ⟨rfl, rfl⟩
  have hr := jm kx.2.1 (show (0 : Int) ≤ 6 by omega)
  refine jR (n := l.length) H6 e_1 (qe (by omega) ?_)
  refine qp (l := jY (13, jd kx.2.1 0 6, 0, ((l.length : Int) + ((2 : Nat) : Int)), 0)) rfl ?_
  refine qp (l := jY (one op)) rfl ?_
  refine pair _ _ _ H5 (B.two (zer _ hr) ⟨by rcases hop with rfl | rfl <;> decide, by dsimp only; omega, by show (0 : Int) ≤ 0 ∧ (0 : Int) < 18446744073709551616; decide, fun hh => by rw [hcal] at hh; cases hh⟩ (by show Flat 13; unfold Flat; decide) (by unfold Flat; dsimp only; omega) (fun _ => rfl) (fun hh => by dsimp only at hh; omega)) (by omega)
 have ovr : wp (qC (α := AV × AV × AV × AV × AV × AV × AV × Unit → AH → Go.Ae.R) (fun s180 h181 => j (s180.1, s180.2.1, s180.2.2.1, s180.2.2.2.1, s180.2.2.2.2.1, s180.2.2.2.2.2.1, s180.2.2.2.2.2.2.1, ()) h181 []) fun j182 =>
   qG (callT tab qS k) (.fn 58 [] []) [.int .i64 kx.2.2.1] h5 fun v185 h186 => qs lv fun v187 => qq .add v187 (.int .i64 ((2 : Nat) : Int)) fun v188 =>
   qi [(.int .i64 ((0 : Nat) : Int)), (.int .i64 ((0 : Nat) : Int)), (.int .i64 ((0 : Nat) : Int)), (.int .i64 ((0 : Nat) : Int)), (.int .u64 ((0 : Nat) : Int))] [(0, 1, (.int .i64 ((13 : Nat) : Int))), (1, 1, v185), (3, 1, v188)] fun v189 => qP h186 (.ptr b3 0) 5 fun v190 => qG (callT tab qS k) (.fn 59 [] []) [v190] h186 fun v191 h192 =>
   qr h192 28 [(.int .i64 ((0 : Nat) : Int)), (.int .i64 ((0 : Nat) : Int)), (.int .i64 ((0 : Nat) : Int)), (.int .i64 ((0 : Nat) : Int)), (.int .u64 ((0 : Nat) : Int))] 2 [(0, 5, v189), (5, 5, v191)] fun v193 h194 => qu h194 28 5 lv v193 fun v195 h196 =>
   jn (.ptr b3 0) (some 5) v190 h5 h186 h5.nx <| j182 (.int .i64 (i : Int), ov, v195, .ptr b0 0, .bool calm, .int .i64 most, kv, ()) h196) (fun r h' => ∃ lv l, r = .agg [lv] ∧ Bld calm l [] ∧ 0 < l.length ∧ (l.length : Int) ≤ most ∧ HS g h' (zN lv l :: R)) := by
  refine qW ?_
  try dsimp only
  refine qz (kG (by omega)) ?_
  rintro _ h5 ⟨rfl, rfl⟩
  have hr := jm kx.2.2.1 (show (0 : Int) ≤ 6 by omega)
  refine jR (n := l.length) H6 e_1 (qe (by omega) ?_)
  refine qp (l := jY (13, jd kx.2.2.1 0 6, 0, ((l.length : Int) + ((2 : Nat) : Int)), 0)) rfl ?_
  refine jK H5 (b := b3) (off := 0) .here rfl (by omega) (l := jY kx) rfl ?_
  refine qz (QG (by omega) hNi H5) ?_
  rintro _ h7 ⟨x, rfl, hx, H7⟩
  refine jw (n := 2) (l := jY (13, jd kx.2.2.1 0 6, 0, ((l.length : Int) + ((2 : Nat) : Int)), 0) ++ jY x) (sz := 5) H7 rfl rfl rfl rfl fun v8 h8 H8 => ?_
  have S1 : Sl (fun _ => True) h8 5 [((13, jd kx.2.2.1 0 6, 0, ((l.length : Int) + ((2 : Nat) : Int)), 0) : qF), x].length v8 ([((13, jd kx.2.2.1 0 6, 0, ((l.length : Int) + ((2 : Nat) : Int)), 0) : qF), x].flatMap jY) := by simpa using H8.sl .here
  refine vV (H8.sel (P := zN lv l) e_2) S1 (by simp; omega) fun v9 h9 H9 => ?_
  refine jt H5 (b := b3) .here rfl H5 .here rfl rfl (by omega) (HS.lt H5 .here) ?_
  refine hj _ _ ⟨_, st, v9, ov, rfl, B.two (zer _ hr) (hx.ok calm) (by show Flat 13; unfold Flat; decide) hx.flat (fun _ => rfl) (fun hh => by have := hx.nj; omega), same, by simp; omega, by simp, ?_⟩
  rw [hsame]
  exact H9.sub (.cons .here (.drop (.drop (.cons .here (.cons .here .refl)))))
 have bak : calm = false → wp (qC (α := AV × AV × AV × AV × AV × AV × AV × Unit → AH → Go.Ae.R) (fun s180 h181 => j (s180.1, s180.2.1, s180.2.2.1, s180.2.2.2.1, s180.2.2.2.2.1, s180.2.2.2.2.2.1, s180.2.2.2.2.2.2.1, ()) h181 []) fun j182 =>
   qP h5 (.ptr b3 0) 5 fun v205 => qG (callT tab qS k) (.fn 59 [] []) [v205] h5 fun v206 h207 => qJ (.ptr b3 0) 2 fun v208 => qX h207 v208 fun v209 =>
   qG (callT tab qS k) (.fn 58 [] []) [v209] h207 fun v210 h211 => qs lv fun v212 =>
   qi [(.int .i64 ((0 : Nat) : Int)), (.int .i64 ((0 : Nat) : Int)), (.int .i64 ((0 : Nat) : Int)), (.int .i64 ((0 : Nat) : Int)), (.int .u64 ((0 : Nat) : Int))] [(0, 1, (.int .i64 ((13 : Nat) : Int))), (1, 1, v210), (3, 1, v212)] fun v213 =>
   qr h211 28 [(.int .i64 ((0 : Nat) : Int)), (.int .i64 ((0 : Nat) : Int)), (.int .i64 ((0 : Nat) : Int)), (.int .i64 ((0 : Nat) : Int)), (.int .u64 ((0 : Nat) : Int))] 2 [(0, 5, v206), (5, 5, v213)] fun v214 h215 => qu h215 28 5 lv v214 fun v216 h217 =>
   jn v208 none v209 h5 h207 h5.nx <| j182 (.int .i64 (i : Int), ov, v216, .ptr b0 0, .bool calm, .int .i64 most, kv, ()) h217) (fun r h' => ∃ lv l, r = .agg [lv] ∧ Bld calm l [] ∧ 0 < l.length ∧ (l.length : Int) ≤ most ∧ HS g h' (zN lv l :: R)) := by
  intro hcal
  refine qW ?_
  try dsimp only
  refine jK H5 (b := b3) (off := 0) .here rfl (by omega) (l := jY kx) rfl ?_
  refine qz (QG (by omega) hNi H5) ?_
  rintro _ h7 ⟨x, rfl, hx, H7⟩
  refine qV (qv H7 (b := b3) .here rfl ?_)
  refine qz (kG (by omega)) ?_
  rintro _ h7 ⟨rfl, rfl⟩
  have hr := jm kx.2.2.1 (show (0 : Int) ≤ 6 by omega)
  have H7' : HS g h7 (qc b3 (jY kx) :: qa 28 5 l.length lv (l.flatMap jY) :: kr ov (jH l st) :: qc b0 [.nils] :: R) := H7
  refine jR (n := l.length) H7' e_1 ?_
  refine qp (l := jY (13, jd kx.2.2.1 0 6, 0, (l.length : Int), 0)) rfl ?_
  refine jw (n := 2) (l := jY x ++ jY (13, jd kx.2.2.1 0 6, 0, (l.length : Int), 0)) (sz := 5) H7 rfl rfl rfl rfl fun v8 h8 H8 => ?_
  have S1 : Sl (fun _ => True) h8 5 [x, ((13, jd kx.2.2.1 0 6, 0, (l.length : Int), 0) : qF)].length v8 ([x, ((13, jd kx.2.2.1 0 6, 0, (l.length : Int), 0) : qF)].flatMap jY) := by simpa using H8.sl .here
  refine vV (H8.sel (P := zN lv l) e_2) S1 (by simp; omega) fun v9 h9 H9 => ?_
  refine vS H5 (b := b3) .here rfl H7 .here rfl (HS.lt H5 .here) ?_
  refine hj _ _ ⟨l ++ [x, (13, jd kx.2.2.1 0 6, 0, (l.length : Int), 0)], st, v9, ov, rfl, B.two (hx.ok calm) ⟨Zt (by omega) (by omega), by show (13 : Int) ≠ 23; decide, by show (0 : Int) ≤ 0 ∧ (0 : Int) < 18446744073709551616; decide, fun _ => by show (13 : Int) ≠ 20 ∧ (13 : Int) ≠ 22 ∧ (13 : Int) ≠ 12; decide⟩ hx.flat (by show Flat 13; unfold Flat; decide) (fun hh => by have := hx.nj; omega) (fun _ => ⟨rfl, hcal⟩), same, by simp; omega, by simp, ?_⟩
  rw [hsame]
  exact H9.sub (.cons .here (.drop (.drop (.cons .here (.cons .here .refl)))))
 have hd : (w = 20 ∧ st.length < 5) ∨ (w = 20 ∧ ¬ st.length < 5) ∨ (w = 21 ∧ st.length < 5) ∨ (w = 21 ∧ ¬ st.length < 5) ∨ (w = 22 ∧ st.length < 5) ∨ (w = 22 ∧ ¬ st.length < 5) ∨ (w = 23 ∧ 0 < st.length) ∨ (w = 23 ∧ ¬ 0 < st.length) ∨ (w = 24 ∧ 0 < st.length) ∨ (w = 24 ∧ ¬ 0 < st.length) ∨ (w = 25 ∧ 0 < st.length) ∨ (w = 25 ∧ ¬ 0 < st.length) ∨ (w = 26 ∧ calm = true) ∨ (w = 26 ∧ calm = false ∧ 0 < st.length) ∨ (w = 26 ∧ calm = false ∧ ¬ 0 < st.length) ∨ (w = 27 ∧ calm = true) ∨ (w = 27 ∧ calm = false ∧ 0 < st.length) ∨ (w = 27 ∧ calm = false ∧ ¬ 0 < st.length) ∨ (w = 28 ∧ calm = true) ∨ (w = 28 ∧ calm = false) ∨ (w = 29 ∧ calm = true) ∨ (w = 29 ∧ calm = false) ∨ (w = 30) ∨ (w = 31) ∨ (w = 32 ∧ calm = true) ∨ (w = 32 ∧ calm = false) ∨ (w < 20 ∨ 32 < w) := by
  cases calm <;> simp only [reduceCtorEq, and_true, true_and, and_false, false_and, or_false, false_or] <;> omega
 rcases hd with ⟨hw1, hs1⟩ | ⟨hw1, hs1⟩ | ⟨hw1, hs1⟩ | ⟨hw1, hs1⟩ | ⟨hw1, hs1⟩ | ⟨hw1, hs1⟩ | ⟨hw1, hs1⟩ | ⟨hw1, hs1⟩ | ⟨hw1, hs1⟩ | ⟨hw1, hs1⟩ | ⟨hw1, hs1⟩ | ⟨hw1, hs1⟩ | ⟨hw1, rfl⟩ | ⟨hw1, rfl, hs1⟩ | ⟨hw1, rfl, hs1⟩ | ⟨hw1, rfl⟩ | ⟨hw1, rfl, hs1⟩ | ⟨hw1, rfl, hs1⟩ | ⟨hw1, rfl⟩ | ⟨hw1, rfl⟩ | ⟨hw1, rfl⟩ | ⟨hw1, rfl⟩ | hw1 | hw1 | ⟨hw1, rfl⟩ | ⟨hw1, rfl⟩ | hw1
 all_goals repeat (first | with_reducible refine qK (by omega) ?_ | with_reducible refine qM (by omega) ?_ | (with_reducible refine qW ?_; try dsimp only) | (with_reducible refine jV ?_; try dsimp only) | (with_reducible refine jB ?_; try dsimp only) | (with_reducible refine jJ ?_; try dsimp only) | (with_reducible refine qh ?_; try dsimp only) | with_reducible refine qd ?_ | with_reducible refine qb ?_ | with_reducible refine qY ?_ | with_reducible refine qQ ?_ | with_reducible refine zo (by omega) ?_ | with_reducible refine zE (by omega) ?_ | with_reducible refine xe (by omega) ?_ | with_reducible refine xA (by omega) ?_ | with_reducible refine zV ?_ | with_reducible refine zy ?_ | with_reducible refine jh (by omega) ?_ | with_reducible refine qV ?_ | (with_reducible refine zj ?_; try dsimp only) | with_reducible refine qv H6 .here rfl ?_ | with_reducible refine qp rfl ?_)
 ·exact beg 14 (.inl rfl) (by omega)
 ·exact dflt
 ·exact beg 17 (.inr rfl) (by omega)
 ·exact dflt
 ·exact beg 17 (.inr rfl) (by omega)
 ·exact dflt
 ·exact shu (by omega)
 ·exact dflt
 ·exact shu (by omega)
 ·exact dflt
 ·rw [show (st.length : Int) - ((1 : Nat) : Int) = ((st.length - 1 : Nat) : Int) by omega]
  refine jf (H6.sl e_2) (x := .int .i64 (opM l st)) (by rw [List.getElem?_map, UE (List.length_pos_iff.1 hs1)]; rfl) ?_
  by_cases h14 : opM l st = 14
  ·refine qM h14 ?_
   with_reducible (refine qd ?_; refine qY ?_; refine qp rfl ?_)
   exact und h14
  ·refine qK h14 ?_
   with_reducible (refine qd ?_; refine qQ ?_; refine qK (by omega) ?_; refine qW ?_; (try dsimp only); refine qh ?_; (try dsimp only); refine qK (by omega) ?_; refine qb ?_; refine qW ?_; (try dsimp only); refine jJ ?_; (try dsimp only); refine qb ?_; refine qW ?_; (try dsimp only); refine jJ ?_; (try dsimp only); refine qb ?_; refine qQ ?_; refine qK (by omega) ?_; refine qW ?_; (try dsimp only); refine jJ ?_; (try dsimp only); refine qb ?_; refine qQ ?_; refine qK (by omega) ?_; refine qW ?_; (try dsimp only); refine jJ ?_; (try dsimp only); refine qb ?_; refine qQ ?_; refine qK (by omega) ?_; refine qW ?_; (try dsimp only); refine qh ?_; (try dsimp only); refine qK (by omega) ?_; refine qb ?_; refine qQ ?_; refine qK (by omega) ?_; refine qW ?_; (try dsimp only); refine jJ ?_; (try dsimp only); refine qb ?_; refine qQ ?_)
   exact dflt
 ·exact dflt
 ·exact dflt
 ·exact two 20 (.inl rfl) rfl
 ·exact dflt
 ·exact dflt
 ·exact two 20 (.inl rfl) rfl
 ·exact dflt
 ·exact dflt
 ·exact two 20 (.inl rfl) rfl
 ·exact dflt
 ·exact two 22 (.inr rfl) rfl
 ·exact ovr
 ·exact ovr
 ·exact dflt
 ·exact bak rfl
 ·exact dflt
end Go.Proofs.YtdlfmpmpmkffjaaGreatDoor
namespace Go.Proofs.YtdlfmpmpmkffjaaGreatDoor
open Go Go.Ae
set_option maxRecDepth 100000
variable {g h : AH} {L R : List SP}
theorem QJ {p : Int} {c : Cl} {l : List Cl} : zv p (c :: l) = if c.1 = p then some c.2 else zv p l := rfl
theorem qJc (zs : List Int) {i : Nat} (h0 : 0 < i) (h : i < szZ zs.length) : zv (i : Int) (kW zs) = some (xg zs i) := by
 have e : kW zs = (kW zs).take (i - 1) ++ [((i : Int), xg zs i)] ++ (kW zs).drop i := by
  have hk := GW zs (show i - 1 + 1 < szZ zs.length by omega)
  rw [show i - 1 + 1 = i by omega] at hk
  have := List.take_add_one (l := kW zs) (i := i - 1)
  rw [show i - 1 + 1 = i by omega, hk, Option.toList_some] at this
  rw [← this, List.take_append_drop]
 have hg : ∀ (l1 l2 : List Cl), zv (i : Int) l1 = none → zv (i : Int) (l1 ++ l2) = zv (i : Int) l2 := by
  intro l1 l2
  induction l1 with
  | nil => intro _; rfl
  | cons c l ih =>
   intro hn
   rw [QJ] at hn
   split at hn
   ·cases hn
   ·rename_i hc
    show zv (i : Int) (c :: (l ++ l2)) = _
    rw [QJ, if_neg hc]
    exact ih hn
 rw [e, List.append_assoc, hg _ _ (MJ zs (by omega))]
 show zv (i : Int) (((i : Int), xg zs i) :: _) = _
 rw [QJ, if_pos rfl]
theorem G5 {zs : List Int} {m : Int} (hz : ∀ z ∈ zs, 0 ≤ z ∧ z < 18446744073709551616) : jb (xJ zs m) := by
 refine ⟨Nq zs m, ?_, ?_⟩
 ·intro c hc
  obtain ⟨i, _, rfl⟩ := List.mem_map.1 hc
  show 0 ≤ xg zs (i + 1) ∧ xg zs (i + 1) < 18446744073709551616
  unfold xg
  cases hzi : zs[i + 1]? with
  | none => simp
  | some z => exact hz z (List.mem_of_getElem? hzi)
 ·intro x hx
  simp [xJ] at hx
  subst hx
  intro c hc; cases hc
theorem kE {b o : Nat} {K : AV → Go.Ae.R} {Q : AV → AH → Prop} (w : wp (K (.bool false)) Q) : wp (pEq .ptr false (.ptr b o) .nilp K) Q := w
theorem MK {b o : Nat} {K : AV → Go.Ae.R} {Q : AV → AH → Prop} (w : wp (K (.bool true)) Q) : wp (pEq .ptr true (.ptr b o) .nilp K) Q := w
theorem qJa {s : List UInt8} {K : AV → Go.Ae.R} {Q : AV → AH → Prop} (w : wp (K (.bool true)) Q) : wp (YX .eql (.str s) (.str s) K) Q := by
 show wp (K (.bool (seq? s s))) Q
 rw [KW]
 exact w
theorem MI (op a n : Int) (s : IM) (V : VM) : (ja op a n s V).blk = false := by unfold ja; split <;> rfl
theorem Km {mt : List Int} {s : IM} {V : VM} {x : qF} (h : 1 ≤ x.1 ∧ x.1 ≤ 23) (h1 : x.1 ≠ 20) (h3 : x.1 ≠ 23) : (doM mt s V x).blk = false := by
 unfold doM
 by_cases c1 : x.1 = 1
 ·rw [if_pos c1]
 rw [if_neg c1]
 by_cases c2 : x.1 = 2
 ·rw [if_pos c2]
 rw [if_neg c2]
 by_cases c3 : x.1 = 3
 ·rw [if_pos c3]
 rw [if_neg c3]
 by_cases c4 : x.1 = 4
 ·rw [if_pos c4]
 rw [if_neg c4]
 by_cases c5 : x.1 = 5
 ·rw [if_pos c5]
 rw [if_neg c5]
 by_cases c6 : x.1 = 6
 ·rw [if_pos c6]
 rw [if_neg c6]
 by_cases c7 : x.1 = 7
 ·rw [if_pos c7]
 rw [if_neg c7]
 by_cases c12 : x.1 = 12
 ·rw [if_pos c12]
 rw [if_neg c12]
 by_cases c13 : x.1 = 13
 ·rw [if_pos c13]
 rw [if_neg c13]
 by_cases c21 : x.1 = 21
 ·rw [if_pos c21]; split <;> rfl
 rw [if_neg c21]
 by_cases c22 : x.1 = 22
 ·rw [if_pos c22]
 rw [if_neg c22]
 by_cases c8 : x.1 = 8 ∨ x.1 = 9 ∨ x.1 = 10 ∨ x.1 = 11
 ·rw [if_pos c8]
 rw [if_neg c8]
 unfold gp
 by_cases t1 : x.1 = 14 ∨ x.1 = 17
 ·rw [if_pos t1]; exact MI ..
 rw [if_neg t1]
 by_cases t2 : x.1 = 15 ∨ x.1 = 19
 ·rw [if_pos t2]
 rw [if_neg t2]
 by_cases t3 : x.1 = 18
 ·rw [if_pos t3]
 rw [if_neg t3]
 by_cases t4 : x.1 = 16
 ·rw [if_pos t4]
 omega
def J1 (l : List qF) : Prop := ∀ x ∈ l, x.1 ≠ 20
theorem KC {l : List qF} (F : Fit l) (Q : Quiet l) (C : J1 l) : ∀ (n : Nat) {s : IM} {V : VM}, GI l s V → frS V.lv + n < 9000 → (je l (qI l) n s V).kind ≠ 3 := by
 intro n
 induction n with
 | zero =>
  intro s V G hf
  rw [gS]
  split
  ·show (2 : Int) ≠ 3; decide
  ·show (4 : Int) ≠ 3; decide
 | succ n ih =>
  intro s V G hf
  rw [gW]
  split
  ·show (2 : Int) ≠ 3; decide
  ·rename_i h0
   obtain ⟨i, hi, hil⟩ := G.pc
   have hlt : i < l.length := by omega
   rw [hi]
   have S := kO F G hi hlt (by omega) (Q.at hlt).2 (Q.at hlt).1
   have hb : (doM (qI l) s V (qA l i)).blk = false := by
    have hw := zO (F.ok i hlt)
    have hb := YF hw.1 (Q.at hlt).1
    refine Km (by omega) ?_ (Q.at hlt).1
    rw [js hlt]
    exact C _ (List.getElem_mem hlt)
   generalize doM (qI l) s V (qA l i) = D at *
   rw [hb]
   split
   ·rename_i h1
    rw [if_neg (by simp)]
    have hfr := S.fr
    exact ih (S.next h1 hb) (by omega)
   ·split
    ·show (1 : Int) ≠ 3; decide
    ·show (4 : Int) ≠ 3; decide
theorem Yo {l : List qF} (F : Fit l) (Q : Quiet l) {zs : List Int} {m : Int} {n : Nat} {s : IM} {V : VM} (G : GI l s V) (hK : V.K = kW zs) (hs : V.sz = szZ zs.length) (hf : frS V.lv + n < 9000) : (je l (qI l) n s V).kind ≠ 1 := by
 intro h
 obtain ⟨_, _, _, d, _⟩ := Gw F Q n G hf
 obtain ⟨_, d1, d2, d3⟩ := d h
 generalize (je l (qI l) n s V).v.need = p at *
 obtain ⟨i, rfl⟩ : ∃ i : Nat, p = i := ⟨p.toNat, by omega⟩
 rw [hK, qJc zs (by omega) (by omega)] at d3
 cases d3
abbrev K9 (l : List qF) (n : Nat) (zs : List Int) : RM := je l (qI l) n wi (xJ zs 96)
theorem wy {l : List qF} {zs : List Int} {m : Int} (hz : OkN zs) : GI l wi (xJ zs m) := qZi rfl (G5 hz)
theorem kZ (zs : List Int) (m : Int) : frS (xJ zs m).lv = 0 := by simp [xJ, frS]
theorem V6 {n : Nat} (hn : 16 ≤ n) {l : List qF} {pv wv : AV} {zs : List Int} {fuel : Int} (H : HS g h R) (S : Rd g R 5 l.length pv (l.flatMap jY)) (Sw : Rd g R 1 zs.length wv (zs.map (.int .u64))) (hz : OkN zs) (hc : (zd l).2 = 0) (Q : Quiet l) :
  wp (callT tab qS n (.fn 38 [] []) [.agg [pv], wv, .int .i64 fuel] h) fun r h' => ∃ x v nx, r = .tup [.int .i64 (K9 l (gj fuel) zs).kind, .ptr x 0, .ptr v 0] ∧
   HS g h' (IntC x v l 0 (qI l) (K9 l (gj fuel) zs).s (K9 l (gj fuel) zs).err (if (K9 l (gj fuel) zs).kind = 1 then 0 else (K9 l (gj fuel) zs).kind) ((K9 l (gj fuel) zs).left : Int) nx :: ViewC v (K9 l (gj fuel) zs).v :: R) := by
 (refine qn (g := W38) rfl (by omega) fun k hk => ?_; show wp (S38 (callT tab qS k) _ _ _ _) _; unfold S38; try simp only [iI, uU, Int.ofNat_eq_natCast])
 have F := gk hc
 have hle := F.le
 refine jQ H (xH (gL (S.sl H))) fun b0 h1 H1 => ?_
 refine qz (M9 (zs := zs) (by omega) H1 Sw.more) ?_
 rintro _ h2 ⟨v, rfl, H2⟩
 refine kE ?_
 refine qQ ?_
 refine jK H2 (b := b0) (off := 0) e_1 rfl (by omega) (l := [pv]) rfl ?_
 refine qz (qQ6 (by omega) H2 S.more.more (by omega)) ?_
 rintro _ h3 ⟨x, rfl, H3⟩
 refine kE ?_
 refine qQ ?_
 have hm : XU l = qI l := by unfold XU; rw [if_pos hc]
 rw [hm, hc] at H3
 have hfz : gj fuel ≤ 400 := by unfold gj; omega
 refine qz (qQ7 (V := xJ zs ((96 : Nat) : Int)) (by omega) F Q (wy hz) (by rw [kZ]; omega) (by omega) H3) ?_
 rintro _ h4 ⟨rfl, nx, H4⟩
 exact qk ⟨x, v, nx, rfl, H4.sub (.cons .here (.cons .here (.drop .refl)))⟩
section
variable {x y v u : Nat} {l l' : List qF} {b b' : Int} {mt mt' : List Int} {s s' : IM} {e e' f f' n1 n2 nx nx' : Int} {V W : VM}
theorem ZS {n : Nat} (hn : 16 ≤ n) (hg : GB s) (er : s'.regs = s.regs) (eo : s'.out = s.out) (OV : OkV V) (OW : OkV W) (ec : zz W.lv = zz V.lv) (ef : yS W.lv = yS V.lv) (hf : frS V.lv < 100000)
  (H : HS g h (IntC y u l' b' mt' s' e' f' n2 nx' :: ViewC u W :: IntC x v l b mt s e f n1 nx :: ViewC v V :: R)) :
  wp (callT tab qS n (.fn 39 [] []) [.ptr x 0, .ptr y 0, .ptr v 0, .ptr u 0] h) fun r h' => r = .bool true ∧ HS g h' (IntC y u l' b' mt' s' e' f' n2 nx' :: ViewC u W :: IntC x v l b mt s e f n1 nx :: ViewC v V :: R) := by
 have hr8 := hg.regs
 have hml := Xl V.lv []
 have hhe := OV.lvs.held
 have hll := OV.lvs.le
 have hfl := UN V.lv
 have hml' : (zz V.lv).length < 100000 := by simp at hml; unfold zz; omega
 (refine qn (g := W39) rfl (by omega) fun k hk => ?_; show wp (S39 (callT tab qS k) _ _ _ _ _) _; unfold S39; try simp only [iI, uU, Int.ofNat_eq_natCast])
 refine kE ?_
 with_reducible (refine qW ?_; (try dsimp only); refine qh ?_; (try dsimp only))
 refine kE ?_
 with_reducible (refine qb ?_; refine qW ?_; (try dsimp only); refine qh ?_; (try dsimp only))
 refine kE ?_
 with_reducible (refine qb ?_; refine qW ?_; (try dsimp only); refine qh ?_; (try dsimp only))
 refine kE ?_
 refine qb ?_; refine qQ ?_
 refine qz (Yz (by omega) (H.sel e_2) hg.out) ?_
 rintro _ h1 ⟨p, rfl, H1⟩
 refine qz (Yz (by omega) (H1.sel e_2) (by rw [eo]; exact hg.out)) ?_
 rintro _ h2 ⟨q, rfl, H2⟩
 clear H H1
 refine MK ?_
 with_reducible (refine qW ?_; (try dsimp only); refine jV ?_; (try dsimp only))
 refine MK ?_
 with_reducible (refine qd ?_; refine qW ?_; (try dsimp only); refine jV ?_; (try dsimp only))
 refine qz (MW (by omega) (H2.sel e_2) (by have := hg.out; omega) hg.its) ?_
 rintro _ h3 ⟨rfl, H3⟩
 clear H2
 refine qz (MW (by omega) (H3.sel e_1) (by have := hg.out; rw [eo]; omega) (by rw [eo]; exact hg.its)) ?_
 rintro _ h4 ⟨rfl, H4⟩
 clear H3
 rw [eo]
 refine qJa ?_
 with_reducible (refine qd ?_; refine qW ?_; (try dsimp only); refine jV ?_; (try dsimp only))
 refine qz (UK (by omega) (H4.sel (P := IntC x v l b mt s e f n1 nx) e_3) hr8.len) ?_
 intro rv h5 H5
 clear H4
 refine qz (UK (by omega) (H5.sel (P := IntC y u l' b' mt' s' e' f' n2 nx') e_4) (by rw [er]; exact hr8.len)) ?_
 intro rw2 h6 H6
 clear H5
 rw [er] at H6
 refine qz (Zy (by omega) (H6.sl e_2) (H6.sl .here) (by omega)) ?_
 rintro _ h6 ⟨rfl, rfl⟩
 rw [decide_eq_true rfl]
 with_reducible (refine qd ?_; refine qW ?_; (try dsimp only); refine jV ?_; (try dsimp only))
 refine qz (Yq (by omega) (H6.sel (P := ViewC v V) e_7) OV) fun cv h7 H7 => ?_
 clear H6
 refine qz (Yq (by omega) (H7.sel (P := ViewC u W) e_8) OW) fun cw h8 H8 => ?_
 clear H7
 rw [ec] at H8
 refine qz (Ox (by omega) (H8.sl e_2) (H8.sl .here) (by omega)) ?_
 rintro _ h8 ⟨rfl, rfl⟩
 rw [decide_eq_true rfl]
 with_reducible (refine qd ?_; refine qW ?_; (try dsimp only); refine jV ?_; (try dsimp only))
 refine qz (Yf (by omega) (H8.sel (P := ViewC v V) e_3) OV) fun fv h9 H9 => ?_
 clear H8
 refine qz (Yf (by omega) (H9.sel (P := ViewC u W) e_3) OW) fun fw h10 H10 => ?_
 clear H9
 rw [ef] at H10
 refine qz (qQA (by omega) (H10.sl e_2) (H10.sl .here) (by omega)) ?_
 rintro _ h10 ⟨rfl, rfl⟩
 rw [decide_eq_true rfl]
 refine qd ?_
 exact qk ⟨rfl, H10.sub (.cons e_7 (.cons e_1 (.cons e_7 (.cons e_2 (.drop (.drop (.drop (.drop (.drop (.drop (.drop (.drop .refl))))))))))))⟩
end
end Go.Proofs.YtdlfmpmpmkffjaaGreatDoor
namespace Go.Proofs.YtdlfmpmpmkffjaaGreatDoor
open Go Go.Ae
def jc (k : Nat) (x : qF) : qF := if x.1 = 12 ∨ x.1 = 13 then (x.1, x.2.1, x.2.2.1, x.2.2.2.1 + k, x.2.2.2.2) else x
theorem xP {k : Nat} {x : qF} : (jc k x).1 = x.1 := by unfold jc; split <;> rfl
theorem Vo (x : qF) : jc 0 x = x := by unfold jc; split <;> simp
structure Emb (l L : List qF) (k : Nat) (st0 : List Int) : Prop where
  le : k + l.length ≤ L.length
  ins : ∀ i : Nat, i < l.length → qA L ((k + i : Nat) : Int) = jc k (qA l i)
  st : qx L k = st0
theorem U8 {st0 s : List Int} {k i : Nat} {op : Int} (h : 0 < jS op → s ≠ []) : jj (st0 ++ s.map (· + (k : Int))) ((k + i : Nat) : Int) op = st0 ++ (jj s i op).map (· + (k : Int)) := by
 have hd : 0 < jS op → (st0 ++ s.map (· + (k : Int))).dropLast = st0 ++ s.dropLast.map (· + (k : Int)) := by
  intro h0
  rw [List.dropLast_append_of_ne_nil (by simpa using h h0), List.map_dropLast]
 have e : [((k + i : Nat) : Int)] = [(i : Int)].map (· + (k : Int)) := by simp; omega
 unfold jj
 by_cases c1 : zG op = true ∨ op = 18
 ·rw [if_pos c1, if_pos c1]
  by_cases c2 : 0 < jS op
  ·rw [if_pos c2, if_pos c2, hd c2, List.map_append, e, List.append_assoc]
  ·rw [if_neg c2, if_neg c2, List.map_append, e, List.append_assoc]
 ·rw [if_neg c1, if_neg c1]
  by_cases c2 : 0 < jS op
  ·rw [if_pos c2, if_pos c2, hd c2]
  ·rw [if_neg c2, if_neg c2]
section
variable {l L : List qF} {k : Nat} {st0 : List Int}
theorem Emb.stack (E : Emb l L k st0) (hw : ∀ j, j < l.length → jE l (qx l j) (qA l j) = 0) : ∀ i, i ≤ l.length → qx L (k + i) = st0 ++ (qx l i).map (· + (k : Int)) := by
 intro i
 induction i with
 | zero => intro _; rw [Nat.add_zero, E.st]; simp [qx]
 | succ i ih =>
  intro hi
  rw [← Nat.add_assoc, jk, ih (by omega), E.ins i (by omega), xP, U8 fun h => (zX (hw i (by omega))).2.1 (.inl h), jk]
theorem XT {s : List Int} (h : s ≠ []) : q8 (st0 ++ s.map (· + (k : Int))) = q8 s + k := by
 unfold q8
 rw [List.getLast?_append, List.getLast?_map, List.getLast?_eq_some_getLast h]; rfl
theorem OL (F : Fit l) {p e : Nat} (hp : p < l.length) (ho : (qA l p).1 = 14 ∨ (qA l p).1 = 17 ∨ (qA l p).1 = 18) (he : e < l.length) (h1 : 0 < jS (qA l e).1) (h2 : q8 (qx l e) = p) : qU (qI l) (p : Int) = e := by
 obtain ⟨e0, _, _, _, _, _, hu⟩ := Jh F hp ho
 obtain ⟨e1, g1, g2, g3, g4, g5⟩ := yy F hp ho
 have hin : q8 (qx l (p + 1)) = p := by
  rw [jk]
  unfold jj
  rw [if_pos (by unfold zG; simp; omega)]
  unfold q8
  rw [List.getLast?_concat]; rfl
 have a := hu e he h1 h2
 have b := hu e1 g3 (by rw [g4]; omega) (by rw [g5, hin])
 rw [g1, a, b]
theorem Vr (F : Fit l) {u e : Nat} (hu : u < l.length) (ho : (qA l u).1 = 16) (he : e < l.length) (h1 : 0 < jS (qA l e).1) (h2 : q8 (qx l e) = q8 (qx l u)) : qU (qI l) (u : Int) = e := by
 obtain ⟨e1, g1, g2, g3, g4, g5⟩ := gG F hu ho
 obtain ⟨q, q1, q2, _, q3⟩ := xE g5
 have hq := (zO (F.ok u hu)).2.2.1 ho
 rw [XE g5 q1] at hq
 obtain ⟨e0, _, _, _, _, _, hU⟩ := Jh F (p := q) (by omega) (.inl hq)
 have a := hU e he h1 (h2.trans q1)
 have b := hU e1 g2 (by rw [g3]; decide) (by rw [g4, q1])
 rw [g1, a, b]
theorem Emb.mt (E : Emb l L k st0) (F : Fit l) (FL : Fit L) {i : Nat} (hi : i < l.length) (ho : (qA l i).1 = 14 ∨ (qA l i).1 = 17 ∨ (qA l i).1 = 18 ∨ (qA l i).1 = 16) : qU (qI L) ((k + i : Nat) : Int) = qU (qI l) (i : Int) + k := by
 have hle := E.le
 by_cases h : (qA l i).1 = 16
 ·obtain ⟨e1, g1, g2, g3, g4, g5⟩ := gG F hi h
  rw [g1, Vr FL (u := k + i) (e := k + e1) (by omega) (by rw [E.ins i hi, xP]; exact h) (by omega) (by rw [E.ins e1 g2, xP, g3]; decide) (by rw [E.stack F.ok _ (by omega), E.stack F.ok _ (by omega), g4])]
  omega
 ·obtain ⟨e1, g1, g2, g3, g4, g5⟩ := yy F hi (by omega)
  have hin : q8 (qx l (i + 1)) = i := by
   rw [jk]
   unfold jj
   rw [if_pos (by unfold zG; simp; omega)]
   unfold q8
   rw [List.getLast?_concat]; rfl
  have hne : qx l e1 ≠ [] := by
   intro h0
   rw [← g5, h0, QZ] at hin
   omega
  rw [g1, OL FL (p := k + i) (e := k + e1) (by omega) (by rw [E.ins i hi, xP]; omega) (by omega) (by rw [E.ins e1 g3, xP, g4]; omega) (by rw [E.stack F.ok _ (by omega), XT hne, g5, hin]; omega)]
  omega
end
def k7 (k : Nat) (p : PtM) : PtM := { p with pc := p.pc + k }
structure Sim (k : Nat) (o0 : List PtM) (s S : IM) : Prop where
  regs : S.regs = s.regs
  out : S.out = s.out
  pc : S.pc = s.pc + k
  opn : S.opn = s.opn.map (k7 k) ++ o0
structure SimS (k : Nat) (o0 : List PtM) (d D : SM) : Prop where
  e : D.e = d.e
  blk : D.blk = d.blk
  v : D.v = d.v
  nx : D.nx = d.nx + k
  regs : D.s.regs = d.s.regs
  out : D.s.out = d.s.out
  opn : D.s.opn = d.s.opn.map (k7 k) ++ o0
section
variable {l L : List qF} {k : Nat} {st0 : List Int} {o0 : List PtM} {s S : IM} {V : VM}
theorem Nj {x : qF} (h : Sim k o0 s S) : (jU S V x).1 = (jU s V x).1 ∧ (jU S V x).2.2 = (jU s V x).2.2 ∧ (jU S V x).2.1.regs = (jU s V x).2.1.regs ∧ (jU S V x).2.1.out = (jU s V x).2.1.out ∧ (jU S V x).2.1.opn = (jU s V x).2.1.opn.map (k7 k) ++ o0 := by
 unfold jU setR
 rw [h.regs]
 by_cases c1 : x.1 = 8
 ·rw [if_pos c1, if_pos c1]
  split
  ·split
   ·exact ⟨rfl, rfl, rfl, h.out, h.opn⟩
   ·exact ⟨rfl, rfl, h.regs, h.out, h.opn⟩
  ·exact ⟨rfl, rfl, h.regs, h.out, h.opn⟩
 rw [if_neg c1, if_neg c1]
 by_cases c2 : x.1 = 9
 ·rw [if_pos c2, if_pos c2]
  split
  ·exact ⟨rfl, rfl, h.regs, h.out, h.opn⟩
  ·exact ⟨rfl, rfl, h.regs, h.out, h.opn⟩
 rw [if_neg c2, if_neg c2]
 by_cases c3 : x.1 = 10
 ·rw [if_pos c3, if_pos c3]
  split
  ·exact ⟨rfl, rfl, h.regs, h.out, h.opn⟩
  ·split
   ·exact ⟨rfl, rfl, rfl, h.out, h.opn⟩
   ·exact ⟨rfl, rfl, h.regs, h.out, h.opn⟩
 rw [if_neg c3, if_neg c3]
 split
 ·exact ⟨rfl, rfl, h.regs, h.out, h.opn⟩
 ·exact ⟨rfl, rfl, h.regs, h.out, h.opn⟩
theorem NO {op : Int} (h : Sim k o0 s S) : SimS k o0 (ja op s.pc (s.pc + 1) s V) (ja op S.pc (S.pc + 1) S V) := by
 unfold ja
 have hp := h.pc
 split
 ·refine ⟨rfl, rfl, rfl, by show S.pc + 1 = s.pc + 1 + k; omega, h.regs, h.out, ?_⟩
  show _ :: S.opn = _ :: (s.opn.map (k7 k)) ++ o0
  rw [h.opn, List.cons_append]
  unfold k7
  rw [h.regs, h.out, hp]
 ·exact ⟨rfl, rfl, rfl, by show S.pc + 1 = s.pc + 1 + k; omega, h.regs, h.out, h.opn⟩
theorem qKd {mt MT : List Int} {x : qF} (h : Sim k o0 s S) (hx : 1 ≤ x.1 ∧ x.1 ≤ 22) (h20 : x.1 ≠ 20) (hm : x.1 = 16 ∨ x.1 = 18 → qU MT S.pc = qU mt s.pc + k) (ho : x.1 = 15 ∨ x.1 = 16 ∨ x.1 = 18 ∨ x.1 = 19 → s.opn ≠ []) :
  SimS k o0 (doM mt s V x) (doM MT S V (jc k x)) := by
 have hp := h.pc
 have hr := h.regs
 have hnx : S.pc + 1 = s.pc + 1 + k := by omega
 by_cases cj : x.1 = 12 ∨ x.1 = 13
 ·have ex : jc k x = (x.1, x.2.1, x.2.2.1, x.2.2.2.1 + k, x.2.2.2.2) := if_pos cj
  rw [ex]
  unfold doM
  rcases cj with cj | cj
  ·simp only [cj]
   exact ⟨rfl, rfl, rfl, rfl, h.regs, h.out, h.opn⟩
  ·simp only [cj]
   refine ⟨rfl, rfl, rfl, ?_, h.regs, h.out, h.opn⟩
   show (if qU S.regs x.2.1 = 0 then x.2.2.2.1 + (k : Int) else S.pc + 1) = (if qU s.regs x.2.1 = 0 then x.2.2.2.1 else s.pc + 1) + k
   rw [hr]
   split
   ·rfl
   ·exact hnx
 have ex : jc k x = x := if_neg cj
 rw [ex]
 unfold doM
 by_cases c1 : x.1 = 1
 ·rw [if_pos c1, if_pos c1]; unfold setR; rw [hr]; exact ⟨rfl, rfl, rfl, hnx, rfl, h.out, h.opn⟩
 rw [if_neg c1, if_neg c1]
 by_cases c2 : x.1 = 2
 ·rw [if_pos c2, if_pos c2]; unfold setR; rw [hr]; exact ⟨rfl, rfl, rfl, hnx, rfl, h.out, h.opn⟩
 rw [if_neg c2, if_neg c2]
 by_cases c3 : x.1 = 3
 ·rw [if_pos c3, if_pos c3]; unfold setR; rw [hr]; exact ⟨rfl, rfl, rfl, hnx, rfl, h.out, h.opn⟩
 rw [if_neg c3, if_neg c3]
 by_cases c4 : x.1 = 4
 ·rw [if_pos c4, if_pos c4]; unfold setR; rw [hr]; exact ⟨rfl, rfl, rfl, hnx, rfl, h.out, h.opn⟩
 rw [if_neg c4, if_neg c4]
 by_cases c5 : x.1 = 5
 ·rw [if_pos c5, if_pos c5]; unfold setR; rw [hr]; exact ⟨rfl, rfl, rfl, hnx, rfl, h.out, h.opn⟩
 rw [if_neg c5, if_neg c5]
 by_cases c6 : x.1 = 6
 ·rw [if_pos c6, if_pos c6]; unfold setR; rw [hr]; exact ⟨rfl, rfl, rfl, hnx, rfl, h.out, h.opn⟩
 rw [if_neg c6, if_neg c6]
 by_cases c7 : x.1 = 7
 ·rw [if_pos c7, if_pos c7]; unfold setR; rw [hr]; exact ⟨rfl, rfl, rfl, hnx, rfl, h.out, h.opn⟩
 rw [if_neg c7, if_neg c7]
 rw [if_neg (fun h => cj (.inl h)), if_neg (fun h => cj (.inl h)), if_neg (fun h => cj (.inr h)), if_neg (fun h => cj (.inr h))]
 by_cases c21 : x.1 = 21
 ·rw [if_pos c21, if_pos c21, h.out, hr]
  split
  ·exact ⟨rfl, rfl, rfl, hnx, h.regs, h.out, h.opn⟩
  ·exact ⟨rfl, rfl, rfl, hnx, rfl, rfl, h.opn⟩
 rw [if_neg c21, if_neg c21]
 by_cases c22 : x.1 = 22
 ·rw [if_pos c22, if_pos c22]; exact ⟨rfl, rfl, rfl, hnx, h.regs, h.out, h.opn⟩
 rw [if_neg c22, if_neg c22]
 by_cases c8 : x.1 = 8 ∨ x.1 = 9 ∨ x.1 = 10 ∨ x.1 = 11
 ·rw [if_pos c8, if_pos c8]
  obtain ⟨a, b, c, d, e⟩ := Nj (V := V) (x := x) h
  exact ⟨a, rfl, b, hnx, c, d, e⟩
 rw [if_neg c8, if_neg c8]
 unfold gp
 by_cases t1 : x.1 = 14 ∨ x.1 = 17
 ·rw [if_pos t1, if_pos t1]; exact NO h
 rw [if_neg t1, if_neg t1]
 have tl : x.1 = 15 ∨ x.1 = 16 ∨ x.1 = 18 ∨ x.1 = 19 → S.opn.tail = s.opn.tail.map (k7 k) ++ o0 := by
  intro hh
  have := ho hh
  rw [h.opn]
  cases hs : s.opn with
  | nil => exact absurd hs this
  | cons p o => rfl
 by_cases t2 : x.1 = 15 ∨ x.1 = 19
 ·rw [if_pos t2, if_pos t2]; exact ⟨rfl, rfl, rfl, hnx, h.regs, h.out, tl (by omega)⟩
 rw [if_neg t2, if_neg t2]
 by_cases t3 : x.1 = 18
 ·rw [if_pos t3, if_pos t3]
  have := hm (.inr t3)
  exact ⟨rfl, rfl, rfl, by show qU MT S.pc + 1 = qU mt s.pc + 1 + k; omega, h.regs, h.out, tl (by omega)⟩
 rw [if_neg t3, if_neg t3]
 by_cases t4 : x.1 = 16
 ·rw [if_pos t4, if_pos t4]
  have := hm (.inl t4)
  have hh : w9 S.opn = k7 k (w9 s.opn) := by
   have := ho (.inr (.inl t4))
   rw [h.opn]
   cases hs : s.opn with
   | nil => exact absurd hs this
   | cons p o => rfl
  refine ⟨rfl, rfl, rfl, by show qU MT S.pc + 1 = qU mt s.pc + 1 + k; omega, ?_, ?_, tl (by omega)⟩
  ·show (w9 S.opn).regs = (w9 s.opn).regs
   rw [hh]; rfl
  ·show S.out.take (w9 S.opn).told = s.out.take (w9 s.opn).told
   rw [hh, h.out]; rfl
 omega
end
end Go.Proofs.YtdlfmpmpmkffjaaGreatDoor
namespace Go.Proofs.YtdlfmpmpmkffjaaGreatDoor
open Go Go.Ae
theorem do_nx {l : List qF} (F : Fit l) {s : IM} {V : VM} {i : Nat} (hi : s.pc = i) (hlt : i < l.length) (h20 : (qA l i).1 ≠ 20) (h23 : (qA l i).1 ≠ 23) : ∃ j : Nat, (doM (qI l) s V (qA l i)).nx = j ∧ j ≤ l.length := by
 have hm := YF (zO (F.ok i hlt)).1 h23
 have hj := F.jump i hlt
 have h1 : ∃ j : Nat, s.pc + 1 = j ∧ j ≤ l.length := ⟨i + 1, by omega, by omega⟩
 have hmt : (qA l i).1 = 16 ∨ (qA l i).1 = 18 → ∃ j : Nat, qU (qI l) s.pc + 1 = j ∧ j ≤ l.length := by
  intro h
  rw [hi]
  rcases h with h | h
  ·obtain ⟨e, e1, e2, _⟩ := gG F hlt h
   exact ⟨e + 1, by omega, by omega⟩
  ·obtain ⟨e, e1, _, e2, _⟩ := yy F hlt (.inr (.inr h))
   exact ⟨e + 1, by omega, by omega⟩
 have hc : (qA l i).1 = 12 ∨ (qA l i).1 = 13 → ∃ j : Nat, (qA l i).2.2.2.1 = j ∧ j ≤ l.length := by
  intro h
  refine ⟨(qA l i).2.2.2.1.toNat, by omega, ?_⟩
  by_cases hc : (l.length : Int) < (qA l i).2.2.2.1
  ·exact absurd ⟨h, .inl hc⟩ hj
  ·omega
 generalize qA l i = x at *
 unfold doM
 by_cases c1 : x.1 = 1
 ·rw [if_pos c1]; exact h1
 rw [if_neg c1]
 by_cases c2 : x.1 = 2
 ·rw [if_pos c2]; exact h1
 rw [if_neg c2]
 by_cases c3 : x.1 = 3
 ·rw [if_pos c3]; exact h1
 rw [if_neg c3]
 by_cases c4 : x.1 = 4
 ·rw [if_pos c4]; exact h1
 rw [if_neg c4]
 by_cases c5 : x.1 = 5
 ·rw [if_pos c5]; exact h1
 rw [if_neg c5]
 by_cases c6 : x.1 = 6
 ·rw [if_pos c6]; exact h1
 rw [if_neg c6]
 by_cases c7 : x.1 = 7
 ·rw [if_pos c7]; exact h1
 rw [if_neg c7]
 by_cases c12 : x.1 = 12
 ·rw [if_pos c12]; exact hc (.inl c12)
 rw [if_neg c12]
 by_cases c13 : x.1 = 13
 ·rw [if_pos c13]
  show ∃ j : Nat, (if qU s.regs x.2.1 = 0 then x.2.2.2.1 else s.pc + 1) = j ∧ j ≤ l.length
  split
  ·exact hc (.inr c13)
  ·exact h1
 rw [if_neg c13]
 by_cases c21 : x.1 = 21
 ·rw [if_pos c21]; split <;> exact h1
 rw [if_neg c21]
 by_cases c22 : x.1 = 22
 ·rw [if_pos c22]; exact h1
 rw [if_neg c22]
 by_cases c8 : x.1 = 8 ∨ x.1 = 9 ∨ x.1 = 10 ∨ x.1 = 11
 ·rw [if_pos c8]; exact h1
 rw [if_neg c8]
 unfold gp
 by_cases t1 : x.1 = 14 ∨ x.1 = 17
 ·rw [if_pos t1]; unfold ja; split <;> exact h1
 rw [if_neg t1]
 by_cases t2 : x.1 = 15 ∨ x.1 = 19
 ·rw [if_pos t2]; exact h1
 rw [if_neg t2]
 by_cases t3 : x.1 = 18
 ·rw [if_pos t3]; exact hmt (.inr t3)
 rw [if_neg t3]
 by_cases t4 : x.1 = 16
 ·rw [if_pos t4]; exact hmt (.inl t4)
 clear h1 hmt hc
 omega
section
variable {l L : List qF} {k : Nat} {st0 : List Int} {o0 : List PtM}
theorem Y6 (E : Emb l L k st0) (F : Fit l) {s S : IM} {V : VM} (h : Sim k o0 s S) (G : GI L S V) {i : Nat} (hi : s.pc = i) (hil : i ≤ l.length) (h0 : o0.length = st0.length) : s.opn.length = (qx l i).length := by
 have e := congrArg List.length G.stk
 rw [h.pc, hi, show ((i : Int) + (k : Int)).toNat = k + i by omega, E.stack F.ok i hil, h.opn] at e
 simp at e
 omega
theorem Kr (E : Emb l L k st0) (F : Fit l) (FL : Fit L) (QL : Quiet L) (Cl : J1 l) (h0 : o0.length = st0.length) {s S : IM} {V : VM} (h : Sim k o0 s S) (G : GI L S V) {i : Nat} (hi : s.pc = i) (hlt : i < l.length) :
  SimS k o0 (doM (qI l) s V (qA l i)) (doM (qI L) S V (qA L ((k + i : Nat) : Int))) ∧ (doM (qI l) s V (qA l i)).blk = false ∧ ∃ j : Nat, (doM (qI l) s V (qA l i)).nx = j ∧ j ≤ l.length := by
 have hle := E.le
 have hq : (qA l i).1 ≠ 23 := by
  have := (QL.at (i := k + i) (by omega)).1
  rwa [E.ins i hlt, xP] at this
 have h20 : (qA l i).1 ≠ 20 := by rw [js hlt]; exact Cl _ (List.getElem_mem hlt)
 have hw := F.ok i hlt
 have hb := YF (zO hw).1 hq
 have hlen := Y6 E F h G hi (by omega) h0
 have hso : S.pc = ((k + i : Nat) : Int) := by have := h.pc; omega
 rw [E.ins i hlt]
 refine ⟨qKd h (by omega) h20 (fun ho => ?_) (fun ho hn => ?_), Km (by omega) h20 hq, do_nx F hi hlt h20 hq⟩
 ·rw [hso, hi, E.mt F FL hlt (by omega)]
 ·rw [hn] at hlen
  have : qx l i ≠ [] := (zX hw).2.1 (by
   rcases ho with ho | ho | ho | ho
   ·exact .inl (by rw [ho]; decide)
   ·exact .inr ho
   ·exact .inl (by rw [ho]; decide)
   ·exact .inl (by rw [ho]; decide))
  exact this (List.eq_nil_of_length_eq_zero hlen.symm)
theorem kj (E : Emb l L k st0) (F : Fit l) (FL : Fit L) (QL : Quiet L) (Cl : J1 l) (h0 : o0.length = st0.length) : ∀ (n : Nat) {s S : IM} {V : VM}, Sim k o0 s S → GI L S V → (∃ i : Nat, s.pc = i ∧ i ≤ l.length) → frS V.lv + n < 9000 →
  ((je l (qI l) n s V).kind = 2 → ∃ S', je L (qI L) n S V = je L (qI L) (je l (qI l) n s V).left S' (je l (qI l) n s V).v ∧ Sim k o0 (je l (qI l) n s V).s S' ∧ GI L S' (je l (qI l) n s V).v ∧
   frS (je l (qI l) n s V).v.lv + (je l (qI l) n s V).left < 9000 ∧ (je l (qI l) n s V).s.pc = l.length ∧ (je l (qI l) n s V).left ≤ n) ∧
  ((je l (qI l) n s V).kind ≠ 2 → (je L (qI L) n S V).kind = (je l (qI l) n s V).kind ∧ (je L (qI L) n S V).err = (je l (qI l) n s V).err) := by
 have hle := E.le
 intro n
 induction n with
 | zero =>
  rintro s S V h G ⟨i, hi, hil⟩ hf
  have hp := h.pc
  rw [gS]
  by_cases c : s.pc = l.length
  ·rw [if_pos c]
   exact ⟨fun _ => ⟨S, rfl, h, G, hf, c, Nat.le_refl _⟩, fun hk => absurd rfl hk⟩
  ·rw [if_neg c, gS, if_neg (by omega)]
   exact ⟨fun hk => (by cases hk), fun _ => ⟨rfl, rfl⟩⟩
 | succ n ih =>
  rintro s S V h G ⟨i, hi, hil⟩ hf
  have hp := h.pc
  rw [gW]
  by_cases c : s.pc = l.length
  ·rw [if_pos c]
   exact ⟨fun _ => ⟨S, rfl, h, G, hf, c, Nat.le_refl _⟩, fun hk => absurd rfl hk⟩
  ·have hlt : i < l.length := by omega
   have hSp : S.pc = ((k + i : Nat) : Int) := by omega
   obtain ⟨D, hb, j, hj, hjl⟩ := Kr E F FL QL Cl h0 h G hi hlt
   have St := kO FL G hSp (by omega) (by omega) (QL.at (i := k + i) (by omega)).2 (QL.at (i := k + i) (by omega)).1
   have e1 := gW (l := L) (mt := qI L) (n := n) (s := S) (V := V)
   rw [if_neg (show ¬ S.pc = L.length by omega), hSp] at e1
   rw [if_neg c, e1, hi]
   clear e1
   generalize doM (qI l) s V (qA l i) = d at *
   generalize doM (qI L) S V (qA L ((k + i : Nat) : Int)) = D' at *
   have hB : D'.blk = false := D.blk.trans hb
   by_cases c0 : d.e = 0
   ·rw [if_pos c0, if_neg (by rw [hb]; simp), if_pos (D.e.trans c0), if_neg (by rw [hB]; simp)]
    have hfr := St.fr
    have G2 := St.next (D.e.trans c0) hB
    have S2 : Sim k o0 { d.s with pc := d.nx } { D'.s with pc := D'.nx } := ⟨D.regs, D.out, D.nx, D.opn⟩
    rw [D.v] at hfr G2 ⊢
    obtain ⟨a, b⟩ := ih S2 G2 ⟨j, hj, hjl⟩ (by omega)
    refine ⟨fun hk => ?_, b⟩
    obtain ⟨S', x1, x2, x3, x4, x5, x6⟩ := a hk
    exact ⟨S', x1, x2, x3, x4, x5, by omega⟩
   ·have c0' : ¬ D'.e = 0 := by rw [D.e]; exact c0
    rw [if_neg c0, if_neg c0']
    by_cases c11 : d.e = 11
    ·rw [if_pos c11, if_pos (D.e.trans c11)]
     exact ⟨fun hk => (by cases hk), fun _ => ⟨rfl, rfl⟩⟩
    ·have c11' : ¬ D'.e = 11 := by rw [D.e]; exact c11
     rw [if_neg c11, if_neg c11']
     exact ⟨fun hk => (by cases hk), fun _ => ⟨rfl, D.e⟩⟩
theorem OY {l : List qF} {mt : List Int} : ∀ (n : Nat) {s : IM} {V : VM} (m : Nat), (je l mt n s V).kind = 2 → je l mt (n + m) s V = { je l mt n s V with left := (je l mt n s V).left + m } := by
 intro n
 induction n with
 | zero =>
  intro s V m h
  rw [gS] at h ⊢
  by_cases c : s.pc = l.length
  ·rw [Qy c]; rw [if_pos c]
  ·rw [if_neg c] at h; cases h
 | succ n ih =>
  intro s V m h
  rw [show n + 1 + m = (n + m) + 1 by omega, gW]
  rw [gW] at h ⊢
  by_cases c : s.pc = l.length
  ·rw [if_pos c, if_pos c, show n + m + 1 = n + 1 + m by omega]
  rw [if_neg c] at h ⊢
  rw [if_neg c]
  by_cases c1 : (doM mt s V (qA l s.pc)).e = 0
  ·rw [if_pos c1] at h ⊢
   rw [if_pos c1]
   by_cases c2 : (doM mt s V (qA l s.pc)).blk = true
   ·rw [if_pos c2] at h; cases h
   ·rw [if_neg c2] at h ⊢
    rw [if_neg c2]
    exact ih m h
  ·rw [if_neg c1] at h
   split at h <;> cases h
end
end Go.Proofs.YtdlfmpmpmkffjaaGreatDoor
namespace Go.Proofs.YtdlfmpmpmkffjaaGreatDoor
open Go Go.Ae
structure Tl (M M' : VM) (e : Int) : Prop where
  sz : M'.sz = M.sz
  K : M'.K = M.K
  most : M'.most = M.most
  tail : M'.lv.tail = M.lv.tail
  len : M'.lv.length = M.lv.length
  need : e = 0 → M'.need = M.need
theorem Tl.refl (M : VM) (e : Int) : Tl M M e := ⟨rfl, rfl, rfl, rfl, rfl, fun _ => rfl⟩
theorem Tl.trans {M M1 M2 : VM} {e e1 : Int} (h : Tl M M1 e1) (h0 : e1 = 0) (h2 : Tl M1 M2 e) : Tl M M2 e :=
 ⟨h2.sz.trans h.sz, h2.K.trans h.K, h2.most.trans h.most, h2.tail.trans h.tail, h2.len.trans h.len, fun he => (h2.need he).trans (h.need h0)⟩
theorem Tl.as {M M' : VM} {e e' : Int} (h : Tl M M' e) (he : e' = e) : Tl M M' e' := he ▸ h
theorem Tl.read (M : VM) (p : Int) : Tl M (ql M p).2 (ql M p).1.2 := by
 unfold ql
 split
 ·split
  ·exact .refl M _
  ·split
   ·exact .refl M _
   ·exact ⟨rfl, rfl, rfl, rfl, rfl, fun h => by cases h⟩
 ·exact .refl M _
theorem qZO {most : Nat} {lv : List LvM} {p v : Int} : (xu most lv p v).2.tail = lv.tail ∧ (xu most lv p v).2.length = lv.length := by
 unfold xu
 split
 ·exact ⟨rfl, rfl⟩
 ·split
  ·exact ⟨rfl, rfl⟩
  ·split <;> exact ⟨rfl, rfl⟩
theorem OU {most : Nat} {was : List LvM} : ∀ {cs : List Cl} {lv : List LvM}, lv.tail = was.tail → lv.length = was.length → (xi most was lv cs).2.tail = was.tail ∧ (xi most was lv cs).2.length = was.length := by
 intro cs
 induction cs with
 | nil => intro lv h1 h2; exact ⟨h1, h2⟩
 | cons c cs ih =>
  intro lv h1 h2
  rw [yY]
  split
  ·have := qZO (most := most) (lv := lv) (p := c.1) (v := c.2)
   exact ih (this.1.trans h1) (this.2.trans h2)
  ·exact ⟨rfl, rfl⟩
theorem Tl.take (M : VM) (cs : List Cl) : Tl M (ju M cs).2 (ju M cs).1 := by
 unfold ju
 split
 ·have := OU (most := M.most) (was := M.lv) (cs := cs) (lv := M.lv) rfl rfl
  exact ⟨rfl, rfl, rfl, this.1, this.2, fun _ => rfl⟩
 ·exact .refl M _
theorem Tl.free (M : VM) (b : Int) : Tl M (freeV M b) 0 := by
 unfold freeV
 refine ⟨rfl, rfl, rfl, ?_, freeL_len, fun _ => rfl⟩
 show (kp M.lv b).tail = M.lv.tail
 cases M.lv <;> rfl
theorem Tl.again (M : VM) (c b : Int) : Tl M (xN M c b).2 (xN M c b).1.2 := by
 unfold xN
 split
 ·exact .refl M _
 ·split
  ·rename_i h
   have ht := (Tl.read M b).trans h (Tl.take (ql M b).2 [(c, (ql M b).1.1), (b - 1, c + 8)])
   split
   ·rename_i h2; exact ht.as h2.symm
   ·exact ht
  ·exact Tl.read M b
theorem Tl.grown (M : VM) (c : Int) : Tl M (xI M c).2 (xI M c).1.2 := by
 unfold xI
 split
 ·rename_i h
  split
  ·have := Tl.read M 5
   exact ⟨this.sz, this.K, this.most, this.tail, this.len, fun h => by cases h⟩
  ·have ht := (Tl.read M 5).trans h (Tl.take (ql M 5).2 [(5, (ql M 5).1.1 + 1 + yZ c), ((ql M 5).1.1, c + 8)])
   split
   ·rename_i h2; exact ht.as h2.symm
   ·exact ht
 ·exact Tl.read M 5
theorem Tl.alloc (M : VM) (n : Int) : Tl M (zR M n).2 (zR M n).1.2 := by
 unfold zR
 split
 ·exact .refl M _
 ·split
  ·rename_i h
   split
   ·exact (Tl.read M _).trans h (Tl.grown _ _)
   ·exact (Tl.read M _).trans h (Tl.again _ _ _)
  ·exact Tl.read M _
theorem Tl.ask (M : VM) (b : Int) : Tl M (zc M b).2 (zc M b).1.2.2 := by
 unfold zc
 split
 ·exact .refl M _
 ·split
  ·rename_i h
   have := Tl.read M (b - 1)
   split
   ·exact ⟨this.sz, this.K, this.most, this.tail, this.len, fun h => by cases h⟩
   ·exact this.as h.symm
  ·exact Tl.read M _
theorem Tl.freeA (M : VM) (b : Int) : Tl M (freeA M b).2 (freeA M b).1 := by
 unfold Go.Proofs.YtdlfmpmpmkffjaaGreatDoor.freeA
 split
 ·rename_i h
  split
  ·have ht := (Tl.ask M b).trans h (Tl.take (zc M b).2 [(b - 1, (zc M b).1.1)])
   split
   ·rename_i h2; exact ht.trans h2 (Tl.free _ _)
   ·exact ht
  ·have := Tl.ask M b
   exact ⟨this.sz, this.K, this.most, this.tail, this.len, fun h => by cases h⟩
 ·exact Tl.ask M b
structure Kp (base : List LvM) (t0 : List ItT) (s : IM) (V : VM) : Prop where
  lv : V.lv.drop (s.opn.length + 1) = base
  len : V.lv.length = s.opn.length + 1 + base.length
  out : s.out.take t0.length = t0
  told : ∀ p ∈ s.opn, t0.length ≤ p.told
def Sm (V V' : VM) : Prop := V'.sz = V.sz ∧ V'.K = V.K ∧ V'.most = V.most ∧ V'.need = V.need
theorem Sm.trans {A B C : VM} (h : Sm A B) (h2 : Sm B C) : Sm A C := ⟨h2.1.trans h.1, h2.2.1.trans h.2.1, h2.2.2.1.trans h.2.2.1, h2.2.2.2.trans h.2.2.2⟩
section
variable {base : List LvM} {t0 : List ItT} {s : IM} {V : VM}
theorem Uz {α : Type} {l t : List α} (h : l.take t.length = t) : t.length ≤ l.length := by
 have := congrArg List.length h
 rw [List.length_take] at this
 omega
theorem Kp.same {s' : IM} {V' : VM} {e : Int} (h : Kp base t0 s V) (T : Tl V V' e) (he : e = 0) (ho : s'.opn = s.opn) (h2 : s'.out = s.out) : Kp base t0 s' V' ∧ Sm V V' := by
 refine ⟨⟨?_, ?_, by rw [h2]; exact h.out, by rw [ho]; exact h.told⟩, T.sz, T.K, T.most, T.need he⟩
 ·rw [ho, ← h.lv]
  have e := T.tail
  rw [← List.drop_one, ← List.drop_one] at e
  rw [show s.opn.length + 1 = 1 + s.opn.length by omega, ← List.drop_drop, ← List.drop_drop, e]
 ·rw [ho, T.len]; exact h.len
theorem Kp.emit {s' : IM} (h : Kp base t0 s V) (ho : s'.opn = s.opn) (h2 : ∃ t, s'.out = s.out ++ t) : Kp base t0 s' V ∧ Sm V V := by
 obtain ⟨t, h2⟩ := h2
 refine ⟨⟨by rw [ho]; exact h.lv, by rw [ho]; exact h.len, ?_, by rw [ho]; exact h.told⟩, rfl, rfl, rfl, rfl⟩
 rw [h2, List.take_append_of_le_length (Uz h.out)]; exact h.out
theorem qQc {x : qF} (h : Kp base t0 s V) (he : (jU s V x).1 = 0) : Kp base t0 (jU s V x).2.1 (jU s V x).2.2 ∧ Sm V (jU s V x).2.2 := by
 unfold jU at he ⊢
 by_cases c1 : x.1 = 8
 ·rw [if_pos c1] at he ⊢
  split at he
  ·rename_i p1
   rw [if_pos p1]
   split at he
   ·rename_i p2
    rw [if_pos p2]
    exact h.same (Tl.read V _) p2 rfl rfl
   ·rename_i p2; exact absurd he p2
  ·cases he
 rw [if_neg c1] at he ⊢
 by_cases c2 : x.1 = 9
 ·rw [if_pos c2] at he ⊢
  split at he
  ·rename_i p1
   rw [if_pos p1]
   exact h.same (Tl.take V _) he rfl rfl
  ·cases he
 rw [if_neg c2] at he ⊢
 by_cases c3 : x.1 = 10
 ·rw [if_pos c3] at he ⊢
  split at he
  ·cases he
  ·rename_i p1
   rw [if_neg p1]
   split at he
   ·rename_i p2
    rw [if_pos p2]
    exact h.same (Tl.alloc V _) p2 rfl rfl
   ·rename_i p2; exact absurd he p2
 rw [if_neg c3] at he ⊢
 split at he
 ·cases he
 ·rename_i p1
  rw [if_neg p1]
  exact h.same (Tl.freeA V _) he rfl rfl
theorem Zs {op a n : Int} (h : Kp base t0 s V) (he : (ja op a n s V).e = 0) : Kp base t0 (ja op a n s V).s (ja op a n s V).v ∧ Sm V (ja op a n s V).v := by
 unfold ja at he ⊢
 split at he
 ·rename_i p1
  rw [if_pos p1]
  have hl : (xX V).2.lv = ([], []) :: V.lv := by
   show (yB V.lv).2 = _
   have p1 : (yB V.lv).1 = 0 := p1
   unfold yB at p1 ⊢
   split at p1
   ·cases p1
   ·rename_i p2; rw [if_neg p2]
  refine ⟨⟨?_, ?_, h.out, ?_⟩, rfl, rfl, rfl, rfl⟩
  ·show (xX V).2.lv.drop (s.opn.length + 1 + 1) = base
   rw [hl, List.drop_succ_cons]; exact h.lv
  ·show (xX V).2.lv.length = s.opn.length + 1 + 1 + base.length
   rw [hl, List.length_cons, h.len]; omega
  ·intro p hp
   rcases List.mem_cons.1 hp with rfl | hp
   ·exact Uz h.out
   ·exact h.told p hp
 ·rename_i p1; exact absurd he p1
theorem Kp.lower {s' : IM} {V' : VM} (h : Kp base t0 s V) (hne : s.opn ≠ []) (ho : s'.opn = s.opn.tail) (hd : V'.lv.drop s.opn.length = V.lv.drop (s.opn.length + 1)) (hl : V'.lv.length + 1 = V.lv.length) (h2 : s'.out.take t0.length = t0) (hs : Sm V V') : Kp base t0 s' V' ∧ Sm V V' := by
 have h3 : s.opn.length = s.opn.tail.length + 1 := by rw [List.length_tail]; have := List.length_pos_iff.2 hne; omega
 refine ⟨⟨?_, ?_, h2, ?_⟩, hs⟩
 ·rw [ho, ← h3, hd]; exact h.lv
 ·have := h.len
  rw [ho, ← h3]; omega
 ·intro p hp
  rw [ho] at hp
  exact h.told p (List.mem_of_mem_tail hp)
theorem Np {lv : List LvM} (h : (gn lv).1 = 0) : ∃ x y r, lv = x :: y :: r ∧ (gn lv).2 = (xj y.1 x.1, y.2 ++ x.2) :: r := by
 match lv, h with
 | x :: y :: r, _ => exact ⟨x, y, r, rfl, rfl⟩
 | [x], h => cases h
 | [], h => cases h
theorem qZ0 {M : VM} (h : (yQ M).1 = 0) : ∃ x y r, M.lv = x :: y :: r ∧ (yQ M).2.lv = (xj y.1 x.1, y.2 ++ x.2) :: r := Np h
theorem V4 {s' : IM} (h : Kp base t0 s V) (hne : s.opn ≠ []) (he : (yQ V).1 = 0) (ho : s'.opn = s.opn.tail) (h2 : s'.out = s.out) : Kp base t0 s' (yQ V).2 ∧ Sm V (yQ V).2 := by
 obtain ⟨x, y, r, e1, e2⟩ := qZ0 he
 have hp := List.length_pos_iff.2 hne
 obtain ⟨m, hm⟩ : ∃ m, s.opn.length = m + 1 := ⟨s.opn.length - 1, by omega⟩
 refine h.lower hne ho ?_ ?_ (by rw [h2]; exact h.out) ⟨rfl, rfl, rfl, rfl⟩
 ·rw [e1, e2, hm]; rfl
 ·rw [e1, e2]; rfl
theorem V2 {M : VM} (h : (zL M).1 = 0) : (zL M).2.lv = M.lv.tail ∧ M.lv.length ≠ 1 := by
 have h : (vk M.lv).1 = 0 := h
 show (vk M.lv).2 = _ ∧ _
 unfold vk at h ⊢
 split at h
 ·cases h
 ·rename_i p; rw [if_neg p]; exact ⟨rfl, p⟩
theorem qZE {s' : IM} (h : Kp base t0 s V) (hne : s.opn ≠ []) (he : (zL V).1 = 0) (ho : s'.opn = s.opn.tail) (h2 : s'.out = s.out.take (w9 s.opn).told) : Kp base t0 s' (zL V).2 ∧ Sm V (zL V).2 := by
 obtain ⟨e1, e2⟩ := V2 he
 have hp := List.length_pos_iff.2 hne
 have hl := h.len
 refine h.lower hne ho ?_ ?_ ?_ ⟨rfl, rfl, rfl, rfl⟩
 ·rw [e1, ← List.drop_one, List.drop_drop, Nat.add_comm]
 ·rw [e1, List.length_tail]; omega
 ·have ht : t0.length ≤ (w9 s.opn).told := by
   cases hs : s.opn with
   | nil => exact absurd hs hne
   | cons p o => exact h.told p (by rw [hs]; exact List.mem_cons_self ..)
  rw [h2, List.take_take, Nat.min_eq_left ht]
  exact h.out
theorem do_kp {mt : List Int} {x : qF} (h : Kp base t0 s V) (hx : 1 ≤ x.1 ∧ x.1 ≤ 22) (h20 : x.1 ≠ 20) (ho : x.1 = 15 ∨ x.1 = 16 ∨ x.1 = 18 ∨ x.1 = 19 → s.opn ≠ []) (he : (doM mt s V x).e = 0) :
  Kp base t0 (doM mt s V x).s (doM mt s V x).v ∧ Sm V (doM mt s V x).v := by
 unfold doM at he ⊢
 by_cases c1 : x.1 = 1
 ·rw [if_pos c1]; exact h.emit rfl ⟨[], (List.append_nil _).symm⟩
 rw [if_neg c1] at he ⊢
 by_cases c2 : x.1 = 2
 ·rw [if_pos c2]; exact h.emit rfl ⟨[], (List.append_nil _).symm⟩
 rw [if_neg c2] at he ⊢
 by_cases c3 : x.1 = 3
 ·rw [if_pos c3]; exact h.emit rfl ⟨[], (List.append_nil _).symm⟩
 rw [if_neg c3] at he ⊢
 by_cases c4 : x.1 = 4
 ·rw [if_pos c4]; exact h.emit rfl ⟨[], (List.append_nil _).symm⟩
 rw [if_neg c4] at he ⊢
 by_cases c5 : x.1 = 5
 ·rw [if_pos c5]; exact h.emit rfl ⟨[], (List.append_nil _).symm⟩
 rw [if_neg c5] at he ⊢
 by_cases c6 : x.1 = 6
 ·rw [if_pos c6]; exact h.emit rfl ⟨[], (List.append_nil _).symm⟩
 rw [if_neg c6] at he ⊢
 by_cases c7 : x.1 = 7
 ·rw [if_pos c7]; exact h.emit rfl ⟨[], (List.append_nil _).symm⟩
 rw [if_neg c7] at he ⊢
 by_cases c12 : x.1 = 12
 ·rw [if_pos c12]; exact h.emit rfl ⟨[], (List.append_nil _).symm⟩
 rw [if_neg c12] at he ⊢
 by_cases c13 : x.1 = 13
 ·rw [if_pos c13]; exact h.emit rfl ⟨[], (List.append_nil _).symm⟩
 rw [if_neg c13] at he ⊢
 by_cases c21 : x.1 = 21
 ·rw [if_pos c21] at he ⊢
  split at he
  ·cases he
  ·rename_i p; rw [if_neg p]; exact h.emit rfl ⟨_, rfl⟩
 rw [if_neg c21] at he ⊢
 by_cases c22 : x.1 = 22
 ·rw [if_pos c22] at he; cases he
 rw [if_neg c22] at he ⊢
 by_cases c8 : x.1 = 8 ∨ x.1 = 9 ∨ x.1 = 10 ∨ x.1 = 11
 ·rw [if_pos c8] at he ⊢; exact qQc h he
 rw [if_neg c8] at he ⊢
 unfold gp at he ⊢
 by_cases t1 : x.1 = 14 ∨ x.1 = 17
 ·rw [if_pos t1] at he ⊢; exact Zs h he
 rw [if_neg t1] at he ⊢
 by_cases t2 : x.1 = 15 ∨ x.1 = 19
 ·rw [if_pos t2] at he ⊢; exact V4 h (ho (by omega)) he rfl rfl
 rw [if_neg t2] at he ⊢
 by_cases t3 : x.1 = 18
 ·rw [if_pos t3] at he ⊢; exact V4 h (ho (by omega)) he rfl rfl
 rw [if_neg t3] at he ⊢
 by_cases t4 : x.1 = 16
 ·rw [if_pos t4] at he ⊢; exact qZE h (ho (by omega)) he rfl rfl
 omega
theorem qKA {l L : List qF} {k : Nat} {st0 : List Int} {o0 : List PtM} (E : Emb l L k st0) (F : Fit l) (FL : Fit L) (QL : Quiet L) (Cl : J1 l) (h0 : o0.length = st0.length) : ∀ (n : Nat) {s S : IM} {V : VM}, Sim k o0 s S → GI L S V → (∃ i : Nat, s.pc = i ∧ i ≤ l.length) → frS V.lv + n < 9000 → Kp base t0 s V →
  (je l (qI l) n s V).kind = 2 → Kp base t0 (je l (qI l) n s V).s (je l (qI l) n s V).v ∧ Sm V (je l (qI l) n s V).v := by
 have hle := E.le
 intro n
 induction n with
 | zero =>
  rintro s S V h G ⟨i, hi, hil⟩ hf K hk
  rw [gS] at hk ⊢
  by_cases c : s.pc = l.length
  ·rw [if_pos c]; exact ⟨K, rfl, rfl, rfl, rfl⟩
  ·rw [if_neg c] at hk; cases hk
 | succ n ih =>
  rintro s S V h G ⟨i, hi, hil⟩ hf K hk
  have hp := h.pc
  rw [gW] at hk ⊢
  by_cases c : s.pc = l.length
  ·rw [if_pos c]; exact ⟨K, rfl, rfl, rfl, rfl⟩
  ·have hlt : i < l.length := by omega
   have hSp : S.pc = ((k + i : Nat) : Int) := by omega
   obtain ⟨D, hb, j, hj, hjl⟩ := Kr E F FL QL Cl h0 h G hi hlt
   have St := kO FL G hSp (by omega) (by omega) (QL.at (i := k + i) (by omega)).2 (QL.at (i := k + i) (by omega)).1
   have hq : (qA l i).1 ≠ 23 := by
    have := (QL.at (i := k + i) (by omega)).1
    rwa [E.ins i hlt, xP] at this
   have h20 : (qA l i).1 ≠ 20 := by rw [js hlt]; exact Cl _ (List.getElem_mem hlt)
   have hw := F.ok i hlt
   have hbb := YF (zO hw).1 hq
   have hlen := Y6 E F h G hi (by omega) h0
   have dk := do_kp (mt := qI l) (x := qA l i) K (by omega) h20 (fun ho hn => by
    rw [hn] at hlen
    have : qx l i ≠ [] := (zX hw).2.1 (by
     rcases ho with ho | ho | ho | ho
     ·exact .inl (by rw [ho]; decide)
     ·exact .inr ho
     ·exact .inl (by rw [ho]; decide)
     ·exact .inl (by rw [ho]; decide))
    exact this (List.eq_nil_of_length_eq_zero hlen.symm))
   rw [if_neg c, hi] at hk ⊢
   generalize doM (qI l) s V (qA l i) = d at *
   generalize doM (qI L) S V (qA L ((k + i : Nat) : Int)) = D' at *
   have hB : D'.blk = false := D.blk.trans hb
   by_cases c0 : d.e = 0
   ·rw [if_pos c0, if_neg (by rw [hb]; simp)] at hk ⊢
    have hfr := St.fr
    have G2 := St.next (D.e.trans c0) hB
    have S2 : Sim k o0 { d.s with pc := d.nx } { D'.s with pc := D'.nx } := ⟨D.regs, D.out, D.nx, D.opn⟩
    rw [D.v] at hfr G2
    obtain ⟨K2, m2⟩ := dk c0
    obtain ⟨a, b⟩ := ih S2 G2 ⟨j, hj, hjl⟩ (by omega) ⟨K2.lv, K2.len, K2.out, K2.told⟩ hk
    exact ⟨a, m2.trans b⟩
   ·rw [if_neg c0] at hk
    split at hk <;> cases hk
end
end Go.Proofs.YtdlfmpmpmkffjaaGreatDoor
namespace Go.Proofs.YtdlfmpmpmkffjaaGreatDoor
open Go Go.Ae
set_option maxRecDepth 100000
variable {g h : AH} {L R : List SP}
theorem Gj {n : Nat} (hn : 1 ≤ n) {op : Int} (H : HS g h R) : wp (callT tab qS n (.fn 36 [] []) [.int .i64 op] h) fun r h' => ∃ lv, r = .agg [lv] ∧ HS g h' (zN lv [one op] :: R) := by
 (refine qn (g := W36) rfl (by omega) fun k hk => ?_; show wp (S36 (callT tab qS k) _ _) _; unfold S36; try simp only [iI, uU, Int.ofNat_eq_natCast])
 refine jQ H rfl fun b0 h1 H1 => ?_
 refine qp (l := jY (one op)) rfl ?_
 refine jw (n := 1) (l := jY (one op)) (sz := 5) H1 rfl rfl rfl rfl fun v3 h2 H2 => ?_
 have ol := H2.one (e := 28) (sz := 5) (n := 1) .here
 refine qp (l := [v3]) (by simp only [vN, ol.1]; rfl) ?_
 refine jD H2 (b := b0) e_1 rfl (by simp) (by show jz [v3] = true; simp [jz, ol.2]) fun h3 H3 => ?_
 refine jK H3 (b := b0) (off := 0) .here rfl (by omega) (l := [v3]) rfl ?_
 refine qk ⟨v3, rfl, ?_⟩
 have H4 : HS g h3 (qc b0 [v3] :: zN v3 [one op] :: R) := H3
 exact H4.drop
def jX (p l : List qF) : List qF := p ++ l.map (jc p.length)
def vM (ls : List (List qF)) : List qF := ls.foldl jX []
theorem xk (p l : List qF) : (jX p l).length = p.length + l.length := by simp [jX]
theorem VJ (ls : List (List qF)) (l : List qF) : vM (ls ++ [l]) = jX (vM ls) l := by simp [vM]
theorem Ng (ls : List (List qF)) (h : ∀ l ∈ ls, l.length ≤ 40) : (vM ls).length ≤ 40 * ls.length := by
 suffices H : ∀ (ls : List (List qF)) (p : List qF), (∀ l ∈ ls, l.length ≤ 40) → (ls.foldl jX p).length ≤ p.length + 40 * ls.length by
  have := H ls [] h
  simpa [vM] using this
 intro ls
 induction ls with
 | nil => intro p _; simp
 | cons l ls ih =>
  intro p h
  have h1 := ih (jX p l) fun x hx => h x (List.mem_cons_of_mem _ hx)
  have h2 := h l (List.mem_cons_self ..)
  rw [xk] at h1
  simp only [List.foldl_cons, List.length_cons]
  omega
theorem KQ {n : Nat} (hn : 1 ≤ n) {ps : List (AV × List qF)} {av : AV} (H : HS g h R) (S : Rd g R 1 ps.length av (ps.map (·.1))) (SS : ∀ q ∈ ps, Rd g R 5 q.2.length q.1 (q.2.flatMap jY)) (hb : ∀ q ∈ ps, ∀ x ∈ q.2, (x.1 = 12 ∨ x.1 = 13) → 0 ≤ x.2.2.2.1 ∧ x.2.2.2.1 ≤ 40)
  (hl : ∀ q ∈ ps, q.2.length ≤ 40) (hp : ps.length ≤ 20) : wp (callT tab qS n (.fn 35 [] []) [av] h) fun r h' => ∃ lv, r = .agg [lv] ∧ HS g h' (zN lv (vM (ps.map (·.2))) :: R) := by
 (refine qn (g := W35) rfl (by omega) fun k hk => ?_; show wp (S35 (callT tab qS k) _ _) _; unfold S35; try simp only [iI, uU, Int.ofNat_eq_natCast])
 refine jQ H rfl fun b0 h1 H1 => ?_
 refine jQ H1 rfl fun b2 h2 H2 => ?_
 clear H H1
 refine jr (fun m s h' => ∃ (i : Nat) (lv : AV), s = (.int .i64 (i : Int), .ptr b2 0, .ptr b0 0, av, ()) ∧ i ≤ ps.length ∧ m = ps.length - i ∧ HS g h' (zN lv (vM ((ps.take i).map (·.2))) :: qc b2 [lv] :: qc b0 [.nils] :: R))
  ?_ (m := ps.length) (by show _ < 1000000000; omega) ⟨0, .nils, rfl, by omega, by omega, H2.nils⟩
 clear H2
 rintro m ih s h3 hih ⟨i, lv, rfl, hi, rfl, H⟩
 dsimp only
 have H0 : HS g h3 (qa 28 5 (vM ((ps.take i).map (·.2))).length lv ((vM ((ps.take i).map (·.2))).flatMap jY) :: qc b2 [lv] :: qc b0 [.nils] :: R) := H
 refine zW (S.sl H.drop.drop.drop) ?_
 refine zg (fun hlt => qY ?_) fun hge => qQ ?_
 rotate_left
 ·obtain rfl : i = ps.length := by omega
  rw [List.take_length] at H
  have ol := H0.one (e := 28) (sz := 5) .here
  refine jK H (b := b2) (off := 0) e_1 rfl (by omega) (l := [lv]) rfl ?_
  refine jD H (b := b0) e_2 rfl (by simp) (by show jz [lv] = true; simp [jz, ol.2]) fun h4 H4 => ?_
  have H4 : HS g h4 (qc b0 [lv] :: zN lv (vM (ps.map (·.2))) :: qc b2 [lv] :: R) := H4
  refine qR ?_
  refine jK H4 (b := b0) (off := 0) .here rfl (by omega) (l := [lv]) rfl ?_
  exact qk ⟨lv, rfl, H4.sub (.cons e_1 (.drop (.drop .refl)))⟩
 have hlt : i < ps.length := by omega
 have hq := List.getElem_mem hlt
 have SQ := SS _ hq
 have hbq := hb _ hq
 have hlq := hl _ hq
 have hav : (ps.map (·.1))[i * 1 + 0]? = some ps[i].1 := by rw [Nat.mul_one, Nat.add_zero, List.getElem?_map, List.getElem?_eq_getElem hlt]; rfl
 have hsn : vM ((ps.take (i + 1)).map (·.2)) = jX (vM ((ps.take i).map (·.2))) ps[i].2 := by
  rw [List.take_add_one, List.getElem?_eq_getElem hlt, Option.toList_some, List.map_append, List.map_singleton, VJ]
 have hpl := Ng ((ps.take i).map (·.2)) (by
  intro l hl2
  obtain ⟨q, hq, rfl⟩ := List.mem_map.1 hl2
  exact hl q (List.mem_of_mem_take hq))
 have hpl : (vM ((ps.take i).map (·.2))).length ≤ 800 := by
  rw [List.length_map, List.length_take] at hpl
  omega
 generalize hp0 : vM ((ps.take i).map (·.2)) = p at *
 generalize hl0 : ps[i].2 = l at *
 generalize hv0 : ps[i].1 = pv at *
 with_reducible (refine qV ?_; refine qv (by assumption) e_1 rfl ?_; refine jR (by assumption) .here ?_)
 refine jr (fun m s h' => ∃ (k : Nat) (lv : AV), s = (.int .i64 (k : Int), .int .i64 (p.length : Int), .int .i64 (i : Int), .ptr b2 0, .ptr b0 0, av, ()) ∧ k ≤ l.length ∧ m = l.length - k ∧ HS g h' (zN lv (p ++ (l.take k).map (jc p.length)) :: qc b2 [lv] :: qc b0 [.nils] :: R))
  ?_ (m := l.length) (by show _ < 1000000000; omega) ⟨0, lv, rfl, by omega, by omega, by simpa using H⟩
 clear H H0
 rintro m ih2 s h4 hih2 ⟨k2, lv2, rfl, hk2, rfl, H⟩
 dsimp only
 refine JT (S.sl H.drop.drop.drop) (by omega) (by omega) hav ?_
 refine zW (SQ.sl H.drop.drop.drop) ?_
 refine zg (fun hlt2 => qY ?_) fun hge2 => qQ ?_
 rotate_left
 ·obtain rfl : k2 = l.length := by omega
  rw [List.take_length] at H
  refine qe (by omega) ?_
  exact hih (ps.length - (i + 1)) _ _ (by omega) ⟨i + 1, lv2, rfl, by omega, rfl, by rw [hsn]; exact H⟩
 have hlt2 : k2 < l.length := by omega
 refine JT (S.sl H.drop.drop.drop) (by omega) (by omega) hav ?_
 refine zn (l := jY l[k2]) (SQ.sl H.drop.drop.drop) hlt2 (by omega) (QH (sz := 5) (fun _ => rfl) (List.getElem?_eq_getElem hlt2)) ?_
 have hbx := hbq l[k2] (List.getElem_mem hlt2)
 have hts : (l.take (k2 + 1)).map (jc p.length) = (l.take k2).map (jc p.length) ++ [jc p.length l[k2]] := by
  rw [List.take_add_one, List.getElem?_eq_getElem hlt2, Option.toList_some, List.map_append, List.map_singleton]
 generalize l[k2] = x at *
 refine jQ H rfl fun b3 h5 H5 => jD H5 .here rfl (by show 0 + 5 ≤ 5; omega) rfl fun h6 H6 => ?_
 have H6 : HS g h6 (qc b3 (jY x) :: zN lv2 (p ++ (l.take k2).map (jc p.length)) :: qc b2 [lv2] :: qc b0 [.nils] :: R) := H6
 clear H H5
 refine xx [] (fun s h' => s = (.ptr b3 0, .int .i64 (k2 : Int), .int .i64 (p.length : Int), .int .i64 (i : Int), .ptr b2 0, .ptr b0 0, av, ()) ∧ HS g h' (qc b3 (jY (jc p.length x)) :: zN lv2 (p ++ (l.take k2).map (jc p.length)) :: qc b2 [lv2] :: qc b0 [.nils] :: R)) ?_ ?_
 rotate_left
 ·rintro s h7 ⟨rfl, H7⟩
  dsimp only
  with_reducible (refine qV ?_; refine qv (by assumption) e_2 rfl ?_)
  refine jK H7 (b := b3) (off := 0) .here rfl (by omega) (l := jY (jc p.length x)) rfl ?_
  refine jw (n := 1) (l := jY (jc p.length x)) (sz := 5) H7 rfl rfl rfl rfl fun v8 h8 H8 => ?_
  have S1 : Sl (fun _ => True) h8 5 [jc p.length x].length v8 ([jc p.length x].flatMap jY) := by simpa using H8.sl .here
  refine vV (H8.sel (P := zN lv2 (p ++ (l.take k2).map (jc p.length))) e_2) S1 (by simp; omega) fun v9 h9 H9 => ?_
  refine qV ?_
  have ol := HS.one (e := 28) (sz := 5) (n := (p ++ (l.take k2).map (jc p.length) ++ [jc p.length x]).length) H9 .here
  refine jF H9 (b := b2) e_3 ol (by simp) fun h10 H10 => ?_
  refine qe (by omega) ?_
  refine hih2 (l.length - (k2 + 1)) _ _ (by omega) ⟨k2 + 1, v9, rfl, by omega, rfl, ?_⟩
  rw [hts, ← List.append_assoc]
  have H11 : HS g h10 (qc b2 [v9] :: zN v9 (p ++ (l.take k2).map (jc p.length) ++ [jc p.length x]) :: _) := H10
  exact H11.sub (.cons e_1 (.cons .here (.drop (.drop (.cons .here .refl)))))
 intro j hj
 by_cases hop : x.1 = 12 ∨ x.1 = 13
 ·have ex : jc p.length x = (x.1, x.2.1, x.2.2.1, x.2.2.2.1 + p.length, x.2.2.2.2) := if_pos hop
  have hc := hbx hop
  rcases hop with hop | hop
  ·with_reducible (refine qV ?_; refine qv (by assumption) .here rfl ?_; refine qM (by omega) ?_; refine qW ?_; (try dsimp only); refine jB ?_; (try dsimp only); refine qd ?_; refine qY ?_; refine qV ?_; refine qv (by assumption) .here rfl ?_; refine qe (by omega) ?_; refine qV ?_)
   refine jF H6 (b := b3) .here ⟨rfl, rfl⟩ (by show 3 < 5; omega) fun h7 H7 => ?_
   exact hj _ _ ⟨rfl, by rw [ex]; exact H7⟩
  ·with_reducible (refine qV ?_; refine qv (by assumption) .here rfl ?_; refine qK (by omega) ?_; refine qW ?_; (try dsimp only); refine qh ?_; (try dsimp only); refine qV ?_; refine qv (by assumption) .here rfl ?_; refine qM (by omega) ?_; refine qb ?_; refine qY ?_; refine qV ?_; refine qv (by assumption) .here rfl ?_; refine qe (by omega) ?_; refine qV ?_)
   refine jF H6 (b := b3) .here ⟨rfl, rfl⟩ (by show 3 < 5; omega) fun h7 H7 => ?_
   exact hj _ _ ⟨rfl, by rw [ex]; exact H7⟩
 ·have ex : jc p.length x = x := if_neg hop
  with_reducible (refine qV ?_; refine qv (by assumption) .here rfl ?_; refine qK (by omega) ?_; refine qW ?_; (try dsimp only); refine qh ?_; (try dsimp only); refine qV ?_; refine qv (by assumption) .here rfl ?_; refine qK (by omega) ?_; refine qb ?_; refine qQ ?_)
  exact hj _ _ ⟨rfl, by rw [ex]; exact H6⟩
end Go.Proofs.YtdlfmpmpmkffjaaGreatDoor
namespace Go.Proofs.YtdlfmpmpmkffjaaGreatDoor
open Go Go.Ae
theorem NG {k : Nat} {x : qF} (h : xD x = true) (hc : x.1 = 12 ∨ x.1 = 13 → x.2.2.2.1 + k ≤ 40) : xD (jc k x) = true := by
 unfold jc
 split
 ·rename_i hj
  have hc := hc hj
  unfold xD xh jC at h ⊢
  dsimp only
  rcases hj with hj | hj <;> (simp [hj] at h ⊢; omega)
 ·exact h
theorem qJh {l L : List qF} {k : Nat} {st0 s : List Int} (E : Emb l L k st0) (hn : s ≠ []) (hs : StOk l.length s) : opM L (st0 ++ s.map (· + (k : Int))) = opM l s := by
 have hb := hs.inmost hn
 obtain ⟨p, hp⟩ : ∃ p : Nat, q8 s = p := ⟨(q8 s).toNat, by omega⟩
 unfold opM
 rw [if_neg (by simp [hn]), if_neg hn, XT hn, hp]
 have e := E.ins p (by omega)
 rw [show (p : Int) + (k : Int) = ((k + p : Nat) : Int) by omega, e, xP]
theorem gK {l L : List qF} {k : Nat} {st0 : List Int} {calm : Bool} (E : Emb l L k st0) (B : Bld calm l []) (h40 : L.length ≤ 40) {i : Nat} (hi : i < l.length) :
  jE L (qx L (k + i)) (qA L ((k + i : Nat) : Int)) = 0 ∨ st0 ≠ [] ∧ jE L (qx L (k + i)) (qA L ((k + i : Nat) : Int)) = 9 := by
 have hle := E.le
 have hw := B.wr i hi
 have hz := zO hw
 have ho := zX hw
 have hj := B.jp i hi
 have hst := E.stack B.wr i (by omega)
 have hr := (QB (l := l) i).1.mono (show i ≤ l.length by omega)
 rw [hst, E.ins i hi]
 have hm : xD (jc k (qA l i)) = true := NG hz.1 fun h => by
  obtain ⟨c, c1, c2, _⟩ := hj h
  omega
 have hop : qx l i ≠ [] → opM L (st0 ++ (qx l i).map (· + (k : Int))) = opM l (qx l i) := fun hn => qJh E hn hr
 unfold jE
 rw [if_neg (by rw [hm]; simp), xP, if_neg (fun hh => hh.2 (by rw [hop (ho.2.1 (.inl hh.1))]; exact hz.2.1 hh.1)), if_neg (fun hh => hh.2 (by rw [hop (ho.2.1 (.inr hh.1))]; exact hz.2.2.1 hh.1))]
 by_cases hd : zG (qA l i).1 = true ∧ 5 ≤ (st0 ++ (qx l i).map (· + (k : Int))).length
 ·rw [if_pos hd]
  refine .inr ⟨?_, rfl⟩
  rintro rfl
  have := hz.2.2.2 hd.1
  have h2 := hd.2
  simp at h2
  omega
 ·rw [if_neg hd]; exact .inl rfl
theorem gc {l L : List qF} {k : Nat} {st0 : List Int} {calm : Bool} (E : Emb l L k st0) (B : Bld calm l []) (hnil : qx L L.length = []) {i : Nat} (hi : i < l.length) : ¬ vZ L (xq L 0 []) (k + i) (qA L ((k + i : Nat) : Int)) := by
 have hle := E.le
 have hst := E.stack B.wr i (by omega)
 have hreg : ∀ j, j < L.length → qU (xq L 0 []) (j : Int) = q8 (qx L j) := fun j hj => by
  have := JZ (l := L) L.length 0 (by omega) j (by omega)
  rw [Nat.zero_add] at this
  unfold qU
  rw [Int.toNat_natCast]
  exact (congrArg (·.getD 0) this)
 rw [E.ins i hi]
 rintro ⟨ho, hc⟩
 rw [xP] at ho
 obtain ⟨c, c1, c2, c3, _⟩ := B.jp i hi ho
 have hx : (jc k (qA l i)).2.2.2.1 = ((k + c : Nat) : Int) := by
  have e : jc k (qA l i) = ((qA l i).1, (qA l i).2.1, (qA l i).2.2.1, (qA l i).2.2.2.1 + k, (qA l i).2.2.2.2) := if_pos ho
  rw [e]
  show (qA l i).2.2.2.1 + (k : Int) = _
  omega
 have hsc : qx L (k + c) = qx L (k + i) := by rw [E.stack B.wr c c2, hst, c3]
 rw [hx] at hc
 rcases hc with hc | ⟨hc, hn⟩ | ⟨hc, hn⟩
 ·omega
 ·have : k + c = L.length := by omega
  rw [this, hnil] at hsc
  exact hn (by rw [hreg _ (by omega), ← hsc]; rfl)
 ·exact hn (by rw [hreg _ (by omega), hreg _ (by omega), hsc])
theorem Uw {l : List qF} (h0 : 0 < l.length) (h40 : l.length ≤ 40) (hw : ∀ j, j < l.length → jE l (qx l j) (qA l j) = 0 ∨ jE l (qx l j) (qA l j) = 9) (hn : qx l l.length = []) (hj : ∀ j, j < l.length → ¬ vZ l (xq l 0 []) j (qA l j)) :
  ((zd l).2 = 9 ∧ ∃ j, j < l.length ∧ jE l (qx l j) (qA l j) = 9) ∨ (zd l).2 = 0 ∧ ∀ j, j < l.length → jE l (qx l j) (qA l j) = 0 := by
 have key : ∀ d i, i + d = l.length → ((∃ a, goM l (l.drop i) i (qx l i) = .inl (a, 9)) ∧ ∃ j, j < l.length ∧ jE l (qx l j) (qA l j) = 9) ∨ goM l (l.drop i) i (qx l i) = .inr [] ∧ ∀ j, i ≤ j → j < l.length → jE l (qx l j) (qA l j) = 0 := by
  intro d
  induction d with
  | zero =>
   intro i hi
   obtain rfl : i = l.length := by omega
   rw [List.drop_length, hn]
   exact .inr ⟨rfl, fun j h1 h2 => by omega⟩
  | succ d ih =>
   intro i hi
   have hlt : i < l.length := by omega
   rw [ws hlt]
   rcases hw i hlt with h | h
   ·have hc := h
    rw [js hlt] at h
    rw [if_pos h]
    have := ih (i + 1) (by omega)
    rw [jk, js hlt] at this
    rcases this with this | ⟨t1, t2⟩
    ·exact .inl this
    ·refine .inr ⟨t1, fun j h1 h2 => ?_⟩
     by_cases he : j = i
     ·rw [he]; exact hc
     ·exact t2 j (by omega) h2
   ·have hc := h
    rw [js hlt] at h
    rw [if_neg (by rw [h]; decide), h]
    exact .inl ⟨⟨_, rfl⟩, i, hlt, hc⟩
 have hjm : ∀ d i, i + d = l.length → wA l (xq l 0 []) (l.drop i) i = (0, 0) := by
  intro d
  induction d with
  | zero =>
   intro i hi
   obtain rfl : i = l.length := by omega
   rw [List.drop_length]; rfl
  | succ d ih =>
   intro i hi
   have hlt : i < l.length := by omega
   have := hj i hlt
   rw [js hlt] at this
   rw [wV hlt, if_neg this, ih (i + 1) (by omega)]
 have k0 := key l.length 0 (by omega)
 have j0 := hjm l.length 0 (by omega)
 rw [List.drop_zero] at k0 j0
 unfold zd
 rw [if_neg (by omega)]
 rcases k0 with ⟨⟨a, k0⟩, k9⟩ | ⟨k0, k1⟩
 ·rw [show qx l 0 = [] from rfl] at k0
  rw [k0]; exact .inl ⟨rfl, k9⟩
 ·rw [show qx l 0 = [] from rfl] at k0
  rw [k0]
  dsimp only
  rw [if_pos rfl, j0]
  exact .inr ⟨rfl, fun j h => k1 j (Nat.zero_le _) h⟩
end Go.Proofs.YtdlfmpmpmkffjaaGreatDoor
namespace Go.Proofs.YtdlfmpmpmkffjaaGreatDoor.arenaPlays
open Go Go.Ae
set_option maxRecDepth 100000
variable {g h : AH} {L R : List SP}
end Go.Proofs.YtdlfmpmpmkffjaaGreatDoor.arenaPlays
namespace Go.Proofs.YtdlfmpmpmkffjaaGreatDoor
open Go Go.Ae
set_option maxRecDepth 100000
variable {g h : AH} {L R : List SP}
def NZ (zs : List Int) (m : Int) (C : List Cl) (F : List Int) : VM := { xJ zs m with lv := [(C, F)] }
structure FullS (zs : List Int) (T c i : Nat) : Prop where
  len : zs.length = T
  lo : 32 ≤ T
  hi : T ≤ 256
  cls : 1 ≤ c ∧ c ≤ 4
  nn : ∀ z ∈ zs, 0 ≤ z ∧ z < 18446744073709551616
  head : xg zs c = 0
  bump : xg zs 5 = 14 + (i : Int) * (yZ c + 1)
  hdr : ∀ j, j < i → ∀ p : Nat, (p : Int) = 14 + (j : Int) * (yZ c + 1) → xg zs p = (c : Int) + 8
end Go.Proofs.YtdlfmpmpmkffjaaGreatDoor
namespace Go.Proofs.YtdlfmpmpmkffjaaGreatDoor.arenaFull
open Go Go.Ae arenaPlays
set_option maxRecDepth 100000
variable {g h : AH} {L R : List SP}
end Go.Proofs.YtdlfmpmpmkffjaaGreatDoor.arenaFull
namespace Go.Proofs.YtdlfmpmpmkffjaaGreatDoor
open Go Go.Ae
set_option maxRecDepth 100000
end Go.Proofs.YtdlfmpmpmkffjaaGreatDoor
namespace Go.Proofs.YtdlfmpmpmkffjaaGreatDoor
open Go Go.Ae arenaPlays
set_option maxRecDepth 100000
variable {g h : AH} {L R : List SP}
end Go.Proofs.YtdlfmpmpmkffjaaGreatDoor
namespace Go.Proofs.YtdlfmpmpmkffjaaGreatDoor
open Go Go.Ae
set_option maxRecDepth 100000
variable {g h : AH} {L R : List SP}
abbrev vP (l : List qF) (n : Nat) (zs : List Int) (m : Int) : RM := je l (qI l) n wi (xJ zs m)
end Go.Proofs.YtdlfmpmpmkffjaaGreatDoor
namespace Go.Proofs.YtdlfmpmpmkffjaaGreatDoor
open Go Go.Ae
theorem Bld.weak {l : List qF} {st : List Int} (B : Bld true l st) : Bld false l st :=
 ⟨fun x hx => ⟨(B.ok x hx).may, (B.ok x hx).no, (B.ok x hx).n, fun h => (by cases h)⟩, B.wr, B.top, fun j hj ho => (by
  obtain ⟨c, c1, c2, c3, _⟩ := B.jp j hj ho
  exact ⟨c, c1, c2, c3, fun h => by cases h⟩), B.five⟩
theorem Us (p : List qF) : p.map (jc 0) = p := by
 induction p with
 | nil => rfl
 | cons x p ih => rw [List.map_cons, Vo, ih]
theorem Gz (p t : List qF) : Emb p (p ++ t) 0 [] := ⟨by simp, fun i hi => by rw [Vo, Nat.zero_add, kz hi], rfl⟩
section
variable {p : List qF} {op : Int}
theorem ZM (B : Bld true p []) (h : op = 20 ∨ op = 22) : Bld false (p ++ [one op]) [] :=
 B.weak.flat ⟨by rcases h with rfl | rfl <;> decide, by rcases h with rfl | rfl <;> decide, by rcases h with rfl | rfl <;> decide, fun h => (by cases h)⟩ (by rcases h with rfl | rfl <;> (unfold Flat; decide)) (by rcases h with rfl | rfl <;> decide)
theorem gu {calm : Bool} {l : List qF} (B : Bld calm l []) : Quiet l := fun x hx => ⟨(B.ok x hx).no, (B.ok x hx).n⟩
theorem gZ {l : List qF} (B : Bld true l []) : J1 l := fun x hx => ((B.ok x hx).cal rfl).1
theorem fails (B : Bld true p []) (h0 : 0 < p.length) (h39 : p.length ≤ 39) (h : op = 20 ∨ op = 22) {zs : List Int} (hz : OkN zs) :
  (vP (p ++ [one op]) 400 zs 96).kind ≠ 2 ∧
  ((vP p 400 zs 96).kind ≠ 2 → (vP p 400 zs 96).kind = 4 ∧ (vP (p ++ [one op]) 400 zs 96).kind = 4 ∧ (vP (p ++ [one op]) 400 zs 96).err = (vP p 400 zs 96).err) ∧
  ((vP p 400 zs 96).kind = 2 → op = 20 ∧ (vP (p ++ [one op]) 400 zs 96).kind = 3 ∧ (vP (p ++ [one op]) 400 zs 96).err = 0 ∨ op = 22 ∧ (vP (p ++ [one op]) 400 zs 96).kind = 4 ∧ (vP (p ++ [one op]) 400 zs 96).err = 13 ∨
   (vP (p ++ [one op]) 400 zs 96).kind = 4 ∧ (vP (p ++ [one op]) 400 zs 96).err = 6) := by
 have BL := ZM B h
 have F : Fit p := gk (by rw [B.fit h0 (by omega)])
 have FL : Fit (p ++ [one op]) := gk (by rw [BL.fit (by simp) (by simp; omega)])
 have Q := gu B
 have QL := gu BL
 have C := gZ B
 have G := wy (l := p) (m := 96) hz
 have GL := wy (l := p ++ [one op]) (m := 96) hz
 have f0 := kZ zs 96
 have n3 := KC F Q C 400 G (by omega)
 have n1 := Yo F Q (n := 400) (zs := zs) (m := 96) G rfl rfl (by omega)
 have rk := (Gw F Q 400 G (by omega)).2.2.2.2
 obtain ⟨a, b⟩ := kj (Gz p [one op]) F FL QL C (o0 := []) rfl 400 (s := wi) (S := wi) (V := xJ zs 96) ⟨rfl, rfl, rfl, rfl⟩ GL ⟨0, rfl, Nat.zero_le _⟩ (by omega)
 unfold vP
 generalize je p (qI p) 400 wi (xJ zs 96) = A at *
 by_cases k2 : A.kind = 2
 ·obtain ⟨S', x1, x2, x3, x4, x5, x6⟩ := a k2
  have hp : S'.pc = ((p.length : Nat) : Int) := by have := x2.pc; omega
  have hne : ¬ S'.pc = (p ++ [one op]).length := by rw [hp]; simp; omega
  have hins : qA (p ++ [one op]) S'.pc = one op := by
   have e := gP (l := p) (t := [one op]) (k := 0) (x := one op) rfl
   rw [hp]; exact e
  have ho : S'.opn = [] := by
   have e := x3.stk
   rw [hp, Int.toNat_natCast, yw _ (Nat.le_refl _), F.nil] at e
   simpa using e
  have key : op = 20 ∧ (je (p ++ [one op]) (qI (p ++ [one op])) A.left S' A.v).kind = 3 ∧ (je (p ++ [one op]) (qI (p ++ [one op])) A.left S' A.v).err = 0 ∨ op = 22 ∧ (je (p ++ [one op]) (qI (p ++ [one op])) A.left S' A.v).kind = 4 ∧ (je (p ++ [one op]) (qI (p ++ [one op])) A.left S' A.v).err = 13 ∨
    (je (p ++ [one op]) (qI (p ++ [one op])) A.left S' A.v).kind = 4 ∧ (je (p ++ [one op]) (qI (p ++ [one op])) A.left S' A.v).err = 6 := by
   cases A.left with
   | zero =>
    rw [gS, if_neg hne]
    exact .inr (.inr ⟨rfl, rfl⟩)
   | succ m =>
    rw [gW, if_neg hne, hins]
    rcases h with rfl | rfl
    ·have e : doM (qI (p ++ [one 20])) S' A.v (one 20) = ⟨0, S'.pc, true, { S' with opn := [] }, A.v⟩ := by
      show ye _ S'.opn S' A.v = _
      rw [ho]; rfl
     rw [e]
     exact .inl ⟨rfl, rfl, rfl⟩
    ·exact .inr (.inl ⟨rfl, rfl, rfl⟩)
  rw [x1]
  exact ⟨by omega, fun h => absurd k2 h, fun _ => key⟩
 ·obtain ⟨y1, y2⟩ := b k2
  have k4 : A.kind = 4 := by omega
  exact ⟨by rw [y1]; exact k2, fun _ => ⟨k4, by rw [y1]; exact k4, y2⟩, fun h => absurd h k2⟩
end
end Go.Proofs.YtdlfmpmpmkffjaaGreatDoor
namespace Go.Proofs.YtdlfmpmpmkffjaaGreatDoor
open Go Go.Ae
theorem y8 (P l : List qF) : ∃ t, jX P l = P ++ t := ⟨_, rfl⟩
theorem Gg {L B A T T' : List qF} (h : L = B ++ T) (h2 : B = A ++ T') : L = A ++ (T' ++ T) := by rw [h, h2, List.append_assoc]
theorem X8 {P l L T : List qF} (h : L = jX P l ++ T) : Emb l L P.length (qx P P.length) := by
 subst h
 refine ⟨by rw [List.length_append, xk]; omega, fun i hi => ?_, ?_⟩
 ·have e := gP (l := P) (t := l.map (jc P.length) ++ T) (k := i) (x := jc P.length (qA l i)) (by
   rw [List.getElem?_append_left (by simpa using hi), List.getElem?_map, List.getElem?_eq_getElem hi, js hi]; rfl)
  rw [← List.append_assoc] at e
  exact e
 ·unfold jX
  rw [List.append_assoc, yw _ (Nat.le_refl _)]
theorem Je {P L T : List qF} {op : Int} (h : L = jX P [one op] ++ T) (ho : op ≠ 12 ∧ op ≠ 13) : qA L (P.length : Int) = one op ∧ qx L P.length = qx P P.length ∧ P.length < L.length := by
 have E := X8 h
 have e := E.ins 0 (by simp)
 have hle := E.le
 refine ⟨?_, E.st, by simp at hle; omega⟩
 rw [Nat.add_zero] at e
 rw [e]
 show jc P.length (one op) = one op
 exact if_neg (by show ¬ (op = 12 ∨ op = 13); omega)
theorem Xv {P l : List qF} (h : ∀ j, j < l.length → jE l (qx l j) (qA l j) = 0) (hn : qx l l.length = []) : qx (jX P l) (jX P l).length = qx P P.length := by
 have E := X8 (P := P) (l := l) (L := jX P l) (T := []) (List.append_nil _).symm
 rw [xk, E.stack h l.length (Nat.le_refl _), hn]
 simp
theorem Q7 {P : List qF} {op : Int} (ho : op ≠ 12 ∧ op ≠ 13) : qx (jX P [one op]) (jX P [one op]).length = jj (qx P P.length) P.length op := by
 obtain ⟨h1, h2, _⟩ := Je (P := P) (L := jX P [one op]) (T := []) (op := op) (List.append_nil _).symm ho
 rw [xk]
 show qx (jX P [one op]) (P.length + 1) = _
 rw [jk, h1, h2]
theorem Vs {L : List qF} (FL : Fit L) (QL : Quiet L) {n : Nat} {S : IM} {V : VM} {j : Nat} (G : GI L S V) (hj : S.pc = j) (hlt : j < L.length) (hf : frS V.lv + n < 9000) (hk : (je L (qI L) n S V).kind = 2) :
  ∃ m, n = m + 1 ∧ (doM (qI L) S V (qA L j)).e = 0 ∧ je L (qI L) n S V = je L (qI L) m { (doM (qI L) S V (qA L j)).s with pc := (doM (qI L) S V (qA L j)).nx } (doM (qI L) S V (qA L j)).v ∧
   GI L { (doM (qI L) S V (qA L j)).s with pc := (doM (qI L) S V (qA L j)).nx } (doM (qI L) S V (qA L j)).v ∧ frS (doM (qI L) S V (qA L j)).v.lv + m < 9000 := by
 cases n with
 | zero => rw [gS, if_neg (by omega)] at hk; cases hk
 | succ m =>
  have St := kO FL G hj hlt (by omega) (QL.at hlt).2 (QL.at hlt).1
  rw [gW, if_neg (show ¬ S.pc = L.length by omega), hj] at hk ⊢
  generalize doM (qI L) S V (qA L j) = D at *
  by_cases c0 : D.e = 0
  ·rw [if_pos c0] at hk ⊢
   cases hb : D.blk with
   | true => rw [hb, if_pos rfl] at hk; cases hk
   | false =>
    have := St.fr
    rw [if_neg (by simp)]
    exact ⟨m, rfl, c0, rfl, St.next c0 hb, by omega⟩
  ·rw [if_neg c0] at hk
   split at hk <;> cases hk
section
variable {p q r : List qF}
def x8 (p q r : List qF) : List qF := vM [p, [one 14], q, [one 16], [one 15], r]
def zi (p r : List qF) : List qF := vM [p, r]
structure Un (p q r : List qF) : Prop where
  bp : Bld true p []
  bq : Bld true q []
  br : Bld true r []
  p0 : 0 < p.length
  q0 : 0 < q.length
  r0 : 0 < r.length
  lp : p.length ≤ 11
  lq : q.length ≤ 12
  lr : r.length ≤ 11
theorem qXT (p : List qF) : jX [] p = p := by unfold jX; rw [List.length_nil, Us]; rfl
theorem V3 : x8 p q r = jX (jX (jX (jX (jX p [one 14]) q) [one 16]) [one 15]) r := by
 show jX (jX (jX (jX (jX (jX [] p) [one 14]) q) [one 16]) [one 15]) r = _
 rw [qXT]
theorem Kh : zi p r = jX p r := by
 show jX (jX [] p) r = _
 rw [qXT]
structure Where (p q r L : List qF) : Prop where
  len : L.length = p.length + q.length + 3 + r.length
  e1 : Emb p L 0 []
  i14 : qA L (p.length : Int) = one 14
  e2 : Emb q L (p.length + 1) [(p.length : Int)]
  i16 : qA L ((p.length + 1 + q.length : Nat) : Int) = one 16
  i15 : qA L ((p.length + q.length + 2 : Nat) : Int) = one 15
  e3 : Emb r L (p.length + q.length + 3) []
  s14 : qx L p.length = []
  s16 : qx L (p.length + 1 + q.length) = [(p.length : Int)]
  s15 : qx L (p.length + q.length + 2) = [(p.length : Int)]
  nil : qx L L.length = []
theorem Un.where (U : Un p q r) : Where p q r (x8 p q r) := by
 rw [V3]
 obtain ⟨T5, h5⟩ := y8 (jX (jX (jX (jX p [one 14]) q) [one 16]) [one 15]) r
 obtain ⟨T4, h4⟩ := y8 (jX (jX (jX p [one 14]) q) [one 16]) [one 15]
 obtain ⟨T3, h3⟩ := y8 (jX (jX p [one 14]) q) [one 16]
 obtain ⟨T2, h2⟩ := y8 (jX p [one 14]) q
 obtain ⟨T1, h1⟩ := y8 p [one 14]
 have L5 := h5
 have L4 := Gg L5 h4
 have L3 := Gg L4 h3
 have L2 := Gg L3 h2
 have L1 := Gg L2 h1
 have s1 : qx p p.length = [] := U.bp.top
 have s2 : qx (jX p [one 14]) (jX p [one 14]).length = [(p.length : Int)] := by rw [Q7 (by decide), s1]; rfl
 have s3 := Xv (P := jX p [one 14]) U.bq.wr U.bq.top
 rw [s2] at s3
 have s4 : qx (jX (jX (jX p [one 14]) q) [one 16]) (jX (jX (jX p [one 14]) q) [one 16]).length = [(p.length : Int)] := by rw [Q7 (by decide), s3]; rfl
 have s5 : qx (jX (jX (jX (jX p [one 14]) q) [one 16]) [one 15]) (jX (jX (jX (jX p [one 14]) q) [one 16]) [one 15]).length = [] := by rw [Q7 (by decide), s4]; rfl
 have s6 := Xv (P := jX (jX (jX (jX p [one 14]) q) [one 16]) [one 15]) U.br.wr U.br.top
 rw [s5] at s6
 have n1 : (jX p [one 14]).length = p.length + 1 := by rw [xk]; rfl
 have n2 : (jX (jX p [one 14]) q).length = p.length + 1 + q.length := by rw [xk, n1]
 have n3 : (jX (jX (jX p [one 14]) q) [one 16]).length = p.length + q.length + 2 := by rw [xk, n2]; show _ + 1 = _; omega
 have n4 : (jX (jX (jX (jX p [one 14]) q) [one 16]) [one 15]).length = p.length + q.length + 3 := by rw [xk, n3]; rfl
 have a2 := Je (P := p) L2 (by decide)
 have a3 := X8 (P := jX p [one 14]) L3
 have a4 := Je (P := jX (jX p [one 14]) q) L4 (by decide)
 have a5 := Je (P := jX (jX (jX p [one 14]) q) [one 16]) (L := jX (jX (jX (jX (jX p [one 14]) q) [one 16]) [one 15]) r) (T := T5) L5 (by decide)
 have a6 := X8 (P := jX (jX (jX (jX p [one 14]) q) [one 16]) [one 15]) (l := r) (T := []) (List.append_nil _).symm
 rw [s2, n1] at a3
 rw [s3, n2] at a4
 rw [s4, n3] at a5
 rw [s5, n4] at a6
 rw [s1] at a2
 refine ⟨by rw [xk, n4], by rw [L1]; exact Gz _ _, a2.1, a3, a4.1, a5.1, a6, a2.2.1, a4.2.1, a5.2.1, s6⟩
theorem Un.short_at (U : Un p q r) : Emb p (zi p r) 0 [] ∧ Emb r (zi p r) p.length [] ∧ (zi p r).length = p.length + r.length ∧ qx (zi p r) (zi p r).length = [] := by
 rw [Kh]
 obtain ⟨T, h⟩ := y8 p r
 have s1 : qx p p.length = [] := U.bp.top
 have a := X8 (P := p) (l := r) (T := []) (List.append_nil (jX p r)).symm
 have e := Xv (P := p) U.br.wr U.br.top
 rw [s1] at a e
 exact ⟨by rw [h]; exact Gz _ _, a, xk _ _, e⟩
end
end Go.Proofs.YtdlfmpmpmkffjaaGreatDoor
namespace Go.Proofs.YtdlfmpmpmkffjaaGreatDoor
open Go Go.Ae
theorem yh {P l : List qF} (h1 : Quiet P) (h2 : Quiet l) : Quiet (jX P l) := by
 intro x hx
 rcases List.mem_append.1 hx with hx | hx
 ·exact h1 x hx
 ·obtain ⟨y, hy, rfl⟩ := List.mem_map.1 hx
  have := h2 y hy
  unfold jc
  split
  ·exact this
  ·exact this
theorem vn {P l : List qF} (h1 : J1 P) (h2 : J1 l) : J1 (jX P l) := by
 intro x hx
 rcases List.mem_append.1 hx with hx | hx
 ·exact h1 x hx
 ·obtain ⟨y, hy, rfl⟩ := List.mem_map.1 hx
  rw [xP]; exact h2 y hy
theorem JX {op : Int} (h : op ≠ 23) : Quiet [one op] := by
 intro x hx
 rw [List.mem_singleton] at hx
 subst hx
 exact ⟨h, by show (0 : Int) ≤ 0; decide, by show (0 : Int) < 18446744073709551616; decide⟩
theorem XY {op : Int} (h : op ≠ 20) : J1 [one op] := by
 intro x hx
 rw [List.mem_singleton] at hx
 subst hx
 exact h
theorem qJ0 {L : List qF} {p : Nat} : opM L [(p : Int)] = (qA L (p : Int)).1 := rfl
theorem qKU {A B : VM} (h1 : A.sz = B.sz) (h2 : A.K = B.K) (h3 : A.most = B.most) (h4 : A.lv = B.lv) (h5 : A.need = B.need) : A = B := by
 cases A; cases B; dsimp only at *; subst h1 h2 h3 h4 h5; rfl
section
variable {p q r : List qF} {zs : List Int}
theorem Un.quiet (U : Un p q r) : Quiet (x8 p q r) ∧ J1 (x8 p q r) ∧ Quiet (zi p r) ∧ J1 (zi p r) := by
 rw [V3, Kh]
 have a := gu U.bp
 have b := gu U.bq
 have c := gu U.br
 have a' := gZ U.bp
 have b' := gZ U.bq
 have c' := gZ U.br
 exact ⟨yh (yh (yh (yh (yh a (JX (by decide))) b) (JX (by decide))) (JX (by decide))) c,
  vn (vn (vn (vn (vn a' (XY (by decide))) b') (XY (by decide))) (XY (by decide))) c', yh a c, vn a' c'⟩
theorem Un.check_long (U : Un p q r) : (zd (x8 p q r)).2 = 9 ∨ (zd (x8 p q r)).2 = 0 := by
 have W := U.where
 have h1 := U.lp
 have h2 := U.lq
 have h3 := U.lr
 have hl := W.len
 generalize x8 p q r = L at *
 have w14 : jE L (qx L p.length) (qA L (p.length : Int)) = 0 := by rw [W.s14, W.i14]; rfl
 have hop : opM L [(p.length : Int)] = 14 := by rw [qJ0, W.i14]
 have w16 : jE L (qx L (p.length + 1 + q.length)) (qA L ((p.length + 1 + q.length : Nat) : Int)) = 0 := by
  rw [W.s16, W.i16]
  unfold jE
  rw [hop]; rfl
 have w15 : jE L (qx L (p.length + q.length + 2)) (qA L ((p.length + q.length + 2 : Nat) : Int)) = 0 := by
  rw [W.s15, W.i15]
  unfold jE
  rw [hop]; rfl
 have cls : ∀ j, j < L.length → (∃ i, i < p.length ∧ j = 0 + i) ∨ j = p.length ∨ (∃ i, i < q.length ∧ j = p.length + 1 + i) ∨ j = p.length + 1 + q.length ∨ j = p.length + q.length + 2 ∨ ∃ i, i < r.length ∧ j = p.length + q.length + 3 + i := by
  intro j hj
  by_cases c1 : j < p.length
  ·exact .inl ⟨j, c1, by omega⟩
  by_cases c2 : j = p.length
  ·exact .inr (.inl c2)
  by_cases c3 : j < p.length + 1 + q.length
  ·exact .inr (.inr (.inl ⟨j - (p.length + 1), by omega, by omega⟩))
  by_cases c4 : j = p.length + 1 + q.length
  ·exact .inr (.inr (.inr (.inl c4)))
  by_cases c5 : j = p.length + q.length + 2
  ·exact .inr (.inr (.inr (.inr (.inl c5))))
  ·exact .inr (.inr (.inr (.inr (.inr ⟨j - (p.length + q.length + 3), by omega, by omega⟩))))
 have nj : ∀ {j : Nat} {op : Int}, qA L (j : Int) = one op → op ≠ 12 ∧ op ≠ 13 → ¬ vZ L (xq L 0 []) j (qA L (j : Int)) := by
  intro j op h ho hh
  rw [h] at hh
  have : op = 12 ∨ op = 13 := hh.1
  omega
 rcases Uw (l := L) (by omega) (by omega) (fun j hj => by
  rcases cls j hj with ⟨i, hi, rfl⟩ | rfl | ⟨i, hi, rfl⟩ | rfl | rfl | ⟨i, hi, rfl⟩
  ·exact (gK W.e1 U.bp (by omega) hi).imp id (·.2)
  ·exact .inl w14
  ·exact (gK W.e2 U.bq (by omega) hi).imp id (·.2)
  ·exact .inl w16
  ·exact .inl w15
  ·exact (gK W.e3 U.br (by omega) hi).imp id (·.2)) W.nil (fun j hj => by
  rcases cls j hj with ⟨i, hi, rfl⟩ | rfl | ⟨i, hi, rfl⟩ | rfl | rfl | ⟨i, hi, rfl⟩
  ·exact gc W.e1 U.bp W.nil hi
  ·exact nj W.i14 (by decide)
  ·exact gc W.e2 U.bq W.nil hi
  ·exact nj W.i16 (by decide)
  ·exact nj W.i15 (by decide)
  ·exact gc W.e3 U.br W.nil hi) with h | h
 ·exact .inl h.1
 ·exact .inr h.1
theorem Un.check_short (U : Un p q r) : (zd (zi p r)).2 = 0 := by
 obtain ⟨e1, e3, hl, hn⟩ := U.short_at
 have h1 := U.lp
 have h3 := U.lr
 have h0 := U.p0
 generalize zi p r = L at *
 have cls : ∀ j, j < L.length → (∃ i, i < p.length ∧ j = 0 + i) ∨ ∃ i, i < r.length ∧ j = p.length + i := by
  intro j hj
  by_cases c1 : j < p.length
  ·exact .inl ⟨j, c1, by omega⟩
  ·exact .inr ⟨j - p.length, by omega, by omega⟩
 have hw : ∀ j, j < L.length → jE L (qx L j) (qA L (j : Int)) = 0 := by
  intro j hj
  rcases cls j hj with ⟨i, hi, rfl⟩ | ⟨i, hi, rfl⟩
  ·exact (gK e1 U.bp (by omega) hi).resolve_right fun h => h.1 rfl
  ·exact (gK e3 U.br (by omega) hi).resolve_right fun h => h.1 rfl
 rcases Uw (l := L) (by omega) (by omega) (fun j hj => .inl (hw j hj)) hn (fun j hj => by
  rcases cls j hj with ⟨i, hi, rfl⟩ | ⟨i, hi, rfl⟩
  ·exact gc e1 U.bp hn hi
  ·exact gc e3 U.br hn hi) with ⟨_, j, hj, h9⟩ | h
 ·rw [hw j hj] at h9; cases h9
 ·exact h.1
theorem Ow (U : Un p q r) (hc : (zd (x8 p q r)).2 = 0) (hz : OkN zs) (hk : (vP (x8 p q r) 400 zs 96).kind = 2) :
  (vP (zi p r) 400 zs 96).kind = 2 ∧ (vP (zi p r) 400 zs 96).s.regs = (vP (x8 p q r) 400 zs 96).s.regs ∧ (vP (zi p r) 400 zs 96).s.out = (vP (x8 p q r) 400 zs 96).s.out ∧ (vP (zi p r) 400 zs 96).v = (vP (x8 p q r) 400 zs 96).v := by
 have W := U.where
 obtain ⟨es1, es3, hsl, hsn⟩ := U.short_at
 obtain ⟨QL, CL, QS, CS⟩ := U.quiet
 have FL := gk hc
 have FS := gk U.check_short
 have h1 := U.lp
 have h2 := U.lq
 have h3 := U.lr
 have hl := W.len
 have Fp : Fit p := gk (by rw [U.bp.fit U.p0 (by omega)])
 have Fq : Fit q := gk (by rw [U.bq.fit U.q0 (by omega)])
 have Fr : Fit r := gk (by rw [U.br.fit U.r0 (by omega)])
 have Cp := gZ U.bp
 have Cq := gZ U.bq
 have Cr := gZ U.br
 have f0 := kZ zs 96
 unfold vP at hk ⊢
 generalize x8 p q r = L at *
 generalize zi p r = T at *
 have GL := wy (l := L) (m := 96) hz
 have GT := wy (l := T) (m := 96) hz
 obtain ⟨a1, b1⟩ := kj W.e1 Fp FL QL Cp (o0 := []) rfl 400 (s := wi) (S := wi) (V := xJ zs 96) ⟨rfl, rfl, rfl, rfl⟩ GL ⟨0, rfl, Nat.zero_le _⟩ (by omega)
 obtain ⟨aT, _⟩ := kj es1 Fp FS QS Cp (o0 := []) rfl 400 (s := wi) (S := wi) (V := xJ zs 96) ⟨rfl, rfl, rfl, rfl⟩ GT ⟨0, rfl, Nat.zero_le _⟩ (by omega)
 generalize je p (qI p) 400 wi (xJ zs 96) = A1 at *
 have k1 : A1.kind = 2 := by
  by_cases h : A1.kind = 2
  ·exact h
  ·exact absurd ((b1 h).1.symm.trans hk) h
 obtain ⟨S1, x1, x2, x3, x4, x5, x6⟩ := a1 k1
 obtain ⟨T1, t1, t2, t3, t4, t5, t6⟩ := aT k1
 have hS1 : S1.pc = ((p.length : Nat) : Int) := by have := x2.pc; omega
 have hT1 : T1.pc = ((p.length : Nat) : Int) := by have := t2.pc; omega
 have oS1 : S1.opn = [] := by
  have e := x3.stk
  rw [hS1, Int.toNat_natCast, W.s14] at e
  simpa using e
 have oT1 : T1.opn = [] := by
  have e := t3.stk
  rw [hT1, Int.toNat_natCast, es3.st] at e
  simpa using e
 rw [x1] at hk ⊢
 rw [t1]
 obtain ⟨m1, hm1, c0, eq1, G2, f2⟩ := Vs FL QL x3 hS1 (by omega) x4 hk
 rw [W.i14] at c0 eq1 G2 f2
 have hd1 : doM (qI L) S1 A1.v (one 14) = ja 14 S1.pc (S1.pc + 1) S1 A1.v := rfl
 rw [hd1] at c0 eq1 G2 f2
 have hop : (xX A1.v).1 = 0 := by
  by_cases h : (xX A1.v).1 = 0
  ·exact h
  ·unfold ja at c0; rw [if_neg h] at c0; exact absurd c0 h
 have hb1 : ja 14 S1.pc (S1.pc + 1) S1 A1.v = ⟨0, S1.pc + 1, false, { S1 with opn := ⟨14, S1.pc, S1.regs, S1.out.length⟩ :: S1.opn }, (xX A1.v).2⟩ := by unfold ja; rw [if_pos hop]
 rw [hb1] at eq1 G2 f2
 dsimp only at eq1 G2 f2
 rw [oS1] at eq1 G2
 have hlv : (xX A1.v).2.lv = ([], []) :: A1.v.lv := by
  show (yB A1.v.lv).2 = _
  have p1 : (yB A1.v.lv).1 = 0 := hop
  unfold yB at p1 ⊢
  split at p1
  ·cases p1
  ·rename_i p2; rw [if_neg p2]
 rw [eq1] at hk ⊢
 clear hd1 hb1 c0
 have Sim2 : Sim (p.length + 1) [⟨14, S1.pc, S1.regs, S1.out.length⟩] ⟨S1.regs, S1.out, 0, []⟩ { S1 with pc := S1.pc + 1, opn := [⟨14, S1.pc, S1.regs, S1.out.length⟩] } := ⟨rfl, rfl, by show S1.pc + 1 = 0 + ((p.length + 1 : Nat) : Int); omega, rfl⟩
 obtain ⟨a2, b2⟩ := kj W.e2 Fq FL QL Cq rfl m1 Sim2 G2 ⟨0, rfl, Nat.zero_le _⟩ f2
 have kq := qKA (base := A1.v.lv) (t0 := S1.out) W.e2 Fq FL QL Cq rfl m1 Sim2 G2 ⟨0, rfl, Nat.zero_le _⟩ f2 ⟨by show (xX A1.v).2.lv.drop 1 = _; rw [hlv]; rfl, by rw [hlv]; show _ + 1 = 0 + 1 + _; omega, List.take_length, fun p hp => by cases hp⟩
 generalize je q (qI q) m1 ⟨S1.regs, S1.out, 0, []⟩ (xX A1.v).2 = A2 at *
 have k2 : A2.kind = 2 := by
  by_cases h : A2.kind = 2
  ·exact h
  ·exact absurd ((b2 h).1.symm.trans hk) h
 obtain ⟨S3, y1, y2, y3, y4, y5, y6⟩ := a2 k2
 obtain ⟨K3, m3⟩ := kq k2
 have oA2 : A2.s.opn = [] := by
  have e := Y6 W.e2 Fq y2 y3 y5 (Nat.le_refl _) rfl
  rw [Fq.nil] at e
  exact List.eq_nil_of_length_eq_zero e
 have hS3 : S3.pc = ((p.length + 1 + q.length : Nat) : Int) := by have := y2.pc; omega
 have oS3 : S3.opn = [⟨14, S1.pc, S1.regs, S1.out.length⟩] := by rw [y2.opn, oA2]; rfl
 rw [y1] at hk ⊢
 obtain ⟨m2, hm2, c0, eq2, G4, f4⟩ := Vs FL QL y3 hS3 (by omega) y4 hk
 rw [W.i16] at c0 eq2 G4 f4
 have hd2 : doM (qI L) S3 A2.v (one 16) = ⟨(zL A2.v).1, qU (qI L) S3.pc + 1, false, { vH S3 (w9 S3.opn) with opn := S3.opn.tail }, (zL A2.v).2⟩ := rfl
 rw [hd2] at c0 eq2 G4 f4
 dsimp only at c0 eq2 G4 f4
 have hmt : qU (qI L) S3.pc = ((p.length + q.length + 2 : Nat) : Int) := by
  rw [hS3]
  exact Vr FL (by omega) (by rw [W.i16]) (by omega) (by rw [W.i15]; decide) (by rw [W.s15, W.s16])
 have hv : (zL A2.v).2 = A1.v := by
  obtain ⟨d1, _⟩ := V2 c0
  have hlvq := K3.lv
  rw [oA2] at hlvq
  exact qKU m3.1 m3.2.1 m3.2.2.1 (by rw [d1, ← List.drop_one]; exact hlvq) m3.2.2.2
 have hbk : ({ vH S3 (w9 S3.opn) with opn := S3.opn.tail, pc := qU (qI L) S3.pc + 1 } : IM) = ⟨S1.regs, S1.out, qU (qI L) S3.pc + 1, []⟩ := by
  rw [oS3]
  show (⟨S1.regs, S3.out.take S1.out.length, _, []⟩ : IM) = _
  rw [y2.out, K3.out]
 rw [hbk, hv] at eq2 G4
 rw [hv] at f4
 rw [eq2] at hk ⊢
 have Sim4 : Sim (p.length + q.length + 3) [] ⟨S1.regs, S1.out, 0, []⟩ ⟨S1.regs, S1.out, qU (qI L) S3.pc + 1, []⟩ := ⟨rfl, rfl, by show _ + 1 = 0 + ((p.length + q.length + 3 : Nat) : Int); omega, rfl⟩
 obtain ⟨a3, b3⟩ := kj W.e3 Fr FL QL Cr rfl m2 Sim4 G4 ⟨0, rfl, Nat.zero_le _⟩ f4
 have k3 : (je r (qI r) m2 ⟨S1.regs, S1.out, 0, []⟩ A1.v).kind = 2 := by
  by_cases h : (je r (qI r) m2 ⟨S1.regs, S1.out, 0, []⟩ A1.v).kind = 2
  ·exact h
  ·exact absurd ((b3 h).1.symm.trans hk) h
 obtain ⟨S5, z1, z2, z3, z4, z5, z6⟩ := a3 k3
 have more := OY (l := r) (mt := qI r) m2 (A1.left - m2) k3
 rw [show m2 + (A1.left - m2) = A1.left by omega] at more
 have SimT : Sim p.length [] ⟨S1.regs, S1.out, 0, []⟩ T1 := ⟨t2.regs.trans x2.regs.symm, t2.out.trans x2.out.symm, by show T1.pc = 0 + ((p.length : Nat) : Int); omega, by rw [oT1]; rfl⟩
 obtain ⟨a5, _⟩ := kj es3 Fr FS QS Cr rfl A1.left SimT t3 ⟨0, rfl, Nat.zero_le _⟩ t4
 rw [more] at a5
 obtain ⟨T5, w1, w2, w3, w4, w5, w6⟩ := a5 k3
 have pS5 : S5.pc = L.length := by have := z2.pc; omega
 have pT5 : T5.pc = T.length := by have := w2.pc; dsimp only at w5 this; omega
 rw [z1, Qy pS5, w1, Qy pT5]
 exact ⟨rfl, w2.regs.trans z2.regs.symm, w2.out.trans z2.out.symm, rfl⟩
end
end Go.Proofs.YtdlfmpmpmkffjaaGreatDoor
namespace Go.Proofs.YtdlfmpmpmkffjaaGreatDoor
open Go Go.Ae
set_option maxRecDepth 100000
theorem Gc {h : AH} {d : Nat} {v : AV} (H : WT Tryz.prog h (d + 3) 43 [v]) : ∃ ks : List qF, Sl (fun b => b < h.nx) h 5 ks.length v (ks.flatMap jY) ∧ ∀ x ∈ ks, 0 ≤ x.2.2.2.2 ∧ x.2.2.2.2 < 18446744073709551616 := by
 obtain ⟨q, xs, S, _, H2⟩ := KF (sz := 5) Tryz.underlying43 (by kernel_rfl) (by omega) H
 obtain ⟨ks, g1, g3, rfl⟩ := Kl (α := qF) (Pr := fun x => 0 ≤ x.2.2.2.2 ∧ x.2.2.2.2 < 18446744073709551616) jY S.len (fun i hi => by
  have := H2 i hi
  generalize (xs.drop (i * 5)).take 5 = row at this
  unfold WT at this
  simp only [Tryz.underlying115] at this
  obtain ⟨g1, g2⟩ := this
  rw [show Tryz.prog.cellsOf 115 = 5 by kernel_rfl] at g1
  match row, g1 with
  | [x, y, z, u, t], _ =>
   have f1 := g2 _ (List.mem_cons_self ..)
   have f2 := g2 _ (List.mem_cons_of_mem _ (List.mem_cons_self ..))
   have f3 := g2 _ (List.mem_cons_of_mem _ (List.mem_cons_of_mem _ (List.mem_cons_self ..)))
   have f4 := g2 _ (List.mem_cons_of_mem _ (List.mem_cons_of_mem _ (List.mem_cons_of_mem _ (List.mem_cons_self ..))))
   have f5 := g2 _ (List.mem_cons_of_mem _ (List.mem_cons_of_mem _ (List.mem_cons_of_mem _ (List.mem_cons_of_mem _ (List.mem_cons_self ..)))))
   rw [show Tryz.prog.cellsOf 3 = 1 by kernel_rfl] at f1 f2 f3 f4
   rw [show Tryz.prog.cellsOf 26 = 1 by kernel_rfl] at f5
   unfold WT at f1 f2 f3 f4 f5
   simp only [Tryz.underlying3, List.drop_zero, List.take_succ_cons, List.take_zero, List.drop_succ_cons] at f1 f2 f3 f4
   simp only [Tryz.underlying26, List.drop_succ_cons, List.drop_zero, List.take_succ_cons, List.take_zero] at f5
   obtain ⟨a, ha, _⟩ := f1
   obtain ⟨b, hb, _⟩ := f2
   obtain ⟨c, hc, _⟩ := f3
   obtain ⟨d, hd, _⟩ := f4
   obtain ⟨e, he, c5⟩ := f5
   cases ha; cases hb; cases hc; cases hd; cases he
   exact ⟨(a, b, c, d, e), ⟨c5.1, Int.lt_of_le_of_lt c5.2 (by decide)⟩, rfl⟩)
 exact ⟨ks, g1 ▸ S, g3⟩
end Go.Proofs.YtdlfmpmpmkffjaaGreatDoor
namespace Go.Proofs.YtdlfmpmpmkffjaaGreatDoor.interpUndo
open Go Go.Ae
set_option maxRecDepth 100000
variable {g h : AH} {L R : List SP}
theorem Xi {calm : Bool} {l : List qF} (B : Bld calm l []) : ∀ x ∈ l, (x.1 = 12 ∨ x.1 = 13) → 0 ≤ x.2.2.2.1 ∧ x.2.2.2.1 ≤ 40 := fun x hx _ => (YF (B.ok x hx).may (B.ok x hx).no).2.2.2.1
theorem XB {op : Int} : ∀ x ∈ [one op], (x.1 = 12 ∨ x.1 = 13) → 0 ≤ x.2.2.2.1 ∧ x.2.2.2.1 ≤ 40 := by
 intro x hx _
 rw [List.mem_singleton] at hx
 subst hx
 exact ⟨Int.le_refl _, by show (0 : Int) ≤ 40; decide⟩
theorem law {k : Nat} (hk : 24 ≤ k) {x : Int} {a0 a1 a2 a4 a5 : AV} {ka kb kc : List qF} {rs bs : List Int} (Z0 : Sl (fun b => b < h.nx) h 5 ka.length a0 (ka.flatMap jY)) (hN0 : ∀ x ∈ ka, 0 ≤ x.2.2.2.2 ∧ x.2.2.2.2 < 18446744073709551616)
  (Z1 : Sl (fun b => b < h.nx) h 5 kb.length a1 (kb.flatMap jY)) (hN1 : ∀ x ∈ kb, 0 ≤ x.2.2.2.2 ∧ x.2.2.2.2 < 18446744073709551616)
  (Z2 : Sl (fun b => b < h.nx) h 5 kc.length a2 (kc.flatMap jY)) (hN2 : ∀ x ∈ kc, 0 ≤ x.2.2.2.2 ∧ x.2.2.2.2 < 18446744073709551616)
  (Z4 : Sl (fun b => b < h.nx) h 1 rs.length a4 (rs.map (.int .u64))) (hr : ∀ z ∈ rs, 0 ≤ z ∧ z < 18446744073709551616)
  (Z5 : Sl (fun b => b < h.nx) h 1 bs.length a5 (bs.map (.int .u8))) (hb : ∀ z ∈ bs, 0 ≤ z ∧ z ≤ 255) :
  wp (W5 (vX 3 (callT tab qS k)) [a0, a1, a2, .int .i64 x, a4, a5] h) fun v _ => v = .bool true := by
 show wp (S5 (vX _ (callT tab qS _)) _ _ _ _ _ _ _) _
 unfold S5
 try simp only [iI, uU, Int.ofNat_eq_natCast]
 refine qKL ?_
 refine zV ?_; refine qQ ?_
 refine zu (by decide) (US (by omega) (HS.nil h) (Rd.arg Z4) hr (Rd.arg Z5) hb) ?_
 rintro wv h1 ⟨zs, hz, hz1, hz2, hsh, hro, H1⟩
 refine zu (by decide) (XJ (calm := true) (most := ((11 : Nat) : Int)) (by omega) hN0 (by omega) H1 (Rd.arg Z0)) ?_
 rintro _ h2 ⟨pa, p, rfl, Bp, hp0, hp1, H2⟩
 refine zu (by decide) (XJ (calm := true) (most := ((12 : Nat) : Int)) (by omega) hN1 (by omega) H2 (Rd.arg Z1)) ?_
 rintro _ h3 ⟨pb, q, rfl, Bq, hq0, hq1, H3⟩
 refine zu (by decide) (XJ (calm := true) (most := ((11 : Nat) : Int)) (by omega) hN2 (by omega) H3 (Rd.arg Z2)) ?_
 rintro _ h4 ⟨pc, r, rfl, Br, hr0, hr1, H4⟩
 have U : Un p q r := ⟨Bp, Bq, Br, hp0, hq0, hr0, by omega, by omega, by omega⟩
 have oc := H4.one (e := 28) (sz := 5) (n := r.length) .here
 have ob := H4.one (e := 28) (sz := 5) (n := q.length) e_1
 have oa := H4.one (e := 28) (sz := 5) (n := p.length) e_2
 refine jQ H4 rfl fun b1 h5 H5 => jQ H5 rfl fun b2 h6 H6 => jQ H6 rfl fun b3 h7 H7 => ?_
 refine jD H7 (b := b1) e_2 rfl (by simp) (by show jz [pa] = true; simp [jz, oa.2]) fun h8 H8 => ?_
 refine jD H8 (b := b2) e_2 rfl (by simp) (by show jz [pb] = true; simp [jz, ob.2]) fun h9 H9 => ?_
 refine jD H9 (b := b3) e_2 rfl (by simp) (by show jz [pc] = true; simp [jz, oc.2]) fun h10 H10 => ?_
 have HA : HS h h10 (qc b3 [pc] :: qc b2 [pb] :: qc b1 [pa] :: zN pc r :: zN pb q :: zN pa p :: qa 26 1 zs.length wv (zs.map (.int .u64)) :: []) := H10
 clear H1 H2 H3 H4 H5 H6 H7 H8 H9 H10
 with_reducible (refine qW ?_; (try dsimp only))
 refine jK HA (b := b1) (off := 0) e_2 rfl (by omega) (l := [pa]) rfl ?_
 refine zu (by decide) (Gj (by omega) HA) ?_
 rintro _ hb1 ⟨o1, rfl, HB⟩
 refine jK HB (b := b2) (off := 0) e_2 rfl (by omega) (l := [pb]) rfl ?_
 refine zu (by decide) (Gj (by omega) HB) ?_
 rintro _ hc1 ⟨o2, rfl, HC⟩
 refine zu (by decide) (Gj (by omega) HC) ?_
 rintro _ hd1 ⟨o3, rfl, HD⟩
 refine jK HD (b := b3) (off := 0) e_3 rfl (by omega) (l := [pc]) rfl ?_
 have oo3 := HD.one (e := 28) (sz := 5) (n := 1) .here
 have oo2 := HD.one (e := 28) (sz := 5) (n := 1) e_1
 have oo1 := HD.one (e := 28) (sz := 5) (n := 1) e_2
 refine jw (n := 6) (l := [pa, o1, pb, o2, o3, pc]) (sz := 1) HD rfl rfl rfl (by simp [jz, oa.2, ob.2, oc.2, oo1.2, oo2.2, oo3.2]) fun jv he1 HE => ?_
 obtain ⟨ej, HE⟩ : ∃ e : TypeId, HS h he1 (qa e 1 6 jv [pa, o1, pb, o2, o3, pc] :: _) := ⟨_, HE⟩
 refine zu (by decide) (KQ (ps := [(pa, p), (o1, [one 14]), (pb, q), (o2, [one 16]), (o3, [one 15]), (pc, r)]) (by omega) HE (HE.rd .here) (fun w hw => by
  simp only [List.mem_cons, List.not_mem_nil, or_false] at hw
  rcases hw with rfl | rfl | rfl | rfl | rfl | rfl
  ·exact HE.rd (e := 28) (sz := 5) (n := p.length) e_9
  ·exact HE.rd (e := 28) (sz := 5) (n := 1) e_3
  ·exact HE.rd (e := 28) (sz := 5) (n := q.length) e_8
  ·exact HE.rd (e := 28) (sz := 5) (n := 1) e_2
  ·exact HE.rd (e := 28) (sz := 5) (n := 1) e_1
  ·exact HE.rd (e := 28) (sz := 5) (n := r.length) e_7) (fun w hw => by
  simp only [List.mem_cons, List.not_mem_nil, or_false] at hw
  rcases hw with rfl | rfl | rfl | rfl | rfl | rfl
  ·exact Xi Bp
  ·exact XB
  ·exact Xi Bq
  ·exact XB
  ·exact XB
  ·exact Xi Br) (fun w hw => by
  simp only [List.mem_cons, List.not_mem_nil, or_false] at hw
  rcases hw with rfl | rfl | rfl | rfl | rfl | rfl
  ·show p.length ≤ 40; omega
  ·show 1 ≤ 40; decide
  ·show q.length ≤ 40; omega
  ·show 1 ≤ 40; decide
  ·show 1 ≤ 40; decide
  ·show r.length ≤ 40; omega) (by show 6 ≤ 20; decide)) ?_
 rintro _ hf1 ⟨lj, rfl, HF⟩
 have HF : HS h hf1 (zN lj (x8 p q r) :: _) := HF
 have olj := HF.one (e := 28) (sz := 5) (n := (x8 p q r).length) .here
 refine jQ HF rfl fun b4 hg1 HG => ?_
 refine jD HG (b := b4) .here rfl (by simp) (by show jz [lj] = true; simp [jz, olj.2]) fun hh1 HH => ?_
 have HH : HS h hh1 (qc b4 [lj] :: zN lj (x8 p q r) :: _) := HH
 refine jt HC (b := b3) e_2 rfl HD e_3 rfl rfl (by omega) (HS.lt HA .here) ?_
 refine jt HB (b := b3) e_1 rfl HC e_2 rfl rfl (by omega) (HS.lt HA .here) ?_
 refine jt HA (b := b3) .here rfl HB e_1 rfl rfl (by omega) (HS.lt HA .here) ?_
 refine jt HC (b := b2) e_3 rfl HD e_4 rfl rfl (by omega) (HS.lt HA e_1) ?_
 refine jt HB (b := b2) e_2 rfl HC e_3 rfl rfl (by omega) (HS.lt HA e_1) ?_
 refine jt HA (b := b2) e_1 rfl HB e_2 rfl rfl (by omega) (HS.lt HA e_1) ?_
 refine jt HC (b := b1) e_4 rfl HD e_5 rfl rfl (by omega) (HS.lt HA e_2) ?_
 refine jt HB (b := b1) e_3 rfl HC e_4 rfl rfl (by omega) (HS.lt HA e_2) ?_
 refine jt HA (b := b1) e_2 rfl HB e_3 rfl rfl (by omega) (HS.lt HA e_2) ?_
 clear HA HB HC HD HE HF HG
 refine jK HH (b := b1) (off := 0) e_8 rfl (by omega) (l := [pa]) rfl ?_
 refine jK HH (b := b3) (off := 0) e_6 rfl (by omega) (l := [pc]) rfl ?_
 refine jw (n := 2) (l := [pa, pc]) (sz := 1) HH rfl rfl rfl (by simp [jz, oa.2, oc.2]) fun kv hi1 HI => ?_
 obtain ⟨ek, HI⟩ : ∃ e : TypeId, HS h hi1 (qa e 1 2 kv [pa, pc] :: _) := ⟨_, HI⟩
 refine zu (by decide) (KQ (ps := [(pa, p), (pc, r)]) (by omega) HI (HI.rd .here) (fun w hw => by
  simp only [List.mem_cons, List.not_mem_nil, or_false] at hw
  rcases hw with rfl | rfl
  ·exact HI.rd (e := 28) (sz := 5) (n := p.length) e_12
  ·exact HI.rd (e := 28) (sz := 5) (n := r.length) e_10) (fun w hw => by
  simp only [List.mem_cons, List.not_mem_nil, or_false] at hw
  rcases hw with rfl | rfl
  ·exact Xi Bp
  ·exact Xi Br) (fun w hw => by
  simp only [List.mem_cons, List.not_mem_nil, or_false] at hw
  rcases hw with rfl | rfl
  ·show p.length ≤ 40; omega
  ·show r.length ≤ 40; omega) (by show 2 ≤ 20; decide)) ?_
 rintro _ hj1 ⟨ls, rfl, HJ⟩
 have HJ : HS h hj1 (zN ls (zi p r) :: _) := HJ
 have ols := HJ.one (e := 28) (sz := 5) (n := (zi p r).length) .here
 refine jQ HJ rfl fun b5 hk1 HK => ?_
 refine jD HK (b := b5) .here rfl (by simp) (by show jz [ls] = true; simp [jz, ols.2]) fun hl1 HL => ?_
 have HL : HS h hl1 (qc b5 [ls] :: zN ls (zi p r) :: _) := HL
 clear HH HI HJ HK
 refine jK HL (b := b4) (off := 0) e_3 rfl (by omega) (l := [lj]) rfl ?_
 have hlen := U.where.len
 refine zu (by decide) (Q5 (by omega) HL (HL.rd (e := 28) (sz := 5) (n := (x8 p q r).length) e_4) (by have := U.lp; have := U.lq; have := U.lr; omega)) ?_
 rintro _ hm1 ⟨rfl, HM⟩
 refine qH rfl (qH rfl ?_)
 rcases U.check_long with hc | hc
 ·rw [hc]
  with_reducible (refine zB (by omega) ?_; refine qY ?_; refine qM (by omega) ?_)
  exact qk rfl
 rw [hc]
 with_reducible (refine zk (by omega) ?_; refine qQ ?_)
 have hcs := U.check_short
 obtain ⟨QL, CL, QS, CS⟩ := U.quiet
 have FL := gk hc
 have GL := wy (l := x8 p q r) (m := 96) hz
 have GS := wy (l := zi p r) (m := 96) hz
 have f0 := kZ zs 96
 have RL := Gw FL QL 400 GL (by omega)
 have RS := Gw (gk hcs) QS 400 GS (by omega)
 have n1 := Yo FL QL (n := 400) (zs := zs) (m := 96) GL rfl rfl (by omega)
 have n3 := KC FL QL CL 400 GL (by omega)
 have main := Ow U hc hz
 refine jK HM (b := b4) (off := 0) e_3 rfl (by omega) (l := [lj]) rfl ?_
 refine zu (by decide) (V6 (zs := zs) (fuel := ((400 : Nat) : Int)) (by omega) HM (HM.rd (e := 28) (sz := 5) (n := (x8 p q r).length) e_4) (HM.rd e_15) hz hc QL) ?_
 rintro _ hn1 ⟨xp, vp, nx, rfl, HN⟩
 refine qH rfl (qH rfl (qH rfl ?_))
 refine jK HN (b := b5) (off := 0) e_2 rfl (by omega) (l := [ls]) rfl ?_
 refine zu (by decide) (V6 (zs := zs) (fuel := ((400 : Nat) : Int)) (by omega) HN (HN.rd (e := 28) (sz := 5) (n := (zi p r).length) e_3) (HN.rd e_17) hz hcs QS) ?_
 rintro _ ho1 ⟨yp, up, nx2, rfl, HO⟩
 refine qH rfl (qH rfl (qH rfl ?_))
 rw [show gj ((400 : Nat) : Int) = 400 by decide] at HO ⊢
 unfold vP at main
 unfold K9 at HO ⊢
 generalize je (x8 p q r) (qI (x8 p q r)) 400 wi (xJ zs 96) = RM at *
 generalize je (zi p r) (qI (zi p r)) 400 wi (xJ zs 96) = SM at *
 clear HL HM HN
 obtain ⟨BL, fL, _, _, kL⟩ := RL
 obtain ⟨BS, fS, _⟩ := RS
 by_cases k2 : RM.kind = 2
 ·obtain ⟨m1, m2, m3, m4⟩ := main k2
  clear main
  with_reducible (refine zk (by omega) ?_; refine qQ ?_; refine qM (by omega) ?_; refine qW ?_; (try dsimp only); refine jV ?_; (try dsimp only))
  refine zu (by decide) (ZS (by omega) BL.gb m2 m3 BL.good.ok BS.good.ok (by rw [m4]) (by rw [m4]) (by omega) HO) ?_
  rintro _ hp1 ⟨rfl, _⟩
  refine qd ?_
  exact qk rfl
 ·clear main
  have k4 : RM.kind = 4 := by omega
  with_reducible (refine zB (by omega) ?_; refine qY ?_; refine qM (by omega) ?_)
  exact qk rfl
theorem told {h : AH} {l : List AV} (H : WTs Tryz.prog h 8 Tryz.f5.params.toList l) : wp (W5 (vX 3 (callT tab qS 60)) l h) fun v _ => v = .bool true := by
 have e : Tryz.f5.params.toList = [43, 43, 43, 3, 38, 44] := by kernel_rfl
 rw [e] at H
 obtain ⟨a0, a1, a2, a3, a4, a5, rfl, H0, H1, H2, H3, H4, H5⟩ := WTs6 H
 simp only [WTV, Tryz.underlying3, Tryz.underlying4, Tryz.underlying5, Tryz.underlying26, Tryz.underlying38, Tryz.underlying43, Tryz.underlying44, Tryz.underlying115] at H0 H1 H2 H3 H4 H5
 obtain ⟨ka, Z0, N0⟩ := Gc H0
 obtain ⟨kb, Z1, N1⟩ := Gc H1
 obtain ⟨kc, Z2, N2⟩ := Gc H2
 obtain ⟨rs, Z4, b1⟩ := V7 Tryz.underlying38 Tryz.underlying26 (by kernel_rfl) H4
 obtain ⟨bs, Z5, b2⟩ := V7 Tryz.underlying44 Tryz.underlying5 (by kernel_rfl) H5
 unfold WT at H3
 simp only [Tryz.underlying3] at H3
 obtain ⟨x, hx, _⟩ := H3
 cases hx
 exact law (by omega) Z0 N0 Z1 N1 Z2 N2 Z4 (fun z hz => ⟨(b1 z hz).1, Int.lt_of_le_of_lt (b1 z hz).2 (by decide)⟩) Z5 b2
end Go.Proofs.YtdlfmpmpmkffjaaGreatDoor.interpUndo
