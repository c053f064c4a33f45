/- Lemmas for 'quietus/quietuslaw21.InterpFuel': Programs that are drawn: they may run. The plain law; The words of a heap out of drawn ones; Programs that are drawn: by the books own code; Programs that are drawn: parts shut; all of it; A programs run on a whole heap, as the laws of 21 do it; two that are alike; A program that is drawn, as an argument; InterpFuel comes to true for every argument: its own walk. No condition. -/
import Derived.Test.YtdlfmpmpmkffjaaGreatDoorInterpFuelM2
import Derived.Test.YtdlfmpmpmkffjaaGreatDoorInterpFuelM1
namespace Go.Proofs.YtdlfmpmpmkffjaaGreatDoor
open Go Go.Ae
theorem kF {l t : List qd} {j : Nat} (h : j < l.length) : qb (l ++ t) (j : Int) = qb l (j : Int) := by
  unfold qb
  rw [Int.toNat_natCast, List.getElem?_append_left h]
theorem wB {l t : List qd} {k : Nat} {x : qd} (h : t[k]? = some x) : qb (l ++ t) ((l.length + k : Nat) : Int) = x := by
  unfold qb
  rw [Int.toNat_natCast, List.getElem?_append_right (by omega), show l.length + k - l.length = k by omega, h]; rfl
theorem vv {l t : List qd} : ∀ i, i ≤ l.length → qF (l ++ t) i = qF l i := by
  intro i
  induction i with
  | zero => intro _; rfl
  | succ i ih =>
    intro h
    rw [jw, jw, ih (by omega), kF (by omega)]
theorem ZT {l t : List qd} {st : List Int} (h : StOk l.length st) : opM (l ++ t) st = opM l st := by
  unfold opM
  by_cases h0 : st = []
  · rw [if_pos h0, if_pos h0]
  · rw [if_neg h0, if_neg h0]
    have hb := h.inmost h0
    obtain ⟨p, hp⟩ : ∃ p : Nat, jz st = p := ⟨(jz st).toNat, by omega⟩
    rw [hp, kF (by omega)]
theorem XC {l t : List qd} {st : List Int} {x : qd} (h : StOk l.length st) : jn (l ++ t) st x = jn l st x := by
  unfold jn
  rw [ZT h]
theorem StOk.mono {i j : Nat} {st : List Int} (h : StOk i st) (hij : i ≤ j) : StOk j st := fun y hy => by have := h y hy; omega
def Og (l : List qd) (calm : Bool) (j : Nat) (x : qd) : Prop := (x.1 = 12 ∨ x.1 = 13) → ∃ c : Nat, x.2.2.2.1 = c ∧ c ≤ l.length ∧ qF l c = qF l j ∧ (calm = true → j < c)
structure QQ (calm : Bool) (x : qd) : Prop where
  may : xP x = true
  no : x.1 ≠ 23
  n : 0 ≤ x.2.2.2.2 ∧ x.2.2.2.2 < 18446744073709551616
  cal : calm = true → x.1 ≠ 20 ∧ x.1 ≠ 22 ∧ x.1 ≠ 12
structure Bld (calm : Bool) (l : List qd) (st : List Int) : Prop where
  ok : ∀ x ∈ l, QQ calm x
  wr : ∀ j, j < l.length → jn l (qF l j) (qb l j) = 0
  top : qF l l.length = st
  jp : ∀ j, j < l.length → Og l calm j (qb l j)
  five : st.length ≤ 5
def jC (l : List qd) (st : List Int) : List Int := st.map fun p => (qb l p).1
theorem wb {l t : List qd} {st : List Int} (h : StOk l.length st) : jC (l ++ t) st = jC l st := by
  unfold jC
  refine List.map_congr_left fun p hp => ?_
  have := h p hp
  obtain ⟨q, rfl⟩ : ∃ q : Nat, p = q := ⟨p.toNat, by omega⟩
  rw [kF (by omega)]
theorem Bld.stok {calm : Bool} {l : List qd} {st : List Int} (B : Bld calm l st) : StOk l.length st := by rw [← B.top]; exact (QS l.length).1
theorem Bld.nil (calm : Bool) : Bld calm [] [] := ⟨fun x hx => (by cases hx), fun j hj => (by simp at hj), rfl, fun j hj => (by simp at hj), (by simp)⟩
theorem Bld.ext {calm : Bool} {l t : List qd} {st : List Int} (B : Bld calm l st) (h1 : ∀ x ∈ t, QQ calm x) (h2 : ∀ k, k < t.length → jn (l ++ t) (qF (l ++ t) (l.length + k)) (qb (l ++ t) ((l.length + k : Nat) : Int)) = 0)
    (h3 : ∀ k, k < t.length → Og (l ++ t) calm (l.length + k) (qb (l ++ t) ((l.length + k : Nat) : Int))) (h5 : (qF (l ++ t) (l ++ t).length).length ≤ 5) : Bld calm (l ++ t) (qF (l ++ t) (l ++ t).length) := by
  refine ⟨?_, ?_, rfl, ?_, h5⟩
  · intro x hx
    rcases List.mem_append.1 hx with hx | hx
    · exact B.ok x hx
    · exact h1 x hx
  · intro j hj
    by_cases hjl : j < l.length
    · rw [vv j (by omega), kF hjl, XC ((QS j).1.mono (by omega))]
      exact B.wr j hjl
    · have := h2 (j - l.length) (by simp at hj; omega)
      rwa [show l.length + (j - l.length) = j by omega] at this
  · intro j hj
    by_cases hjl : j < l.length
    · intro ho
      rw [kF hjl] at ho ⊢
      obtain ⟨c, c1, c2, c3, c4⟩ := B.jp j hjl ho
      exact ⟨c, c1, by simp; omega, by rw [vv c c2, vv j (by omega)]; exact c3, c4⟩
    · have := h3 (j - l.length) (by simp at hj; omega)
      rwa [show l.length + (j - l.length) = j by omega] at this
theorem Mv {l : List qd} {x : qd} : qF (l ++ [x]) (l.length + 1) = jY (qF l l.length) l.length x.1 := by
  have e := wB (l := l) (t := [x]) (k := 0) (x := x) rfl
  rw [Nat.add_zero] at e
  rw [jw, vv _ (Nat.le_refl _), e]
theorem Bld.app {calm : Bool} {l : List qd} {st : List Int} (B : Bld calm l st) {x : qd} (h1 : QQ calm x) (h2 : jn l st x = 0) (h3 : x.1 ≠ 12 ∧ x.1 ≠ 13) (h5 : (jY st l.length x.1).length ≤ 5) : Bld calm (l ++ [x]) (jY st l.length x.1) := by
  have e := wB (l := l) (t := [x]) (k := 0) (x := x) rfl
  rw [Nat.add_zero] at e
  have hs : qF (l ++ [x]) (l ++ [x]).length = jY st l.length x.1 := by
    rw [List.length_append, List.length_singleton, Mv, B.top]
  rw [← hs] at h5 ⊢
  refine B.ext (by intro y hy; rw [List.mem_singleton] at hy; subst hy; exact h1) ?_ ?_ h5
  · intro k hk
    obtain rfl : k = 0 := by simpa using hk
    rw [Nat.add_zero, e, vv _ (Nat.le_refl _), B.top, XC B.stok]
    exact h2
  · intro k hk
    obtain rfl : k = 0 := by simpa using hk
    rw [Nat.add_zero, e]
    intro ho
    omega
def Flat (op : Int) : Prop := op ≠ 14 ∧ op ≠ 15 ∧ op ≠ 16 ∧ op ≠ 17 ∧ op ≠ 18 ∧ op ≠ 19
theorem Flat.behind {op : Int} (h : Flat op) (st : List Int) (i : Int) : jY st i op = st := by
  obtain ⟨h1, h2, h3, h4, h5, h6⟩ := h
  unfold jY
  rw [if_neg (by unfold zw; simp; omega), if_neg (by unfold jR; rw [if_neg h2, if_neg h5, if_neg h6]; omega)]
theorem Flat.wrong {x : qd} (h : Flat x.1) (hm : xP x = true) (l : List qd) (st : List Int) : jn l st x = 0 := by
  obtain ⟨h1, h2, h3, h4, h5, h6⟩ := h
  unfold jn
  rw [if_neg (by rw [hm]; simp), if_neg (fun hh => by have := hh.1; unfold jR at this; rw [if_neg h2, if_neg h5, if_neg h6] at this; omega), if_neg (fun hh => h3 hh.1),
    if_neg (fun hh => by have := hh.1; unfold zw at this; simp at this; omega)]
theorem Bld.flat {calm : Bool} {l : List qd} {st : List Int} (B : Bld calm l st) {x : qd} (h1 : QQ calm x) (hf : Flat x.1) (h3 : x.1 ≠ 12 ∧ x.1 ≠ 13) : Bld calm (l ++ [x]) st := by
  have := B.app h1 (hf.wrong h1.may l st) h3 (by rw [hf.behind]; exact B.five)
  rwa [hf.behind] at this
theorem Bld.two {calm : Bool} {l : List qd} {st : List Int} (B : Bld calm l st) {x y : qd} (hx : QQ calm x) (hy : QQ calm y) (fx : Flat x.1) (fy : Flat y.1)
    (jx : (x.1 = 12 ∨ x.1 = 13) → x.2.2.2.1 = ((l.length + 2 : Nat) : Int)) (jy : (y.1 = 12 ∨ y.1 = 13) → y.2.2.2.1 = (l.length : Int) ∧ calm = false) : Bld calm (l ++ [x, y]) st := by
  have e0 := wB (l := l) (t := [x, y]) (k := 0) (x := x) rfl
  have e1 := wB (l := l) (t := [x, y]) (k := 1) (x := y) rfl
  rw [Nat.add_zero] at e0
  have s0 : qF (l ++ [x, y]) l.length = st := by rw [vv _ (Nat.le_refl _), B.top]
  have s1 : qF (l ++ [x, y]) (l.length + 1) = st := by rw [jw, s0, e0, fx.behind]
  have s2 : qF (l ++ [x, y]) (l.length + 2) = st := by rw [show l.length + 2 = l.length + 1 + 1 from rfl, jw, s1, e1, fy.behind]
  have hs : qF (l ++ [x, y]) (l ++ [x, y]).length = st := by rw [List.length_append]; exact s2
  have := B.ext (t := [x, y]) (by intro z hz; simp at hz; rcases hz with rfl | rfl; exact hx; exact hy) (fun k hk => by
    have hk : k = 0 ∨ k = 1 := by simp at hk; omega
    rcases hk with rfl | rfl
    · rw [Nat.add_zero, e0]; exact fx.wrong hx.may _ _
    · rw [e1]; exact fy.wrong hy.may _ _) (fun k hk => by
    have hk : k = 0 ∨ k = 1 := by simp at hk; omega
    rcases hk with rfl | rfl
    · rw [Nat.add_zero, e0]
      intro ho
      exact ⟨l.length + 2, jx ho, by simp, by rw [s2, s0], fun _ => by omega⟩
    · rw [e1]
      intro ho
      obtain ⟨a, b⟩ := jy ho
      exact ⟨l.length, a, by simp, by rw [s0, s1], fun h => by rw [b] at h; cases h⟩) (by rw [hs]; exact B.five)
  rwa [hs] at this
abbrev one (op : Int) : qd := (op, 0, 0, 0, 0)
theorem KM (calm : Bool) {op : Int} (h : op = 14 ∨ op = 15 ∨ op = 16 ∨ op = 17 ∨ op = 18 ∨ op = 19) : QQ calm (one op) := by
  refine ⟨?_, by dsimp only; omega, by dsimp only; omega, fun _ => by dsimp only; omega⟩
  rcases h with rfl | rfl | rfl | rfl | rfl | rfl <;> decide
theorem Bld.begin {calm : Bool} {l : List qd} {st : List Int} (B : Bld calm l st) {op : Int} (h : op = 14 ∨ op = 17) (h5 : st.length < 5) : Bld calm (l ++ [one op]) (st ++ [(l.length : Int)]) ∧ jC (l ++ [one op]) (st ++ [(l.length : Int)]) = jC l st ++ [op] := by
  have hb : jY st l.length op = st ++ [(l.length : Int)] := by
    unfold jY
    rw [if_pos (.inl (by unfold zw; exact decide_eq_true h)), if_neg (by rcases h with rfl | rfl <;> decide)]
  have hw : jn l st (one op) = 0 := by
    unfold jn
    rw [if_neg (by rcases h with rfl | rfl <;> decide), if_neg (fun hh => by have := hh.1; rcases h with rfl | rfl <;> exact absurd this (by decide)), if_neg (fun hh => by have := hh.1; dsimp only at this; omega), if_neg (by omega)]
  have := B.app (x := one op) (KM calm (by omega)) hw (by dsimp only; omega) (by rw [hb]; simp; omega)
  rw [hb] at this
  refine ⟨this, ?_⟩
  unfold jC
  rw [List.map_append]
  congr 1
  · exact wb B.stok
  · have e := wB (l := l) (t := [one op]) (k := 0) (x := one op) rfl
    rw [Nat.add_zero] at e
    rw [List.map_singleton, e]
theorem Bld.undo {calm : Bool} {l : List qd} {st : List Int} (B : Bld calm l st) (h : opM l st = 14) : Bld calm (l ++ [one 16]) st := by
  have hb : jY st l.length 16 = st := by
    unfold jY
    rw [if_neg (by decide), if_neg (by decide)]
  have hw : jn l st (one 16) = 0 := by
    unfold jn
    rw [if_neg (by decide), if_neg (fun hh => absurd hh.1 (by decide)), if_neg (fun hh => hh.2 h), if_neg (fun hh => absurd hh.1 (by decide))]
  have := B.app (x := one 16) (KM calm (by omega)) hw (by decide) (by rw [hb]; exact B.five)
  rwa [hb] at this
def xM (o : Int) : Int := if o = 14 then 15 else if o = 17 then 18 else 19
def gZ (l : List qd) (st : List Int) : List qd := l ++ [one (xM (opM l st))]
def wo (l : List qd) (st : List Int) : List Int := if opM l st = 17 then st.dropLast ++ [(l.length : Int)] else st.dropLast
theorem Bld.shut {calm : Bool} {l : List qd} {st : List Int} (B : Bld calm l st) (hn : st ≠ []) (ho : opM l st = 14 ∨ opM l st = 17 ∨ opM l st = 18) : Bld calm (gZ l st) (wo l st) ∧
    jC (gZ l st) (wo l st) = (jC l st).dropLast ++ (if opM l st = 17 then [18] else []) := by
  have hs : jR (xM (opM l st)) = opM l st := by rcases ho with h | h | h <;> rw [h] <;> decide
  have hso : xM (opM l st) = 15 ∨ xM (opM l st) = 18 ∨ xM (opM l st) = 19 := by
    unfold xM
    repeat' split
    all_goals omega
  have he : 0 < jR (xM (opM l st)) := by rw [hs]; omega
  have hlen := List.length_pos_iff.2 hn
  have hb : jY st l.length (xM (opM l st)) = wo l st := by
    unfold jY wo
    rw [if_pos he]
    by_cases h17 : opM l st = 17
    · rw [if_pos h17, if_pos (.inr (by rw [h17]; decide))]
    · rw [if_neg h17, if_neg]
      rcases ho with h | h | h
      · rw [h]; decide
      · exact absurd h h17
      · rw [h]; decide
  have hw : jn l st (one (xM (opM l st))) = 0 := by
    unfold jn
    rw [if_neg (by rcases hso with h | h | h <;> rw [h] <;> decide), if_neg (fun hh => hh.2 hs.symm), if_neg (fun hh => by have := hh.1; dsimp only at this; omega), if_neg (fun hh => by
      have := hh.1
      rcases hso with h | h | h <;> rw [h] at this <;> exact absurd this (by decide))]
  have h5 := B.five
  have := B.app (x := one (xM (opM l st))) (KM calm (by omega)) hw (by dsimp only; omega) (by rw [hb]; unfold wo; split <;> simp <;> omega)
  rw [hb] at this
  refine ⟨this, ?_⟩
  unfold gZ wo jC
  have hd : (st.dropLast.map fun p => (qb (l ++ [one (xM (opM l st))]) p).1) = (jC l st).dropLast := by
    have := wb (t := [one (xM (opM l st))]) B.stok.dropLast
    unfold jC at this ⊢
    rw [this, List.map_dropLast]
  split
  · rename_i h17
    have e := wB (l := l) (t := [one (xM (opM l st))]) (k := 0) (x := one (xM (opM l st))) rfl
    rw [Nat.add_zero] at e
    rw [List.map_append, hd, List.map_singleton, e, h17]; rfl
  · rw [hd, List.append_nil]; rfl
theorem GP {l : List qd} {st : List Int} (hn : st ≠ []) : opM l st = (jC l st).getLast?.getD 0 := by
  unfold opM jC jz
  rw [if_neg hn, List.getLast?_map, List.getLast?_eq_some_getLast hn]; rfl
theorem Bld.fit {calm : Bool} {l : List qd} (B : Bld calm l []) (h0 : 0 < l.length) (h40 : l.length ≤ 40) : xj l = (0, 0) := by
  have key : ∀ d i, i + d = l.length → goM l (l.drop i) i (qF l i) = .inr [] := by
    intro d
    induction d with
    | zero =>
      intro i hi
      obtain rfl : i = l.length := by omega
      rw [List.drop_length, B.top]; rfl
    | succ d ih =>
      intro i hi
      have hlt : i < l.length := by omega
      rw [km hlt]
      have hw := B.wr i hlt
      rw [zS hlt] at hw
      rw [if_pos hw]
      have := ih (i + 1) (by omega)
      rw [jw, zS hlt] at this
      exact this
  have hg := key l.length 0 (by omega)
  have hreg : ∀ j, j < l.length → (xH l 0 [])[j]? = some (jz (qF l j)) := fun j hj => by
    have := X5 (l := l) l.length 0 (by omega) j (by omega)
    rw [Nat.zero_add] at this
    exact this
  have hnum : ∀ j : Nat, j < l.length → qf (xH l 0 []) (j : Int) = jz (qF l j) := fun j hj => by
    unfold qf; rw [Int.toNat_natCast, hreg j hj]; rfl
  have hj : ∀ d i, i + d = l.length → wy l (xH l 0 []) (l.drop i) i = (0, 0) := by
    intro d
    induction d with
    | zero =>
      intro i hi
      obtain rfl : i = l.length := by omega
      rw [List.drop_length]; rfl
    | succ d ih =>
      intro i hi
      have hlt : i < l.length := by omega
      rw [kZ hlt, if_neg, ih (i + 1) (by omega)]
      rintro ⟨ho, hc⟩
      have hB := B.jp i hlt
      rw [zS hlt] at hB
      obtain ⟨c, c1, c2, c3, _⟩ := hB ho
      rw [c1] at hc
      rcases hc with hc | ⟨hc, hc2⟩ | ⟨hc, hc2⟩
      · omega
      · have : c = l.length := by omega
        subst this
        rw [B.top] at c3
        rw [hnum i hlt, ← c3] at hc2
        exact hc2 rfl
      · rw [hnum c (by omega), hnum i hlt, c3] at hc2
        exact hc2 rfl
  unfold xj
  rw [if_neg (by omega)]
  have hg2 : goM l l 0 [] = .inr [] := hg
  rw [hg2]
  dsimp only
  rw [if_pos rfl]
  exact hj l.length 0 (by omega)
end Go.Proofs.YtdlfmpmpmkffjaaGreatDoor
namespace Go.Proofs.YtdlfmpmpmkffjaaGreatDoor
open Go Go.Ae
set_option maxRecDepth 100000
variable {g h : AH} {L R : List SP}
def OkN (zs : List Int) : Prop := ∀ z ∈ zs, 0 ≤ z ∧ z < 18446744073709551616
theorem OkN.set {zs : List Int} {i : Nat} {x : Int} (h : OkN zs) (hx : 0 ≤ x ∧ x < 18446744073709551616) : OkN (zs.set i x) := by
  intro z hz
  rcases List.mem_or_eq_of_mem_set hz with h1 | rfl
  · exact h z h1
  · exact hx
theorem QN {u x : Bool} {r : AV} {K : AV → Go.Ae.R} {Q : AV → AH → Prop} (hr : u = true → r = .bool x) (w : wp (K (.bool (u && x))) Q) : wp (qi (.bool u) r (.bool false) K) Q := by
  cases u
  · exact w
  · rw [hr rfl]; exact w
theorem ND {k : IntKind} {a b : Int} {K : AV → Go.Ae.R} {Q : AV → AH → Prop} (w : ∀ z : Int, wp (K (.int k z)) Q) : wp (qz .and (.int k a) (.int k b) K) Q := by
  rw [vH]; simp only [vS]; exact w _
def tw (c : Int) : Int := zK .i64 (1 * 2 ^ (min c.toNat (IntKind.bits .i64)))
theorem tw_b {c : Int} (h : 1 ≤ c ∧ c ≤ 3) : 2 ≤ tw c ∧ tw c ≤ 8 := by
  obtain rfl | rfl | rfl : c = 1 ∨ c = 2 ∨ c = 3 := by omega
  all_goals decide
theorem ME {x lo hi : Int} (h : lo ≤ hi) : lo ≤ jU x lo hi ∧ jU x lo hi ≤ hi := by
  unfold jU
  have := gr x (show 0 < hi - lo + 1 by omega)
  split <;> omega
theorem Kb {n : Nat} (hn : 2 ≤ n) {x : Int} {rv bv : AV} {rs bs : List Int} (H : HS g h R) (SR : Rd g R 1 rs.length rv (rs.map (.int .u64))) (hr : ∀ z ∈ rs, 0 ≤ z ∧ z < 18446744073709551616) (S : Rd g R 1 bs.length bv (bs.map (.int .u8))) (hb : ∀ z ∈ bs, 0 ≤ z ∧ z ≤ 255) :
    wp (callT tab qS n (.fn 22 [] []) [.int .i64 x, rv, bv] h) fun r h' => ∃ zs, OkN zs ∧ 32 ≤ zs.length ∧ zs.length ≤ 80 ∧ shut r = true ∧ qJD r ∧ HS g h' (qc 26 1 zs.length r (zs.map (.int .u64)) :: R) := by
  (refine qn (g := W22) rfl (by omega) fun k hk => ?_; show wp (S22 (callT tab qS k) _ _ _ _) _; unfold S22; try simp only [iI, uU, Int.ofNat_eq_natCast])
  refine qv (x6 (by omega) (by omega) (by omega) (by omega)) ?_
  rintro _ _ ⟨rfl, rfl⟩
  have hwb := ME (x := x) (lo := ((32 : Nat) : Int)) (hi := ((80 : Nat) : Int)) (by omega)
  obtain ⟨n, hn⟩ : ∃ n : Nat, jU x ((32 : Nat) : Int) ((80 : Nat) : Int) = (n : Int) := ⟨_, (Int.toNat_of_nonneg (by omega)).symm⟩
  rw [hn] at hwb ⊢
  refine YH (Nat.le_refl _) (by omega) fun b h3 hb3 A F => ?_
  have H3 : HS g h3 (qc 26 1 n (.slice b 0 n n false) ((List.replicate n (0 : Int)).map (.int .u64)) :: R) := by
    refine H.add (D' := fun a => a = b) F.none ⟨by simp, .inr ⟨b, n, false, _, rfl, fun a => Iff.rfl, A, by rw [xS]; simp, ?_, ?_⟩⟩ ?_
    · rw [List.take_of_length_le (by rw [xS]; simp), Jc, List.map_replicate]; rfl
    · rw [if_neg (by simp)]; exact ⟨by rw [xS]; rfl, Nat.le_refl _⟩
    · rintro a rfl; exact ⟨hb3, A.lt⟩
  have z0 : OkN (List.replicate n (0 : Int)) := by intro z hz; rw [List.eq_of_mem_replicate hz]; omega
  have hsh : shut (.slice b 0 n n false) = true := rfl
  have hro : qJD (.slice b 0 n n false) := Nat.le_refl n
  generalize AV.slice b 0 n n false = wv at *
  clear H F A
  refine vP (i := 5) H3 (by omega) ⟨rfl, rfl⟩ fun h4 H => ?_
  rw [← List.map_set] at H
  have z1 := z0.set (i := 5) (x := ((14 : Nat) : Int)) (by omega)
  have l1 : ((List.replicate n (0 : Int)).set 5 ((14 : Nat) : Int)).length = n := by simp
  generalize (List.replicate n (0 : Int)).set 5 ((14 : Nat) : Int) = zs at *
  clear z0 H3
  refine jm (fun m s h' => ∃ (i : Nat) (zs : List Int), s = (.int .i64 (i : Int), wv, bv, rv, ()) ∧ i ≤ 8 ∧ m = 8 - i ∧ OkN zs ∧ zs.length = n ∧ HS g h' (qc 26 1 n wv (zs.map (.int .u64)) :: R))
    ?_ (m := 8) (by show 8 < 1000000000; omega) ⟨0, zs, rfl, by omega, by omega, z1, l1, H⟩
  clear H z1 l1 zs
  rintro m ih s h4 hih ⟨i, zs, rfl, hi8, rfl, z1, l1, H⟩
  dsimp only
  refine zV (SR.sl H.drop) (gI ?_)
  refine Q2 (fun s g' => ∃ (r : AV) (u x : Bool), s = (r, .bool u, .int .i64 (i : Int), wv, bv, rv, ()) ∧ g' = h4 ∧ (u = true → r = .bool x) ∧ ((u && x) = decide (i < rs.length ∧ i < 8))) ?_ ?_
  · intro j hj
    refine UT (fun hl => gI (hj _ _ ⟨_, _, decide (i < 8), rfl, rfl, fun _ => (by congr 1; exact decide_eq_decide.2 (by omega)), ?_⟩)) (fun hl => hj _ _ ⟨_, _, false, rfl, rfl, fun h => absurd (of_decide_eq_true h) hl, ?_⟩)
    · have hl' : i < rs.length := by omega
      simp [hl']
    · have hl' : ¬ i < rs.length := by omega
      simp [hl']
  rintro s h4 ⟨r, u, x2, rfl, rfl, hr2, hux⟩
  refine QN hr2 ?_
  rw [hux]
  dsimp only
  clear hr2 hux
  refine Yj (fun hi => ?_) fun hi => ?_
  · have hci : (rs.map (AV.int .u64))[i]? = some (.int .u64 rs[i]) := by rw [List.getElem?_map, List.getElem?_eq_getElem hi.1]; rfl
    have hbi := hr rs[i] (List.getElem_mem hi.1)
    have hb1 := Int.tmod_nonneg ((90 : Nat) : Int) hbi.1
    have hb2 := Int.tmod_lt_of_pos rs[i] (show 0 < ((90 : Nat) : Int) by omega)
    refine ql (by omega) (ja (SR.sl H.drop) hci (gM (by omega) ?_))
    rw [show ((6 : Nat) : Int) + (i : Int) = ((6 + i : Nat) : Int) by omega]
    refine vP H (by omega) ⟨rfl, rfl⟩ fun h6 H6 => ?_
    rw [← List.map_set] at H6
    exact ql (by omega) (hih (8 - (i + 1)) _ _ (by omega) ⟨i + 1, _, rfl, by omega, rfl, z1.set (by omega), by simp [l1], H6⟩)
  · refine xG [] (fun s h' => s = (wv, ()) ∧ ∃ zs, OkN zs ∧ zs.length = n ∧ HS g h' (qc 26 1 n wv (zs.map (.int .u64)) :: R)) ?_ ?_
    · intro j hj
      refine jm (fun m s h' => ∃ (i : Nat) (at' : Int) (zs : List Int), s = (.int .i64 (i : Int), .int .i64 at', wv, bv, ()) ∧ i ≤ 8 ∧ m = 8 - i ∧ 14 ≤ at' ∧ at' ≤ n ∧ OkN zs ∧ zs.length = n ∧ HS g h' (qc 26 1 n wv (zs.map (.int .u64)) :: R))
        ?_ (m := 8) (by show 8 < 1000000000; omega) ⟨0, ((14 : Nat) : Int), zs, rfl, by omega, by omega, by omega, by omega, z1, l1, H⟩
      clear H z1 l1 hih zs ih
      rintro m ih s h5 hih ⟨i, a, zs, rfl, hi8, rfl, ha, ha2, hz, hl, H⟩
      dsimp only
      refine zV (S.sl H.drop) (gI ?_)
      refine Q2 (fun s g' => ∃ (r : AV) (u x : Bool), s = (r, .bool u, .int .i64 (i : Int), .int .i64 a, wv, bv, ()) ∧ g' = h5 ∧ (u = true → r = .bool x) ∧ ((u && x) = decide (i < bs.length ∧ i < 8))) ?_ ?_
      · intro j hj
        refine UT (fun hl => gI (hj _ _ ⟨_, _, decide (i < 8), rfl, rfl, fun _ => (by congr 1; exact decide_eq_decide.2 (by omega)), ?_⟩)) (fun hl => hj _ _ ⟨_, _, false, rfl, rfl, fun h => absurd (of_decide_eq_true h) hl, ?_⟩)
        · have hl' : i < bs.length := by omega
          simp [hl']
        · have hl' : ¬ i < bs.length := by omega
          simp [hl']
      rintro s h5 ⟨r, u, x, rfl, rfl, hr, hux⟩
      refine QN hr ?_
      rw [hux]
      dsimp only
      refine Yj (fun hi => ?_) fun hi => hj _ _ ⟨rfl, zs, hz, hl, H⟩
      have hci : (bs.map (AV.int .u8))[i]? = some (.int .u8 bs[i]) := by rw [List.getElem?_map, List.getElem?_eq_getElem hi.1]; rfl
      have hbi := hb bs[i] (List.getElem_mem hi.1)
      have hb1 := Int.tmod_nonneg ((3 : Nat) : Int) hbi.1
      have hb2 := Int.tmod_lt_of_pos bs[i] (show 0 < ((3 : Nat) : Int) by omega)
      refine ja (S.sl H.drop) hci (gM (by omega) (zq (by omega) (ql (by omega) ?_)))
      obtain ⟨c, hc⟩ : ∃ c, c = Int.tmod bs[i] ((3 : Nat) : Int) + ((1 : Nat) : Int) := ⟨_, rfl⟩
      rw [← hc]
      have hcb : 1 ≤ c ∧ c ≤ 3 := by omega
      have htw := tw_b hcb
      refine ql (by omega) (zm (by omega) (UJ (by omega) ?_))
      show wp (qz .add _ (.int .i64 (tw c)) _) _
      refine ql (by omega) (jM H .here (xB (fun hg => qj (hj _ _ ⟨rfl, zs, hz, hl, H⟩)) fun hg => qQ ?_))
      obtain ⟨p, rfl⟩ : ∃ p : Nat, a = (p : Int) := ⟨a.toNat, by omega⟩
      refine zm (by omega) ?_
      refine vP H (by omega) ⟨rfl, rfl⟩ fun h6 H => ?_
      rw [← List.map_set] at H
      have hz2 := hz.set (i := p) (x := c) (by omega)
      have hl2 : (zs.set p c).length = n := by simp [hl]
      generalize zs.set p c = zs2 at *
      clear hz hl
      refine xG [] (fun s h' => s = (.int .i64 c, .int .i64 (i : Int), .int .i64 (p : Int), wv, bv, ()) ∧ ∃ zs, OkN zs ∧ zs.length = n ∧ HS g h' (qc 26 1 n wv (zs.map (.int .u64)) :: R)) ?_ ?_
      · intro j hj
        refine ja (S.sl H.drop) hci (ND fun z => ?_)
        refine xB (fun _ => qj ?_) fun _ => qQ ?_
        · refine ql (by omega) (zm (by omega) ?_)
          refine vP H (by omega) ⟨rfl, rfl⟩ fun h7 H7 => ?_
          rw [← List.map_set] at H7
          exact hj _ _ ⟨rfl, _, hz2.set (by omega), by simp [hl2], H7⟩
        · refine ja (S.sl H.drop) hci (ND fun z => ?_)
          refine xB (fun _ => qj ?_) fun _ => qQ (hj _ _ ⟨rfl, zs2, hz2, hl2, H⟩)
          refine ql (by omega) (ql (by omega) (jT (by omega) ?_))
          obtain ⟨d, hd⟩ : ∃ d : Nat, ((1 : Nat) : Int) + c - ((1 : Nat) : Int) = (d : Int) := ⟨c.toNat, by omega⟩
          rw [hd]
          have hdn : d < zs2.length := by omega
          refine ja (x := .int .u64 zs2[d]) (H.sl .here) (by rw [List.getElem?_map, List.getElem?_eq_getElem hdn]; rfl) ?_
          rw [show (p : Int) + ((1 : Nat) : Int) = ((p + 1 : Nat) : Int) by omega]
          refine vP H (by omega) ⟨rfl, rfl⟩ fun h7 H7 => ?_
          rw [← List.map_set] at H7
          refine ql (by omega) (jT (by omega) (ql (by omega) (zm (by omega) ?_)))
          rw [hd]
          refine vP H7 (by omega) ⟨rfl, rfl⟩ fun h8 H8 => ?_
          rw [← List.map_set] at H8
          exact hj _ _ ⟨rfl, _, (hz2.set (hz2 zs2[d] (List.getElem_mem hdn))).set (by omega), by simp [hl2], H8⟩
      rintro s h7 ⟨rfl, zs3, hz3, hl3, H⟩
      dsimp only
      refine ql (by omega) (zm (by omega) (UJ (by omega) ?_))
      show wp (qz .add _ (.int .i64 (tw c)) _) _
      refine ql (by omega) (zm (by omega) ?_)
      refine vP (i := 5) H (by omega) ⟨rfl, rfl⟩ fun h8 H8 => ?_
      rw [← List.map_set] at H8
      refine ql (by omega) (hih (8 - (i + 1)) _ _ (by omega) ⟨i + 1, _, _, rfl, by omega, rfl, by omega, by omega, hz3.set (by omega), by simp [hl3], H8⟩)
    rintro s h5 ⟨rfl, zs, hz, hl, H⟩
    dsimp only
    refine qT (qg ⟨zs, hz, by omega, by omega, hsh, hro, ?_⟩)
    rw [hl]
    exact H
end Go.Proofs.YtdlfmpmpmkffjaaGreatDoor
namespace Go.Proofs.YtdlfmpmpmkffjaaGreatDoor
open Go Go.Ae
set_option maxRecDepth 100000
variable {g h : AH} {L R : List SP}
def xx (lv : AV) (l : List qd) : SP := qc 28 5 l.length lv (l.flatMap jW)
def kX (ov : AV) (o : List Int) : SP := qc 3 1 o.length ov (o.map (.int .i64))
theorem wS {n : Nat} (hn : 2 ≤ n) {x : Int} : wp (callT tab qS n (.fn 58 [] []) [.int .i64 x] h) fun v h' => v = .int .i64 (jU x 0 6) ∧ h' = h := by
  (refine qn (g := W58) rfl (by omega) fun k hk => ?_; show wp (S58 (callT tab qS k) _ _) _; unfold S58; try simp only [iI, uU, Int.ofNat_eq_natCast])
  refine qv (x6 (by omega) (by omega) (by omega) (by omega)) ?_
  rintro _ _ ⟨rfl, rfl⟩
  exact qg ⟨rfl, rfl⟩
theorem vV {l : List qd} {lv : AV} {t : List qd} {tv : AV} {K2 : AV → AH → Go.Ae.R} {Q : AV → AH → Prop} {D' : Nat → Prop} (H : HS g h (xx lv l :: R)) (S : Sl D' h 5 t.length tv (t.flatMap jW)) (hl : l.length + t.length ≤ 100000)
    (w : ∀ v' h', HS g h' (xx v' (l ++ t) :: R) → wp (K2 v' h') Q) : wp (qu h 28 5 lv tv K2) Q := by
  refine zU H S (by omega) (by omega) (QF t) fun v' h' H' => w v' h' ?_
  unfold xx
  rw [List.length_append, List.flatMap_append]
  exact H'
theorem O7 {a n : Int} (h : 0 ≤ a ∧ a ≤ 7) : xP (1, a, 0, 0, n) = true := by simp [xP, jg, xO]; omega
theorem may_2 {a b : Int} (h : 0 ≤ a ∧ a ≤ 7) (h2 : 0 ≤ b ∧ b ≤ 7) : xP (2, a, b, 0, 0) = true := by simp [xP, jg, xO]; omega
theorem may_3 {o a b c : Int} (ho : 3 ≤ o ∧ o ≤ 7) (h : 0 ≤ a ∧ a ≤ 7) (h2 : 0 ≤ b ∧ b ≤ 7) (h3 : 0 ≤ c ∧ c ≤ 7) : xP (o, a, b, c, 0) = true := by
  rcases (show o = 3 ∨ o = 4 ∨ o = 5 ∨ o = 6 ∨ o = 7 by omega) with rfl | rfl | rfl | rfl | rfl <;> (simp [xP, jg, xO]; omega)
theorem kS {o a b c : Int} (ho : o = 8 ∨ o = 9) (h : 0 ≤ a ∧ a ≤ 7) (h2 : 0 ≤ b ∧ b ≤ 7) (h3 : 0 ≤ c ∧ c ≤ 15) : xP (o, a, b, c, 0) = true := by
  rcases ho with rfl | rfl <;> (simp [xP, jg, xO]; omega)
theorem M1 {a b : Int} (h : 0 ≤ a ∧ a ≤ 7) (h2 : 0 ≤ b ∧ b ≤ 7) : xP (10, a, b, 0, 0) = true := by simp [xP, jg, xO]; omega
theorem NX {o a : Int} (ho : o = 11 ∨ o = 21) (h : 0 ≤ a ∧ a ≤ 7) : xP (o, a, 0, 0, 0) = true := by
  rcases ho with rfl | rfl <;> (simp [xP, jg, xO]; omega)
theorem NJ {a c : Int} (h : 0 ≤ a ∧ a ≤ 7) (h3 : 0 ≤ c ∧ c ≤ 40) : xP (13, a, 0, c, 0) = true := by simp [xP, jg, xO]; omega
structure J0 (x : qd) : Prop where
  flat : Flat x.1
  nj : x.1 ≠ 12 ∧ x.1 ≠ 13
  ok : ∀ calm, QQ calm x
theorem J0.of {x : qd} (h1 : xP x = true) (h2 : (1 ≤ x.1 ∧ x.1 ≤ 11) ∨ x.1 = 21) (h3 : 0 ≤ x.2.2.2.2 ∧ x.2.2.2.2 < 18446744073709551616) : J0 x :=
  ⟨⟨by omega, by omega, by omega, by omega, by omega, by omega⟩, by omega, fun _ => ⟨h1, by omega, h3, fun _ => by omega⟩⟩
set_option maxHeartbeats 4000000 in
theorem ky {n : Nat} (hn : 3 ≤ n) {kx : qd} (hN : 0 ≤ kx.2.2.2.2 ∧ kx.2.2.2.2 < 18446744073709551616) (H : HS g h R) :
    wp (callT tab qS n (.fn 59 [] []) [.agg (jW kx)] h) fun r h' => ∃ x, r = .agg (jW x) ∧ J0 x ∧ HS g h' R := by
  (refine qn (g := W59) rfl (by omega) fun k hk => ?_; show wp (S59 (callT tab qS k) _ _) _; unfold S59; try simp only [iI, uU, Int.ofNat_eq_natCast])
  refine jV H rfl fun b0 h1 H1 => ?_
  refine jV H1 rfl fun b2 h2 H2 => ?_
  have H2 : HS g h2 (qe b2 [.int .i64 ((0 : Nat) : Int), .int .i64 ((0 : Nat) : Int), .int .i64 ((0 : Nat) : Int), .int .i64 ((0 : Nat) : Int), .int .u64 ((0 : Nat) : Int)] :: qe b0 (jW kx) :: R) := H2
  clear H H1
  refine qJ ?_
  try dsimp only
  refine qY (qw H2 (b := b0) e_1 rfl ?_)
  refine qv (wS (by omega)) ?_
  rintro _ _ ⟨rfl, rfl⟩
  refine qY (qw H2 (b := b0) e_1 rfl ?_)
  refine qv (wS (by omega)) ?_
  rintro _ _ ⟨rfl, rfl⟩
  refine qY (qw H2 (b := b0) e_1 rfl ?_)
  refine qv (wS (by omega)) ?_
  rintro _ _ ⟨rfl, rfl⟩
  refine vj H2 (b := b0) e_1 rfl H2 e_1 rfl (HS.lt H2 e_1) ?_
  refine vj H2 (b := b0) e_1 rfl H2 e_1 rfl (HS.lt H2 e_1) ?_
  refine vj H2 (b := b0) e_1 rfl H2 e_1 rfl (HS.lt H2 e_1) ?_
  refine qY (qw H2 (b := b0) e_1 rfl ?_)
  refine qv (x6 (by omega) (by omega) (by omega) (by omega)) ?_
  rintro _ _ ⟨rfl, rfl⟩
  refine qY (qw H2 (b := b0) e_1 rfl ?_)
  refine qv (x6 (by omega) (by omega) (by omega) (by omega)) ?_
  rintro _ _ ⟨rfl, rfl⟩
  have ha := jd kx.2.1 (show (0 : Int) ≤ 6 by omega)
  have hb := jd kx.2.2.1 (show (0 : Int) ≤ 6 by omega)
  have hc := jd kx.2.2.2.1 (show (0 : Int) ≤ 6 by omega)
  have hat := jd kx.2.2.2.1 (show (((6 : Nat) : Int)) ≤ ((15 : Nat) : Int) by omega)
  have hw := jd kx.1 (show (((0 : Nat) : Int)) ≤ ((19 : Nat) : Int) by omega)
  generalize jU kx.2.1 0 6 = a at *
  generalize jU kx.2.2.1 0 6 = b at *
  generalize jU kx.2.2.2.1 0 6 = c at *
  generalize jU kx.2.2.2.1 ((6 : Nat) : Int) ((15 : Nat) : Int) = at_ at *
  generalize jU kx.1 ((0 : Nat) : Int) ((19 : Nat) : Int) = w at *
  have fin : ∀ (x : qd) (h0 : AH), J0 x → HS g h0 (qe b2 [.int .i64 ((0 : Nat) : Int), .int .i64 ((0 : Nat) : Int), .int .i64 ((0 : Nat) : Int), .int .i64 ((0 : Nat) : Int), .int .u64 ((0 : Nat) : Int)] :: qe b0 (jW kx) :: R) →
      wp (qA h0 (.ptr b2 0) (.agg (jW x)) 5 fun h22 => qU [] h22 fun h23 => qa h23 (.ptr b2 0) 5 fun v24 => some (v24, h23)) fun r h' => ∃ x, r = .agg (jW x) ∧ J0 x ∧ HS g h' R := by
    intro x h0 hx H0
    refine jO H0 (b := b2) .here rfl (by show 0 + 5 ≤ 5; omega) rfl fun h6 H6 => ?_
    have H6 : HS g h6 (qe b2 (jW x) :: qe b0 (jW kx) :: R) := H6
    refine qT (jq H6 (b := b2) (off := 0) .here rfl (by omega) (l := jW x) rfl ?_)
    exact qg ⟨x, rfl, hx, H6.drop.drop⟩
  have z0 : (0 : Int) ≤ 0 ∧ (0 : Int) < 18446744073709551616 := by omega
  have hd : w = 0 ∨ w = 1 ∨ w = 2 ∨ w = 3 ∨ w = 4 ∨ w = 5 ∨ w = 6 ∨ w = 7 ∨ w = 8 ∨ w = 9 ∨ w = 10 ∨ w = 11 ∨ w = 12 ∨ w = 13 ∨ w = 14 ∨ w = 15 ∨ w = 16 ∨ 17 ≤ w := by omega
  rcases hd with h0 | h0 | h0 | h0 | h0 | h0 | h0 | h0 | h0 | h0 | h0 | h0 | h0 | h0 | h0 | h0 | h0 | h0
  all_goals (first | with_reducible (refine qJ ?_; (try dsimp only); refine qZ (by omega) ?_; refine qQ ?_; refine qZ (by omega) ?_; refine qQ ?_; refine qZ (by omega) ?_; refine qQ ?_; refine qZ (by omega) ?_; refine qQ ?_; refine qZ (by omega) ?_; refine qQ ?_; refine qJ ?_; (try dsimp only); refine qZ (by omega) ?_; refine qQ ?_; refine qZ (by omega) ?_; refine qQ ?_; refine qZ (by omega) ?_; refine qQ ?_; refine qJ ?_; (try dsimp only); refine qZ (by omega) ?_; refine qQ ?_; refine qZ (by omega) ?_; refine qQ ?_; refine qZ (by omega) ?_; refine qQ ?_; refine qZ (by omega) ?_; refine qQ ?_; refine qZ (by omega) ?_; refine qQ ?_; refine qJ ?_; (try dsimp only); refine qZ (by omega) ?_; refine qQ ?_; refine qZ (by omega) ?_; refine qQ ?_; refine qZ (by omega) ?_; refine qQ ?_; refine qH (by omega) ?_; refine qj ?_; refine qp (by with_unfolding_all exact rfl) ?_) | with_reducible (refine qJ ?_; (try dsimp only); refine qZ (by omega) ?_; refine qQ ?_; refine qZ (by omega) ?_; refine qQ ?_; refine qZ (by omega) ?_; refine qQ ?_; refine qZ (by omega) ?_; refine qQ ?_; refine qZ (by omega) ?_; refine qQ ?_; refine qJ ?_; (try dsimp only); refine qZ (by omega) ?_; refine qQ ?_; refine qZ (by omega) ?_; refine qQ ?_; refine qZ (by omega) ?_; refine qQ ?_; refine qJ ?_; (try dsimp only); refine qZ (by omega) ?_; refine qQ ?_; refine qZ (by omega) ?_; refine qQ ?_; refine qZ (by omega) ?_; refine qQ ?_; refine qZ (by omega) ?_; refine qQ ?_; refine qZ (by omega) ?_; refine qQ ?_; refine qJ ?_; (try dsimp only); refine qZ (by omega) ?_; refine qQ ?_; refine qZ (by omega) ?_; refine qQ ?_; refine qZ (by omega) ?_; refine qQ ?_; refine qZ (by omega) ?_; refine qQ ?_; refine qp (by with_unfolding_all exact rfl) ?_) | with_reducible (refine qJ ?_; (try dsimp only); refine qZ (by omega) ?_; refine qQ ?_; refine qZ (by omega) ?_; refine qQ ?_; refine qZ (by omega) ?_; refine qQ ?_; refine qZ (by omega) ?_; refine qQ ?_; refine qZ (by omega) ?_; refine qQ ?_; refine qJ ?_; (try dsimp only); refine qZ (by omega) ?_; refine qQ ?_; refine qZ (by omega) ?_; refine qQ ?_; refine qZ (by omega) ?_; refine qQ ?_; refine qJ ?_; (try dsimp only); refine qZ (by omega) ?_; refine qQ ?_; refine qZ (by omega) ?_; refine qQ ?_; refine qZ (by omega) ?_; refine qQ ?_; refine qZ (by omega) ?_; refine qQ ?_; refine qZ (by omega) ?_; refine qQ ?_; refine qJ ?_; (try dsimp only); refine qZ (by omega) ?_; refine qQ ?_; refine qZ (by omega) ?_; refine qQ ?_; refine qH (by omega) ?_; refine qj ?_; refine qp (by with_unfolding_all exact rfl) ?_) | with_reducible (refine qJ ?_; (try dsimp only); refine qZ (by omega) ?_; refine qQ ?_; refine qZ (by omega) ?_; refine qQ ?_; refine qZ (by omega) ?_; refine qQ ?_; refine qZ (by omega) ?_; refine qQ ?_; refine qZ (by omega) ?_; refine qQ ?_; refine qJ ?_; (try dsimp only); refine qZ (by omega) ?_; refine qQ ?_; refine qZ (by omega) ?_; refine qQ ?_; refine qZ (by omega) ?_; refine qQ ?_; refine qJ ?_; (try dsimp only); refine qZ (by omega) ?_; refine qQ ?_; refine qZ (by omega) ?_; refine qQ ?_; refine qZ (by omega) ?_; refine qQ ?_; refine qZ (by omega) ?_; refine qQ ?_; refine qZ (by omega) ?_; refine qQ ?_; refine qJ ?_; (try dsimp only); refine qZ (by omega) ?_; refine qQ ?_; refine qH (by omega) ?_; refine qj ?_; refine qp (by with_unfolding_all exact rfl) ?_) | with_reducible (refine qJ ?_; (try dsimp only); refine qZ (by omega) ?_; refine qQ ?_; refine qZ (by omega) ?_; refine qQ ?_; refine qZ (by omega) ?_; refine qQ ?_; refine qZ (by omega) ?_; refine qQ ?_; refine qZ (by omega) ?_; refine qQ ?_; refine qJ ?_; (try dsimp only); refine qZ (by omega) ?_; refine qQ ?_; refine qZ (by omega) ?_; refine qQ ?_; refine qZ (by omega) ?_; refine qQ ?_; refine qJ ?_; (try dsimp only); refine qZ (by omega) ?_; refine qQ ?_; refine qZ (by omega) ?_; refine qQ ?_; refine qZ (by omega) ?_; refine qQ ?_; refine qZ (by omega) ?_; refine qQ ?_; refine qZ (by omega) ?_; refine qQ ?_; refine qJ ?_; (try dsimp only); refine qH (by omega) ?_; refine qj ?_; refine qj ?_; refine qp (by with_unfolding_all exact rfl) ?_) | with_reducible (refine qJ ?_; (try dsimp only); refine qZ (by omega) ?_; refine qQ ?_; refine qZ (by omega) ?_; refine qQ ?_; refine qZ (by omega) ?_; refine qQ ?_; refine qZ (by omega) ?_; refine qQ ?_; refine qZ (by omega) ?_; refine qQ ?_; refine qJ ?_; (try dsimp only); refine qZ (by omega) ?_; refine qQ ?_; refine qZ (by omega) ?_; refine qQ ?_; refine qZ (by omega) ?_; refine qQ ?_; refine qJ ?_; (try dsimp only); refine qZ (by omega) ?_; refine qQ ?_; refine qZ (by omega) ?_; refine qQ ?_; refine qZ (by omega) ?_; refine qQ ?_; refine qZ (by omega) ?_; refine qQ ?_; refine qH (by omega) ?_; refine qj ?_; refine qY ?_; refine qw (by assumption) e_1 (by with_unfolding_all exact rfl) ?_) | with_reducible (refine qJ ?_; (try dsimp only); refine qZ (by omega) ?_; refine qQ ?_; refine qZ (by omega) ?_; refine qQ ?_; refine qZ (by omega) ?_; refine qQ ?_; refine qZ (by omega) ?_; refine qQ ?_; refine qZ (by omega) ?_; refine qQ ?_; refine qJ ?_; (try dsimp only); refine qZ (by omega) ?_; refine qQ ?_; refine qZ (by omega) ?_; refine qQ ?_; refine qZ (by omega) ?_; refine qQ ?_; refine qJ ?_; (try dsimp only); refine qZ (by omega) ?_; refine qQ ?_; refine qZ (by omega) ?_; refine qQ ?_; refine qZ (by omega) ?_; refine qQ ?_; refine qH (by omega) ?_; refine qj ?_; refine qY ?_; refine qw (by assumption) e_1 (by with_unfolding_all exact rfl) ?_) | with_reducible (refine qJ ?_; (try dsimp only); refine qZ (by omega) ?_; refine qQ ?_; refine qZ (by omega) ?_; refine qQ ?_; refine qZ (by omega) ?_; refine qQ ?_; refine qZ (by omega) ?_; refine qQ ?_; refine qZ (by omega) ?_; refine qQ ?_; refine qJ ?_; (try dsimp only); refine qZ (by omega) ?_; refine qQ ?_; refine qZ (by omega) ?_; refine qQ ?_; refine qZ (by omega) ?_; refine qQ ?_; refine qJ ?_; (try dsimp only); refine qZ (by omega) ?_; refine qQ ?_; refine qZ (by omega) ?_; refine qQ ?_; refine qH (by omega) ?_; refine qj ?_; refine qp (by with_unfolding_all exact rfl) ?_) | with_reducible (refine qJ ?_; (try dsimp only); refine qZ (by omega) ?_; refine qQ ?_; refine qZ (by omega) ?_; refine qQ ?_; refine qZ (by omega) ?_; refine qQ ?_; refine qZ (by omega) ?_; refine qQ ?_; refine qZ (by omega) ?_; refine qQ ?_; refine qJ ?_; (try dsimp only); refine qZ (by omega) ?_; refine qQ ?_; refine qZ (by omega) ?_; refine qQ ?_; refine qZ (by omega) ?_; refine qQ ?_; refine qJ ?_; (try dsimp only); refine qZ (by omega) ?_; refine qQ ?_; refine qH (by omega) ?_; refine qj ?_; refine qj ?_; refine qp (by with_unfolding_all exact rfl) ?_) | with_reducible (refine qJ ?_; (try dsimp only); refine qZ (by omega) ?_; refine qQ ?_; refine qZ (by omega) ?_; refine qQ ?_; refine qZ (by omega) ?_; refine qQ ?_; refine qZ (by omega) ?_; refine qQ ?_; refine qZ (by omega) ?_; refine qQ ?_; refine qJ ?_; (try dsimp only); refine qZ (by omega) ?_; refine qQ ?_; refine qZ (by omega) ?_; refine qQ ?_; refine qZ (by omega) ?_; refine qQ ?_; refine qJ ?_; (try dsimp only); refine qH (by omega) ?_; refine qj ?_; refine qj ?_; refine qp (by with_unfolding_all exact rfl) ?_) | with_reducible (refine qJ ?_; (try dsimp only); refine qZ (by omega) ?_; refine qQ ?_; refine qZ (by omega) ?_; refine qQ ?_; refine qZ (by omega) ?_; refine qQ ?_; refine qZ (by omega) ?_; refine qQ ?_; refine qZ (by omega) ?_; refine qQ ?_; refine qJ ?_; (try dsimp only); refine qZ (by omega) ?_; refine qQ ?_; refine qZ (by omega) ?_; refine qQ ?_; refine qH (by omega) ?_; refine qj ?_; refine qp (by with_unfolding_all exact rfl) ?_) | with_reducible (refine qJ ?_; (try dsimp only); refine qZ (by omega) ?_; refine qQ ?_; refine qZ (by omega) ?_; refine qQ ?_; refine qZ (by omega) ?_; refine qQ ?_; refine qZ (by omega) ?_; refine qQ ?_; refine qZ (by omega) ?_; refine qQ ?_; refine qJ ?_; (try dsimp only); refine qZ (by omega) ?_; refine qQ ?_; refine qH (by omega) ?_; refine qj ?_; refine qj ?_; refine qp (by with_unfolding_all exact rfl) ?_) | with_reducible (refine qJ ?_; (try dsimp only); refine qZ (by omega) ?_; refine qQ ?_; refine qZ (by omega) ?_; refine qQ ?_; refine qZ (by omega) ?_; refine qQ ?_; refine qZ (by omega) ?_; refine qQ ?_; refine qZ (by omega) ?_; refine qQ ?_; refine qJ ?_; (try dsimp only); refine qH (by omega) ?_; refine qj ?_; refine qj ?_; refine qp (by with_unfolding_all exact rfl) ?_) | with_reducible (refine qJ ?_; (try dsimp only); refine qZ (by omega) ?_; refine qQ ?_; refine qZ (by omega) ?_; refine qQ ?_; refine qZ (by omega) ?_; refine qQ ?_; refine qZ (by omega) ?_; refine qQ ?_; refine qH (by omega) ?_; refine qj ?_; refine qY ?_; refine qw (by assumption) e_1 (by with_unfolding_all exact rfl) ?_) | with_reducible (refine qJ ?_; (try dsimp only); refine qZ (by omega) ?_; refine qQ ?_; refine qH (by omega) ?_; refine qj ?_; refine qY ?_; refine qw (by assumption) e_1 (by with_unfolding_all exact rfl) ?_; refine qp (by with_unfolding_all exact rfl) ?_) | with_reducible (refine qJ ?_; (try dsimp only); refine qZ (by omega) ?_; refine qQ ?_; refine qZ (by omega) ?_; refine qQ ?_; refine qH (by omega) ?_; refine qj ?_; refine qY ?_; refine qw (by assumption) e_1 (by with_unfolding_all exact rfl) ?_) | with_reducible (refine qJ ?_; (try dsimp only); refine qZ (by omega) ?_; refine qQ ?_; refine qZ (by omega) ?_; refine qQ ?_; refine qZ (by omega) ?_; refine qQ ?_; refine qH (by omega) ?_; refine qj ?_; refine qp (by with_unfolding_all exact rfl) ?_) | with_reducible (refine qJ ?_; (try dsimp only); refine qH (by omega) ?_; refine qj ?_; refine qj ?_; refine qY ?_; refine qw (by assumption) e_1 (by with_unfolding_all exact rfl) ?_; refine qp (by with_unfolding_all exact rfl) ?_))
  · exact fin (1, a, 0, 0, kx.2.2.2.2) _ (.of (O7 (by omega)) (by dsimp only; omega) hN) H2
  · exact fin (1, a, 0, 0, kx.2.2.2.2) _ (.of (O7 (by omega)) (by dsimp only; omega) hN) H2
  · refine gM (by decide) ?_
    obtain ⟨m, hm⟩ : ∃ m : Nat, kx.2.2.2.2 = m := ⟨kx.2.2.2.2.toNat, by omega⟩
    have ht : kx.2.2.2.2.tmod ((20 : Nat) : Int) = ((m % 20 : Nat) : Int) := by rw [hm]; rfl
    rw [ht]
    with_reducible (refine qp (by with_unfolding_all exact rfl) ?_)
    exact fin (1, a, 0, 0, ((m % 20 : Nat) : Int)) _ (.of (O7 (by omega)) (by dsimp only; omega) (by dsimp only; omega)) H2
  · exact fin (2, a, b, 0, 0) _ (.of (may_2 (by omega) (by omega)) (by dsimp only; omega) z0) H2
  · refine gM (by decide) ?_
    obtain ⟨m, hm⟩ : ∃ m : Nat, kx.2.2.2.2 = m := ⟨kx.2.2.2.2.toNat, by omega⟩
    have ht : kx.2.2.2.2.tmod ((64 : Nat) : Int) = ((m % 64 : Nat) : Int) := by rw [hm]; rfl
    rw [ht]
    refine zq (by omega) ?_
    refine qv (x6 (by omega) (by omega) (by omega) (by omega)) ?_
    rintro _ _ ⟨rfl, rfl⟩
    have ho := jd ((m % 64 : Nat) : Int) (show (((0 : Nat) : Int)) ≤ ((4 : Nat) : Int) by omega)
    generalize jU ((m % 64 : Nat) : Int) ((0 : Nat) : Int) ((4 : Nat) : Int) = o at *
    with_reducible (refine ql (by omega) ?_; refine qp (by with_unfolding_all exact rfl) ?_)
    exact fin (((3 : Nat) : Int) + o, a, b, c, 0) _ (.of (may_3 (by omega) (by omega) (by omega) (by omega)) (by dsimp only; omega) z0) H2
  · exact fin (8, a, 7, at_, 0) _ (.of (kS (.inl rfl) (by omega) (by omega) (by omega)) (by dsimp only; omega) z0) H2
  · exact fin (8, a, 7, at_, 0) _ (.of (kS (.inl rfl) (by omega) (by omega) (by omega)) (by dsimp only; omega) z0) H2
  · exact fin (8, a, 7, at_, 0) _ (.of (kS (.inl rfl) (by omega) (by omega) (by omega)) (by dsimp only; omega) z0) H2
  · exact fin (9, 7, b, at_, 0) _ (.of (kS (.inr rfl) (by omega) (by omega) (by omega)) (by dsimp only; omega) z0) H2
  · exact fin (9, 7, b, at_, 0) _ (.of (kS (.inr rfl) (by omega) (by omega) (by omega)) (by dsimp only; omega) z0) H2
  · exact fin (9, 7, b, at_, 0) _ (.of (kS (.inr rfl) (by omega) (by omega) (by omega)) (by dsimp only; omega) z0) H2
  · refine qv (x6 (by omega) (by omega) (by omega) (by omega)) ?_
    rintro _ _ ⟨rfl, rfl⟩
    have ho := jd kx.2.2.2.1 (show (((0 : Nat) : Int)) ≤ ((3 : Nat) : Int) by omega)
    generalize jU kx.2.2.2.1 ((0 : Nat) : Int) ((3 : Nat) : Int) = o at *
    with_reducible (refine qp (by with_unfolding_all exact rfl) ?_)
    exact fin (8, a, b, o, 0) _ (.of (kS (.inl rfl) (by omega) (by omega) (by omega)) (by dsimp only; omega) z0) H2
  · refine qv (x6 (by omega) (by omega) (by omega) (by omega)) ?_
    rintro _ _ ⟨rfl, rfl⟩
    have ho := jd kx.2.2.2.1 (show (((0 : Nat) : Int)) ≤ ((3 : Nat) : Int) by omega)
    generalize jU kx.2.2.2.1 ((0 : Nat) : Int) ((3 : Nat) : Int) = o at *
    with_reducible (refine qp (by with_unfolding_all exact rfl) ?_)
    exact fin (9, a, b, o, 0) _ (.of (kS (.inr rfl) (by omega) (by omega) (by omega)) (by dsimp only; omega) z0) H2
  · exact fin (10, a, b, 0, 0) _ (.of (M1 (by omega) (by omega)) (by dsimp only; omega) z0) H2
  · exact fin (10, a, b, 0, 0) _ (.of (M1 (by omega) (by omega)) (by dsimp only; omega) z0) H2
  · exact fin (11, a, 0, 0, 0) _ (.of (NX (.inl rfl) (by omega)) (by dsimp only; omega) z0) H2
  · exact fin (8, a, 7, at_, 0) _ (.of (kS (.inl rfl) (by omega) (by omega) (by omega)) (by dsimp only; omega) z0) H2
  · exact fin (21, a, 0, 0, 0) _ (.of (NX (.inr rfl) (by omega)) (by dsimp only; omega) z0) H2
end Go.Proofs.YtdlfmpmpmkffjaaGreatDoor
namespace Go.Proofs.YtdlfmpmpmkffjaaGreatDoor
open Go Go.Ae
set_option maxRecDepth 100000
variable {g h : AH} {L R : List SP}
theorem K3 (l : List Int) : jA (l.map (AV.int .i64)) = true := by
  unfold jA
  rw [List.all_eq_true]
  intro y hy
  obtain ⟨z, _, rfl⟩ := List.mem_map.1 hy
  rfl
theorem yR (l : List qd) (st : List Int) : (jC l st).length = st.length := by simp [jC]
theorem Kd {l : List qd} {st : List Int} (hn : st ≠ []) : (jC l st)[st.length - 1]? = some (opM l st) := by
  have hl := List.length_pos_iff.2 hn
  rw [GP hn, List.getLast?_eq_getElem?, yR, List.getElem?_eq_getElem (by rw [yR]; omega)]; rfl
theorem Q8 {l : List qd} {st : List Int} : (gZ l st).length = l.length + 1 := by simp [gZ]
theorem G5 {n : Nat} (hn : 1 ≤ n) {calm : Bool} {l : List qd} {st : List Int} {lv ov : AV} (B : Bld calm l st) (hne : st ≠ []) (ho : opM l st = 14 ∨ opM l st = 17 ∨ opM l st = 18) (hl : l.length ≤ 1000)
    (H : HS g h (xx lv l :: kX ov (jC l st) :: R)) :
    wp (callT tab qS n (.fn 57 [] []) [lv, ov] h) fun r h' => ∃ lv' ov', r = .tup [lv', ov'] ∧ HS g h' (xx lv' (gZ l st) :: kX ov' (jC (gZ l st) (wo l st)) :: R) := by
  (refine qn (g := W57) rfl (by omega) fun k hk => ?_; show wp (S57 (callT tab qS k) _ _ _) _; unfold S57; try simp only [iI, uU, Int.ofNat_eq_natCast])
  have hp := List.length_pos_iff.2 hne
  have h5 := B.five
  have hol := yR l st
  have hat := Kd (l := l) hne
  obtain ⟨B2, hops⟩ := B.shut hne ho
  rw [hops]
  have H0 : HS g h (qc 28 5 l.length lv (l.flatMap jW) :: qc 3 1 (jC l st).length ov ((jC l st).map (.int .i64)) :: R) := H
  refine jM H0 e_1 ?_
  rw [hol]
  refine jT (by omega) ?_
  rw [show (st.length : Int) - ((1 : Nat) : Int) = ((st.length - 1 : Nat) : Int) by omega]
  refine ja (H0.sl e_1) (x := .int .i64 (opM l st)) (by rw [List.getElem?_map, hat]; rfl) ?_
  have hdl : (jC l st).dropLast = (jC l st).take (st.length - 1) := by rw [List.dropLast_eq_take, hol]
  have tail : ∀ (op : Int), (opM l st = 14 ∧ op = 15 ∨ opM l st = 18 ∧ op = 19) →
      wp (qD (α := AV × AV × Unit → AH → Go.Ae.R) (fun s5 h6 => some ((.tup [s5.2.1, s5.1]), h6)) fun j7 => qm [(.int .i64 ((0 : Nat) : Int)), (.int .i64 ((0 : Nat) : Int)), (.int .i64 ((0 : Nat) : Int)), (.int .i64 ((0 : Nat) : Int)), (.int .u64 ((0 : Nat) : Int))] [(0, 1, (.int .i64 op))] fun v8 =>
        q8 h 28 [(.int .i64 ((0 : Nat) : Int)), (.int .i64 ((0 : Nat) : Int)), (.int .i64 ((0 : Nat) : Int)), (.int .i64 ((0 : Nat) : Int)), (.int .u64 ((0 : Nat) : Int))] 1 [(0, 5, v8)] fun v9 h10 =>
        qu h10 28 5 lv v9 fun v11 h12 => zv h12 3 1 ov none (some (.int .i64 ((st.length - 1 : Nat) : Int))) fun v13 =>
        zQ ov (some (3 * 65536 + 1)) v13 h10 h12 h.nx <| j7 (v13, v11, ()) h12)
      fun r h' => ∃ lv' ov', r = .tup [lv', ov'] ∧ HS g h' (xx lv' (gZ l st) :: kX ov' ((jC l st).dropLast ++ (if opM l st = 17 then [18] else [])) :: R) := by
    intro op hop
    refine qJ ?_
    try dsimp only
    refine qp (l := jW (one op)) rfl ?_
    refine jv (n := 1) (l := jW (one op)) (sz := 5) H0 rfl rfl rfl rfl fun v9 h10 H10 => ?_
    have S : Sl (fun _ => True) h10 5 [one op].length v9 ([one op].flatMap jW) := H10.sl .here
    refine vV (H10.sel (P := xx lv l) e_1) S (by simp; omega) fun v11 h12 H12 => ?_
    refine wM (hi := st.length - 1) (H12.sel (P := qc 3 1 (jC l st).length ov ((jC l st).map (.int .i64))) e_2) (by omega) (by omega) fun v13 H13 => ?_
    refine ZQ H10 (s := e_2) H12 e_2 H0 e_1 (by omega) (by omega) rfl ?_
    rw [Nat.mul_one, ← List.map_take, ← hdl] at H13
    have h17 : ¬ opM l st = 17 := by omega
    rw [if_neg h17, List.append_nil]
    refine qg ⟨v11, v13, rfl, ?_⟩
    have e : gZ l st = l ++ [one op] := by
      unfold gZ xM
      rcases hop with ⟨h1, h2⟩ | ⟨h1, h2⟩
      · rw [h1, h2]; rfl
      · rw [h1, h2]; rfl
    rw [e]
    unfold kX
    rw [show (jC l st).dropLast.length = st.length - 1 by rw [List.length_dropLast, hol]]
    exact H13.sub (.cons e_1 (.cons .here (.drop .refl)))
  by_cases c14 : opM l st = 14
  · refine qH c14 (qj ?_)
    exact tail 15 (.inl ⟨c14, rfl⟩)
  refine qZ c14 (qQ ?_)
  by_cases c17 : opM l st = 17
  · refine qH c17 (qj ?_)
    refine wM (hi := st.length - 1) (H0.sel (P := qc 3 1 (jC l st).length ov ((jC l st).map (.int .i64))) e_1) (by omega) (by omega) fun v15 H2 => ?_
    rw [Nat.mul_one, ← List.map_take, ← hdl] at H2
    have hdn : (jC l st).dropLast.length = st.length - 1 := by rw [List.length_dropLast, hol]
    have S : Sl (fun _ => True) h 1 (st.length - 1) v15 ((jC l st).dropLast.map (.int .i64)) := H2.sl .here
    refine zU (H2.nils (e := 3) (sz := 1)) S (by omega) (by omega) (K3 _) fun v16 h3 H3 => ?_
    rw [List.nil_append, Nat.zero_add] at H3
    refine jv (n := 1) (l := [.int .i64 ((18 : Nat) : Int)]) (sz := 1) H3 rfl rfl rfl rfl fun v18 h4 H4 => ?_
    refine zU (H4.sel e_1) (H4.sl .here) (by omega) (by omega) rfl fun v20 h5 H5 => ?_
    refine qp (l := jW (one 18)) rfl ?_
    refine jv (n := 1) (l := jW (one 18)) (sz := 5) H5 rfl rfl rfl rfl fun v23 h6 H6 => ?_
    have S6 : Sl (fun _ => True) h6 5 [one 18].length v23 ([one 18].flatMap jW) := H6.sl .here
    refine vV (H6.sel (P := xx lv l) e_4) S6 (by simp; omega) fun v25 h7 H7 => ?_
    rw [if_pos c17]
    refine qg ⟨v25, v20, rfl, ?_⟩
    have e : gZ l st = l ++ [one 18] := by unfold gZ xM; rw [c17]; rfl
    rw [e]
    unfold kX
    rw [List.length_append, hdn, List.map_append]
    exact H7.sub (.cons .here (.cons e_1 (.drop (.drop (.drop .refl)))))
  · refine qZ c17 (qQ ?_)
    exact tail 19 (.inr ⟨by omega, rfl⟩)
def gF (o : List Int) : Nat := (o.map fun x => if x = 17 then 2 else 1).sum
theorem Y8 (a b : List Int) : gF (a ++ b) = gF a + gF b := by simp [gF]
theorem Zz (o : List Int) : gF o ≤ 2 * o.length := by
  induction o with
  | nil => simp [gF]
  | cons x o ih => simp only [gF, List.map_cons, List.sum_cons, List.length_cons] at *; split <;> omega
theorem VB {l : List qd} {st : List Int} (hne : st ≠ []) : gF ((jC l st).dropLast ++ (if opM l st = 17 then [18] else [])) + 1 = gF (jC l st) := by
  have h1 : jC l st ≠ [] := by intro h; have := congrArg List.length h; rw [yR] at this; exact hne (List.eq_nil_of_length_eq_zero this)
  have h2 := List.dropLast_concat_getLast h1
  have h3 : (jC l st).getLast h1 = opM l st := by rw [GP hne, List.getLast?_eq_some_getLast h1]; rfl
  rw [h3] at h2
  have h4 : gF (jC l st) = gF (jC l st).dropLast + (if opM l st = 17 then 2 else 1) := by
    conv => lhs; rw [← h2]
    rw [Y8]; simp [gF]
  rw [Y8, h4]
  split
  · simp [gF]
  · simp [gF]
def OpsK (l : List qd) (st : List Int) : Prop := ∀ o ∈ jC l st, o = 14 ∨ o = 17 ∨ o = 18
theorem OpsK.at {l : List qd} {st : List Int} (h : OpsK l st) (hne : st ≠ []) : opM l st = 14 ∨ opM l st = 17 ∨ opM l st = 18 := h _ (List.mem_of_getElem? (Kd hne))
set_option maxHeartbeats 8000000 in
theorem Ok {n : Nat} (hn : 5 ≤ n) {calm : Bool} {ks : List qd} {kv : AV} {most : Int} (hN : ∀ x ∈ ks, 0 ≤ x.2.2.2.2 ∧ x.2.2.2.2 < 18446744073709551616) (hm : 1 ≤ most ∧ most ≤ 40) (H : HS g h R) (S : Rd g R 5 ks.length kv (ks.flatMap jW)) :
    wp (callT tab qS n (.fn 23 [] []) [kv, .int .i64 most, .bool calm] h) fun r h' => ∃ lv l, r = .agg [lv] ∧ Bld calm l [] ∧ 0 < l.length ∧ (l.length : Int) ≤ most ∧ HS g h' (xx lv l :: R) := by
  (refine qn (g := W23) rfl (by omega) fun k hk => ?_; show wp (S23 (callT tab qS k) _ _ _ _) _; unfold S23; try simp only [iI, uU, Int.ofNat_eq_natCast])
  refine jV H rfl fun b0 h1 H1 => ?_
  clear H
  have H1 := (H1.nils (e := 3) (sz := 1)).nils (e := 28) (sz := 5)
  refine xG [] (fun s h' => ∃ (l : List qd) (st : List Int) (lv ov : AV), s = (ov, lv, .ptr b0 0, ()) ∧ Bld calm l st ∧ OpsK l st ∧ (l.length : Int) + 2 * st.length ≤ most ∧ HS g h' (xx lv l :: kX ov (jC l st) :: qe b0 [.nils] :: R)) ?_ ?_
  rotate_left
  · rintro s h2 ⟨l, st, lv, ov, rfl, B, OK, hle, H2⟩
    dsimp only
    have hW : (l.length : Int) + gF (jC l st) ≤ most := by
      have := Zz (jC l st)
      rw [yR] at this; omega
    refine jm (fun m s h' => ∃ (l : List qd) (st : List Int) (lv ov : AV), s = (ov, lv, .ptr b0 0, ()) ∧ m = gF (jC l st) ∧ Bld calm l st ∧ OpsK l st ∧ (l.length : Int) + gF (jC l st) ≤ most ∧ HS g h' (xx lv l :: kX ov (jC l st) :: qe b0 [.nils] :: R))
      ?_ (m := gF (jC l st)) (by show _ < 1000000000; omega) ⟨l, st, lv, ov, rfl, rfl, B, OK, hW, H2⟩
    clear H2 hW hle OK B st lv ov l
    rintro m ih s h3 hih ⟨l, st, lv, ov, rfl, rfl, B, OK, hW, H⟩
    dsimp only
    have hol := yR l st
    refine jM (n := (jC l st).length) (H : HS g h3 (xx lv l :: qc 3 1 (jC l st).length ov ((jC l st).map (.int .i64)) :: qe b0 [.nils] :: R)) e_1 ?_
    rw [hol]
    by_cases h0 : st = []
    · subst h0
      refine zN (by simp) (qQ ?_)
      refine xG [] (fun s h' => ∃ (l : List qd) (lv : AV), s = (lv, .ptr b0 0, ()) ∧ Bld calm l [] ∧ 0 < l.length ∧ (l.length : Int) ≤ most ∧ HS g h' (xx lv l :: qe b0 [.nils] :: R)) ?_ ?_
      · intro j hj
        refine jM (n := l.length) (H : HS g h3 (qc 28 5 l.length lv (l.flatMap jW) :: kX ov (jC l []) :: qe b0 [.nils] :: R)) .here ?_
        by_cases hl0 : l.length = 0
        · refine qH (by omega) (qj ?_)
          obtain rfl := List.eq_nil_of_length_eq_zero hl0
          refine qp (l := jW (1, 0, 0, 0, 1)) rfl ?_
          refine jv (n := 1) (l := jW (1, 0, 0, 0, 1)) (sz := 5) H rfl rfl rfl rfl fun v27 h4 H4 => ?_
          have S1 : Sl (fun _ => True) h4 5 [((1, 0, 0, 0, 1) : qd)].length v27 ([((1, 0, 0, 0, 1) : qd)].flatMap jW) := H4.sl .here
          refine vV (H4.sel (P := xx lv []) e_1) S1 (by simp) fun v29 h5 H5 => ?_
          refine hj _ _ ⟨_, v29, rfl, B.flat (x := (1, 0, 0, 0, 1)) ⟨by decide, by decide, by decide, fun _ => by decide⟩ (by unfold Flat; decide) (by decide), by simp, by simp; omega, H5.sub (.cons .here (.drop (.drop (.cons .here .refl))))⟩
        · refine qZ (by omega) (qQ ?_)
          exact hj _ _ ⟨l, lv, rfl, B, by omega, by omega, H.sub (.cons .here (.drop (.cons .here .refl)))⟩
      · rintro s h5 ⟨l, lv, rfl, B, hl0, hlm, H5⟩
        dsimp only
        have ol := H5.one (e := 28) (sz := 5) (n := l.length) .here
        refine qp (l := [lv]) (by simp only [vD, ol.1]; rfl) ?_
        refine jO H5 (b := b0) e_1 rfl (by simp) (by show jA [lv] = true; simp [jA, ol.2]) fun h6 H6 => ?_
        have H6 : HS g h6 (qe b0 [lv] :: xx lv l :: R) := H6
        refine qT ?_
        refine jq H6 (b := b0) (off := 0) .here rfl (by omega) (l := [lv]) rfl ?_
        exact qg ⟨lv, l, rfl, B, hl0, hlm, H6.drop⟩
    · have hp := List.length_pos_iff.2 h0
      refine zT (by omega) (qj ?_)
      refine qv (G5 (by omega) B h0 (OK.at h0) (by omega) H) ?_
      rintro _ h4 ⟨lv', ov', rfl, H4⟩
      obtain ⟨B2, hops⟩ := B.shut h0 (OK.at h0)
      have hw := VB (l := l) h0
      rw [← hops] at hw
      refine qM rfl (qM rfl ?_)
      refine hih (gF (jC (gZ l st) (wo l st))) _ _ (by omega) ⟨_, _, lv', ov', rfl, rfl, B2, ?_, by rw [Q8]; omega, H4⟩
      intro o ho
      rw [hops] at ho
      rcases List.mem_append.1 ho with ho | ho
      · exact OK o ((List.dropLast_sublist _).subset ho)
      · split at ho
        · rw [List.mem_singleton] at ho; omega
        · cases ho
  intro j5 hj5
  refine jm (fun m s h' => ∃ (i : Nat) (l : List qd) (st : List Int) (lv ov : AV), s = (.int .i64 (i : Int), ov, lv, .ptr b0 0, .bool calm, .int .i64 most, kv, ()) ∧ m = 41 - l.length ∧ i ≤ l.length ∧ Bld calm l st ∧ OpsK l st ∧ (l.length : Int) + 2 * st.length ≤ most ∧ HS g h' (xx lv l :: kX ov (jC l st) :: qe b0 [.nils] :: R))
    ?_ (m := 41) (by show _ < 1000000000; omega) ⟨0, [], [], .nils, .nils, rfl, rfl, by simp, Bld.nil calm, (fun o ho => by cases ho), by simp; omega, H1⟩
  clear H1
  rintro m ih s h2 hih ⟨i, l, st, lv, ov, rfl, rfl, hil, B, OK, hle, H⟩
  dsimp only
  refine zV (S.sl H.drop.drop.drop) ?_
  refine zx (fun hlt => qj ?_) fun hge => qQ (hj5 _ _ ⟨l, st, lv, ov, rfl, B, OK, hle, H⟩)
  have hlt : i < ks.length := by omega
  refine zf (l := jW ks[i]) (S.sl H.drop.drop.drop) hlt (by omega) (Qp (sz := 5) (fun _ => rfl) (List.getElem?_eq_getElem hlt)) ?_
  have hNi := hN ks[i] (List.getElem_mem hlt)
  generalize ks[i] = kx at *
  refine jV H rfl fun b3 h3 H3 => jO H3 .here rfl (by show 0 + 5 ≤ 5; omega) rfl fun h5 H5 => ?_
  have H5 : HS g h5 (qe b3 (jW kx) :: xx lv l :: kX ov (jC l st) :: qe b0 [.nils] :: R) := H5
  have H6 : HS g h5 (qe b3 (jW kx) :: qc 28 5 l.length lv (l.flatMap jW) :: qc 3 1 (jC l st).length ov ((jC l st).map (.int .i64)) :: qe b0 [.nils] :: R) := H5
  clear H H3
  have hol := yR l st
  refine jM H6 e_2 ?_
  rw [hol]
  refine jM H6 e_1 ?_
  refine YK (by omega) (ql (by omega) (ql (by omega) ?_))
  refine xB (fun hg => qj (hj5 _ _ ⟨l, st, lv, ov, rfl, B, OK, hle, H5.drop⟩)) fun hg => qQ ?_
  refine qY (qw H5 (b := b3) .here rfl ?_)
  refine qv (x6 (by omega) (by omega) (by omega) (by omega)) ?_
  rintro _ h5 ⟨rfl, rfl⟩
  have hwb := jd kx.1 (show (((0 : Nat) : Int)) ≤ ((40 : Nat) : Int) by omega)
  generalize jU kx.1 ((0 : Nat) : Int) ((40 : Nat) : Int) = w at *
  refine xG [] (fun s h' => ∃ (l' : List qd) (st' : List Int) (lv' ov' : AV), s = (.int .i64 (i : Int), ov', lv', .ptr b0 0, .bool calm, .int .i64 most, kv, ()) ∧ Bld calm l' st' ∧ OpsK l' st' ∧ (l'.length : Int) + 2 * st'.length ≤ most ∧ l.length < l'.length ∧ HS g h' (xx lv' l' :: kX ov' (jC l' st') :: qe b0 [.nils] :: R)) ?_ ?_
  rotate_left
  · rintro s h7 ⟨l', st', lv', ov', rfl, B', OK', hle', hlt', H7⟩
    dsimp only
    refine ql (by omega) ?_
    exact hih (41 - l'.length) _ _ (by omega) ⟨i + 1, l', st', lv', ov', rfl, rfl, by omega, B', OK', hle', H7⟩
  intro j hj
  have hfive := B.five
  have hll : l.length ≤ 100 := by omega
  have same : ∀ {t : List qd}, OpsK (l ++ t) st := fun {t} o ho => OK o (by rw [wb B.stok] at ho; exact ho)
  have hsame : ∀ {t : List qd}, jC (l ++ t) st = jC l st := wb B.stok
  have dflt : wp (qa h5 (.ptr b3 0) 5 fun v218 => qq (callT tab qS k) (.fn 59 [] []) [v218] h5 fun v219 h220 => q8 h220 28 [(.int .i64 ((0 : Nat) : Int)), (.int .i64 ((0 : Nat) : Int)), (.int .i64 ((0 : Nat) : Int)), (.int .i64 ((0 : Nat) : Int)), (.int .u64 ((0 : Nat) : Int))] 1 [(0, 5, v219)] fun v221 h222 =>
      qu h222 28 5 lv v221 fun v223 h224 => j (.int .i64 (i : Int), ov, v223, .ptr b0 0, .bool calm, .int .i64 most, kv, ()) h224 []) (fun r h' => ∃ lv l, r = .agg [lv] ∧ Bld calm l [] ∧ 0 < l.length ∧ (l.length : Int) ≤ most ∧ HS g h' (xx lv l :: R)) := by
    refine jq H5 (b := b3) (off := 0) .here rfl (by omega) (l := jW kx) rfl ?_
    refine qv (ky (by omega) hNi H5) ?_
    rintro _ h7 ⟨x, rfl, hx, H7⟩
    refine jv (n := 1) (l := jW x) (sz := 5) H7 rfl rfl rfl rfl fun v8 h8 H8 => ?_
    have S1 : Sl (fun _ => True) h8 5 [x].length v8 ([x].flatMap jW) := by simpa using H8.sl .here
    refine vV (H8.sel (P := xx lv l) e_2) S1 (by simp; omega) fun v9 h9 H9 => ?_
    refine hj _ _ ⟨l ++ [x], st, v9, ov, rfl, B.flat (hx.ok calm) hx.flat hx.nj, same, by simp; omega, by simp, ?_⟩
    rw [hsame]
    exact H9.sub (.cons .here (.drop (.drop (.cons .here (.cons .here .refl)))))
  have beg : ∀ op : Int, op = 14 ∨ op = 17 → st.length < 5 → wp (q8 h5 28 [(.int .i64 ((0 : Nat) : Int)), (.int .i64 ((0 : Nat) : Int)), (.int .i64 ((0 : Nat) : Int)), (.int .i64 ((0 : Nat) : Int)), (.int .u64 ((0 : Nat) : Int))] 1 [(0, 5, .agg (jW (one op)))] fun v63 h64 => qu h64 28 5 lv v63 fun v65 h66 =>
      q8 h66 3 [(.int .i64 ((0 : Nat) : Int))] 1 [(0, 1, (.int .i64 op))] fun v67 h68 => qu h68 3 1 ov v67 fun v69 h70 => j (.int .i64 (i : Int), v69, v65, .ptr b0 0, .bool calm, .int .i64 most, kv, ()) h70 []) (fun r h' => ∃ lv l, r = .agg [lv] ∧ Bld calm l [] ∧ 0 < l.length ∧ (l.length : Int) ≤ most ∧ HS g h' (xx lv l :: R)) := by
    intro op hop hs5
    refine jv (n := 1) (l := jW (one op)) (sz := 5) H5 rfl rfl rfl rfl fun v8 h8 H8 => ?_
    have S1 : Sl (fun _ => True) h8 5 [one op].length v8 ([one op].flatMap jW) := by simpa using H8.sl .here
    refine vV (H8.sel (P := xx lv l) e_2) S1 (by simp; omega) fun v9 h9 H9 => ?_
    refine jv (n := 1) (l := [.int .i64 op]) (sz := 1) H9 rfl rfl rfl rfl fun v10 h10 H10 => ?_
    refine zU (H10.sel (P := qc 3 1 (jC l st).length ov ((jC l st).map (.int .i64))) e_4) (H10.sl .here) (by omega) (by omega) rfl fun v11 h11 H11 => ?_
    obtain ⟨B2, ho2⟩ := B.begin hop hs5
    refine hj _ _ ⟨l ++ [one op], st ++ [(l.length : Int)], v9, v11, rfl, B2, ?_, by simp; omega, by simp, ?_⟩
    · intro o ho
      rw [ho2] at ho
      rcases List.mem_append.1 ho with ho | ho
      · exact OK o ho
      · rw [List.mem_singleton] at ho; omega
    · rw [ho2]
      unfold kX
      rw [List.length_append, List.map_append]
      exact H11.sub (.cons e_2 (.cons .here (.drop (.drop (.drop (.cons .here .refl))))))
  have shu : 0 < st.length → wp (qq (callT tab qS k) (.fn 57 [] []) [lv, ov] h5 fun v98 h99 => qC v98 0 fun v100 => qC v98 1 fun v101 => j (.int .i64 (i : Int), v101, v100, .ptr b0 0, .bool calm, .int .i64 most, kv, ()) h99 []) (fun r h' => ∃ lv l, r = .agg [lv] ∧ Bld calm l [] ∧ 0 < l.length ∧ (l.length : Int) ≤ most ∧ HS g h' (xx lv l :: R)) := by
    intro hp
    have hne := List.length_pos_iff.1 hp
    refine qv (G5 (by omega) B hne (OK.at hne) (by omega) (H5.sub (L' := xx lv l :: kX ov (jC l st) :: qe b3 (jW kx) :: qe b0 [.nils] :: R) (.cons e_1 (.cons e_1 (.cons .here (.cons .here .refl)))))) ?_
    rintro _ h7 ⟨lv', ov', rfl, H7⟩
    obtain ⟨B2, hops⟩ := B.shut hne (OK.at hne)
    have hsl : (wo l st).length ≤ st.length := by unfold wo; split <;> simp <;> omega
    refine qM rfl (qM rfl ?_)
    refine hj _ _ ⟨_, _, lv', ov', rfl, B2, ?_, by rw [Q8]; omega, by rw [Q8]; omega, H7.sub (.cons .here (.cons .here (.drop (.cons .here .refl))))⟩
    intro o ho
    rw [hops] at ho
    rcases List.mem_append.1 ho with ho | ho
    · exact OK o ((List.dropLast_sublist _).subset ho)
    · split at ho
      · rw [List.mem_singleton] at ho; omega
      · cases ho
  have und : opM l st = 14 → wp (q8 h5 28 [(.int .i64 ((0 : Nat) : Int)), (.int .i64 ((0 : Nat) : Int)), (.int .i64 ((0 : Nat) : Int)), (.int .i64 ((0 : Nat) : Int)), (.int .u64 ((0 : Nat) : Int))] 1 [(0, 5, .agg (jW (one 16)))] fun v8 h8 => qu h8 28 5 lv v8 fun v9 h9 => j (.int .i64 (i : Int), ov, v9, .ptr b0 0, .bool calm, .int .i64 most, kv, ()) h9 []) (fun r h' => ∃ lv l, r = .agg [lv] ∧ Bld calm l [] ∧ 0 < l.length ∧ (l.length : Int) ≤ most ∧ HS g h' (xx lv l :: R)) := by
    intro h14
    refine jv (n := 1) (l := jW (one 16)) (sz := 5) H5 rfl rfl rfl rfl fun v8 h8 H8 => ?_
    have S1 : Sl (fun _ => True) h8 5 [one 16].length v8 ([one 16].flatMap jW) := by simpa using H8.sl .here
    refine vV (H8.sel (P := xx lv l) e_2) S1 (by simp; omega) fun v9 h9 H9 => ?_
    refine hj _ _ ⟨l ++ [one 16], st, v9, ov, rfl, B.undo h14, same, by simp; omega, by simp, ?_⟩
    rw [hsame]
    exact H9.sub (.cons .here (.drop (.drop (.cons .here (.cons .here .refl)))))
  have pair : ∀ (x y : qd) (h7 : AH), HS g h7 (qe b3 (jW kx) :: xx lv l :: kX ov (jC l st) :: qe b0 [.nils] :: R) → Bld calm (l ++ [x, y]) st → (l.length : Int) + 2 * st.length + 5 ≤ most → wp (q8 h7 28 [(.int .i64 ((0 : Nat) : Int)), (.int .i64 ((0 : Nat) : Int)), (.int .i64 ((0 : Nat) : Int)), (.int .i64 ((0 : Nat) : Int)), (.int .u64 ((0 : Nat) : Int))] 2 [(0, 5, .agg (jW x)), (5, 5, .agg (jW y))] fun v8 h8 =>
      qu h8 28 5 lv v8 fun v9 h9 => j (.int .i64 (i : Int), ov, v9, .ptr b0 0, .bool calm, .int .i64 most, kv, ()) h9 []) (fun r h' => ∃ lv l, r = .agg [lv] ∧ Bld calm l [] ∧ 0 < l.length ∧ (l.length : Int) ≤ most ∧ HS g h' (xx lv l :: R)) := by
    intro x y h7 H7 B7 hm7
    refine jv (n := 2) (l := jW x ++ jW y) (sz := 5) H7 rfl rfl rfl rfl fun v8 h8 H8 => ?_
    have S1 : Sl (fun _ => True) h8 5 [x, y].length v8 ([x, y].flatMap jW) := by simpa using H8.sl .here
    refine vV (H8.sel (P := xx lv l) e_2) S1 (by simp; omega) fun v9 h9 H9 => ?_
    refine hj _ _ ⟨l ++ [x, y], st, v9, ov, rfl, B7, same, by simp; omega, by simp, ?_⟩
    rw [hsame]
    exact H9.sub (.cons .here (.drop (.drop (.cons .here (.cons .here .refl)))))
  have zer : ∀ r : Int, 0 ≤ r ∧ r ≤ 6 → QQ calm (13, r, 0, ((l.length : Int) + ((2 : Nat) : Int)), 0) := fun r hr => ⟨NJ (by omega) (by omega), by show (13 : Int) ≠ 23; decide, by show (0 : Int) ≤ 0 ∧ (0 : Int) < 18446744073709551616; decide, fun _ => by show (13 : Int) ≠ 20 ∧ (13 : Int) ≠ 22 ∧ (13 : Int) ≠ 12; decide⟩
  have two : ∀ op : Int, op = 20 ∨ op = 22 → calm = false → wp (qq (callT tab qS k) (.fn 58 [] []) [.int .i64 kx.2.1] h5 fun v131 h132 => qt lv fun v133 => qz .add v133 (.int .i64 ((2 : Nat) : Int)) fun v134 =>
      qm [(.int .i64 ((0 : Nat) : Int)), (.int .i64 ((0 : Nat) : Int)), (.int .i64 ((0 : Nat) : Int)), (.int .i64 ((0 : Nat) : Int)), (.int .u64 ((0 : Nat) : Int))] [(0, 1, (.int .i64 ((13 : Nat) : Int))), (1, 1, v131), (3, 1, v134)] fun v135 => qm [(.int .i64 ((0 : Nat) : Int)), (.int .i64 ((0 : Nat) : Int)), (.int .i64 ((0 : Nat) : Int)), (.int .i64 ((0 : Nat) : Int)), (.int .u64 ((0 : Nat) : Int))] [(0, 1, (.int .i64 op))] fun v136 =>
      q8 h132 28 [(.int .i64 ((0 : Nat) : Int)), (.int .i64 ((0 : Nat) : Int)), (.int .i64 ((0 : Nat) : Int)), (.int .i64 ((0 : Nat) : Int)), (.int .u64 ((0 : Nat) : Int))] 2 [(0, 5, v135), (5, 5, v136)] fun v8 h8 => qu h8 28 5 lv v8 fun v9 h9 => j (.int .i64 (i : Int), ov, v9, .ptr b0 0, .bool calm, .int .i64 most, kv, ()) h9 []) (fun r h' => ∃ lv l, r = .agg [lv] ∧ Bld calm l [] ∧ 0 < l.length ∧ (l.length : Int) ≤ most ∧ HS g h' (xx lv l :: R)) := by
    intro op hop hcal
    refine qv (wS (by omega)) ?_
    rintro _ h5 ⟨rfl, rfl⟩
    have hr := jd kx.2.1 (show (0 : Int) ≤ 6 by omega)
    refine jM (n := l.length) H6 e_1 (ql (by omega) ?_)
    refine qp (l := jW (13, jU kx.2.1 0 6, 0, ((l.length : Int) + ((2 : Nat) : Int)), 0)) rfl ?_
    refine qp (l := jW (one op)) rfl ?_
    refine pair _ _ _ H5 (B.two (zer _ hr) ⟨by rcases hop with rfl | rfl <;> decide, by dsimp only; omega, by show (0 : Int) ≤ 0 ∧ (0 : Int) < 18446744073709551616; decide, fun hh => by rw [hcal] at hh; cases hh⟩ (by show Flat 13; unfold Flat; decide) (by unfold Flat; dsimp only; omega) (fun _ => rfl) (fun hh => by dsimp only at hh; omega)) (by omega)
  have ovr : wp (qD (α := AV × AV × AV × AV × AV × AV × AV × Unit → AH → Go.Ae.R) (fun s180 h181 => j (s180.1, s180.2.1, s180.2.2.1, s180.2.2.2.1, s180.2.2.2.2.1, s180.2.2.2.2.2.1, s180.2.2.2.2.2.2.1, ()) h181 []) fun j182 =>
      qq (callT tab qS k) (.fn 58 [] []) [.int .i64 kx.2.2.1] h5 fun v185 h186 => qt lv fun v187 => qz .add v187 (.int .i64 ((2 : Nat) : Int)) fun v188 =>
      qm [(.int .i64 ((0 : Nat) : Int)), (.int .i64 ((0 : Nat) : Int)), (.int .i64 ((0 : Nat) : Int)), (.int .i64 ((0 : Nat) : Int)), (.int .u64 ((0 : Nat) : Int))] [(0, 1, (.int .i64 ((13 : Nat) : Int))), (1, 1, v185), (3, 1, v188)] fun v189 => qa h186 (.ptr b3 0) 5 fun v190 => qq (callT tab qS k) (.fn 59 [] []) [v190] h186 fun v191 h192 =>
      q8 h192 28 [(.int .i64 ((0 : Nat) : Int)), (.int .i64 ((0 : Nat) : Int)), (.int .i64 ((0 : Nat) : Int)), (.int .i64 ((0 : Nat) : Int)), (.int .u64 ((0 : Nat) : Int))] 2 [(0, 5, v189), (5, 5, v191)] fun v193 h194 => qu h194 28 5 lv v193 fun v195 h196 =>
      zQ (.ptr b3 0) (some 5) v190 h5 h186 h5.nx <| j182 (.int .i64 (i : Int), ov, v195, .ptr b0 0, .bool calm, .int .i64 most, kv, ()) h196) (fun r h' => ∃ lv l, r = .agg [lv] ∧ Bld calm l [] ∧ 0 < l.length ∧ (l.length : Int) ≤ most ∧ HS g h' (xx lv l :: R)) := by
    refine qJ ?_
    try dsimp only
    refine qv (wS (by omega)) ?_
    rintro _ h5 ⟨rfl, rfl⟩
    have hr := jd kx.2.2.1 (show (0 : Int) ≤ 6 by omega)
    refine jM (n := l.length) H6 e_1 (ql (by omega) ?_)
    refine qp (l := jW (13, jU kx.2.2.1 0 6, 0, ((l.length : Int) + ((2 : Nat) : Int)), 0)) rfl ?_
    refine jq H5 (b := b3) (off := 0) .here rfl (by omega) (l := jW kx) rfl ?_
    refine qv (ky (by omega) hNi H5) ?_
    rintro _ h7 ⟨x, rfl, hx, H7⟩
    refine jv (n := 2) (l := jW (13, jU kx.2.2.1 0 6, 0, ((l.length : Int) + ((2 : Nat) : Int)), 0) ++ jW x) (sz := 5) H7 rfl rfl rfl rfl fun v8 h8 H8 => ?_
    have S1 : Sl (fun _ => True) h8 5 [((13, jU kx.2.2.1 0 6, 0, ((l.length : Int) + ((2 : Nat) : Int)), 0) : qd), x].length v8 ([((13, jU kx.2.2.1 0 6, 0, ((l.length : Int) + ((2 : Nat) : Int)), 0) : qd), x].flatMap jW) := by simpa using H8.sl .here
    refine vV (H8.sel (P := xx lv l) e_2) S1 (by simp; omega) fun v9 h9 H9 => ?_
    refine zi H5 (b := b3) .here rfl H5 .here rfl rfl (by omega) (HS.lt H5 .here) ?_
    refine hj _ _ ⟨_, st, v9, ov, rfl, B.two (zer _ hr) (hx.ok calm) (by show Flat 13; unfold Flat; decide) hx.flat (fun _ => rfl) (fun hh => by have := hx.nj; omega), same, by simp; omega, by simp, ?_⟩
    rw [hsame]
    exact H9.sub (.cons .here (.drop (.drop (.cons .here (.cons .here .refl)))))
  have bak : calm = false → wp (qD (α := AV × AV × AV × AV × AV × AV × AV × Unit → AH → Go.Ae.R) (fun s180 h181 => j (s180.1, s180.2.1, s180.2.2.1, s180.2.2.2.1, s180.2.2.2.2.1, s180.2.2.2.2.2.1, s180.2.2.2.2.2.2.1, ()) h181 []) fun j182 =>
      qa h5 (.ptr b3 0) 5 fun v205 => qq (callT tab qS k) (.fn 59 [] []) [v205] h5 fun v206 h207 => qK (.ptr b3 0) 2 fun v208 => qG h207 v208 fun v209 =>
      qq (callT tab qS k) (.fn 58 [] []) [v209] h207 fun v210 h211 => qt lv fun v212 =>
      qm [(.int .i64 ((0 : Nat) : Int)), (.int .i64 ((0 : Nat) : Int)), (.int .i64 ((0 : Nat) : Int)), (.int .i64 ((0 : Nat) : Int)), (.int .u64 ((0 : Nat) : Int))] [(0, 1, (.int .i64 ((13 : Nat) : Int))), (1, 1, v210), (3, 1, v212)] fun v213 =>
      q8 h211 28 [(.int .i64 ((0 : Nat) : Int)), (.int .i64 ((0 : Nat) : Int)), (.int .i64 ((0 : Nat) : Int)), (.int .i64 ((0 : Nat) : Int)), (.int .u64 ((0 : Nat) : Int))] 2 [(0, 5, v206), (5, 5, v213)] fun v214 h215 => qu h215 28 5 lv v214 fun v216 h217 =>
      zQ v208 none v209 h5 h207 h5.nx <| j182 (.int .i64 (i : Int), ov, v216, .ptr b0 0, .bool calm, .int .i64 most, kv, ()) h217) (fun r h' => ∃ lv l, r = .agg [lv] ∧ Bld calm l [] ∧ 0 < l.length ∧ (l.length : Int) ≤ most ∧ HS g h' (xx lv l :: R)) := by
    intro hcal
    refine qJ ?_
    try dsimp only
    refine jq H5 (b := b3) (off := 0) .here rfl (by omega) (l := jW kx) rfl ?_
    refine qv (ky (by omega) hNi H5) ?_
    rintro _ h7 ⟨x, rfl, hx, H7⟩
    refine qY (qw H7 (b := b3) .here rfl ?_)
    refine qv (wS (by omega)) ?_
    rintro _ h7 ⟨rfl, rfl⟩
    have hr := jd kx.2.2.1 (show (0 : Int) ≤ 6 by omega)
    have H7' : HS g h7 (qe b3 (jW kx) :: qc 28 5 l.length lv (l.flatMap jW) :: kX ov (jC l st) :: qe b0 [.nils] :: R) := H7
    refine jM (n := l.length) H7' e_1 ?_
    refine qp (l := jW (13, jU kx.2.2.1 0 6, 0, (l.length : Int), 0)) rfl ?_
    refine jv (n := 2) (l := jW x ++ jW (13, jU kx.2.2.1 0 6, 0, (l.length : Int), 0)) (sz := 5) H7 rfl rfl rfl rfl fun v8 h8 H8 => ?_
    have S1 : Sl (fun _ => True) h8 5 [x, ((13, jU kx.2.2.1 0 6, 0, (l.length : Int), 0) : qd)].length v8 ([x, ((13, jU kx.2.2.1 0 6, 0, (l.length : Int), 0) : qd)].flatMap jW) := by simpa using H8.sl .here
    refine vV (H8.sel (P := xx lv l) e_2) S1 (by simp; omega) fun v9 h9 H9 => ?_
    refine vj H5 (b := b3) .here rfl H7 .here rfl (HS.lt H5 .here) ?_
    refine hj _ _ ⟨l ++ [x, (13, jU kx.2.2.1 0 6, 0, (l.length : Int), 0)], st, v9, ov, rfl, B.two (hx.ok calm) ⟨NJ (by omega) (by omega), by show (13 : Int) ≠ 23; decide, by show (0 : Int) ≤ 0 ∧ (0 : Int) < 18446744073709551616; decide, fun _ => by show (13 : Int) ≠ 20 ∧ (13 : Int) ≠ 22 ∧ (13 : Int) ≠ 12; decide⟩ hx.flat (by show Flat 13; unfold Flat; decide) (fun hh => by have := hx.nj; omega) (fun _ => ⟨rfl, hcal⟩), same, by simp; omega, by simp, ?_⟩
    rw [hsame]
    exact H9.sub (.cons .here (.drop (.drop (.cons .here (.cons .here .refl)))))
  have hd : (w = 20 ∧ st.length < 5) ∨ (w = 20 ∧ ¬ st.length < 5) ∨ (w = 21 ∧ st.length < 5) ∨ (w = 21 ∧ ¬ st.length < 5) ∨ (w = 22 ∧ st.length < 5) ∨ (w = 22 ∧ ¬ st.length < 5) ∨ (w = 23 ∧ 0 < st.length) ∨ (w = 23 ∧ ¬ 0 < st.length) ∨ (w = 24 ∧ 0 < st.length) ∨ (w = 24 ∧ ¬ 0 < st.length) ∨ (w = 25 ∧ 0 < st.length) ∨ (w = 25 ∧ ¬ 0 < st.length) ∨
      (w = 26 ∧ 0 < st.length) ∨ (w = 26 ∧ ¬ 0 < st.length) ∨ (w = 27 ∧ 0 < st.length) ∨ (w = 27 ∧ ¬ 0 < st.length) ∨ w = 28 ∨ w = 29 ∨ w = 30 ∨ w = 31 ∨ w = 32 ∨ (w < 20 ∨ 32 < w) := by omega
  rcases hd with ⟨hw1, hs1⟩ | ⟨hw1, hs1⟩ | ⟨hw1, hs1⟩ | ⟨hw1, hs1⟩ | ⟨hw1, hs1⟩ | ⟨hw1, hs1⟩ | ⟨hw1, hs1⟩ | ⟨hw1, hs1⟩ | ⟨hw1, hs1⟩ | ⟨hw1, hs1⟩ | ⟨hw1, hs1⟩ | ⟨hw1, hs1⟩ | ⟨hw1, hs1⟩ | ⟨hw1, hs1⟩ | ⟨hw1, hs1⟩ | ⟨hw1, hs1⟩ | hw1 | hw1 | hw1 | hw1 | hw1 | hw1
  · with_reducible (refine qH (by omega) ?_; refine qJ ?_; (try dsimp only); refine qO ?_; (try dsimp only); refine zA (by omega) ?_; refine qE ?_; refine qj ?_; refine qp (by with_unfolding_all exact rfl) ?_)
    exact beg 14 (.inl rfl) (by omega)
  · with_reducible (refine qH (by omega) ?_; refine qJ ?_; (try dsimp only); refine qO ?_; (try dsimp only); refine js (by omega) ?_; refine qE ?_; refine qQ ?_; refine qZ (by omega) ?_; refine qJ ?_; (try dsimp only); refine qx ?_; (try dsimp only); refine qZ (by omega) ?_; refine qX ?_; refine qJ ?_; (try dsimp only); refine qW ?_; (try dsimp only); refine qX ?_; refine qQ ?_; refine qZ (by omega) ?_; refine qJ ?_; (try dsimp only); refine qx ?_; (try dsimp only); refine qZ (by omega) ?_; refine qX ?_; refine qJ ?_; (try dsimp only); refine qW ?_; (try dsimp only); refine qX ?_; refine qQ ?_; refine qZ (by omega) ?_; refine qJ ?_; (try dsimp only); refine qW ?_; (try dsimp only); refine qX ?_; refine qJ ?_; (try dsimp only); refine qW ?_; (try dsimp only); refine qX ?_; refine qQ ?_; refine qZ (by omega) ?_; refine qJ ?_; (try dsimp only); refine qx ?_; (try dsimp only); refine qZ (by omega) ?_; refine qX ?_; refine qJ ?_; (try dsimp only); refine qW ?_; (try dsimp only); refine qX ?_; refine qJ ?_; (try dsimp only); refine qW ?_; (try dsimp only); refine qX ?_; refine qQ ?_; refine qZ (by omega) ?_; refine qJ ?_; (try dsimp only); refine qW ?_; (try dsimp only); refine qX ?_; refine qQ ?_; refine qZ (by omega) ?_; refine qJ ?_; (try dsimp only); refine qW ?_; (try dsimp only); refine qX ?_; refine qQ ?_; refine qZ (by omega) ?_; refine qJ ?_; (try dsimp only); refine qx ?_; (try dsimp only); refine qZ (by omega) ?_; refine qX ?_; refine qQ ?_; refine qZ (by omega) ?_; refine qJ ?_; (try dsimp only); refine qW ?_; (try dsimp only); refine qX ?_; refine qQ ?_)
    exact dflt
  · with_reducible (refine qZ (by omega) ?_; refine qJ ?_; (try dsimp only); refine qW ?_; (try dsimp only); refine qX ?_; refine qQ ?_; refine qH (by omega) ?_; refine qJ ?_; (try dsimp only); refine jQ ?_; (try dsimp only); refine qE ?_; refine qJ ?_; (try dsimp only); refine qO ?_; (try dsimp only); refine zA (by omega) ?_; refine qE ?_; refine qj ?_; refine qp (by with_unfolding_all exact rfl) ?_)
    exact beg 17 (.inr rfl) (by omega)
  · with_reducible (refine qZ (by omega) ?_; refine qJ ?_; (try dsimp only); refine qW ?_; (try dsimp only); refine qX ?_; refine qQ ?_; refine qH (by omega) ?_; refine qJ ?_; (try dsimp only); refine jQ ?_; (try dsimp only); refine qE ?_; refine qJ ?_; (try dsimp only); refine qO ?_; (try dsimp only); refine js (by omega) ?_; refine qE ?_; refine qQ ?_; refine qZ (by omega) ?_; refine qJ ?_; (try dsimp only); refine qx ?_; (try dsimp only); refine qZ (by omega) ?_; refine qX ?_; refine qJ ?_; (try dsimp only); refine qW ?_; (try dsimp only); refine qX ?_; refine qQ ?_; refine qZ (by omega) ?_; refine qJ ?_; (try dsimp only); refine qW ?_; (try dsimp only); refine qX ?_; refine qJ ?_; (try dsimp only); refine qW ?_; (try dsimp only); refine qX ?_; refine qQ ?_; refine qZ (by omega) ?_; refine qJ ?_; (try dsimp only); refine qx ?_; (try dsimp only); refine qZ (by omega) ?_; refine qX ?_; refine qJ ?_; (try dsimp only); refine qW ?_; (try dsimp only); refine qX ?_; refine qJ ?_; (try dsimp only); refine qW ?_; (try dsimp only); refine qX ?_; refine qQ ?_; refine qZ (by omega) ?_; refine qJ ?_; (try dsimp only); refine qW ?_; (try dsimp only); refine qX ?_; refine qQ ?_; refine qZ (by omega) ?_; refine qJ ?_; (try dsimp only); refine qW ?_; (try dsimp only); refine qX ?_; refine qQ ?_; refine qZ (by omega) ?_; refine qJ ?_; (try dsimp only); refine qx ?_; (try dsimp only); refine qZ (by omega) ?_; refine qX ?_; refine qQ ?_; refine qZ (by omega) ?_; refine qJ ?_; (try dsimp only); refine qW ?_; (try dsimp only); refine qX ?_; refine qQ ?_)
    exact dflt
  · with_reducible (refine qZ (by omega) ?_; refine qJ ?_; (try dsimp only); refine qW ?_; (try dsimp only); refine qX ?_; refine qQ ?_; refine qZ (by omega) ?_; refine qJ ?_; (try dsimp only); refine qx ?_; (try dsimp only); refine qH (by omega) ?_; refine qX ?_; refine qJ ?_; (try dsimp only); refine qO ?_; (try dsimp only); refine zA (by omega) ?_; refine qE ?_; refine qj ?_; refine qp (by with_unfolding_all exact rfl) ?_)
    exact beg 17 (.inr rfl) (by omega)
  · with_reducible (refine qZ (by omega) ?_; refine qJ ?_; (try dsimp only); refine qW ?_; (try dsimp only); refine qX ?_; refine qQ ?_; refine qZ (by omega) ?_; refine qJ ?_; (try dsimp only); refine qx ?_; (try dsimp only); refine qH (by omega) ?_; refine qX ?_; refine qJ ?_; (try dsimp only); refine qO ?_; (try dsimp only); refine js (by omega) ?_; refine qE ?_; refine qQ ?_; refine qZ (by omega) ?_; refine qJ ?_; (try dsimp only); refine qx ?_; (try dsimp only); refine qZ (by omega) ?_; refine qX ?_; refine qJ ?_; (try dsimp only); refine qW ?_; (try dsimp only); refine qX ?_; refine qQ ?_; refine qZ (by omega) ?_; refine qJ ?_; (try dsimp only); refine qW ?_; (try dsimp only); refine qX ?_; refine qJ ?_; (try dsimp only); refine qW ?_; (try dsimp only); refine qX ?_; refine qQ ?_; refine qZ (by omega) ?_; refine qJ ?_; (try dsimp only); refine qx ?_; (try dsimp only); refine qZ (by omega) ?_; refine qX ?_; refine qJ ?_; (try dsimp only); refine qW ?_; (try dsimp only); refine qX ?_; refine qJ ?_; (try dsimp only); refine qW ?_; (try dsimp only); refine qX ?_; refine qQ ?_; refine qZ (by omega) ?_; refine qJ ?_; (try dsimp only); refine qW ?_; (try dsimp only); refine qX ?_; refine qQ ?_; refine qZ (by omega) ?_; refine qJ ?_; (try dsimp only); refine qW ?_; (try dsimp only); refine qX ?_; refine qQ ?_; refine qZ (by omega) ?_; refine qJ ?_; (try dsimp only); refine qx ?_; (try dsimp only); refine qZ (by omega) ?_; refine qX ?_; refine qQ ?_; refine qZ (by omega) ?_; refine qJ ?_; (try dsimp only); refine qW ?_; (try dsimp only); refine qX ?_; refine qQ ?_)
    exact dflt
  · with_reducible (refine qZ (by omega) ?_; refine qJ ?_; (try dsimp only); refine qW ?_; (try dsimp only); refine qX ?_; refine qQ ?_; refine qZ (by omega) ?_; refine qJ ?_; (try dsimp only); refine qx ?_; (try dsimp only); refine qZ (by omega) ?_; refine qX ?_; refine qJ ?_; (try dsimp only); refine qW ?_; (try dsimp only); refine qX ?_; refine qQ ?_; refine qH (by omega) ?_; refine qJ ?_; (try dsimp only); refine jQ ?_; (try dsimp only); refine qE ?_; refine qJ ?_; (try dsimp only); refine qO ?_; (try dsimp only); refine zT (by omega) ?_; refine qE ?_; refine qj ?_)
    exact shu (by omega)
  · with_reducible (refine qZ (by omega) ?_; refine qJ ?_; (try dsimp only); refine qW ?_; (try dsimp only); refine qX ?_; refine qQ ?_; refine qZ (by omega) ?_; refine qJ ?_; (try dsimp only); refine qx ?_; (try dsimp only); refine qZ (by omega) ?_; refine qX ?_; refine qJ ?_; (try dsimp only); refine qW ?_; (try dsimp only); refine qX ?_; refine qQ ?_; refine qH (by omega) ?_; refine qJ ?_; (try dsimp only); refine jQ ?_; (try dsimp only); refine qE ?_; refine qJ ?_; (try dsimp only); refine qO ?_; (try dsimp only); refine zN (by omega) ?_; refine qE ?_; refine qQ ?_; refine qZ (by omega) ?_; refine qJ ?_; (try dsimp only); refine qW ?_; (try dsimp only); refine qX ?_; refine qJ ?_; (try dsimp only); refine qW ?_; (try dsimp only); refine qX ?_; refine qQ ?_; refine qZ (by omega) ?_; refine qJ ?_; (try dsimp only); refine qx ?_; (try dsimp only); refine qZ (by omega) ?_; refine qX ?_; refine qJ ?_; (try dsimp only); refine qW ?_; (try dsimp only); refine qX ?_; refine qJ ?_; (try dsimp only); refine qW ?_; (try dsimp only); refine qX ?_; refine qQ ?_; refine qZ (by omega) ?_; refine qJ ?_; (try dsimp only); refine qW ?_; (try dsimp only); refine qX ?_; refine qQ ?_; refine qZ (by omega) ?_; refine qJ ?_; (try dsimp only); refine qW ?_; (try dsimp only); refine qX ?_; refine qQ ?_; refine qZ (by omega) ?_; refine qJ ?_; (try dsimp only); refine qx ?_; (try dsimp only); refine qZ (by omega) ?_; refine qX ?_; refine qQ ?_; refine qZ (by omega) ?_; refine qJ ?_; (try dsimp only); refine qW ?_; (try dsimp only); refine qX ?_; refine qQ ?_)
    exact dflt
  · with_reducible (refine qZ (by omega) ?_; refine qJ ?_; (try dsimp only); refine qW ?_; (try dsimp only); refine qX ?_; refine qQ ?_; refine qZ (by omega) ?_; refine qJ ?_; (try dsimp only); refine qx ?_; (try dsimp only); refine qZ (by omega) ?_; refine qX ?_; refine qJ ?_; (try dsimp only); refine qW ?_; (try dsimp only); refine qX ?_; refine qQ ?_; refine qZ (by omega) ?_; refine qJ ?_; (try dsimp only); refine qx ?_; (try dsimp only); refine qH (by omega) ?_; refine qX ?_; refine qJ ?_; (try dsimp only); refine qO ?_; (try dsimp only); refine zT (by omega) ?_; refine qE ?_; refine qj ?_)
    exact shu (by omega)
  · with_reducible (refine qZ (by omega) ?_; refine qJ ?_; (try dsimp only); refine qW ?_; (try dsimp only); refine qX ?_; refine qQ ?_; refine qZ (by omega) ?_; refine qJ ?_; (try dsimp only); refine qx ?_; (try dsimp only); refine qZ (by omega) ?_; refine qX ?_; refine qJ ?_; (try dsimp only); refine qW ?_; (try dsimp only); refine qX ?_; refine qQ ?_; refine qZ (by omega) ?_; refine qJ ?_; (try dsimp only); refine qx ?_; (try dsimp only); refine qH (by omega) ?_; refine qX ?_; refine qJ ?_; (try dsimp only); refine qO ?_; (try dsimp only); refine zN (by omega) ?_; refine qE ?_; refine qQ ?_; refine qZ (by omega) ?_; refine qJ ?_; (try dsimp only); refine qW ?_; (try dsimp only); refine qX ?_; refine qJ ?_; (try dsimp only); refine qW ?_; (try dsimp only); refine qX ?_; refine qQ ?_; refine qZ (by omega) ?_; refine qJ ?_; (try dsimp only); refine qx ?_; (try dsimp only); refine qZ (by omega) ?_; refine qX ?_; refine qJ ?_; (try dsimp only); refine qW ?_; (try dsimp only); refine qX ?_; refine qJ ?_; (try dsimp only); refine qW ?_; (try dsimp only); refine qX ?_; refine qQ ?_; refine qZ (by omega) ?_; refine qJ ?_; (try dsimp only); refine qW ?_; (try dsimp only); refine qX ?_; refine qQ ?_; refine qZ (by omega) ?_; refine qJ ?_; (try dsimp only); refine qW ?_; (try dsimp only); refine qX ?_; refine qQ ?_; refine qZ (by omega) ?_; refine qJ ?_; (try dsimp only); refine qx ?_; (try dsimp only); refine qZ (by omega) ?_; refine qX ?_; refine qQ ?_; refine qZ (by omega) ?_; refine qJ ?_; (try dsimp only); refine qW ?_; (try dsimp only); refine qX ?_; refine qQ ?_)
    exact dflt
  · with_reducible (refine qZ (by omega) ?_; refine qJ ?_; (try dsimp only); refine qW ?_; (try dsimp only); refine qX ?_; refine qQ ?_; refine qZ (by omega) ?_; refine qJ ?_; (try dsimp only); refine qx ?_; (try dsimp only); refine qZ (by omega) ?_; refine qX ?_; refine qJ ?_; (try dsimp only); refine qW ?_; (try dsimp only); refine qX ?_; refine qQ ?_; refine qZ (by omega) ?_; refine qJ ?_; (try dsimp only); refine qx ?_; (try dsimp only); refine qZ (by omega) ?_; refine qX ?_; refine qJ ?_; (try dsimp only); refine qW ?_; (try dsimp only); refine qX ?_; refine qQ ?_; refine qH (by omega) ?_; refine qJ ?_; (try dsimp only); refine qO ?_; (try dsimp only); refine zT (by omega) ?_; refine qE ?_; refine qJ ?_; (try dsimp only); refine qO ?_; (try dsimp only); refine jT (by omega) ?_)
    rw [show (st.length : Int) - ((1 : Nat) : Int) = ((st.length - 1 : Nat) : Int) by omega]
    refine ja (H6.sl e_2) (x := .int .i64 (opM l st)) (by rw [List.getElem?_map, Kd (List.length_pos_iff.1 hs1)]; rfl) ?_
    by_cases h14 : opM l st = 14
    · refine qH h14 ?_
      with_reducible (refine qE ?_; refine qj ?_; refine qp (by with_unfolding_all exact rfl) ?_)
      exact und h14
    · refine qZ h14 ?_
      with_reducible (refine qE ?_; refine qQ ?_; refine qZ (by omega) ?_; refine qJ ?_; (try dsimp only); refine qx ?_; (try dsimp only); refine qZ (by omega) ?_; refine qX ?_; refine qJ ?_; (try dsimp only); refine qW ?_; (try dsimp only); refine qX ?_; refine qJ ?_; (try dsimp only); refine qW ?_; (try dsimp only); refine qX ?_; refine qQ ?_; refine qZ (by omega) ?_; refine qJ ?_; (try dsimp only); refine qW ?_; (try dsimp only); refine qX ?_; refine qQ ?_; refine qZ (by omega) ?_; refine qJ ?_; (try dsimp only); refine qW ?_; (try dsimp only); refine qX ?_; refine qQ ?_; refine qZ (by omega) ?_; refine qJ ?_; (try dsimp only); refine qx ?_; (try dsimp only); refine qZ (by omega) ?_; refine qX ?_; refine qQ ?_; refine qZ (by omega) ?_; refine qJ ?_; (try dsimp only); refine qW ?_; (try dsimp only); refine qX ?_; refine qQ ?_)
      exact dflt
  · with_reducible (refine qZ (by omega) ?_; refine qJ ?_; (try dsimp only); refine qW ?_; (try dsimp only); refine qX ?_; refine qQ ?_; refine qZ (by omega) ?_; refine qJ ?_; (try dsimp only); refine qx ?_; (try dsimp only); refine qZ (by omega) ?_; refine qX ?_; refine qJ ?_; (try dsimp only); refine qW ?_; (try dsimp only); refine qX ?_; refine qQ ?_; refine qZ (by omega) ?_; refine qJ ?_; (try dsimp only); refine qx ?_; (try dsimp only); refine qZ (by omega) ?_; refine qX ?_; refine qJ ?_; (try dsimp only); refine qW ?_; (try dsimp only); refine qX ?_; refine qQ ?_; refine qH (by omega) ?_; refine qJ ?_; (try dsimp only); refine qO ?_; (try dsimp only); refine zN (by omega) ?_; refine qE ?_; refine qJ ?_; (try dsimp only); refine qW ?_; (try dsimp only); refine qX ?_; refine qQ ?_; refine qZ (by omega) ?_; refine qJ ?_; (try dsimp only); refine qx ?_; (try dsimp only); refine qZ (by omega) ?_; refine qX ?_; refine qJ ?_; (try dsimp only); refine qW ?_; (try dsimp only); refine qX ?_; refine qJ ?_; (try dsimp only); refine qW ?_; (try dsimp only); refine qX ?_; refine qQ ?_; refine qZ (by omega) ?_; refine qJ ?_; (try dsimp only); refine qW ?_; (try dsimp only); refine qX ?_; refine qQ ?_; refine qZ (by omega) ?_; refine qJ ?_; (try dsimp only); refine qW ?_; (try dsimp only); refine qX ?_; refine qQ ?_; refine qZ (by omega) ?_; refine qJ ?_; (try dsimp only); refine qx ?_; (try dsimp only); refine qZ (by omega) ?_; refine qX ?_; refine qQ ?_; refine qZ (by omega) ?_; refine qJ ?_; (try dsimp only); refine qW ?_; (try dsimp only); refine qX ?_; refine qQ ?_)
    exact dflt
  · cases calm
    · with_reducible (refine qZ (by omega) ?_; refine qJ ?_; (try dsimp only); refine qW ?_; (try dsimp only); refine qX ?_; refine qQ ?_; refine qZ (by omega) ?_; refine qJ ?_; (try dsimp only); refine qx ?_; (try dsimp only); refine qZ (by omega) ?_; refine qX ?_; refine qJ ?_; (try dsimp only); refine qW ?_; (try dsimp only); refine qX ?_; refine qQ ?_; refine qZ (by omega) ?_; refine qJ ?_; (try dsimp only); refine qx ?_; (try dsimp only); refine qZ (by omega) ?_; refine qX ?_; refine qJ ?_; (try dsimp only); refine qW ?_; (try dsimp only); refine qX ?_; refine qQ ?_; refine qZ (by omega) ?_; refine qJ ?_; (try dsimp only); refine qW ?_; (try dsimp only); refine qX ?_; refine qJ ?_; (try dsimp only); refine qW ?_; (try dsimp only); refine qX ?_; refine qQ ?_; refine qH (by omega) ?_; refine qJ ?_; (try dsimp only); refine jQ ?_; (try dsimp only); refine qE ?_; refine qJ ?_; (try dsimp only); refine qO ?_; (try dsimp only); refine jb ?_; refine qE ?_; refine qJ ?_; (try dsimp only); refine qO ?_; (try dsimp only); refine zT (by omega) ?_; refine qE ?_; refine qj ?_; refine qY ?_; refine qw (by assumption) .here (by with_unfolding_all exact rfl) ?_)
      exact two 20 (.inl rfl) rfl
    · with_reducible (refine qZ (by omega) ?_; refine qJ ?_; (try dsimp only); refine qW ?_; (try dsimp only); refine qX ?_; refine qQ ?_; refine qZ (by omega) ?_; refine qJ ?_; (try dsimp only); refine qx ?_; (try dsimp only); refine qZ (by omega) ?_; refine qX ?_; refine qJ ?_; (try dsimp only); refine qW ?_; (try dsimp only); refine qX ?_; refine qQ ?_; refine qZ (by omega) ?_; refine qJ ?_; (try dsimp only); refine qx ?_; (try dsimp only); refine qZ (by omega) ?_; refine qX ?_; refine qJ ?_; (try dsimp only); refine qW ?_; (try dsimp only); refine qX ?_; refine qQ ?_; refine qZ (by omega) ?_; refine qJ ?_; (try dsimp only); refine qW ?_; (try dsimp only); refine qX ?_; refine qJ ?_; (try dsimp only); refine qW ?_; (try dsimp only); refine qX ?_; refine qQ ?_; refine qH (by omega) ?_; refine qJ ?_; (try dsimp only); refine jQ ?_; (try dsimp only); refine qE ?_; refine qJ ?_; (try dsimp only); refine qO ?_; (try dsimp only); refine jP ?_; refine qE ?_; refine qJ ?_; (try dsimp only); refine qW ?_; (try dsimp only); refine qX ?_; refine qQ ?_; refine qZ (by omega) ?_; refine qJ ?_; (try dsimp only); refine qW ?_; (try dsimp only); refine qX ?_; refine qQ ?_; refine qZ (by omega) ?_; refine qJ ?_; (try dsimp only); refine qW ?_; (try dsimp only); refine qX ?_; refine qQ ?_; refine qZ (by omega) ?_; refine qJ ?_; (try dsimp only); refine qx ?_; (try dsimp only); refine qZ (by omega) ?_; refine qX ?_; refine qQ ?_; refine qZ (by omega) ?_; refine qJ ?_; (try dsimp only); refine qW ?_; (try dsimp only); refine qX ?_; refine qQ ?_)
      exact dflt
  · cases calm
    · with_reducible (refine qZ (by omega) ?_; refine qJ ?_; (try dsimp only); refine qW ?_; (try dsimp only); refine qX ?_; refine qQ ?_; refine qZ (by omega) ?_; refine qJ ?_; (try dsimp only); refine qx ?_; (try dsimp only); refine qZ (by omega) ?_; refine qX ?_; refine qJ ?_; (try dsimp only); refine qW ?_; (try dsimp only); refine qX ?_; refine qQ ?_; refine qZ (by omega) ?_; refine qJ ?_; (try dsimp only); refine qx ?_; (try dsimp only); refine qZ (by omega) ?_; refine qX ?_; refine qJ ?_; (try dsimp only); refine qW ?_; (try dsimp only); refine qX ?_; refine qQ ?_; refine qZ (by omega) ?_; refine qJ ?_; (try dsimp only); refine qW ?_; (try dsimp only); refine qX ?_; refine qJ ?_; (try dsimp only); refine qW ?_; (try dsimp only); refine qX ?_; refine qQ ?_; refine qH (by omega) ?_; refine qJ ?_; (try dsimp only); refine jQ ?_; (try dsimp only); refine qE ?_; refine qJ ?_; (try dsimp only); refine qO ?_; (try dsimp only); refine jb ?_; refine qE ?_; refine qJ ?_; (try dsimp only); refine qO ?_; (try dsimp only); refine zN (by omega) ?_; refine qE ?_; refine qQ ?_; refine qZ (by omega) ?_; refine qJ ?_; (try dsimp only); refine qW ?_; (try dsimp only); refine qX ?_; refine qQ ?_; refine qZ (by omega) ?_; refine qJ ?_; (try dsimp only); refine qW ?_; (try dsimp only); refine qX ?_; refine qQ ?_; refine qZ (by omega) ?_; refine qJ ?_; (try dsimp only); refine qx ?_; (try dsimp only); refine qZ (by omega) ?_; refine qX ?_; refine qQ ?_; refine qZ (by omega) ?_; refine qJ ?_; (try dsimp only); refine qW ?_; (try dsimp only); refine qX ?_; refine qQ ?_)
      exact dflt
    · with_reducible (refine qZ (by omega) ?_; refine qJ ?_; (try dsimp only); refine qW ?_; (try dsimp only); refine qX ?_; refine qQ ?_; refine qZ (by omega) ?_; refine qJ ?_; (try dsimp only); refine qx ?_; (try dsimp only); refine qZ (by omega) ?_; refine qX ?_; refine qJ ?_; (try dsimp only); refine qW ?_; (try dsimp only); refine qX ?_; refine qQ ?_; refine qZ (by omega) ?_; refine qJ ?_; (try dsimp only); refine qx ?_; (try dsimp only); refine qZ (by omega) ?_; refine qX ?_; refine qJ ?_; (try dsimp only); refine qW ?_; (try dsimp only); refine qX ?_; refine qQ ?_; refine qZ (by omega) ?_; refine qJ ?_; (try dsimp only); refine qW ?_; (try dsimp only); refine qX ?_; refine qJ ?_; (try dsimp only); refine qW ?_; (try dsimp only); refine qX ?_; refine qQ ?_; refine qH (by omega) ?_; refine qJ ?_; (try dsimp only); refine jQ ?_; (try dsimp only); refine qE ?_; refine qJ ?_; (try dsimp only); refine qO ?_; (try dsimp only); refine jP ?_; refine qE ?_; refine qJ ?_; (try dsimp only); refine qW ?_; (try dsimp only); refine qX ?_; refine qQ ?_; refine qZ (by omega) ?_; refine qJ ?_; (try dsimp only); refine qW ?_; (try dsimp only); refine qX ?_; refine qQ ?_; refine qZ (by omega) ?_; refine qJ ?_; (try dsimp only); refine qW ?_; (try dsimp only); refine qX ?_; refine qQ ?_; refine qZ (by omega) ?_; refine qJ ?_; (try dsimp only); refine qx ?_; (try dsimp only); refine qZ (by omega) ?_; refine qX ?_; refine qQ ?_; refine qZ (by omega) ?_; refine qJ ?_; (try dsimp only); refine qW ?_; (try dsimp only); refine qX ?_; refine qQ ?_)
      exact dflt
  · cases calm
    · with_reducible (refine qZ (by omega) ?_; refine qJ ?_; (try dsimp only); refine qW ?_; (try dsimp only); refine qX ?_; refine qQ ?_; refine qZ (by omega) ?_; refine qJ ?_; (try dsimp only); refine qx ?_; (try dsimp only); refine qZ (by omega) ?_; refine qX ?_; refine qJ ?_; (try dsimp only); refine qW ?_; (try dsimp only); refine qX ?_; refine qQ ?_; refine qZ (by omega) ?_; refine qJ ?_; (try dsimp only); refine qx ?_; (try dsimp only); refine qZ (by omega) ?_; refine qX ?_; refine qJ ?_; (try dsimp only); refine qW ?_; (try dsimp only); refine qX ?_; refine qQ ?_; refine qZ (by omega) ?_; refine qJ ?_; (try dsimp only); refine qW ?_; (try dsimp only); refine qX ?_; refine qJ ?_; (try dsimp only); refine qW ?_; (try dsimp only); refine qX ?_; refine qQ ?_; refine qZ (by omega) ?_; refine qJ ?_; (try dsimp only); refine qx ?_; (try dsimp only); refine qH (by omega) ?_; refine qX ?_; refine qJ ?_; (try dsimp only); refine qO ?_; (try dsimp only); refine jb ?_; refine qE ?_; refine qJ ?_; (try dsimp only); refine qO ?_; (try dsimp only); refine zT (by omega) ?_; refine qE ?_; refine qj ?_; refine qY ?_; refine qw (by assumption) .here (by with_unfolding_all exact rfl) ?_)
      exact two 20 (.inl rfl) rfl
    · with_reducible (refine qZ (by omega) ?_; refine qJ ?_; (try dsimp only); refine qW ?_; (try dsimp only); refine qX ?_; refine qQ ?_; refine qZ (by omega) ?_; refine qJ ?_; (try dsimp only); refine qx ?_; (try dsimp only); refine qZ (by omega) ?_; refine qX ?_; refine qJ ?_; (try dsimp only); refine qW ?_; (try dsimp only); refine qX ?_; refine qQ ?_; refine qZ (by omega) ?_; refine qJ ?_; (try dsimp only); refine qx ?_; (try dsimp only); refine qZ (by omega) ?_; refine qX ?_; refine qJ ?_; (try dsimp only); refine qW ?_; (try dsimp only); refine qX ?_; refine qQ ?_; refine qZ (by omega) ?_; refine qJ ?_; (try dsimp only); refine qW ?_; (try dsimp only); refine qX ?_; refine qJ ?_; (try dsimp only); refine qW ?_; (try dsimp only); refine qX ?_; refine qQ ?_; refine qZ (by omega) ?_; refine qJ ?_; (try dsimp only); refine qx ?_; (try dsimp only); refine qH (by omega) ?_; refine qX ?_; refine qJ ?_; (try dsimp only); refine qO ?_; (try dsimp only); refine jP ?_; refine qE ?_; refine qJ ?_; (try dsimp only); refine qW ?_; (try dsimp only); refine qX ?_; refine qQ ?_; refine qZ (by omega) ?_; refine qJ ?_; (try dsimp only); refine qW ?_; (try dsimp only); refine qX ?_; refine qQ ?_; refine qZ (by omega) ?_; refine qJ ?_; (try dsimp only); refine qW ?_; (try dsimp only); refine qX ?_; refine qQ ?_; refine qZ (by omega) ?_; refine qJ ?_; (try dsimp only); refine qx ?_; (try dsimp only); refine qZ (by omega) ?_; refine qX ?_; refine qQ ?_; refine qZ (by omega) ?_; refine qJ ?_; (try dsimp only); refine qW ?_; (try dsimp only); refine qX ?_; refine qQ ?_)
      exact dflt
  · cases calm
    · with_reducible (refine qZ (by omega) ?_; refine qJ ?_; (try dsimp only); refine qW ?_; (try dsimp only); refine qX ?_; refine qQ ?_; refine qZ (by omega) ?_; refine qJ ?_; (try dsimp only); refine qx ?_; (try dsimp only); refine qZ (by omega) ?_; refine qX ?_; refine qJ ?_; (try dsimp only); refine qW ?_; (try dsimp only); refine qX ?_; refine qQ ?_; refine qZ (by omega) ?_; refine qJ ?_; (try dsimp only); refine qx ?_; (try dsimp only); refine qZ (by omega) ?_; refine qX ?_; refine qJ ?_; (try dsimp only); refine qW ?_; (try dsimp only); refine qX ?_; refine qQ ?_; refine qZ (by omega) ?_; refine qJ ?_; (try dsimp only); refine qW ?_; (try dsimp only); refine qX ?_; refine qJ ?_; (try dsimp only); refine qW ?_; (try dsimp only); refine qX ?_; refine qQ ?_; refine qZ (by omega) ?_; refine qJ ?_; (try dsimp only); refine qx ?_; (try dsimp only); refine qH (by omega) ?_; refine qX ?_; refine qJ ?_; (try dsimp only); refine qO ?_; (try dsimp only); refine jb ?_; refine qE ?_; refine qJ ?_; (try dsimp only); refine qO ?_; (try dsimp only); refine zN (by omega) ?_; refine qE ?_; refine qQ ?_; refine qZ (by omega) ?_; refine qJ ?_; (try dsimp only); refine qW ?_; (try dsimp only); refine qX ?_; refine qQ ?_; refine qZ (by omega) ?_; refine qJ ?_; (try dsimp only); refine qW ?_; (try dsimp only); refine qX ?_; refine qQ ?_; refine qZ (by omega) ?_; refine qJ ?_; (try dsimp only); refine qx ?_; (try dsimp only); refine qZ (by omega) ?_; refine qX ?_; refine qQ ?_; refine qZ (by omega) ?_; refine qJ ?_; (try dsimp only); refine qW ?_; (try dsimp only); refine qX ?_; refine qQ ?_)
      exact dflt
    · with_reducible (refine qZ (by omega) ?_; refine qJ ?_; (try dsimp only); refine qW ?_; (try dsimp only); refine qX ?_; refine qQ ?_; refine qZ (by omega) ?_; refine qJ ?_; (try dsimp only); refine qx ?_; (try dsimp only); refine qZ (by omega) ?_; refine qX ?_; refine qJ ?_; (try dsimp only); refine qW ?_; (try dsimp only); refine qX ?_; refine qQ ?_; refine qZ (by omega) ?_; refine qJ ?_; (try dsimp only); refine qx ?_; (try dsimp only); refine qZ (by omega) ?_; refine qX ?_; refine qJ ?_; (try dsimp only); refine qW ?_; (try dsimp only); refine qX ?_; refine qQ ?_; refine qZ (by omega) ?_; refine qJ ?_; (try dsimp only); refine qW ?_; (try dsimp only); refine qX ?_; refine qJ ?_; (try dsimp only); refine qW ?_; (try dsimp only); refine qX ?_; refine qQ ?_; refine qZ (by omega) ?_; refine qJ ?_; (try dsimp only); refine qx ?_; (try dsimp only); refine qH (by omega) ?_; refine qX ?_; refine qJ ?_; (try dsimp only); refine qO ?_; (try dsimp only); refine jP ?_; refine qE ?_; refine qJ ?_; (try dsimp only); refine qW ?_; (try dsimp only); refine qX ?_; refine qQ ?_; refine qZ (by omega) ?_; refine qJ ?_; (try dsimp only); refine qW ?_; (try dsimp only); refine qX ?_; refine qQ ?_; refine qZ (by omega) ?_; refine qJ ?_; (try dsimp only); refine qW ?_; (try dsimp only); refine qX ?_; refine qQ ?_; refine qZ (by omega) ?_; refine qJ ?_; (try dsimp only); refine qx ?_; (try dsimp only); refine qZ (by omega) ?_; refine qX ?_; refine qQ ?_; refine qZ (by omega) ?_; refine qJ ?_; (try dsimp only); refine qW ?_; (try dsimp only); refine qX ?_; refine qQ ?_)
      exact dflt
  · cases calm
    · with_reducible (refine qZ (by omega) ?_; refine qJ ?_; (try dsimp only); refine qW ?_; (try dsimp only); refine qX ?_; refine qQ ?_; refine qZ (by omega) ?_; refine qJ ?_; (try dsimp only); refine qx ?_; (try dsimp only); refine qZ (by omega) ?_; refine qX ?_; refine qJ ?_; (try dsimp only); refine qW ?_; (try dsimp only); refine qX ?_; refine qQ ?_; refine qZ (by omega) ?_; refine qJ ?_; (try dsimp only); refine qx ?_; (try dsimp only); refine qZ (by omega) ?_; refine qX ?_; refine qJ ?_; (try dsimp only); refine qW ?_; (try dsimp only); refine qX ?_; refine qQ ?_; refine qZ (by omega) ?_; refine qJ ?_; (try dsimp only); refine qW ?_; (try dsimp only); refine qX ?_; refine qJ ?_; (try dsimp only); refine qW ?_; (try dsimp only); refine qX ?_; refine qQ ?_; refine qZ (by omega) ?_; refine qJ ?_; (try dsimp only); refine qx ?_; (try dsimp only); refine qZ (by omega) ?_; refine qX ?_; refine qJ ?_; (try dsimp only); refine qW ?_; (try dsimp only); refine qX ?_; refine qJ ?_; (try dsimp only); refine qW ?_; (try dsimp only); refine qX ?_; refine qQ ?_; refine qH (by omega) ?_; refine qJ ?_; (try dsimp only); refine qO ?_; (try dsimp only); refine jb ?_; refine qE ?_; refine qj ?_; refine qY ?_; refine qw (by assumption) .here (by with_unfolding_all exact rfl) ?_)
      exact two 20 (.inl rfl) rfl
    · with_reducible (refine qZ (by omega) ?_; refine qJ ?_; (try dsimp only); refine qW ?_; (try dsimp only); refine qX ?_; refine qQ ?_; refine qZ (by omega) ?_; refine qJ ?_; (try dsimp only); refine qx ?_; (try dsimp only); refine qZ (by omega) ?_; refine qX ?_; refine qJ ?_; (try dsimp only); refine qW ?_; (try dsimp only); refine qX ?_; refine qQ ?_; refine qZ (by omega) ?_; refine qJ ?_; (try dsimp only); refine qx ?_; (try dsimp only); refine qZ (by omega) ?_; refine qX ?_; refine qJ ?_; (try dsimp only); refine qW ?_; (try dsimp only); refine qX ?_; refine qQ ?_; refine qZ (by omega) ?_; refine qJ ?_; (try dsimp only); refine qW ?_; (try dsimp only); refine qX ?_; refine qJ ?_; (try dsimp only); refine qW ?_; (try dsimp only); refine qX ?_; refine qQ ?_; refine qZ (by omega) ?_; refine qJ ?_; (try dsimp only); refine qx ?_; (try dsimp only); refine qZ (by omega) ?_; refine qX ?_; refine qJ ?_; (try dsimp only); refine qW ?_; (try dsimp only); refine qX ?_; refine qJ ?_; (try dsimp only); refine qW ?_; (try dsimp only); refine qX ?_; refine qQ ?_; refine qH (by omega) ?_; refine qJ ?_; (try dsimp only); refine qO ?_; (try dsimp only); refine jP ?_; refine qE ?_; refine qQ ?_; refine qZ (by omega) ?_; refine qJ ?_; (try dsimp only); refine qW ?_; (try dsimp only); refine qX ?_; refine qQ ?_; refine qZ (by omega) ?_; refine qJ ?_; (try dsimp only); refine qx ?_; (try dsimp only); refine qZ (by omega) ?_; refine qX ?_; refine qQ ?_; refine qZ (by omega) ?_; refine qJ ?_; (try dsimp only); refine qW ?_; (try dsimp only); refine qX ?_; refine qQ ?_)
      exact dflt
  · cases calm
    · with_reducible (refine qZ (by omega) ?_; refine qJ ?_; (try dsimp only); refine qW ?_; (try dsimp only); refine qX ?_; refine qQ ?_; refine qZ (by omega) ?_; refine qJ ?_; (try dsimp only); refine qx ?_; (try dsimp only); refine qZ (by omega) ?_; refine qX ?_; refine qJ ?_; (try dsimp only); refine qW ?_; (try dsimp only); refine qX ?_; refine qQ ?_; refine qZ (by omega) ?_; refine qJ ?_; (try dsimp only); refine qx ?_; (try dsimp only); refine qZ (by omega) ?_; refine qX ?_; refine qJ ?_; (try dsimp only); refine qW ?_; (try dsimp only); refine qX ?_; refine qQ ?_; refine qZ (by omega) ?_; refine qJ ?_; (try dsimp only); refine qW ?_; (try dsimp only); refine qX ?_; refine qJ ?_; (try dsimp only); refine qW ?_; (try dsimp only); refine qX ?_; refine qQ ?_; refine qZ (by omega) ?_; refine qJ ?_; (try dsimp only); refine qx ?_; (try dsimp only); refine qZ (by omega) ?_; refine qX ?_; refine qJ ?_; (try dsimp only); refine qW ?_; (try dsimp only); refine qX ?_; refine qJ ?_; (try dsimp only); refine qW ?_; (try dsimp only); refine qX ?_; refine qQ ?_; refine qZ (by omega) ?_; refine qJ ?_; (try dsimp only); refine qW ?_; (try dsimp only); refine qX ?_; refine qQ ?_; refine qH (by omega) ?_; refine qJ ?_; (try dsimp only); refine qO ?_; (try dsimp only); refine jb ?_; refine qE ?_; refine qj ?_; refine qY ?_; refine qw (by assumption) .here (by with_unfolding_all exact rfl) ?_)
      exact two 22 (.inr rfl) rfl
    · with_reducible (refine qZ (by omega) ?_; refine qJ ?_; (try dsimp only); refine qW ?_; (try dsimp only); refine qX ?_; refine qQ ?_; refine qZ (by omega) ?_; refine qJ ?_; (try dsimp only); refine qx ?_; (try dsimp only); refine qZ (by omega) ?_; refine qX ?_; refine qJ ?_; (try dsimp only); refine qW ?_; (try dsimp only); refine qX ?_; refine qQ ?_; refine qZ (by omega) ?_; refine qJ ?_; (try dsimp only); refine qx ?_; (try dsimp only); refine qZ (by omega) ?_; refine qX ?_; refine qJ ?_; (try dsimp only); refine qW ?_; (try dsimp only); refine qX ?_; refine qQ ?_; refine qZ (by omega) ?_; refine qJ ?_; (try dsimp only); refine qW ?_; (try dsimp only); refine qX ?_; refine qJ ?_; (try dsimp only); refine qW ?_; (try dsimp only); refine qX ?_; refine qQ ?_; refine qZ (by omega) ?_; refine qJ ?_; (try dsimp only); refine qx ?_; (try dsimp only); refine qZ (by omega) ?_; refine qX ?_; refine qJ ?_; (try dsimp only); refine qW ?_; (try dsimp only); refine qX ?_; refine qJ ?_; (try dsimp only); refine qW ?_; (try dsimp only); refine qX ?_; refine qQ ?_; refine qZ (by omega) ?_; refine qJ ?_; (try dsimp only); refine qW ?_; (try dsimp only); refine qX ?_; refine qQ ?_; refine qH (by omega) ?_; refine qJ ?_; (try dsimp only); refine qO ?_; (try dsimp only); refine jP ?_; refine qE ?_; refine qQ ?_; refine qZ (by omega) ?_; refine qJ ?_; (try dsimp only); refine qx ?_; (try dsimp only); refine qZ (by omega) ?_; refine qX ?_; refine qQ ?_; refine qZ (by omega) ?_; refine qJ ?_; (try dsimp only); refine qW ?_; (try dsimp only); refine qX ?_; refine qQ ?_)
      exact dflt
  · with_reducible (refine qZ (by omega) ?_; refine qJ ?_; (try dsimp only); refine qW ?_; (try dsimp only); refine qX ?_; refine qQ ?_; refine qZ (by omega) ?_; refine qJ ?_; (try dsimp only); refine qx ?_; (try dsimp only); refine qZ (by omega) ?_; refine qX ?_; refine qJ ?_; (try dsimp only); refine qW ?_; (try dsimp only); refine qX ?_; refine qQ ?_; refine qZ (by omega) ?_; refine qJ ?_; (try dsimp only); refine qx ?_; (try dsimp only); refine qZ (by omega) ?_; refine qX ?_; refine qJ ?_; (try dsimp only); refine qW ?_; (try dsimp only); refine qX ?_; refine qQ ?_; refine qZ (by omega) ?_; refine qJ ?_; (try dsimp only); refine qW ?_; (try dsimp only); refine qX ?_; refine qJ ?_; (try dsimp only); refine qW ?_; (try dsimp only); refine qX ?_; refine qQ ?_; refine qZ (by omega) ?_; refine qJ ?_; (try dsimp only); refine qx ?_; (try dsimp only); refine qZ (by omega) ?_; refine qX ?_; refine qJ ?_; (try dsimp only); refine qW ?_; (try dsimp only); refine qX ?_; refine qJ ?_; (try dsimp only); refine qW ?_; (try dsimp only); refine qX ?_; refine qQ ?_; refine qZ (by omega) ?_; refine qJ ?_; (try dsimp only); refine qW ?_; (try dsimp only); refine qX ?_; refine qQ ?_; refine qZ (by omega) ?_; refine qJ ?_; (try dsimp only); refine qW ?_; (try dsimp only); refine qX ?_; refine qQ ?_; refine qH (by omega) ?_; refine qJ ?_; (try dsimp only); refine jQ ?_; (try dsimp only); refine qE ?_; refine qj ?_; refine qJ ?_; (try dsimp only); refine qY ?_; refine qw (by assumption) .here (by with_unfolding_all exact rfl) ?_)
    exact ovr
  · with_reducible (refine qZ (by omega) ?_; refine qJ ?_; (try dsimp only); refine qW ?_; (try dsimp only); refine qX ?_; refine qQ ?_; refine qZ (by omega) ?_; refine qJ ?_; (try dsimp only); refine qx ?_; (try dsimp only); refine qZ (by omega) ?_; refine qX ?_; refine qJ ?_; (try dsimp only); refine qW ?_; (try dsimp only); refine qX ?_; refine qQ ?_; refine qZ (by omega) ?_; refine qJ ?_; (try dsimp only); refine qx ?_; (try dsimp only); refine qZ (by omega) ?_; refine qX ?_; refine qJ ?_; (try dsimp only); refine qW ?_; (try dsimp only); refine qX ?_; refine qQ ?_; refine qZ (by omega) ?_; refine qJ ?_; (try dsimp only); refine qW ?_; (try dsimp only); refine qX ?_; refine qJ ?_; (try dsimp only); refine qW ?_; (try dsimp only); refine qX ?_; refine qQ ?_; refine qZ (by omega) ?_; refine qJ ?_; (try dsimp only); refine qx ?_; (try dsimp only); refine qZ (by omega) ?_; refine qX ?_; refine qJ ?_; (try dsimp only); refine qW ?_; (try dsimp only); refine qX ?_; refine qJ ?_; (try dsimp only); refine qW ?_; (try dsimp only); refine qX ?_; refine qQ ?_; refine qZ (by omega) ?_; refine qJ ?_; (try dsimp only); refine qW ?_; (try dsimp only); refine qX ?_; refine qQ ?_; refine qZ (by omega) ?_; refine qJ ?_; (try dsimp only); refine qW ?_; (try dsimp only); refine qX ?_; refine qQ ?_; refine qZ (by omega) ?_; refine qJ ?_; (try dsimp only); refine qx ?_; (try dsimp only); refine qH (by omega) ?_; refine qX ?_; refine qj ?_; refine qJ ?_; (try dsimp only); refine qY ?_; refine qw (by assumption) .here (by with_unfolding_all exact rfl) ?_)
    exact ovr
  · cases calm
    · with_reducible (refine qZ (by omega) ?_; refine qJ ?_; (try dsimp only); refine qW ?_; (try dsimp only); refine qX ?_; refine qQ ?_; refine qZ (by omega) ?_; refine qJ ?_; (try dsimp only); refine qx ?_; (try dsimp only); refine qZ (by omega) ?_; refine qX ?_; refine qJ ?_; (try dsimp only); refine qW ?_; (try dsimp only); refine qX ?_; refine qQ ?_; refine qZ (by omega) ?_; refine qJ ?_; (try dsimp only); refine qx ?_; (try dsimp only); refine qZ (by omega) ?_; refine qX ?_; refine qJ ?_; (try dsimp only); refine qW ?_; (try dsimp only); refine qX ?_; refine qQ ?_; refine qZ (by omega) ?_; refine qJ ?_; (try dsimp only); refine qW ?_; (try dsimp only); refine qX ?_; refine qJ ?_; (try dsimp only); refine qW ?_; (try dsimp only); refine qX ?_; refine qQ ?_; refine qZ (by omega) ?_; refine qJ ?_; (try dsimp only); refine qx ?_; (try dsimp only); refine qZ (by omega) ?_; refine qX ?_; refine qJ ?_; (try dsimp only); refine qW ?_; (try dsimp only); refine qX ?_; refine qJ ?_; (try dsimp only); refine qW ?_; (try dsimp only); refine qX ?_; refine qQ ?_; refine qZ (by omega) ?_; refine qJ ?_; (try dsimp only); refine qW ?_; (try dsimp only); refine qX ?_; refine qQ ?_; refine qZ (by omega) ?_; refine qJ ?_; (try dsimp only); refine qW ?_; (try dsimp only); refine qX ?_; refine qQ ?_; refine qZ (by omega) ?_; refine qJ ?_; (try dsimp only); refine qx ?_; (try dsimp only); refine qZ (by omega) ?_; refine qX ?_; refine qQ ?_; refine qH (by omega) ?_; refine qJ ?_; (try dsimp only); refine qO ?_; (try dsimp only); refine jb ?_; refine qE ?_; refine qj ?_; refine qJ ?_; (try dsimp only))
      exact bak rfl
    · with_reducible (refine qZ (by omega) ?_; refine qJ ?_; (try dsimp only); refine qW ?_; (try dsimp only); refine qX ?_; refine qQ ?_; refine qZ (by omega) ?_; refine qJ ?_; (try dsimp only); refine qx ?_; (try dsimp only); refine qZ (by omega) ?_; refine qX ?_; refine qJ ?_; (try dsimp only); refine qW ?_; (try dsimp only); refine qX ?_; refine qQ ?_; refine qZ (by omega) ?_; refine qJ ?_; (try dsimp only); refine qx ?_; (try dsimp only); refine qZ (by omega) ?_; refine qX ?_; refine qJ ?_; (try dsimp only); refine qW ?_; (try dsimp only); refine qX ?_; refine qQ ?_; refine qZ (by omega) ?_; refine qJ ?_; (try dsimp only); refine qW ?_; (try dsimp only); refine qX ?_; refine qJ ?_; (try dsimp only); refine qW ?_; (try dsimp only); refine qX ?_; refine qQ ?_; refine qZ (by omega) ?_; refine qJ ?_; (try dsimp only); refine qx ?_; (try dsimp only); refine qZ (by omega) ?_; refine qX ?_; refine qJ ?_; (try dsimp only); refine qW ?_; (try dsimp only); refine qX ?_; refine qJ ?_; (try dsimp only); refine qW ?_; (try dsimp only); refine qX ?_; refine qQ ?_; refine qZ (by omega) ?_; refine qJ ?_; (try dsimp only); refine qW ?_; (try dsimp only); refine qX ?_; refine qQ ?_; refine qZ (by omega) ?_; refine qJ ?_; (try dsimp only); refine qW ?_; (try dsimp only); refine qX ?_; refine qQ ?_; refine qZ (by omega) ?_; refine qJ ?_; (try dsimp only); refine qx ?_; (try dsimp only); refine qZ (by omega) ?_; refine qX ?_; refine qQ ?_; refine qH (by omega) ?_; refine qJ ?_; (try dsimp only); refine qO ?_; (try dsimp only); refine jP ?_; refine qE ?_; refine qQ ?_)
      exact dflt
  · with_reducible (refine qZ (by omega) ?_; refine qJ ?_; (try dsimp only); refine qW ?_; (try dsimp only); refine qX ?_; refine qQ ?_; refine qZ (by omega) ?_; refine qJ ?_; (try dsimp only); refine qx ?_; (try dsimp only); refine qZ (by omega) ?_; refine qX ?_; refine qJ ?_; (try dsimp only); refine qW ?_; (try dsimp only); refine qX ?_; refine qQ ?_; refine qZ (by omega) ?_; refine qJ ?_; (try dsimp only); refine qx ?_; (try dsimp only); refine qZ (by omega) ?_; refine qX ?_; refine qJ ?_; (try dsimp only); refine qW ?_; (try dsimp only); refine qX ?_; refine qQ ?_; refine qZ (by omega) ?_; refine qJ ?_; (try dsimp only); refine qW ?_; (try dsimp only); refine qX ?_; refine qJ ?_; (try dsimp only); refine qW ?_; (try dsimp only); refine qX ?_; refine qQ ?_; refine qZ (by omega) ?_; refine qJ ?_; (try dsimp only); refine qx ?_; (try dsimp only); refine qZ (by omega) ?_; refine qX ?_; refine qJ ?_; (try dsimp only); refine qW ?_; (try dsimp only); refine qX ?_; refine qJ ?_; (try dsimp only); refine qW ?_; (try dsimp only); refine qX ?_; refine qQ ?_; refine qZ (by omega) ?_; refine qJ ?_; (try dsimp only); refine qW ?_; (try dsimp only); refine qX ?_; refine qQ ?_; refine qZ (by omega) ?_; refine qJ ?_; (try dsimp only); refine qW ?_; (try dsimp only); refine qX ?_; refine qQ ?_; refine qZ (by omega) ?_; refine qJ ?_; (try dsimp only); refine qx ?_; (try dsimp only); refine qZ (by omega) ?_; refine qX ?_; refine qQ ?_; refine qZ (by omega) ?_; refine qJ ?_; (try dsimp only); refine qW ?_; (try dsimp only); refine qX ?_; refine qQ ?_)
    exact dflt
end Go.Proofs.YtdlfmpmpmkffjaaGreatDoor
namespace Go.Proofs.YtdlfmpmpmkffjaaGreatDoor
open Go Go.Ae
set_option maxRecDepth 100000
variable {g h : AH} {L R : List SP}
theorem kB {p : Int} {c : Cl} {l : List Cl} : zJ p (c :: l) = if c.1 = p then some c.2 else zJ p l := rfl
theorem ZM (zs : List Int) {i : Nat} (h0 : 0 < i) (h : i < szZ zs.length) : zJ (i : Int) (kW zs) = some (xi zs i) := by
  have e : kW zs = (kW zs).take (i - 1) ++ [((i : Int), xi zs i)] ++ (kW zs).drop i := by
    have hk := YA zs (show i - 1 + 1 < szZ zs.length by omega)
    rw [show i - 1 + 1 = i by omega] at hk
    have := List.take_add_one (l := kW zs) (i := i - 1)
    rw [show i - 1 + 1 = i by omega, hk, Option.toList_some] at this
    rw [← this, List.take_append_drop]
  have hg : ∀ (l1 l2 : List Cl), zJ (i : Int) l1 = none → zJ (i : Int) (l1 ++ l2) = zJ (i : Int) l2 := by
    intro l1 l2
    induction l1 with
    | nil => intro _; rfl
    | cons c l ih =>
      intro hn
      rw [kB] at hn
      split at hn
      · cases hn
      · rename_i hc
        show zJ (i : Int) (c :: (l ++ l2)) = _
        rw [kB, if_neg hc]
        exact ih hn
  rw [e, List.append_assoc, hg _ _ (UN zs (by omega))]
  show zJ (i : Int) (((i : Int), xi zs i) :: _) = _
  rw [kB, if_pos rfl]
theorem G9 {zs : List Int} {m : Int} (hz : ∀ z ∈ zs, 0 ≤ z ∧ z < 18446744073709551616) : jS (yM zs m) := by
  refine ⟨VH zs m, ?_, ?_⟩
  · intro c hc
    obtain ⟨i, _, rfl⟩ := List.mem_map.1 hc
    show 0 ≤ xi zs (i + 1) ∧ xi zs (i + 1) < 18446744073709551616
    unfold xi
    cases hzi : zs[i + 1]? with
    | none => simp
    | some z => exact hz z (List.mem_of_getElem? hzi)
  · intro x hx
    simp [yM] at hx
    subst hx
    intro c hc; cases hc
theorem gE {b o : Nat} {K : AV → Go.Ae.R} {Q : AV → AH → Prop} (w : wp (K (.bool false)) Q) : wp (pEq .ptr false (.ptr b o) .nilp K) Q := w
theorem Q3 {b o : Nat} {K : AV → Go.Ae.R} {Q : AV → AH → Prop} (w : wp (K (.bool true)) Q) : wp (pEq .ptr true (.ptr b o) .nilp K) Q := w
theorem qQi {s : List UInt8} {K : AV → Go.Ae.R} {Q : AV → AH → Prop} (w : wp (K (.bool true)) Q) : wp (XG .eql (.str s) (.str s) K) Q := by
  show wp (K (.bool (seq? s s))) Q
  rw [Gi]
  exact w
theorem V8 (op a n : Int) (s : IM) (V : VM) : (zg op a n s V).blk = false := by unfold zg; split <;> rfl
theorem NZ {mt : List Int} {s : IM} {V : VM} {x : qd} (h : 1 ≤ x.1 ∧ x.1 ≤ 23) (h1 : x.1 ≠ 20) (h3 : x.1 ≠ 23) : (doM mt s V x).blk = false := by
  unfold doM
  by_cases c1 : x.1 = 1
  · rw [if_pos c1]
  rw [if_neg c1]
  by_cases c2 : x.1 = 2
  · rw [if_pos c2]
  rw [if_neg c2]
  by_cases c3 : x.1 = 3
  · rw [if_pos c3]
  rw [if_neg c3]
  by_cases c4 : x.1 = 4
  · rw [if_pos c4]
  rw [if_neg c4]
  by_cases c5 : x.1 = 5
  · rw [if_pos c5]
  rw [if_neg c5]
  by_cases c6 : x.1 = 6
  · rw [if_pos c6]
  rw [if_neg c6]
  by_cases c7 : x.1 = 7
  · rw [if_pos c7]
  rw [if_neg c7]
  by_cases c12 : x.1 = 12
  · rw [if_pos c12]
  rw [if_neg c12]
  by_cases c13 : x.1 = 13
  · rw [if_pos c13]
  rw [if_neg c13]
  by_cases c21 : x.1 = 21
  · rw [if_pos c21]; split <;> rfl
  rw [if_neg c21]
  by_cases c22 : x.1 = 22
  · rw [if_pos c22]
  rw [if_neg c22]
  by_cases c8 : x.1 = 8 ∨ x.1 = 9 ∨ x.1 = 10 ∨ x.1 = 11
  · rw [if_pos c8]
  rw [if_neg c8]
  unfold w8
  by_cases t1 : x.1 = 14 ∨ x.1 = 17
  · rw [if_pos t1]; exact V8 ..
  rw [if_neg t1]
  by_cases t2 : x.1 = 15 ∨ x.1 = 19
  · rw [if_pos t2]
  rw [if_neg t2]
  by_cases t3 : x.1 = 18
  · rw [if_pos t3]
  rw [if_neg t3]
  by_cases t4 : x.1 = 16
  · rw [if_pos t4]
  omega
def Calm (l : List qd) : Prop := ∀ x ∈ l, x.1 ≠ 20
theorem Oi {l : List qd} (F : Fit l) (Q : Quiet l) (C : Calm l) : ∀ (n : Nat) {s : IM} {V : VM}, GI l s V → frS V.lv + n < 9000 → (zc l (jk l) n s V).kind ≠ 3 := by
  intro n
  induction n with
  | zero =>
    intro s V G hf
    rw [kC]
    split
    · show (2 : Int) ≠ 3; decide
    · show (4 : Int) ≠ 3; decide
  | succ n ih =>
    intro s V G hf
    rw [JY]
    split
    · show (2 : Int) ≠ 3; decide
    · rename_i h0
      obtain ⟨i, hi, hil⟩ := G.pc
      have hlt : i < l.length := by omega
      rw [hi]
      have S := YX F G hi hlt (by omega) (Q.at hlt).2 (Q.at hlt).1
      have hb : (doM (jk l) s V (qb l i)).blk = false := by
        have hw := xh (F.ok i hlt)
        have hb := qJM hw.1 (Q.at hlt).1
        refine NZ (by omega) ?_ (Q.at hlt).1
        rw [zS hlt]
        exact C _ (List.getElem_mem hlt)
      generalize doM (jk l) s V (qb l i) = D at *
      rw [hb]
      split
      · rename_i h1
        rw [if_neg (by simp)]
        have hfr := S.fr
        exact ih (S.next h1 hb) (by omega)
      · split
        · show (1 : Int) ≠ 3; decide
        · show (4 : Int) ≠ 3; decide
theorem Vf {l : List qd} (F : Fit l) (Q : Quiet l) {zs : List Int} {m : Int} {n : Nat} {s : IM} {V : VM} (G : GI l s V) (hK : V.K = kW zs) (hs : V.sz = szZ zs.length) (hf : frS V.lv + n < 9000) : (zc l (jk l) n s V).kind ≠ 1 := by
  intro h
  obtain ⟨_, _, _, d, _⟩ := Nc F Q n G hf
  obtain ⟨_, d1, d2, d3⟩ := d h
  generalize (zc l (jk l) n s V).v.need = p at *
  obtain ⟨i, rfl⟩ : ∃ i : Nat, p = i := ⟨p.toNat, by omega⟩
  rw [hK, ZM zs (by omega) (by omega)] at d3
  cases d3
abbrev Xq (l : List qd) (n : Nat) (zs : List Int) : RM := zc l (jk l) n Gg (yM zs 96)
theorem Uc {l : List qd} {zs : List Int} {m : Int} (hz : OkN zs) : GI l Gg (yM zs m) := ZI rfl (G9 hz)
theorem YQ (zs : List Int) (m : Int) : frS (yM zs m).lv = 0 := by simp [yM, frS]
theorem Yy {n : Nat} (hn : 16 ≤ n) {l : List qd} {pv wv : AV} {zs : List Int} {fuel : Int} (H : HS g h R) (S : Rd g R 5 l.length pv (l.flatMap jW)) (Sw : Rd g R 1 zs.length wv (zs.map (.int .u64))) (hz : OkN zs) (hc : (xj l).2 = 0) (Q : Quiet l) :
    wp (callT tab qS n (.fn 38 [] []) [.agg [pv], wv, .int .i64 fuel] h) fun r h' => ∃ x v nx, r = .tup [.int .i64 (Xq l (xR fuel) zs).kind, .ptr x 0, .ptr v 0] ∧
      HS g h' (IntC x v l 0 (jk l) (Xq l (xR fuel) zs).s (Xq l (xR fuel) zs).err (if (Xq l (xR fuel) zs).kind = 1 then 0 else (Xq l (xR fuel) zs).kind) ((Xq l (xR fuel) zs).left : Int) nx :: ViewC v (Xq l (xR fuel) zs).v :: R) := by
  (refine qn (g := W38) rfl (by omega) fun k hk => ?_; show wp (S38 (callT tab qS k) _ _ _ _) _; unfold S38; try simp only [iI, uU, Int.ofNat_eq_natCast])
  have F := KH hc
  have hle := F.le
  refine jV H (xW (ve (S.sl H))) fun b0 h1 H1 => ?_
  refine qv (U2 (zs := zs) (by omega) H1 Sw.more) ?_
  rintro _ h2 ⟨v, rfl, H2⟩
  refine gE ?_
  with_reducible (refine qQ ?_)
  refine jq H2 (b := b0) (off := 0) e_1 rfl (by omega) (l := [pv]) rfl ?_
  refine qv (ZG (by omega) H2 S.more.more (by omega)) ?_
  rintro _ h3 ⟨x, rfl, H3⟩
  refine gE ?_
  with_reducible (refine qQ ?_)
  have hm : Jj l = jk l := by unfold Jj; rw [if_pos hc]
  rw [hm, hc] at H3
  have hfz : xR fuel ≤ 400 := by unfold xR; omega
  refine qv (Zg (V := yM zs ((96 : Nat) : Int)) (by omega) F Q (Uc hz) (by rw [YQ]; omega) (by omega) H3) ?_
  rintro _ h4 ⟨rfl, nx, H4⟩
  exact qg ⟨x, v, nx, rfl, H4.sub (.cons .here (.cons .here (.drop .refl)))⟩
section
variable {x y v u : Nat} {l l' : List qd} {b b' : Int} {mt mt' : List Int} {s s' : IM} {e e' f f' n1 n2 nx nx' : Int} {V W : VM}
theorem Np {n : Nat} (hn : 16 ≤ n) (hg : GB s) (er : s'.regs = s.regs) (eo : s'.out = s.out) (OV : OkV V) (OW : OkV W) (ec : zZ W.lv = zZ V.lv) (ef : yg W.lv = yg V.lv) (hf : frS V.lv < 100000)
    (H : HS g h (IntC y u l' b' mt' s' e' f' n2 nx' :: ViewC u W :: IntC x v l b mt s e f n1 nx :: ViewC v V :: R)) :
    wp (callT tab qS n (.fn 39 [] []) [.ptr x 0, .ptr y 0, .ptr v 0, .ptr u 0] h) fun r h' => r = .bool true ∧ HS g h' (IntC y u l' b' mt' s' e' f' n2 nx' :: ViewC u W :: IntC x v l b mt s e f n1 nx :: ViewC v V :: R) := by
  have hr8 := hg.regs
  have hml := Jy V.lv []
  have hhe := OV.lvs.held
  have hll := OV.lvs.le
  have hfl := Kh V.lv
  have hml' : (zZ V.lv).length < 100000 := by simp at hml; unfold zZ; omega
  (refine qn (g := W39) rfl (by omega) fun k hk => ?_; show wp (S39 (callT tab qS k) _ _ _ _ _) _; unfold S39; try simp only [iI, uU, Int.ofNat_eq_natCast])
  refine gE ?_
  with_reducible (refine qJ ?_; (try dsimp only); refine qx ?_; (try dsimp only))
  refine gE ?_
  with_reducible (refine qX ?_; refine qJ ?_; (try dsimp only); refine qx ?_; (try dsimp only))
  refine gE ?_
  with_reducible (refine qX ?_; refine qJ ?_; (try dsimp only); refine qx ?_; (try dsimp only))
  refine gE ?_
  with_reducible (refine qX ?_; refine qQ ?_)
  refine qv (XA (by omega) (H.sel e_2) hg.out) ?_
  rintro _ h1 ⟨p, rfl, H1⟩
  refine qv (XA (by omega) (H1.sel e_2) (by rw [eo]; exact hg.out)) ?_
  rintro _ h2 ⟨q, rfl, H2⟩
  clear H H1
  refine Q3 ?_
  with_reducible (refine qJ ?_; (try dsimp only); refine qO ?_; (try dsimp only))
  refine Q3 ?_
  with_reducible (refine qE ?_; refine qJ ?_; (try dsimp only); refine qO ?_; (try dsimp only))
  refine qv (Ua (by omega) (H2.sel e_2) (by have := hg.out; omega) hg.its) ?_
  rintro _ h3 ⟨rfl, H3⟩
  clear H2
  refine qv (Ua (by omega) (H3.sel e_1) (by have := hg.out; rw [eo]; omega) (by rw [eo]; exact hg.its)) ?_
  rintro _ h4 ⟨rfl, H4⟩
  clear H3
  rw [eo]
  refine qQi ?_
  with_reducible (refine qE ?_; refine qJ ?_; (try dsimp only); refine qO ?_; (try dsimp only))
  refine qv (Gd (by omega) (H4.sel (P := IntC x v l b mt s e f n1 nx) e_3) hr8.len) ?_
  intro rv h5 H5
  clear H4
  refine qv (Gd (by omega) (H5.sel (P := IntC y u l' b' mt' s' e' f' n2 nx') e_4) (by rw [er]; exact hr8.len)) ?_
  intro rw2 h6 H6
  clear H5
  rw [er] at H6
  refine qv (M4 (by omega) (H6.sl e_2) (H6.sl .here) (by omega)) ?_
  rintro _ h6 ⟨rfl, rfl⟩
  rw [decide_eq_true rfl]
  with_reducible (refine qE ?_; refine qJ ?_; (try dsimp only); refine qO ?_; (try dsimp only))
  refine qv (XL (by omega) (H6.sel (P := ViewC v V) e_7) OV) fun cv h7 H7 => ?_
  clear H6
  refine qv (XL (by omega) (H7.sel (P := ViewC u W) e_8) OW) fun cw h8 H8 => ?_
  clear H7
  rw [ec] at H8
  refine qv (Nb (by omega) (H8.sl e_2) (H8.sl .here) (by omega)) ?_
  rintro _ h8 ⟨rfl, rfl⟩
  rw [decide_eq_true rfl]
  with_reducible (refine qE ?_; refine qJ ?_; (try dsimp only); refine qO ?_; (try dsimp only))
  refine qv (Xx (by omega) (H8.sel (P := ViewC v V) e_3) OV) fun fv h9 H9 => ?_
  clear H8
  refine qv (Xx (by omega) (H9.sel (P := ViewC u W) e_3) OW) fun fw h10 H10 => ?_
  clear H9
  rw [ef] at H10
  refine qv (Mm (by omega) (H10.sl e_2) (H10.sl .here) (by omega)) ?_
  rintro _ h10 ⟨rfl, rfl⟩
  rw [decide_eq_true rfl]
  with_reducible (refine qE ?_)
  exact qg ⟨rfl, H10.sub (.cons e_7 (.cons e_1 (.cons e_7 (.cons e_2 (.drop (.drop (.drop (.drop (.drop (.drop (.drop (.drop .refl))))))))))))⟩
end
end Go.Proofs.YtdlfmpmpmkffjaaGreatDoor
namespace Go.Proofs.YtdlfmpmpmkffjaaGreatDoor
open Go Go.Ae
set_option maxRecDepth 100000
theorem ZD {h : AH} {d : Nat} {v : AV} (H : WT Tryz.prog h (d + 3) 43 [v]) : ∃ ks : List qd, Sl (fun b => b < h.nx) h 5 ks.length v (ks.flatMap jW) ∧ ∀ x ∈ ks, 0 ≤ x.2.2.2.2 ∧ x.2.2.2.2 < 18446744073709551616 := by
  obtain ⟨q, xs, S, _, H2⟩ := GC (sz := 5) Tryz.underlying43 (by kernel_rfl) (by omega) H
  obtain ⟨ks, g1, g3, rfl⟩ := Yo (α := qd) (Pr := fun x => 0 ≤ x.2.2.2.2 ∧ x.2.2.2.2 < 18446744073709551616) jW S.len (fun i hi => by
    have := H2 i hi
    generalize (xs.drop (i * 5)).take 5 = row at this
    unfold WT at this
    simp only [Tryz.underlying115] at this
    obtain ⟨g1, g2⟩ := this
    rw [show Tryz.prog.cellsOf 115 = 5 by kernel_rfl] at g1
    match row, g1 with
    | [x, y, z, u, t], _ =>
      have f1 := g2 _ (List.mem_cons_self ..)
      have f2 := g2 _ (List.mem_cons_of_mem _ (List.mem_cons_self ..))
      have f3 := g2 _ (List.mem_cons_of_mem _ (List.mem_cons_of_mem _ (List.mem_cons_self ..)))
      have f4 := g2 _ (List.mem_cons_of_mem _ (List.mem_cons_of_mem _ (List.mem_cons_of_mem _ (List.mem_cons_self ..))))
      have f5 := g2 _ (List.mem_cons_of_mem _ (List.mem_cons_of_mem _ (List.mem_cons_of_mem _ (List.mem_cons_of_mem _ (List.mem_cons_self ..)))))
      rw [show Tryz.prog.cellsOf 3 = 1 by kernel_rfl] at f1 f2 f3 f4
      rw [show Tryz.prog.cellsOf 26 = 1 by kernel_rfl] at f5
      unfold WT at f1 f2 f3 f4 f5
      simp only [Tryz.underlying3, List.drop_zero, List.take_succ_cons, List.take_zero, List.drop_succ_cons] at f1 f2 f3 f4
      simp only [Tryz.underlying26, List.drop_succ_cons, List.drop_zero, List.take_succ_cons, List.take_zero] at f5
      obtain ⟨a, ha, _⟩ := f1
      obtain ⟨b, hb, _⟩ := f2
      obtain ⟨c, hc, _⟩ := f3
      obtain ⟨d, hd, _⟩ := f4
      obtain ⟨e, he, c5⟩ := f5
      cases ha; cases hb; cases hc; cases hd; cases he
      exact ⟨(a, b, c, d, e), ⟨c5.1, Int.lt_of_le_of_lt c5.2 (by decide)⟩, rfl⟩)
  exact ⟨ks, g1 ▸ S, g3⟩
end Go.Proofs.YtdlfmpmpmkffjaaGreatDoor
namespace Go.Proofs.YtdlfmpmpmkffjaaGreatDoor.interpFuel
open Go Go.Ae
set_option maxRecDepth 100000
variable {g h : AH} {L R : List SP}
theorem drawn {calm : Bool} {l : List qd} (B : Bld calm l []) (h0 : 0 < l.length) (h40 : (l.length : Int) ≤ 40) : (xj l).2 = 0 ∧ Quiet l ∧ (calm = true → Calm l) := by
  refine ⟨by rw [B.fit h0 (by omega)], fun x hx => ⟨(B.ok x hx).no, (B.ok x hx).n⟩, fun hc x hx => ((B.ok x hx).cal hc).1⟩
theorem law {k : Nat} (hk : 24 ≤ k) {x less : Int} {a0 a2 a3 : AV} {ks : List qd} {rs bs : List Int} (S0 : Sl (fun b => b < h.nx) h 5 ks.length a0 (ks.flatMap jW)) (hN : ∀ x ∈ ks, 0 ≤ x.2.2.2.2 ∧ x.2.2.2.2 < 18446744073709551616)
    (S1 : Sl (fun b => b < h.nx) h 1 rs.length a2 (rs.map (.int .u64))) (hr : ∀ z ∈ rs, 0 ≤ z ∧ z < 18446744073709551616)
    (S2 : Sl (fun b => b < h.nx) h 1 bs.length a3 (bs.map (.int .u8))) (hb : ∀ z ∈ bs, 0 ≤ z ∧ z ≤ 255) (hm : 0 ≤ less ∧ less ≤ 255) :
    wp (W7 (yf 3 (callT tab qS k)) [a0, .int .i64 x, a2, a3, .int .u8 less] h) fun v _ => v = .bool true := by
  show wp (S7 (yf _ (callT tab qS _)) _ _ _ _ _ _) _
  unfold S7
  try simp only [iI, uU, Int.ofNat_eq_natCast]
  refine qZH ?_
  with_reducible (refine jP ?_; refine qQ ?_)
  refine xT (by decide) (Kb (by omega) (HS.nil h) (Rd.arg S1) hr (Rd.arg S2) hb) ?_
  rintro wv h1 ⟨zs, hz, hz1, hz2, hsh, hro, H1⟩
  refine xT (by decide) (Ok (calm := true) (most := ((40 : Nat) : Int)) (by omega) hN (by omega) H1 (Rd.arg S0)) ?_
  rintro _ h2 ⟨pv, l, rfl, B, hl0, hl40, H2⟩
  obtain ⟨hc, Qu, Ca⟩ := drawn B hl0 hl40
  have Ca := Ca rfl
  have F := KH hc
  refine jV H2 rfl fun b0 h3 H3 => ?_
  have op := H3.one (e := 28) (sz := 5) (n := l.length) e_1
  refine jO H3 (b := b0) .here rfl (by simp) (by show jA [pv] = true; simp [jA, op.2]) fun h4 H4 => ?_
  have H4 : HS h h4 (qe b0 [pv] :: xx pv l :: qc 26 1 zs.length wv (zs.map (.int .u64)) :: []) := H4
  clear H1 H2 H3
  refine jq H4 (b := b0) (off := 0) .here rfl (by omega) (l := [pv]) rfl ?_
  have G0 := Uc (l := l) (m := 96) hz
  have f0 := YQ zs 96
  have R1 := Nc F Qu 400 G0 (by omega)
  have n1 := Vf F Qu (n := 400) (zs := zs) (m := 96) G0 rfl rfl (by omega)
  have n3 := Oi F Qu Ca 400 G0 (by omega)
  refine xT (by decide) (Yy (zs := zs) (fuel := ((400 : Nat) : Int)) (by omega) H4 (H4.rd (e := 28) (sz := 5) (n := l.length) e_1) (H4.rd e_2) hz hc Qu) ?_
  rintro _ h5 ⟨xp, vp, nx, rfl, H5⟩
  rw [show xR ((400 : Nat) : Int) = 400 by decide] at H5 ⊢
  have RF := ML (l := l) (mt := jk l) 400 Gg (yM zs 96)
  unfold Xq at H5 ⊢
  generalize hRM : zc l (jk l) 400 Gg (yM zs 96) = RM at *
  obtain ⟨RB, rfr, _, _, rk⟩ := R1
  refine qM rfl (qM rfl (qM rfl ?_))
  refine gE ?_
  with_reducible (refine qJ ?_; (try dsimp only); refine qx ?_; (try dsimp only))
  by_cases k2 : RM.kind = 2
  · obtain ⟨hle, he, t, ht, ht2, ht3⟩ := RF k2
    clear RF
    rw [if_neg (show ¬ RM.kind = 1 by rw [k2]; decide)] at H5
    refine jt k2 ?_
    with_reducible (refine qX ?_; refine qQ ?_)
    refine xT (by decide) (JS (by omega) H5) ?_
    rintro _ h5 ⟨rfl, rfl⟩
    have ht1 : 1 ≤ t := by
      rcases Nat.eq_zero_or_pos t with h | h
      · subst h
        rw [kC, if_neg (by show ¬ (0 : Int) = l.length; omega)] at ht2
        have := congrArg Go.Proofs.YtdlfmpmpmkffjaaGreatDoor.RM.kind ht2
        dsimp only at this
        omega
      · exact h
    refine jT (by omega) ?_
    rw [show ((400 : Nat) : Int) - (RM.left : Int) = (t : Int) by omega]
    refine jq H5 (b := b0) (off := 0) e_2 rfl (by omega) (l := [pv]) rfl ?_
    refine xT (by decide) (Yy (zs := zs) (fuel := (t : Int)) (by omega) H5 (H5.rd (e := 28) (sz := 5) (n := l.length) e_3) (H5.rd e_4) hz hc Qu) ?_
    rintro _ h6 ⟨yp, up, nx2, rfl, H6⟩
    unfold Xq at H6 ⊢
    rw [show xR (t : Int) = t by unfold xR; omega, ht2] at H6 ⊢
    dsimp only at H6 ⊢
    refine qM rfl (qM rfl (qM rfl ?_))
    with_reducible (refine js (by omega) ?_; refine qJ ?_; (try dsimp only); refine qx ?_; (try dsimp only); refine jt (by omega) ?_; refine qX ?_; refine qJ ?_; (try dsimp only); refine qx ?_; (try dsimp only))
    refine xT (by decide) (Np (by omega) RB.gb rfl rfl RB.good.ok RB.good.ok rfl rfl (by omega) H6) ?_
    rintro _ h7 ⟨rfl, H7⟩
    with_reducible (refine jP ?_; refine qX ?_; refine qJ ?_; (try dsimp only); refine qx ?_; (try dsimp only))
    refine xT (by decide) (JS (by omega) H7) ?_
    rintro _ h7 ⟨rfl, rfl⟩
    with_reducible (refine jt (by omega) ?_; refine qX ?_; refine qQ ?_)
    refine jq H7 (b := b0) (off := 0) e_4 rfl (by omega) (l := [pv]) rfl ?_
    refine zq (by omega) (gM (by omega) ?_)
    have hr1 := Int.tmod_nonneg (t : Int) hm.1
    have hr2 := Int.tmod_lt_of_pos less (show 0 < (t : Int) by omega)
    generalize less.tmod (t : Int) = q at *
    obtain ⟨r, rfl⟩ : ∃ r : Nat, q = r := ⟨q.toNat, by omega⟩
    obtain ⟨a1, a2, a3⟩ := ht3 r (by omega)
    refine xT (by decide) (Yy (zs := zs) (fuel := (r : Int)) (by omega) H7 (H7.rd (e := 28) (sz := 5) (n := l.length) e_5) (H7.rd e_6) hz hc Qu) ?_
    rintro _ h8 ⟨zp, tp, nx3, rfl, H8⟩
    unfold Xq at H8 ⊢
    rw [show xR (r : Int) = r by unfold xR; omega, a1, a2, a3] at H8
    rw [show xR (r : Int) = r by unfold xR; omega, a1]
    refine qM rfl (qM rfl (qM rfl ?_))
    refine Q3 ?_
    with_reducible (refine qJ ?_; (try dsimp only); refine qO ?_; (try dsimp only); refine qH (by omega) ?_; refine qE ?_; refine qJ ?_; (try dsimp only); refine qO ?_; (try dsimp only))
    refine xT (by decide) (Zd (by omega) H8) ?_
    rintro _ h8 ⟨rfl, rfl⟩
    with_reducible (refine qH (by omega) ?_; refine qE ?_; refine qJ ?_; (try dsimp only); refine qO ?_; (try dsimp only))
    refine xT (by decide) (JS (by omega) H8) ?_
    rintro _ h8 ⟨rfl, rfl⟩
    with_reducible (refine qH (by omega) ?_; refine qE ?_)
    exact qg rfl
  · clear RF
    have k4 : RM.kind = 4 := by omega
    refine zj k2 ?_
    with_reducible (refine qX ?_; refine qj ?_)
    refine Q3 ?_
    with_reducible (refine qJ ?_; (try dsimp only); refine qO ?_; (try dsimp only); refine qH (by omega) ?_; refine qE ?_)
    exact qg rfl
theorem told {h : AH} {l : List AV} (H : WTs Tryz.prog h 8 Tryz.f7.params.toList l) : wp (W7 (yf 3 (callT tab qS 60)) l h) fun v _ => v = .bool true := by
  have e : Tryz.f7.params.toList = [43, 3, 38, 44, 5] := by kernel_rfl
  rw [e] at H
  obtain ⟨a0, a1, a2, a3, a4, rfl, H0, H1, H2, H3, H4⟩ := WTs5 H
  simp only [WTV, Tryz.underlying3, Tryz.underlying4, Tryz.underlying5, Tryz.underlying26, Tryz.underlying38, Tryz.underlying43, Tryz.underlying44, Tryz.underlying115] at H0 H1 H2 H3 H4
  obtain ⟨ks, S0, hN⟩ := ZD H0
  obtain ⟨rs, S1, b1⟩ := UO Tryz.underlying38 Tryz.underlying26 (by kernel_rfl) H2
  obtain ⟨bs, S2, b2⟩ := UO Tryz.underlying44 Tryz.underlying5 (by kernel_rfl) H3
  unfold WT at H1 H4
  simp only [Tryz.underlying3, Tryz.underlying5] at H1 H4
  obtain ⟨x, hx, _⟩ := H1
  obtain ⟨m, hm, c3⟩ := H4
  cases hx; cases hm
  exact law (by omega) S0 hN S1 (fun z hz => ⟨(b1 z hz).1, Int.lt_of_le_of_lt (b1 z hz).2 (by decide)⟩) S2 b2 c3
end Go.Proofs.YtdlfmpmpmkffjaaGreatDoor.interpFuel
