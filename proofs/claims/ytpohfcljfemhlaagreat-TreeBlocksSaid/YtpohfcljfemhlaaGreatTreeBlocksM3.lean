/- Lemmas for 'quietus/quietuslaw20.TreeBlocks': Trees in a parted heap: all blocks of four words: the rules; Trees with addresses: what stands in a store of nodes; colours and black heights: the plain law; Trees: the store of nodes in the words of a heap, and what reads and writes it: the plain law; Trees: what the small acts do to the store: the plain law; Trees: a turn on the store: the plain law; Trees: link, seek: the plain law; Trees: straight: the plain law; Trees: straight whole: the plain law; Trees: both sides at once; small acts on frames: the plain law; Trees: raised: the plain law; Trees: two objects in a heap; put, get: the plain law; Trees: lent, lowered: the plain law; Trees: lowered: the plain law; Trees: a node is cut out: the plain law; Trees: get, range; what was freed is given back; a fresh heap: the plain law; What a call on a draft comes to, on words that are known or not: the plain law; Trees: what a call comes to, on words that are known or not: the plain law; Trees: a node goes: the walks of lent and heir; Trees: a black node lacks: the walk of lowered. No condition. -/
import Derived.Test.YtpohfcljfemhlaaGreatTreeBlocksM2
namespace Go.Proofs.YtpohfcljfemhlaaGreat.arenaParts
open Go Go.Ae arenaPlays
set_option maxRecDepth 100000
variable {dt : Prop} {W sts : List Int} {T : Nat} {bs : List Bk} {ls : Int → List Int}
structure HT (W sts : List Int) (T : Nat) (bs : List Bk) (ls : Int → List Int) (L fr : List Int) : Prop where
  P : ji False W sts T bs ls
  own : ∀ y ∈ L, (y, 2) ∈ bs ∧ qW sts y.toNat = 1
  live : ∀ b ∈ bs, qW sts b.1.toNat = 1 → b.1 ∈ L
  rest : ∀ b ∈ bs, qW sts b.1.toNat = 2 → b.1 ∈ fr
  fre : ∀ y ∈ fr, (y, 2) ∈ bs ∧ qW sts y.toNat = 2
  nodup : L.Nodup
  fnd : fr.Nodup
  one : ∀ b ∈ bs, b.2 = 2
def HY (W : List Int) (T : Nat) (L fr : List Int) : Prop := ∃ sts bs ls, HT W sts T bs ls L fr
variable {L fr F : List Int} {r : Nat} {s : Int} {α : Type}
theorem HY.perm {L' : List Int} (H : HY W T L fr) (h : ∀ x, x ∈ L' ↔ x ∈ L) (nd : L'.Nodup) : HY W T L' fr := by
  obtain ⟨sts, bs, ls, H⟩ := H
  exact ⟨sts, bs, ls, H.P, fun y hy => H.own y ((h y).1 hy), fun b hb hs => (h _).2 (H.live b hb hs), H.rest, H.fre, nd, H.fnd, H.one⟩
theorem Jr (P : ji dt W sts T bs ls) {y z : Int} (hy : (y, 2) ∈ bs) (hz : (z, 2) ∈ bs) : y = z ∨ y + 5 ≤ z ∨ z + 5 ≤ y := by
  have e : jd 2 = 4 := rfl
  rcases P.tile.far2 _ hy _ hz with h | h | h
  · exact .inl (by rw [Prod.mk.injEq] at h; exact h.1)
  · dsimp only at h; exact .inr (.inl (by omega))
  · dsimp only at h; exact .inr (.inr (by omega))
theorem HY.mem (H : HY W T L fr) {y : Int} (hy : y ∈ L) : 15 ≤ y ∧ y + 4 ≤ T := by
  obtain ⟨sts, bs, ls, H⟩ := H
  have h1 := H.P.mem (H.own y hy).1
  have h2 := H.P.tile.mem _ (H.own y hy).1
  have h3 := H.P.bump
  have e : jd 2 = 4 := rfl
  dsimp only at h2
  exact ⟨h1.1, by omega⟩
theorem HY.apart (H : HY W T L fr) {y z : Int} (hy : y ∈ L) (hz : z ∈ L) : y = z ∨ y + 5 ≤ z ∨ z + 5 ≤ y := by
  obtain ⟨sts, bs, ls, H⟩ := H
  exact Jr H.P (H.own y hy).1 (H.own z hz).1
theorem HY.size (H : HY W T L fr) : 32 ≤ T ∧ T ≤ 256 ∧ W.length = T := by
  obtain ⟨sts, bs, ls, H⟩ := H
  exact ⟨H.P.lo, H.P.hi, H.P.len⟩
theorem HY.nd (H : HY W T L fr) : L.Nodup := by
  obtain ⟨sts, bs, ls, H⟩ := H
  exact H.nodup
theorem HY.nn (H : HY W T L fr) : ∀ z ∈ W, 0 ≤ z ∧ z < 18446744073709551616 := by
  obtain ⟨sts, bs, ls, H⟩ := H
  exact H.P.nn
theorem HY.congr (H : HY W T L fr) {W' : List Int} (hl : W'.length = T) (hn : ∀ z ∈ W', 0 ≤ z ∧ z < 18446744073709551616) (hat : ∀ p : Nat, 0 < p → p < T → qW W' p = qW W p) : HY W' T L fr := by
  obtain ⟨sts, bs, ls, H⟩ := H
  exact ⟨sts, bs, ls, H.P.congr hl hn hat, H.own, H.live, H.rest, H.fre, H.nodup, H.fnd, H.one⟩
theorem HY.write (H : HY W T L fr) {p x : Int} (hx : 0 ≤ x ∧ x < 18446744073709551616) (hp : (6 ≤ p ∧ p ≤ 13) ∨ ∃ y ∈ L, y ≤ p ∧ p ≤ y + 3) : HY (zr W (p, x)) T L fr := by
  obtain ⟨sts, bs, ls, H⟩ := H
  refine ⟨sts, bs, ls, H.P.write hx ?_, H.own, H.live, H.rest, H.fre, H.nodup, H.fnd, H.one⟩
  rcases hp with h | ⟨y, hy, h⟩
  · exact .inl h
  · have := H.own y hy
    have e : jd 2 = 4 := rfl
    exact .inr ⟨y, 2, this.1, this.2, by omega, by rw [e]; omega⟩
variable {S : Int → Prop} {Q : Option α → Int → List Int → List Int → Prop}
theorem Ku {p x : Int} {k : Act α} (H : HY W T L fr) (hx : 0 ≤ x ∧ x < 18446744073709551616) (hp : (6 ≤ p ∧ p ≤ 13) ∨ ∃ y ∈ L, y ≤ p ∧ p ≤ y + 3) (hS : S p) (hr : r + 1 ≤ 96)
    (w : HY (zr W (p, x)) T L fr → (∀ q : Nat, qW (zr W (p, x)) q = if p = (q : Int) then x else qW W q) → wpA T S k (zr W (p, x)) (r + 1) F s Q) : wpA T S (.take [(p, x)] k) W r F s Q := by
  have hsz := H.size
  have hpr : 6 ≤ p ∧ p < T := by
    rcases hp with h | ⟨y, hy, h⟩
    · omega
    · have := H.mem hy
      omega
  refine ⟨fun c hc => by rw [List.mem_singleton] at hc; subst hc; exact ⟨by dsimp only; omega, hpr.2, hS⟩, hr, w (H.write hx hp) fun q => ?_⟩
  rw [wT, hsz.2.2]
  by_cases e : p = (q : Int)
  · rw [if_pos ⟨e, by dsimp only; omega, by dsimp only; omega⟩, if_pos e]
  · rw [if_neg (fun h => e h.1), if_neg e]
theorem qJd {k : Int → Act α} (H : HY W T L fr) (hS1 : S 2) (hS5 : S 5) (hS : ∀ p : Int, 14 ≤ p → p < T → (∀ y ∈ L, p < y ∨ y + 3 < p) → S p) (hr : r + 2 ≤ 96)
    (ok : ∀ n W', HY W' T (n :: L) fr → (∀ p : Nat, 0 < p → p < T → p ≠ 2 → p ≠ 5 → (p : Int) + 1 ≠ n → qW W' p = qW W p) → (qW W 5 ≤ qW W' 5 ∧ qW W' 5 ≤ qW W 5 + 5) → wpA T S (k n) W' (r + 2) F s Q)
    (full : (T : Int) < qW W 5 + 5 → Q none 4 W F) : wpA T S (Jl T 4 k) W r F s Q := by
  obtain ⟨sts, bs, ls, H⟩ := H
  have P := H.P
  have hlo := P.lo
  have hhi := P.hi
  have hc : je 4 = 2 := rfl
  have hz : jd 2 = 4 := rfl
  unfold Jl
  rw [hc, if_neg (by omega), hz]
  refine wa (by omega) (by omega) hS1 ?_
  have hch := P.chain 2 (by omega) (by omega)
  have hlow := P.low
  have hbump := P.bump
  have hone : ((2 : Int).toNat) = 2 := rfl
  rw [hone] at hch ⊢
  have hLb : ∀ y ∈ L, y + 4 ≤ qW W 5 := by
    intro y hy
    have := P.tile.mem _ (H.own y hy).1
    dsimp only at this
    rw [hz] at this
    omega
  cases hls : ls 2 with
  | nil =>
    rw [hls] at hch
    have h0 : qW W 2 = 0 := hch
    rw [if_pos h0]
    refine wa (by omega) (by omega) hS5 ?_
    rw [show ((5 : Int).toNat) = 5 from rfl]
    obtain ⟨e, he⟩ : ∃ e, qW W 5 = e := ⟨_, rfl⟩
    rw [he] at hlow hbump full ok hLb ⊢
    by_cases hT : e + 1 + 4 ≤ T
    · rw [if_neg (by omega)]
      have P' := P.grown (c := 2) (by omega) he (by rw [hz]; omega)
      rw [hz] at P'
      have hno : ∀ d, (e + 1, d) ∉ bs := by
        intro d hd
        have h1 := P.tile.mem _ hd
        rw [he] at h1
        dsimp only at h1
        have := zx h1.2.1
        omega
      have hst0 := P.st_no (show (0 : Int) ≤ e + 1 by omega) hno
      have hstat : ∀ j, qW (sts.set (e + 1).toNat 1) j = if (e + 1).toNat = j then 1 else qW sts j := fun j => gp sts _ j 1 (by have := P.slen; omega)
      have hwd : WdC [(5, e + 1 + 4), (e, (2 : Int) + 8)] := .two ⟨by dsimp only; omega, by dsimp only; omega⟩ ⟨by dsimp only; omega, by dsimp only; omega⟩
      have P2 := P'.congr (W' := [(5, e + 1 + 4), (e, (2 : Int) + 8)].foldl zr W) (by rw [vu]; exact P.len) (KW P.nn hwd) (fun p h1 h2 => wM P h1 h2)
      refine ⟨?_, by simpa using hr, ok (e + 1) _ ⟨_, _, _, P2, ?_, ?_, ?_, ?_, ?_, H.fnd, ?_⟩ ?_ ?_⟩
      · intro c hc
        rcases List.mem_cons.1 hc with rfl | hc
        · exact ⟨by dsimp only; omega, by dsimp only; omega, hS5⟩
        · rw [List.mem_singleton] at hc; subst hc
          exact ⟨by dsimp only; omega, by dsimp only; omega, hS e (by omega) (by omega) (fun y hy => by have := hLb y hy; omega)⟩
      · intro y hy
        rw [hstat]
        rcases List.mem_cons.1 hy with rfl | hy
        · exact ⟨List.mem_append.2 (.inr (List.mem_singleton.2 rfl)), by rw [if_pos rfl]⟩
        · have h1 := H.own y hy
          have h2 := hLb y hy
          have h3 := P.mem h1.1
          rw [if_neg (by omega)]
          exact ⟨List.mem_append.2 (.inl h1.1), h1.2⟩
      · intro b hb hs
        rw [hstat] at hs
        rcases List.mem_append.1 hb with hb | hb
        · obtain ⟨b, c⟩ := b
          have h3 := P.mem hb
          have h1 := P.tile.mem _ hb
          have h4 := zx h3.2.2
          rw [he] at h1
          dsimp only at hs h1 ⊢
          rw [if_neg (by omega)] at hs
          exact List.mem_cons_of_mem _ (H.live _ hb hs)
        · rw [List.mem_singleton] at hb
          subst hb
          exact List.mem_cons_self ..
      · intro b hb hs
        rw [hstat] at hs
        rcases List.mem_append.1 hb with hb | hb
        · obtain ⟨b, c⟩ := b
          dsimp only at hs ⊢
          split at hs
          · omega
          · exact H.rest _ hb hs
        · rw [List.mem_singleton] at hb
          subst hb
          dsimp only at hs
          rw [if_pos rfl] at hs
          omega
      · intro y hy
        have h1 := H.fre y hy
        have h3 := P.mem h1.1
        rw [hstat]
        refine ⟨List.mem_append.2 (.inl h1.1), ?_⟩
        rw [if_neg (fun h => by rw [h] at hst0; omega)]
        exact h1.2
      · rw [List.nodup_cons]
        exact ⟨fun h => by have := hLb _ h; omega, H.nodup⟩
      · intro b hb
        rcases List.mem_append.1 hb with hb | hb
        · exact H.one b hb
        · rw [List.mem_singleton] at hb; subst hb; rfl
      · intro p h1 h2 h3 h4 h5
        rw [wM P h1 h2, xf P.len P.lo P.hi h1 h2, if_neg (by omega), if_neg (by omega)]
      · rw [wM P (by omega) (by omega), xf P.len P.lo P.hi (by omega) (by omega), if_neg (by omega), if_pos (by omega)]
        omega
    · rw [if_pos (by omega)]
      exact ⟨by omega, by omega, full (by omega)⟩
  | cons b l =>
    rw [hls] at hch
    have h0 : qW W 2 = b := hch.1
    have hbl := (P.listed 2 (by omega) (by omega) b).1 (by rw [hls]; exact List.mem_cons_self ..)
    have hm := P.mem hbl.1
    have hbL : b ∉ L := fun h => by have := (H.own b h).2; omega
    have hapb : ∀ y ∈ L, b + 5 ≤ y ∨ y + 5 ≤ b := by
      intro y hy
      rcases Jr P hbl.1 (H.own y hy).1 with h | h
      · subst h; exact absurd hy hbL
      · exact h
    rw [h0, if_neg (by omega), if_neg (by omega)]
    refine wa (by omega) (by omega) (hS b (by omega) (by omega) (fun y hy => by have := hapb y hy; omega)) ?_
    have P' := P.again (c := 2) (by omega) hls
    have hwb := vY P.nn b.toNat
    generalize hw : qW W b.toNat = w at *
    have hstat : ∀ j, qW (sts.set b.toNat 1) j = if b.toNat = j then 1 else qW sts j := fun j => gp sts _ j 1 (by have := P.slen; omega)
    have hwd : WdC [((2 : Int), w), (b - 1, (2 : Int) + 8)] := .two hwb ⟨by dsimp only; omega, by dsimp only; omega⟩
    have P2 := P'.congr (W' := [((2 : Int), w), (b - 1, (2 : Int) + 8)].foldl zr W) (by rw [vu]; exact P.len) (KW P.nn hwd) (fun p h1 h2 => wM P h1 h2)
    refine ⟨?_, by simpa using hr, ok b _ ⟨_, _, _, P2, ?_, ?_, ?_, ?_, ?_, H.fnd, H.one⟩ ?_ ?_⟩
    · intro c hc
      rcases List.mem_cons.1 hc with rfl | hc
      · exact ⟨by dsimp only; omega, by dsimp only; omega, hS1⟩
      · rw [List.mem_singleton] at hc; subst hc
        exact ⟨by dsimp only; omega, by dsimp only; omega, hS (b - 1) (by omega) (by omega) (fun y hy => by have := hapb y hy; omega)⟩
    · intro y hy
      rw [hstat]
      rcases List.mem_cons.1 hy with rfl | hy
      · exact ⟨hbl.1, by rw [if_pos rfl]⟩
      · have h1 := H.own y hy
        have h2 := hapb y hy
        have h3 := P.mem h1.1
        rw [if_neg (by omega)]
        exact h1
    · intro d hd hs
      rw [hstat] at hs
      obtain ⟨d, c⟩ := d
      have h3 := P.mem hd
      dsimp only at hs ⊢
      by_cases e : d = b
      · subst e; exact List.mem_cons_self ..
      · rw [if_neg (by omega)] at hs
        exact List.mem_cons_of_mem _ (H.live _ hd hs)
    · intro d hd hs
      rw [hstat] at hs
      split at hs
      · omega
      · exact H.rest _ hd hs
    · intro y hy
      have h1 := H.fre y hy
      have h3 := P.mem h1.1
      rw [hstat, if_neg (fun h => by
        have : y = b := by omega
        subst this
        have := h1.2
        have := hbl.2
        omega)]
      exact h1
    · rw [List.nodup_cons]
      exact ⟨hbL, H.nodup⟩
    · intro p h1 h2 h3 h4 h5
      rw [wM P h1 h2, xf P.len P.lo P.hi h1 h2, if_neg (by omega), if_neg (by omega)]
    · rw [wM P (by omega) (by omega), xf P.len P.lo P.hi (by omega) (by omega), if_neg (by omega), if_neg (by omega)]
      omega
theorem qXr {y : Int} {k : Act α} (H : HY W T L fr) (hy : y ∈ L) (hS : S (y - 1)) (hr : r + 1 ≤ 96)
    (ok : ∀ W', HY W' T (L.erase y) (y :: fr) → (∀ p : Nat, 0 < p → p < T → (p : Int) + 1 ≠ y → qW W' p = qW W p) → wpA T S k W' (r + 1) (F ++ [y]) s Q) : wpA T S (xg T y k) W r F s Q := by
  obtain ⟨sts, bs, ls, H⟩ := H
  have P := H.P
  have hlo := P.lo
  have hhi := P.hi
  have ho := H.own y hy
  have hm := P.mem ho.1
  have hh := P.hdr _ ho.1
  dsimp only at hh
  rw [if_pos ho.2] at hh
  unfold xg
  rw [if_neg (by omega)]
  refine wa (by omega) (by omega) hS ?_
  rw [hh, QP (by omega)]
  dsimp only
  rw [if_neg (by omega), if_pos rfl]
  have P' := P.freed ho.1 ho.2
  have hstat : ∀ j, qW (sts.set y.toNat 2) j = if y.toNat = j then 2 else qW sts j := fun j => gp sts _ j 2 (by have := P.slen; omega)
  have hwd : WdC [(y - 1, (2 : Int))] := .one1 ⟨by dsimp only; omega, by dsimp only; omega⟩
  have P2 := P'.congr (W' := [(y - 1, (2 : Int))].foldl zr W) (by rw [vu]; exact P.len) (KW P.nn hwd) (fun p h1 h2 => Uw P h1 h2)
  refine ⟨?_, by simpa using hr, ok _ ⟨_, _, _, P2, ?_, ?_, ?_, ?_, H.nodup.erase _, ?_, H.one⟩ ?_⟩
  · intro c hc
    rw [List.mem_singleton] at hc; subst hc
    exact ⟨by dsimp only; omega, by dsimp only; omega, hS⟩
  · intro z hz
    have hne : z ≠ y := fun h => by subst h; exact H.nodup.not_mem_erase hz
    have h1 := H.own z (List.mem_of_mem_erase hz)
    have h3 := P.mem h1.1
    rw [hstat, if_neg (by omega)]
    exact h1
  · intro d hd hs
    rw [hstat] at hs
    split at hs
    · omega
    · rename_i hne
      exact (List.mem_erase_of_ne (fun h => hne (by rw [h]))).2 (H.live _ hd hs)
  · intro d hd hs
    rw [hstat] at hs
    have h3 := P.mem (b := d.1) (c := d.2) hd
    split at hs
    · rename_i he
      have : d.1 = y := by omega
      rw [this]
      exact List.mem_cons_self ..
    · exact List.mem_cons_of_mem _ (H.rest _ hd hs)
  · intro z hz
    rw [hstat]
    rcases List.mem_cons.1 hz with rfl | hz
    · exact ⟨ho.1, by rw [if_pos rfl]⟩
    · have h1 := H.fre z hz
      have h3 := P.mem h1.1
      rw [if_neg (fun h => by
        have : z = y := by omega
        subst this
        have := h1.2
        have := ho.2
        omega)]
      exact h1
  · rw [List.nodup_cons]
    refine ⟨fun h => ?_, H.fnd⟩
    have := (H.fre y h).2
    have := ho.2
    omega
  · intro p h1 h2 h3
    rw [Uw P h1 h2, JS P.len P.lo P.hi h1 h2, if_neg (by omega)]
end Go.Proofs.YtpohfcljfemhlaaGreat.arenaParts
namespace Go.Proofs.YtpohfcljfemhlaaGreat.arenaParts
open Go Go.Ae arenaPlays
set_option maxRecDepth 100000
structure Nd where
  k : Int
  v : Int
  w : Int
  y : Int
inductive Tr where
  | nil
  | node (a : Int) (c : Bool) (l : Tr) (k v : Int) (r : Tr)
def rt : Tr → Int
  | .nil => 0
  | .node a _ _ _ _ _ => a
def isR : Tr → Bool
  | .nil => false
  | .node _ c _ _ _ _ => c
def zc (c : Bool) : Int := if c then 1 else 0
theorem On (c : Bool) : 0 ≤ zc c ∧ zc c ≤ 1 := by cases c <;> decide
def Rep (nd : Int → Nd) : Tr → Prop
  | .nil => True
  | .node a c l k v r => nd a = ⟨k, v, rt l * 2 + zc c, rt r⟩ ∧ Rep nd l ∧ Rep nd r
def ads : Tr → List Int
  | .nil => []
  | .node a _ l _ _ r => a :: (ads l ++ ads r)
def inr : Tr → List qo
  | .nil => []
  | .node _ _ l k v r => inr l ++ (k, v) :: inr r
def RB : Tr → Nat → Prop
  | .nil, n => n = 0
  | .node _ c l _ _ r, n => ∃ m, RB l m ∧ RB r m ∧ (c = true → n = m ∧ isR l = false ∧ isR r = false) ∧ (c = false → n = m + 1)
structure Fr where
  a : Int
  c : Bool
  k : Int
  v : Int
  s : Bool
  o : Tr
def fr (f : Fr) (t : Tr) : Tr := if f.s = true then .node f.a f.c f.o f.k f.v t else .node f.a f.c t f.k f.v f.o
def zH : List Fr → Tr → Tr
  | [], t => t
  | f :: Z, t => zH Z (fr f t)
def ndF (f : Fr) (x : Int) : Nd := if f.s = true then ⟨f.k, f.v, rt f.o * 2 + zc f.c, x⟩ else ⟨f.k, f.v, x * 2 + zc f.c, rt f.o⟩
def RepZ (nd : Int → Nd) (rv : Int) : List Fr → Int → Prop
  | [], x => rv = x
  | f :: Z, x => nd f.a = ndF f x ∧ Rep nd f.o ∧ RepZ nd rv Z f.a
def jp : List Fr → List Int
  | [] => []
  | f :: Z => f.a :: (ads f.o ++ jp Z)
def loZ : List Fr → List qo
  | [] => []
  | f :: Z => if f.s = true then loZ Z ++ (inr f.o ++ [(f.k, f.v)]) else loZ Z
def hiZ : List Fr → List qo
  | [] => []
  | f :: Z => if f.s = true then hiZ Z else (f.k, f.v) :: (inr f.o ++ hiZ Z)
def RBZ : List Fr → Nat → Bool → Prop
  | [], _, _ => True
  | f :: Z, n, c => RB f.o n ∧ (f.c = true → c = false ∧ isR f.o = false) ∧ RBZ Z (if f.c = true then n else n + 1) f.c
theorem RBZ.black : ∀ {Z : List Fr} {n : Nat} {c : Bool}, RBZ Z n c → RBZ Z n false := by
  intro Z n c h
  cases Z with
  | nil => exact trivial
  | cons f Z => exact ⟨h.1, fun hc => ⟨rfl, (h.2.1 hc).2⟩, h.2.2⟩
def upd (nd : Int → Nd) (a : Int) (x : Nd) : Int → Nd := fun b => if b = a then x else nd b
theorem z9 {nd : Int → Nd} {a : Int} {x : Nd} : upd nd a x a = x := if_pos rfl
theorem jc {nd : Int → Nd} {a b : Int} {x : Nd} (h : b ≠ a) : upd nd a x b = nd b := if_neg h
theorem Rep.upd {nd : Int → Nd} {a : Int} {x : Nd} : ∀ {t : Tr}, Rep nd t → a ∉ ads t → Rep (upd nd a x) t := by
  intro t
  induction t with
  | nil => intro _ _; exact trivial
  | node b c l k v r ihl ihr =>
    intro h ha
    simp only [ads, List.mem_cons, List.mem_append, not_or] at ha
    exact ⟨(jc (fun e => ha.1 e.symm)).trans h.1, ihl h.2.1 ha.2.1, ihr h.2.2 ha.2.2⟩
theorem RepZ.upd {nd : Int → Nd} {rv a : Int} {x : Nd} : ∀ {Z : List Fr} {h : Int}, RepZ nd rv Z h → a ∉ jp Z → RepZ (upd nd a x) rv Z h := by
  intro Z
  induction Z with
  | nil => intro h hz _; exact hz
  | cons f Z ih =>
    intro h hz ha
    simp only [jp, List.mem_cons, List.mem_append, not_or] at ha
    exact ⟨(jc (fun e => ha.1 e.symm)).trans hz.1, hz.2.1.upd ha.2.1, ih hz.2.2 ha.2.2⟩
theorem zS {nd : Int → Nd} {f : Fr} {t : Tr} : Rep nd (fr f t) ↔ nd f.a = ndF f (rt t) ∧ Rep nd f.o ∧ Rep nd t := by
  unfold fr ndF
  by_cases h : f.s = true
  · rw [if_pos h, if_pos h]; exact Iff.rfl
  · rw [if_neg h, if_neg h]
    show (_ ∧ _ ∧ _) ↔ _
    exact ⟨fun q => ⟨q.1, q.2.2, q.2.1⟩, fun q => ⟨q.1, q.2.2, q.2.1⟩⟩
theorem xi {f : Fr} {t : Tr} : rt (fr f t) = f.a := by unfold fr; split <;> rfl
theorem vk {nd : Int → Nd} {rv : Int} : ∀ {Z : List Fr} {t : Tr}, RepZ nd rv Z (rt t) → Rep nd t → rv = rt (zH Z t) ∧ Rep nd (zH Z t) := by
  intro Z
  induction Z with
  | nil => intro t h1 h2; exact ⟨h1, h2⟩
  | cons f Z ih =>
    intro t h1 h2
    exact ih (by rw [xi]; exact h1.2.2) (zS.2 ⟨h1.1, h1.2.1, h2⟩)
theorem wR {f : Fr} {t : Tr} : inr (fr f t) = (if f.s = true then inr f.o ++ (f.k, f.v) :: inr t else inr t ++ (f.k, f.v) :: inr f.o) := by
  unfold fr
  split <;> rfl
theorem xn : ∀ {Z : List Fr} {t : Tr}, inr (zH Z t) = loZ Z ++ inr t ++ hiZ Z := by
  intro Z
  induction Z with
  | nil => intro t; simp [zH, loZ, hiZ]
  | cons f Z ih =>
    intro t
    show inr (zH Z (fr f t)) = (if f.s = true then loZ Z ++ (inr f.o ++ [(f.k, f.v)]) else loZ Z) ++ inr t ++ (if f.s = true then hiZ Z else (f.k, f.v) :: (inr f.o ++ hiZ Z))
    rw [ih, wR]
    by_cases h : f.s = true
    · rw [if_pos h, if_pos h, if_pos h]; simp
    · rw [if_neg h, if_neg h, if_neg h]; simp
theorem qKf {f : Fr} {t : Tr} {n : Nat} (ho : RB f.o n) (ht : RB t n) (hc : f.c = true → isR t = false ∧ isR f.o = false) : RB (fr f t) (if f.c = true then n else n + 1) := by
  unfold fr
  by_cases h : f.s = true
  · rw [if_pos h]
    refine ⟨n, ho, ht, fun c => ?_, fun c => ?_⟩
    · rw [if_pos c]; exact ⟨rfl, (hc c).2, (hc c).1⟩
    · rw [if_neg (by rw [c]; simp)]
  · rw [if_neg h]
    refine ⟨n, ht, ho, fun c => ?_, fun c => ?_⟩
    · rw [if_pos c]; exact ⟨rfl, (hc c).1, (hc c).2⟩
    · rw [if_neg (by rw [c]; simp)]
theorem yK {f : Fr} {t : Tr} : isR (fr f t) = f.c := by unfold fr; split <;> rfl
theorem vL : ∀ {Z : List Fr} {t : Tr} {n : Nat}, RB t n → RBZ Z n (isR t) → ∃ m, RB (zH Z t) m := by
  intro Z
  induction Z with
  | nil => intro t n h _; exact ⟨n, h⟩
  | cons f Z ih =>
    intro t n h hz
    refine ih (n := if f.c = true then n else n + 1) (qKf hz.1 h hz.2.1) ?_
    rw [yK]
    exact hz.2.2
def jS (Z : List Fr) : List jf := (Z.map fun f => (f.a, if f.s = true then (1 : Int) else 0)).reverse
end Go.Proofs.YtpohfcljfemhlaaGreat.arenaParts
namespace Go.Proofs.YtpohfcljfemhlaaGreat.arenaParts
open Go Go.Ae arenaPlays
set_option maxRecDepth 100000
def SqT (p' : Int) (L' : List Int) (q : Int) : Prop := q ≠ p' ∧ ∀ y ∈ L', q < y ∨ y + 3 < q
structure Hp (W : List Int) (T : Nat) (p : Int) (L fr : List Int) (p' : Int) (L' W0 : List Int) (rv : Int) (nd : Int → Nd) : Prop where
  H : HY W T (L ++ L') fr
  rv : qW W p.toNat = rv
  nds : ∀ a ∈ L, qW W a.toNat = (nd a).k ∧ qW W (a + 1).toNat = (nd a).v ∧ qW W (a + 2).toNat = (nd a).w ∧ qW W (a + 3).toNat = (nd a).y
  oth : qW W p'.toNat = qW W0 p'.toNat ∧ ∀ y ∈ L', ∀ j : Int, 0 ≤ j → j < 4 → qW W (y + j).toNat = qW W0 (y + j).toNat
  rr : 6 ≤ p ∧ p ≤ 13 ∧ 6 ≤ p' ∧ p' ≤ 13 ∧ p ≠ p'
  b5 : qW W 5 = qW W0 5
variable {α : Type} {W W0 : List Int} {T : Nat} {p p' rv : Int} {L fr L' F : List Int} {nd : Int → Nd} {r : Nat} {s : Int} {Q : Option α → Int → List Int → List Int → Prop}
theorem Hp.b (Z : Hp W T p L fr p' L' W0 rv nd) {a : Int} (ha : a ∈ L) : 15 ≤ a ∧ a + 4 ≤ T := Z.H.mem (List.mem_append.2 (.inl ha))
theorem Hp.ne (Z : Hp W T p L fr p' L' W0 rv nd) {a y : Int} (ha : a ∈ L) (hy : y ∈ L') : a + 5 ≤ y ∨ y + 5 ≤ a := by
  rcases Z.H.apart (List.mem_append.2 (.inl ha)) (List.mem_append.2 (.inr hy)) with h | h | h
  · exact absurd h ((List.nodup_append.1 Z.H.nd).2.2 a ha y hy)
  · exact .inl h
  · exact .inr h
theorem Hp.sq (Z : Hp W T p L fr p' L' W0 rv nd) {a j : Int} (ha : a ∈ L) (hj : 0 ≤ j ∧ j < 4) : SqT p' L' (a + j) := by
  have hb := Z.b ha
  have hr := Z.rr
  refine ⟨by omega, fun y hy => ?_⟩
  rcases Z.ne ha hy with h | h
  · exact .inl (by omega)
  · exact .inr (by omega)
theorem Hp.sqr (Z : Hp W T p L fr p' L' W0 rv nd) : SqT p' L' p := by
  have hr := Z.rr
  refine ⟨hr.2.2.2.2, fun y hy => ?_⟩
  have := Z.H.mem (List.mem_append.2 (.inr hy))
  exact .inl (by omega)
theorem Hp.wds (Z : Hp W T p L fr p' L' W0 rv nd) (q : Nat) : 0 ≤ qW W q ∧ qW W q < 18446744073709551616 := vY Z.H.nn q
theorem wc {a j x : Int} {x' : Nd} {k : Act α} (Z : Hp W T p L fr p' L' W0 rv nd) (ha : a ∈ L) (hj : 0 ≤ j ∧ j < 4) (hx : 0 ≤ x ∧ x < 18446744073709551616)
    (hn : x'.k = (if j = 0 then x else (nd a).k) ∧ x'.v = (if j = 1 then x else (nd a).v) ∧ x'.w = (if j = 2 then x else (nd a).w) ∧ x'.y = (if j = 3 then x else (nd a).y)) (hr : r + 1 ≤ 96)
    (w : ∀ W', Hp W' T p L fr p' L' W0 rv (upd nd a x') → wpA T (SqT p' L') k W' (r + 1) F s Q) : wpA T (SqT p' L') (.take [(a + j, x)] k) W r F s Q := by
  have hb := Z.b ha
  have hrr := Z.rr
  refine Ku Z.H hx (.inr ⟨a, List.mem_append.2 (.inl ha), by omega⟩) (Z.sq ha hj) hr fun H' hat => w _ ⟨H', ?_, ?_, ?_, Z.rr, by rw [hat, if_neg (by omega)]; exact Z.b5⟩
  · rw [hat, if_neg (by omega)]; exact Z.rv
  · intro b hb'
    have hbb := Z.b hb'
    have h0 := Z.nds b hb'
    by_cases e : b = a
    · subst e
      rw [z9]
      obtain ⟨n1, n2, n3, n4⟩ := hn
      rw [n1, n2, n3, n4, hat, hat, hat, hat]
      refine ⟨?_, ?_, ?_, ?_⟩
      · by_cases h : j = 0
        · rw [if_pos (by omega), if_pos h]
        · rw [if_neg (by omega), if_neg h]; exact h0.1
      · by_cases h : j = 1
        · rw [if_pos (by omega), if_pos h]
        · rw [if_neg (by omega), if_neg h]; exact h0.2.1
      · by_cases h : j = 2
        · rw [if_pos (by omega), if_pos h]
        · rw [if_neg (by omega), if_neg h]; exact h0.2.2.1
      · by_cases h : j = 3
        · rw [if_pos (by omega), if_pos h]
        · rw [if_neg (by omega), if_neg h]; exact h0.2.2.2
    · rw [jc e]
      rcases Z.H.apart (List.mem_append.2 (.inl ha)) (List.mem_append.2 (.inl hb')) with h | h | h
      · exact absurd h.symm e
      · rw [hat, hat, hat, hat, if_neg (by omega), if_neg (by omega), if_neg (by omega), if_neg (by omega)]; exact h0
      · rw [hat, hat, hat, hat, if_neg (by omega), if_neg (by omega), if_neg (by omega), if_neg (by omega)]; exact h0
  · refine ⟨by rw [hat, if_neg (by omega)]; exact Z.oth.1, fun y hy i h1 h2 => ?_⟩
    have hyb := Z.H.mem (List.mem_append.2 (.inr hy))
    rcases Z.ne ha hy with h | h
    · rw [hat, if_neg (by omega)]; exact Z.oth.2 y hy i h1 h2
    · rw [hat, if_neg (by omega)]; exact Z.oth.2 y hy i h1 h2
theorem qXI {x : Int} {k : Act α} (Z : Hp W T p L fr p' L' W0 rv nd) (hx : 0 ≤ x ∧ x < 18446744073709551616) (hr : r + 1 ≤ 96)
    (w : ∀ W', Hp W' T p L fr p' L' W0 x nd → wpA T (SqT p' L') k W' (r + 1) F s Q) : wpA T (SqT p' L') (.take [(p, x)] k) W r F s Q := by
  have hrr := Z.rr
  refine Ku Z.H hx (.inl ⟨hrr.1, hrr.2.1⟩) Z.sqr hr fun H' hat => w _ ⟨H', ?_, ?_, ?_, Z.rr, by rw [hat, if_neg (by omega)]; exact Z.b5⟩
  · rw [hat, if_pos (by omega)]
  · intro b hb
    have hbb := Z.b hb
    rw [hat, hat, hat, hat, if_neg (by omega), if_neg (by omega), if_neg (by omega), if_neg (by omega)]
    exact Z.nds b hb
  · refine ⟨by rw [hat, if_neg (by omega)]; exact Z.oth.1, fun y hy i h1 h2 => ?_⟩
    have hyb := Z.H.mem (List.mem_append.2 (.inr hy))
    rw [hat, if_neg (by omega)]
    exact Z.oth.2 y hy i h1 h2
end Go.Proofs.YtpohfcljfemhlaaGreat.arenaParts
namespace Go.Proofs.YtpohfcljfemhlaaGreat.arenaParts
open Go Go.Ae arenaPlays
set_option maxRecDepth 100000
variable {α : Type} {W W0 : List Int} {T : Nat} {p p' rv : Int} {L fr L' F : List Int} {nd : Int → Nd} {r : Nat} {s : Int} {Q : Option α → Int → List Int → List Int → Prop}
theorem kp {a j : Int} {k : Int → Act α} (Z : Hp W T p L fr p' L' W0 rv nd) (ha : a ∈ L) (hj : 0 ≤ j ∧ j < 4) (w : wpA T (SqT p' L') (k (qW W (a + j).toNat)) W r F s Q) : wpA T (SqT p' L') (.read (a + j) k) W r F s Q := by
  have hb := Z.b ha
  exact wa (by omega) (by omega) (Z.sq ha hj) w
theorem wS {a : Int} {k : Int → Act α} (Z : Hp W T p L fr p' L' W0 rv nd) (ha : a ∈ L) (hc : (nd a).w / 2 < 2147483648) (w : wpA T (SqT p' L') (k ((nd a).w / 2)) W r F s Q) : wpA T (SqT p' L') (jX a 0 k) W r F s Q := by
  have hb := Z.b ha
  unfold jX
  rw [if_neg (by omega), if_neg (by omega)]
  refine kp Z ha (by omega) ?_
  rw [(Z.nds a ha).2.2.1]
  unfold GR
  rw [if_neg (by omega)]
  exact w
theorem vN {a : Int} {k : Int → Act α} (Z : Hp W T p L fr p' L' W0 rv nd) (ha : a ∈ L) (hc : (nd a).y < 2147483648) (w : wpA T (SqT p' L') (k (nd a).y) W r F s Q) : wpA T (SqT p' L') (jX a 1 k) W r F s Q := by
  have hb := Z.b ha
  unfold jX
  rw [if_neg (by omega), if_pos rfl]
  refine Uk (by omega) (by omega) (Z.sq ha (by omega)) ?_ ?_
  · rw [(Z.nds a ha).2.2.2]; exact hc
  · rw [(Z.nds a ha).2.2.2]; exact w
theorem Zu {a : Int} {k : Bool → Act α} (Z : Hp W T p L fr p' L' W0 rv nd) (ha : a ∈ L) (w : wpA T (SqT p' L') (k (decide ((nd a).w % 2 = 1))) W r F s Q) : wpA T (SqT p' L') (xx a k) W r F s Q := by
  have hb := Z.b ha
  unfold xx
  rw [if_neg (by omega)]
  refine kp Z ha (by omega) ?_
  rw [(Z.nds a ha).2.2.1]
  exact w
theorem qKB {k : Bool → Act α} (w : wpA T (SqT p' L') (k false) W r F s Q) : wpA T (SqT p' L') (xx 0 k) W r F s Q := by
  unfold xx
  rw [if_pos rfl]
  exact w
theorem kH {a c : Int} {k : Act α} (Z : Hp W T p L fr p' L' W0 rv nd) (ha : a ∈ L) (hc : 0 ≤ c ∧ c < 2147483648) (hr : r + 1 ≤ 96) (w : ∀ W', Hp W' T p L fr p' L' W0 rv (upd nd a ⟨(nd a).k, (nd a).v, (nd a).w, c⟩) → wpA T (SqT p' L') k W' (r + 1) F s Q) :
    wpA T (SqT p' L') (xC a 1 c k) W r F s Q := by
  unfold xC
  rw [if_pos rfl]
  exact wc (x' := ⟨(nd a).k, (nd a).v, (nd a).w, c⟩) Z ha (by omega) (by omega) ⟨by simp, by simp, by simp, by simp⟩ hr w
theorem kJ {a c : Int} {k : Act α} (Z : Hp W T p L fr p' L' W0 rv nd) (ha : a ∈ L) (hc : 0 ≤ c ∧ c < 2147483648) (hr : r + 1 ≤ 96) (w : ∀ W', Hp W' T p L fr p' L' W0 rv (upd nd a ⟨(nd a).k, (nd a).v, c * 2 + (nd a).w % 2, (nd a).y⟩) → wpA T (SqT p' L') k W' (r + 1) F s Q) :
    wpA T (SqT p' L') (xC a 0 c k) W r F s Q := by
  unfold xC
  rw [if_neg (by omega)]
  refine kp Z ha (by omega) ?_
  rw [(Z.nds a ha).2.2.1]
  exact wc (x' := ⟨(nd a).k, (nd a).v, c * 2 + (nd a).w % 2, (nd a).y⟩) Z ha (by omega) (by omega) ⟨by simp, by simp, by simp, by simp⟩ hr w
theorem qQl {x : Int} {c red : Bool} (h : ¬ decide ((x * 2 + zc c) % 2 = 1) = red) : wG (x * 2 + zc c) = x * 2 + zc red := by
  unfold wG
  cases c <;> cases red <;> simp [zc] at h ⊢ <;> omega
theorem ZK {x : Int} {c red : Bool} (h : decide ((x * 2 + zc c) % 2 = 1) = red) : c = red := by
  cases c <;> cases red <;> simp [zc] at h ⊢ <;> omega
theorem Xu {a x : Int} {c red : Bool} {k : Act α} (Z : Hp W T p L fr p' L' W0 rv nd) (ha : a ∈ L) (hw : (nd a).w = x * 2 + zc c) (hr : r + 1 ≤ 96)
    (w : ∀ W' r', r' ≤ r + 1 → Hp W' T p L fr p' L' W0 rv (upd nd a ⟨(nd a).k, (nd a).v, x * 2 + zc red, (nd a).y⟩) → wpA T (SqT p' L') k W' r' F s Q) : wpA T (SqT p' L') (jW a red k) W r F s Q := by
  have hb := Z.b ha
  unfold jW
  rw [if_neg (by omega)]
  refine kp Z ha (by omega) ?_
  have hw2 := (Z.nds a ha).2.2.1
  have hwb := Z.wds (a + 2).toNat
  rw [hw2, hw] at hwb
  rw [hw2, hw]
  by_cases h : decide ((x * 2 + zc c) % 2 = 1) = red
  · rw [if_pos h]
    refine w W r (by omega) ?_
    have e : upd nd a ⟨(nd a).k, (nd a).v, x * 2 + zc red, (nd a).y⟩ = nd := by
      funext b
      unfold upd
      split
      · rename_i hb; rw [hb, ← ZK h, ← hw]
      · rfl
    rw [e]
    exact Z
  · rw [if_neg h]
    have hf := Oo hwb
    rw [qQl h] at hf ⊢
    exact wc (x' := ⟨(nd a).k, (nd a).v, x * 2 + zc red, (nd a).y⟩) Z ha (by omega) hf ⟨by simp, by simp, by simp, by simp⟩ hr fun W' => w W' (r + 1) (Nat.le_refl _)
end Go.Proofs.YtpohfcljfemhlaaGreat.arenaParts
namespace Go.Proofs.YtpohfcljfemhlaaGreat.arenaParts
open Go Go.Ae arenaPlays
set_option maxRecDepth 100000
variable {α : Type} {W W0 : List Int} {T : Nat} {p p' rv : Int} {L fr L' F : List Int} {nd : Int → Nd} {r : Nat} {s : Int} {Q : Option α → Int → List Int → List Int → Prop}
theorem gn (Z : Hp W T p L fr p' L' W0 rv nd) : ∀ {t : Tr}, (∀ x ∈ ads t, x ∈ L) → 0 ≤ rt t ∧ rt t < 256 := by
  intro t h
  cases t with
  | nil => show (0 : Int) ≤ 0 ∧ (0 : Int) < 256; omega
  | node a c l k v rr =>
    have := Z.b (h a (List.mem_cons_self ..))
    have := Z.H.size
    show 0 ≤ a ∧ a < 256
    omega
theorem w9 {x : Int} {c : Bool} : (x * 2 + zc c) / 2 = x := by have := On c; omega
theorem YT {x : Int} {c : Bool} : (x * 2 + zc c) % 2 = zc c := by have := On c; omega
theorem Rep.off {nd nd' : Int → Nd} : ∀ {t : Tr}, Rep nd t → (∀ x ∈ ads t, nd' x = nd x) → Rep nd' t := by
  intro t
  induction t with
  | nil => intro _ _; exact trivial
  | node a c l k v rr ihl ihr =>
    intro h e
    exact ⟨(e a (List.mem_cons_self ..)).trans h.1, ihl h.2.1 fun x hx => e x (List.mem_cons_of_mem _ (List.mem_append.2 (.inl hx))), ihr h.2.2 fun x hx => e x (List.mem_cons_of_mem _ (List.mem_append.2 (.inr hx)))⟩
theorem RepZ.off {nd nd' : Int → Nd} {rv : Int} : ∀ {Z : List Fr} {h : Int}, RepZ nd rv Z h → (∀ x ∈ jp Z, nd' x = nd x) → RepZ nd' rv Z h := by
  intro Z
  induction Z with
  | nil => intro h hz _; exact hz
  | cons f Z ih =>
    intro h hz e
    exact ⟨(e f.a (List.mem_cons_self ..)).trans hz.1, hz.2.1.off fun x hx => e x (List.mem_cons_of_mem _ (List.mem_append.2 (.inl hx))), ih hz.2.2 fun x hx => e x (List.mem_cons_of_mem _ (List.mem_append.2 (.inr hx)))⟩
theorem JB {a b k v kb vb : Int} {c cb : Bool} {l rl rr : Tr} {K : Int → Act α} (Z : Hp W T p L fr p' L' W0 rv nd) (R : Rep nd (.node a c l k v (.node b cb rl kb vb rr))) (hL : ∀ x ∈ ads (.node a c l k v (.node b cb rl kb vb rr)), x ∈ L)
    (N : (ads (.node a c l k v (.node b cb rl kb vb rr))).Nodup) (hr : r + 2 ≤ 96)
    (w : ∀ W' nd', Hp W' T p L fr p' L' W0 rv nd' → Rep nd' (.node b cb (.node a c l k v rl) kb vb rr) → (∀ x, x ≠ a → x ≠ b → nd' x = nd x) → wpA T (SqT p' L') (K b) W' (r + 2) F s Q) :
    wpA T (SqT p' L') (xm a 0 K) W r F s Q := by
  obtain ⟨R1, R2, R3, R4, R5⟩ := R
  simp only [ads, List.nodup_cons, List.mem_cons, List.mem_append, List.nodup_append, not_or] at N
  have ha : a ∈ L := hL a (by simp [ads])
  have hb : b ∈ L := hL b (by simp [ads])
  have bl := gn Z (t := rl) fun x hx => hL x (by simp [ads]; exact .inr (.inr (.inr (.inl hx))))
  have bbb := Z.b hb
  have bba := Z.b ha
  have hsz := Z.H.size
  have hab : a ≠ b := N.1.2.1
  unfold xm
  rw [show (1 : Int) - 0 = 1 from rfl]
  refine vN Z ha (by rw [R1]; show b < _; omega) ?_
  rw [R1]
  show wpA T (SqT p' L') (jX b 0 fun c => xC a 1 c (xC b 0 a (K b))) W r F s Q
  refine wS Z hb (by rw [R3]; show (rt rl * 2 + zc cb) / 2 < _; rw [w9]; omega) ?_
  rw [R3]
  show wpA T (SqT p' L') (xC a 1 ((rt rl * 2 + zc cb) / 2) (xC b 0 a (K b))) W r F s Q
  rw [w9]
  refine kH Z ha (by omega) (by omega) fun W1 Z1 => ?_
  refine kJ Z1 hb (by omega) (by omega) fun W2 Z2 => ?_
  refine w W2 _ Z2 ⟨?_, ⟨?_, ?_, ?_⟩, ?_⟩ ?_
  · rw [z9, jc (Ne.symm hab), R3]
    show (⟨kb, vb, a * 2 + (rt rl * 2 + zc cb) % 2, rt rr⟩ : Nd) = _
    rw [YT]; rfl
  · rw [jc hab, z9, R1]
  · exact R2.off fun x hx => by
      rw [jc (N.2.2.2 x hx b (.inl rfl)), jc (fun e => by subst e; exact N.1.1 hx)]
  · exact R4.off fun x hx => by
      rw [jc (fun e => by subst e; exact N.2.2.1.1.1 hx), jc (fun e => by subst e; exact N.1.2.2.1 hx)]
  · exact R5.off fun x hx => by
      rw [jc (fun e => by subst e; exact N.2.2.1.1.2 hx), jc (fun e => by subst e; exact N.1.2.2.2 hx)]
  · intro x h1 h2
    rw [jc h2, jc h1]
theorem Jq {a b k v kb vb : Int} {c cb : Bool} {ll lr rr : Tr} {K : Int → Act α} (Z : Hp W T p L fr p' L' W0 rv nd) (R : Rep nd (.node a c (.node b cb ll kb vb lr) k v rr)) (hL : ∀ x ∈ ads (.node a c (.node b cb ll kb vb lr) k v rr), x ∈ L)
    (N : (ads (.node a c (.node b cb ll kb vb lr) k v rr)).Nodup) (hr : r + 2 ≤ 96)
    (w : ∀ W' nd', Hp W' T p L fr p' L' W0 rv nd' → Rep nd' (.node b cb ll kb vb (.node a c lr k v rr)) → (∀ x, x ≠ a → x ≠ b → nd' x = nd x) → wpA T (SqT p' L') (K b) W' (r + 2) F s Q) :
    wpA T (SqT p' L') (xm a 1 K) W r F s Q := by
  obtain ⟨R1, ⟨R3, R4, R5⟩, R2⟩ := R
  simp only [ads, List.nodup_cons, List.mem_cons, List.mem_append, List.nodup_append, not_or] at N
  have ha : a ∈ L := hL a (by simp [ads])
  have hb : b ∈ L := hL b (by simp [ads])
  have bl := gn Z (t := lr) fun x hx => hL x (List.mem_cons_of_mem _ (List.mem_append.2 (.inl (List.mem_cons_of_mem _ (List.mem_append.2 (.inr hx))))))
  have bbb := Z.b hb
  have bba := Z.b ha
  have hsz := Z.H.size
  have hab : a ≠ b := N.1.1.1
  unfold xm
  rw [show (1 : Int) - 1 = 0 from rfl]
  refine wS Z ha (by rw [R1]; show (b * 2 + zc c) / 2 < _; rw [w9]; omega) ?_
  rw [R1]
  show wpA T (SqT p' L') (jX ((b * 2 + zc c) / 2) 1 fun c' => xC a 0 c' (xC ((b * 2 + zc c) / 2) 1 a (K ((b * 2 + zc c) / 2)))) W r F s Q
  rw [w9]
  refine vN Z hb (by rw [R3]; show rt lr < _; omega) ?_
  rw [R3]
  show wpA T (SqT p' L') (xC a 0 (rt lr) (xC b 1 a (K b))) W r F s Q
  refine kJ Z ha (by omega) (by omega) fun W1 Z1 => ?_
  refine kH Z1 hb (by omega) (by omega) fun W2 Z2 => ?_
  refine w W2 _ Z2 ⟨?_, ?_, ?_, ?_, ?_⟩ ?_
  · rw [z9, jc (Ne.symm hab), R3]; rfl
  · exact R4.off fun x hx => by
      rw [jc (fun e => by subst e; exact N.2.1.1.1 hx), jc (fun e => by subst e; exact N.1.1.2.1 hx)]
  · rw [jc hab, z9, R1]
    show (⟨k, v, rt lr * 2 + (b * 2 + zc c) % 2, rt rr⟩ : Nd) = _
    rw [YT]
  · exact R5.off fun x hx => by
      rw [jc (fun e => by subst e; exact N.2.1.1.2 hx), jc (fun e => by subst e; exact N.1.1.2.2 hx)]
  · exact R2.off fun x hx => by
      rw [jc (fun e => N.2.2.2 b (.inl rfl) x hx e.symm), jc (fun e => by subst e; exact N.1.2 hx)]
  · intro x h1 h2
    rw [jc h2, jc h1]
end Go.Proofs.YtpohfcljfemhlaaGreat.arenaParts
namespace Go.Proofs.YtpohfcljfemhlaaGreat.arenaParts
open Go Go.Ae arenaPlays
set_option maxRecDepth 100000
variable {α : Type} {W W0 : List Int} {T : Nat} {p p' rv : Int} {L fr L' F : List Int} {nd : Int → Nd} {r : Nat} {s : Int} {Q : Option α → Int → List Int → List Int → Prop}
theorem zE {Z : List Fr} : (jS Z).length = Z.length := by unfold jS; simp
theorem gL {f : Fr} {Z : List Fr} : jS (f :: Z) = jS Z ++ [(f.a, if f.s = true then (1 : Int) else 0)] := by unfold jS; simp
theorem Ma {f : Fr} {Z : List Fr} {rest : List jf} : zg (jS (f :: Z) ++ rest) Z.length = (f.a, if f.s = true then (1 : Int) else 0) := by
  unfold zg
  rw [gL, List.append_assoc, List.getElem?_append_right (by rw [zE]; exact Nat.le_refl _), zE, Nat.sub_self]
  rfl
theorem Jy {Zs : List Fr} {rest : List jf} {x0 c : Int} {k : Act α} (Z : Hp W T p L fr p' L' W0 rv nd) (R : RepZ nd rv Zs x0) (hL : ∀ x ∈ jp Zs, x ∈ L) (N : (jp Zs).Nodup) (hc : 0 ≤ c ∧ c < 2147483648) (hr : r + 1 ≤ 96)
    (w : ∀ W' rv' nd', Hp W' T p L fr p' L' W0 rv' nd' → RepZ nd' rv' Zs c → (∀ x, x ∉ jp Zs → nd' x = nd x) → wpA T (SqT p' L') k W' (r + 1) F s Q) :
    wpA T (SqT p' L') (xu p (jS Zs ++ rest) Zs.length c k) W r F s Q := by
  cases Zs with
  | nil => exact qXI Z (by omega) hr fun W' Z' => w W' c nd Z' rfl fun x _ => rfl
  | cons f Zs =>
    obtain ⟨R1, R2, R3⟩ := R
    simp only [jp, List.nodup_cons, List.mem_append, List.nodup_append, not_or] at N
    have hf : f.a ∈ L := hL f.a (List.mem_cons_self ..)
    show wpA T (SqT p' L') (xC (zg (jS (f :: Zs) ++ rest) Zs.length).1 (zg (jS (f :: Zs) ++ rest) Zs.length).2 c k) W r F s Q
    rw [Ma]
    dsimp only
    unfold ndF at R1
    by_cases hs : f.s = true
    · rw [if_pos hs] at R1 ⊢
      refine kH Z hf hc hr fun W' Z' => w W' rv _ Z' ⟨?_, R2.upd N.1.1, R3.upd N.1.2⟩ fun x hx => ?_
      · rw [z9, R1]; unfold ndF; rw [if_pos hs]
      · exact jc fun e => hx (e ▸ List.mem_cons_self ..)
    · rw [if_neg hs] at R1 ⊢
      refine kJ Z hf hc hr fun W' Z' => w W' rv _ Z' ⟨?_, R2.upd N.1.1, R3.upd N.1.2⟩ fun x hx => ?_
      · rw [z9, R1]; unfold ndF; rw [if_neg hs, YT]
      · exact jc fun e => hx (e ▸ List.mem_cons_self ..)
def Srt (l : List qo) : Prop := l.Pairwise fun a b => a.1 < b.1
theorem qZP {key : Int} {k : Int → List jf → Act α} {m : Nat} {a : Int} {way : List jf} : vH key k (m + 1) a way = if a = 0 then k 0 way else .step (.read a fun here => if here = key then k a way else
      jX a (if here < key then 1 else 0) fun c => vH key k m c (way ++ [(a, if here < key then 1 else 0)])) := rfl
theorem qKM {key : Int} {k : Int → List jf → Act α} (Z : Hp W T p L fr p' L' W0 rv nd) : ∀ {t : Tr} {Zs : List Fr} {m : Nat} {s : Int}, RepZ nd rv Zs (rt t) → Rep nd t → (∀ x ∈ ads t, x ∈ L) → (ads t).length ≤ m → s + (ads t).length ≤ 2048 → Srt (inr t) →
    (∀ q ∈ loZ Zs, q.1 < key) → (∀ q ∈ hiZ Zs, key < q.1) →
    (∀ (Z' : List Fr) (t' : Tr) (s' : Int), zH Z' t' = zH Zs t → RepZ nd rv Z' (rt t') → Rep nd t' → (t' = .nil ∨ ∃ a c l v rr, t' = .node a c l key v rr) → (∀ q ∈ loZ Z', q.1 < key) → (∀ q ∈ hiZ Z', key < q.1) → s' ≤ s + (ads t).length → wpA T (SqT p' L') (k (rt t') (jS Z')) W r F s' Q) →
    wpA T (SqT p' L') (vH key k m (rt t) (jS Zs)) W r F s Q := by
  intro t
  induction t with
  | nil =>
    intro Zs m s hz ht hL hm hs ho hlo hhi w
    have e : vH key k m (rt .nil) (jS Zs) = k 0 (jS Zs) := by
      cases m <;> (unfold vH; rw [if_pos (show rt .nil = 0 from rfl)])
    rw [e]
    exact w Zs .nil s rfl hz ht (.inl rfl) hlo hhi (by simp [ads])
  | node a c l kk v rr ihl ihr =>
    intro Zs m s hz ht hL hm hs ho hlo hhi w
    have ha : a ∈ L := hL a (List.mem_cons_self ..)
    have hb := Z.b ha
    have hsz := Z.H.size
    have hLl : ∀ x ∈ ads l, x ∈ L := fun x hx => hL x (List.mem_cons_of_mem _ (List.mem_append.2 (.inl hx)))
    have hLr : ∀ x ∈ ads rr, x ∈ L := fun x hx => hL x (List.mem_cons_of_mem _ (List.mem_append.2 (.inr hx)))
    have hlen : (ads (.node a c l kk v rr)).length = (ads l).length + (ads rr).length + 1 := by simp [ads]
    rw [hlen] at hm hs w
    obtain ⟨m, rfl⟩ : ∃ m', m = m' + 1 := ⟨m - 1, by omega⟩
    show wpA T (SqT p' L') (vH key k (m + 1) a (jS Zs)) W r F s Q
    rw [qZP, if_neg (by omega)]
    refine ⟨by omega, ?_⟩
    have hsq := Z.sq ha (j := 0) (by omega)
    rw [Int.add_zero] at hsq
    refine wa (by omega) (by omega) hsq ?_
    rw [(Z.nds a ha).1, ht.1]
    dsimp only
    have ho2 : Srt (inr l) ∧ Srt (inr rr) ∧ (∀ q ∈ inr l, q.1 < kk) ∧ (∀ q ∈ inr rr, kk < q.1) := by
      have h := List.pairwise_append.1 (show (inr l ++ (kk, v) :: inr rr).Pairwise _ from ho)
      have h2 := List.pairwise_cons.1 h.2.1
      exact ⟨h.1, h2.2, fun q hq => h.2.2 q hq _ (List.mem_cons_self ..), fun q hq => h2.1 q hq⟩
    by_cases hk : kk = key
    · rw [if_pos hk]
      subst hk
      exact w Zs (.node a c l kk v rr) (s + 1) rfl hz ht (.inr ⟨a, c, l, v, rr, rfl⟩) hlo hhi (by omega)
    rw [if_neg hk]
    by_cases hlt : kk < key
    · rw [if_pos hlt]
      have hbr := gn Z hLr
      refine vN Z ha (by rw [ht.1]; show rt rr < _; omega) ?_
      rw [ht.1]
      show wpA T (SqT p' L') (vH key k m (rt rr) (jS Zs ++ [(a, 1)])) W r F (s + 1) Q
      have e : jS Zs ++ [(a, 1)] = jS (⟨a, c, kk, v, true, l⟩ :: Zs) := by rw [gL]; rfl
      rw [e]
      refine ihr (Zs := ⟨a, c, kk, v, true, l⟩ :: Zs) ⟨ht.1, ht.2.1, hz⟩ ht.2.2 hLr (by omega) (by omega) ho2.2.1 ?_ ?_ fun Z' t' s' h1 h2 h3 h4 h5 h6 h7 => w Z' t' s' h1 h2 h3 h4 h5 h6 (by omega)
      · intro q hq
        have hq : q ∈ loZ Zs ++ (inr l ++ [(kk, v)]) := hq
        rcases List.mem_append.1 hq with hq | hq
        · exact hlo q hq
        · rcases List.mem_append.1 hq with hq | hq
          · have := ho2.2.2.1 q hq; omega
          · rw [List.mem_singleton.1 hq]; exact hlt
      · intro q hq
        exact hhi q hq
    · rw [if_neg hlt]
      have hbl := gn Z hLl
      refine wS Z ha (by rw [ht.1]; show (rt l * 2 + zc c) / 2 < _; rw [w9]; omega) ?_
      rw [ht.1]
      show wpA T (SqT p' L') (vH key k m ((rt l * 2 + zc c) / 2) (jS Zs ++ [(a, 0)])) W r F (s + 1) Q
      rw [w9]
      have e : jS Zs ++ [(a, 0)] = jS (⟨a, c, kk, v, false, rr⟩ :: Zs) := by rw [gL]; rfl
      rw [e]
      refine ihl (Zs := ⟨a, c, kk, v, false, rr⟩ :: Zs) ⟨ht.1, ht.2.2, hz⟩ ht.2.1 hLl (by omega) (by omega) ho2.1 ?_ ?_ fun Z' t' s' h1 h2 h3 h4 h5 h6 h7 => w Z' t' s' h1 h2 h3 h4 h5 h6 (by omega)
      · intro q hq
        exact hlo q hq
      · intro q hq
        have hq : q ∈ (kk, v) :: (inr rr ++ hiZ Zs) := hq
        rcases List.mem_cons.1 hq with rfl | hq
        · show key < kk; omega
        · rcases List.mem_append.1 hq with hq | hq
          · have := ho2.2.2.2 q hq; omega
          · exact hhi q hq
end Go.Proofs.YtpohfcljfemhlaaGreat.arenaParts
namespace Go.Proofs.YtpohfcljfemhlaaGreat.arenaParts
open Go Go.Ae arenaPlays
set_option maxRecDepth 100000
variable {α : Type} {W W0 : List Int} {T : Nat} {p p' rv : Int} {L fr L' F : List Int} {nd : Int → Nd} {r : Nat} {s : Int} {Q : Option α → Int → List Int → List Int → Prop}
theorem wC {a kk v : Int} {c red : Bool} {l rr : Tr} {k : Act α} (Z : Hp W T p L fr p' L' W0 rv nd) (R : Rep nd (.node a c l kk v rr)) (ha : a ∈ L) (hn : a ∉ ads l ∧ a ∉ ads rr) (hr : r + 1 ≤ 96)
    (w : ∀ W' r' nd', r' ≤ r + 1 → Hp W' T p L fr p' L' W0 rv nd' → Rep nd' (.node a red l kk v rr) → (∀ x, x ≠ a → nd' x = nd x) → wpA T (SqT p' L') k W' r' F s Q) : wpA T (SqT p' L') (jW a red k) W r F s Q := by
  refine Xu Z ha (x := rt l) (c := c) (by rw [R.1]) hr fun W' r' h1 Z' => w W' r' _ h1 Z' ⟨?_, R.2.1.upd hn.1, R.2.2.upd hn.2⟩ fun x hx => jc hx
  rw [z9, R.1]
theorem vo {Zs : List Fr} {rest : List jf} {a b : Int} {x0 : Int} {ca cb : Bool} {ka va kb vb : Int} {l m rr : Tr} {lowr : Bool} {k : Act α} (Z : Hp W T p L fr p' L' W0 rv nd)
    (R : Rep nd (if lowr = true then .node b cb (.node a ca l ka va m) kb vb rr else .node b cb l kb vb (.node a ca m ka va rr))) (RZ : RepZ nd rv Zs x0)
    (hL : ∀ x ∈ jp Zs, x ∈ L) (NZ : (jp Zs).Nodup) (ha : a ∈ L) (hb : b ∈ L) (hab : a ≠ b) (hna : a ∉ ads l ∧ a ∉ ads m ∧ a ∉ ads rr ∧ a ∉ jp Zs) (hnb : b ∉ ads l ∧ b ∉ ads m ∧ b ∉ ads rr ∧ b ∉ jp Zs)
    (hd : ∀ x ∈ jp Zs, x ∉ ads l ∧ x ∉ ads m ∧ x ∉ ads rr) (hr : r + 3 ≤ 96)
    (w : ∀ W' r' rv' nd', r' ≤ r + 3 → Hp W' T p L fr p' L' W0 rv' nd' → RepZ nd' rv' Zs b → Rep nd' (if lowr = true then .node b false (.node a true l ka va m) kb vb rr else .node b false l kb vb (.node a true m ka va rr)) → wpA T (SqT p' L') k W' r' F s Q) :
    wpA T (SqT p' L') (jW b false (jW a true (xu p (jS Zs ++ rest) Zs.length b k))) W r F s Q := by
  have hbb := Z.b hb
  have hsz := Z.H.size
  have fin : ∀ {W2 : List Int} {r2 : Nat} {nd2 : Int → Nd} {t2 : Tr}, r2 ≤ r + 2 → Hp W2 T p L fr p' L' W0 rv nd2 → RepZ nd2 rv Zs x0 → Rep nd2 t2 → (∀ x ∈ ads t2, x ∉ jp Zs) →
      (∀ W' rv' nd', Hp W' T p L fr p' L' W0 rv' nd' → RepZ nd' rv' Zs b → Rep nd' t2 → wpA T (SqT p' L') k W' (r2 + 1) F s Q) → wpA T (SqT p' L') (xu p (jS Zs ++ rest) Zs.length b k) W2 r2 F s Q := by
    intro W2 r2 nd2 t2 h2 Z2 RZ2 R2 hd2 w2
    refine Jy Z2 RZ2 hL NZ (by omega) (by omega) fun W' rv' nd' Z' RZ' ho => w2 W' rv' nd' Z' RZ' (R2.off fun x hx => ho x (hd2 x hx))
  cases lowr with
  | true =>
    rw [if_pos rfl] at R w
    refine wC Z R hb ⟨?_, hnb.2.2.1⟩ (by omega) fun W1 r1 nd1 h1 Z1 R1 o1 => ?_
    · simp only [ads, List.mem_cons, List.mem_append, not_or]
      exact ⟨Ne.symm hab, hnb.1, hnb.2.1⟩
    refine wC Z1 R1.2.1 ha ⟨hna.1, hna.2.1⟩ (by omega) fun W2 r2 nd2 h2 Z2 R2 o2 => ?_
    refine fin (t2 := .node b false (.node a true l ka va m) kb vb rr) (by omega) Z2 ?_ ⟨?_, R2, ?_⟩ ?_ fun W' rv' nd' Z' RZ' R' => w W' _ rv' nd' (by omega) Z' RZ' R'
    · exact RZ.off fun x hx => by rw [o2 x (fun e => hna.2.2.2 (e ▸ hx)), o1 x (fun e => hnb.2.2.2 (e ▸ hx))]
    · rw [o2 b (Ne.symm hab)]; exact R1.1
    · exact R1.2.2.off fun x hx => o2 x fun e => hna.2.2.1 (e ▸ hx)
    · intro x hx hz
      simp only [ads, List.mem_cons, List.mem_append] at hx
      have := hd x hz
      rcases hx with rfl | (rfl | hx | hx) | hx
      · exact hnb.2.2.2 hz
      · exact hna.2.2.2 hz
      · exact this.1 hx
      · exact this.2.1 hx
      · exact this.2.2 hx
  | false =>
    rw [if_neg (by simp)] at R w
    refine wC Z R hb ⟨hnb.1, ?_⟩ (by omega) fun W1 r1 nd1 h1 Z1 R1 o1 => ?_
    · simp only [ads, List.mem_cons, List.mem_append, not_or]
      exact ⟨Ne.symm hab, hnb.2.1, hnb.2.2.1⟩
    refine wC Z1 R1.2.2 ha ⟨hna.2.1, hna.2.2.1⟩ (by omega) fun W2 r2 nd2 h2 Z2 R2 o2 => ?_
    refine fin (t2 := .node b false l kb vb (.node a true m ka va rr)) (by omega) Z2 ?_ ⟨?_, ?_, R2⟩ ?_ fun W' rv' nd' Z' RZ' R' => w W' _ rv' nd' (by omega) Z' RZ' R'
    · exact RZ.off fun x hx => by rw [o2 x (fun e => hna.2.2.2 (e ▸ hx)), o1 x (fun e => hnb.2.2.2 (e ▸ hx))]
    · rw [o2 b (Ne.symm hab)]; exact R1.1
    · exact R1.2.1.off fun x hx => o2 x fun e => hna.1 (e ▸ hx)
    · intro x hx hz
      simp only [ads, List.mem_cons, List.mem_append] at hx
      have := hd x hz
      rcases hx with rfl | hx | rfl | hx | hx
      · exact hnb.2.2.2 hz
      · exact this.1 hx
      · exact hna.2.2.2 hz
      · exact this.2.1 hx
      · exact this.2.2 hx
end Go.Proofs.YtpohfcljfemhlaaGreat.arenaParts
namespace Go.Proofs.YtpohfcljfemhlaaGreat.arenaParts
open Go Go.Ae arenaPlays
set_option maxRecDepth 100000
variable {α : Type} {W W0 : List Int} {T : Nat} {p p' rv : Int} {L fr L' F : List Int} {nd : Int → Nd} {r : Nat} {s : Int} {Q : Option α → Int → List Int → List Int → Prop}
def Ym (f g : Fr) (t : Tr) : Tr :=
  if f.s = g.s then (if g.s = true then .node f.a false (.node g.a true g.o g.k g.v f.o) f.k f.v t else .node f.a false t f.k f.v (.node g.a true f.o g.k g.v g.o))
  else match t with
    | .nil => .nil
    | .node ta _ tl tk tv tr => if g.s = true then .node ta false (.node g.a true g.o g.k g.v tl) tk tv (.node f.a f.c tr f.k f.v f.o) else .node ta false (.node f.a f.c f.o f.k f.v tl) tk tv (.node g.a true tr g.k g.v g.o)
def sd (f : Fr) : Int := if f.s = true then 1 else 0
theorem MG {f g : Fr} {Z : List Fr} : jS (f :: g :: Z) = jS Z ++ [(g.a, sd g), (f.a, sd f)] := by
  rw [gL, gL]; simp [sd]
def Dj (t : Tr) (Z : List Fr) : Prop := (ads t ++ jp Z).Nodup
theorem UJ {Zs : List Fr} {f g : Fr} {t : Tr} {k : Act α} (Z : Hp W T p L fr p' L' W0 rv nd) (RZ : RepZ nd rv (f :: g :: Zs) (rt t)) (R : Rep nd t) (hL : ∀ x ∈ ads t ++ jp (f :: g :: Zs), x ∈ L) (N : Dj t (f :: g :: Zs)) (ht : t ≠ .nil) (hr : r + 9 ≤ 96)
    (w : ∀ W' r' rv' nd', r' ≤ r + 9 → Hp W' T p L fr p' L' W0 rv' nd' → RepZ nd' rv' Zs (rt (Ym f g t)) → Rep nd' (Ym f g t) → wpA T (SqT p' L') k W' r' F s Q) :
    wpA T (SqT p' L') (xT p (jS (f :: g :: Zs)) (f.a, sd f) (g.a, sd g) k) W r F s Q := by
  obtain ⟨f1, f2, g1, g2, RZ⟩ := RZ
  unfold Dj at N
  obtain ⟨fa, fc, fk, fv, fs, fo⟩ := f
  obtain ⟨ga, gc, gk, gv, gs, go⟩ := g
  simp only [jp, List.nodup_append, List.nodup_cons, List.mem_append, List.mem_cons, not_or] at N hL
  unfold xT
  rw [MG, show (jS Zs ++ [(ga, sd ⟨ga, gc, gk, gv, gs, go⟩), (fa, sd ⟨fa, fc, fk, fv, fs, fo⟩)]).length - 2 = Zs.length by simp [zE]]
  have hfa : fa ∈ L := hL fa (by simp)
  have hga : ga ∈ L := hL ga (by simp)
  have hLZ : ∀ x ∈ jp Zs, x ∈ L := fun x hx => hL x (by simp [hx])
  cases gs with
  | true =>
    cases fs with
    | true =>
      show wpA T (SqT p' L') (xm ga 0 fun a => jW a false (jW ga true (xu p _ Zs.length a k))) W r F s Q
      have RG : Rep nd (.node ga gc go gk gv (.node fa fc fo fk fv t)) := ⟨g1, g2, f1, f2, R⟩
      refine JB Z RG ?_ ?_ (by omega) fun W1 nd1 Z1 R1 o1 => ?_
      · intro x hx
        simp only [ads, List.mem_cons, List.mem_append] at hx
        exact hL x (by grind)
      · simp only [ads, List.nodup_append, List.nodup_cons, List.mem_append, List.mem_cons, not_or]
        grind
      refine vo (lowr := true) (a := ga) (b := fa) (x0 := ga) Z1 R1 (RZ.off fun x hx => o1 x (by grind) (by grind)) hLZ (by grind) hga hfa (by grind) (by grind) (by grind) (by grind) (by omega) fun W2 r2 rv2 nd2 h2 Z2 RZ2 R2 => ?_
      exact w W2 r2 rv2 nd2 (by omega) Z2 RZ2 R2
    | false =>
      cases t with
      | nil => exact absurd rfl ht
      | node ta tc tl tk tv tr =>
        simp only [ads, List.nodup_append, List.nodup_cons, List.mem_append, List.mem_cons, not_or] at N hL
        have hta : ta ∈ L := hL ta (by simp)
        show wpA T (SqT p' L') (xm fa 1 fun u => xC ga 1 u (xm ga 0 fun a => jW a false (jW ga true (xu p _ Zs.length a k)))) W r F s Q
        have RF : Rep nd (.node fa fc (.node ta tc tl tk tv tr) fk fv fo) := ⟨f1, R, f2⟩
        have hLF : ∀ x ∈ ads (.node fa fc (.node ta tc tl tk tv tr) fk fv fo), x ∈ L := by
          intro x hx
          simp only [ads, List.mem_cons, List.mem_append] at hx
          exact hL x (by grind)
        have NF : (ads (.node fa fc (.node ta tc tl tk tv tr) fk fv fo)).Nodup := by
          simp only [ads, List.nodup_append, List.nodup_cons, List.mem_append, List.mem_cons, not_or]
          grind
        refine Jq Z RF hLF NF (by omega) fun W1 nd1 Z1 R1 o1 => ?_
        have hbt := Z.b hta
        have hsz := Z.H.size
        refine kH Z1 hga (by omega) (by omega) fun W2 Z2 => ?_
        have e1 : nd1 ga = ⟨gk, gv, rt go * 2 + zc gc, fa⟩ := (o1 ga (by grind) (by grind)).trans g1
        have RG : Rep (upd nd1 ga ⟨(nd1 ga).k, (nd1 ga).v, (nd1 ga).w, ta⟩) (.node ga gc go gk gv (.node ta tc tl tk tv (.node fa fc tr fk fv fo))) := by
          refine ⟨?_, ?_, R1.upd ?_⟩
          · rw [z9, e1]; rfl
          · exact g2.off fun x hx => by rw [jc (by grind), o1 x (by grind) (by grind)]
          · simp only [ads, List.mem_append, List.mem_cons, not_or]; grind
        refine JB Z2 RG ?_ ?_ (by omega) fun W3 nd3 Z3 R3 o3 => ?_
        · intro x hx
          simp only [ads, List.mem_cons, List.mem_append] at hx
          exact hL x (by grind)
        · simp only [ads, List.nodup_append, List.nodup_cons, List.mem_append, List.mem_cons, not_or]
          grind
        refine vo (lowr := true) (a := ga) (b := ta) (x0 := ga) Z3 R3 (RZ.off fun x hx => ?_) hLZ (by grind) hga hta (by grind) ?_ ?_ ?_ (by omega) fun W2 r2 rv2 nd2 h2 Z2 RZ2 R2 => ?_
        · rw [o3 x (by grind) (by grind), jc (by grind), o1 x (by grind) (by grind)]
        · simp only [ads, List.mem_append, List.mem_cons, not_or]; grind
        · simp only [ads, List.mem_append, List.mem_cons, not_or]; grind
        · intro x hx
          simp only [ads, List.mem_append, List.mem_cons, not_or]; grind
        · exact w W2 r2 rv2 nd2 (by omega) Z2 RZ2 R2
  | false =>
    cases fs with
    | false =>
      show wpA T (SqT p' L') (xm ga 1 fun a => jW a false (jW ga true (xu p _ Zs.length a k))) W r F s Q
      have RG : Rep nd (.node ga gc (.node fa fc t fk fv fo) gk gv go) := ⟨g1, ⟨f1, R, f2⟩, g2⟩
      refine Jq Z RG ?_ ?_ (by omega) fun W1 nd1 Z1 R1 o1 => ?_
      · intro x hx
        simp only [ads, List.mem_cons, List.mem_append] at hx
        exact hL x (by grind)
      · simp only [ads, List.nodup_append, List.nodup_cons, List.mem_append, List.mem_cons, not_or]
        grind
      refine vo (lowr := false) (a := ga) (b := fa) (x0 := ga) Z1 R1 (RZ.off fun x hx => o1 x (by grind) (by grind)) hLZ (by grind) hga hfa (by grind) (by grind) (by grind) (by grind) (by omega) fun W2 r2 rv2 nd2 h2 Z2 RZ2 R2 => ?_
      exact w W2 r2 rv2 nd2 (by omega) Z2 RZ2 R2
    | true =>
      cases t with
      | nil => exact absurd rfl ht
      | node ta tc tl tk tv tr =>
        simp only [ads, List.nodup_append, List.nodup_cons, List.mem_append, List.mem_cons, not_or] at N hL
        have hta : ta ∈ L := hL ta (by simp)
        show wpA T (SqT p' L') (xm fa 0 fun u => xC ga 0 u (xm ga 1 fun a => jW a false (jW ga true (xu p _ Zs.length a k)))) W r F s Q
        have RF : Rep nd (.node fa fc fo fk fv (.node ta tc tl tk tv tr)) := ⟨f1, f2, R⟩
        have hLF : ∀ x ∈ ads (.node fa fc fo fk fv (.node ta tc tl tk tv tr)), x ∈ L := by
          intro x hx
          simp only [ads, List.mem_cons, List.mem_append] at hx
          exact hL x (by grind)
        have NF : (ads (.node fa fc fo fk fv (.node ta tc tl tk tv tr))).Nodup := by
          simp only [ads, List.nodup_append, List.nodup_cons, List.mem_append, List.mem_cons, not_or]
          grind
        refine JB Z RF hLF NF (by omega) fun W1 nd1 Z1 R1 o1 => ?_
        have hbt := Z.b hta
        have hsz := Z.H.size
        refine kJ Z1 hga (by omega) (by omega) fun W2 Z2 => ?_
        have e1 : nd1 ga = ⟨gk, gv, fa * 2 + zc gc, rt go⟩ := (o1 ga (by grind) (by grind)).trans g1
        have RG : Rep (upd nd1 ga ⟨(nd1 ga).k, (nd1 ga).v, ta * 2 + (nd1 ga).w % 2, (nd1 ga).y⟩) (.node ga gc (.node ta tc (.node fa fc fo fk fv tl) tk tv tr) gk gv go) := by
          refine ⟨?_, R1.upd ?_, ?_⟩
          · rw [z9, e1]
            show (⟨gk, gv, ta * 2 + (fa * 2 + zc gc) % 2, rt go⟩ : Nd) = _
            rw [YT]; rfl
          · simp only [ads, List.mem_append, List.mem_cons, not_or]; grind
          · exact g2.off fun x hx => by rw [jc (by grind), o1 x (by grind) (by grind)]
        refine Jq Z2 RG ?_ ?_ (by omega) fun W3 nd3 Z3 R3 o3 => ?_
        · intro x hx
          simp only [ads, List.mem_cons, List.mem_append] at hx
          exact hL x (by grind)
        · simp only [ads, List.nodup_append, List.nodup_cons, List.mem_append, List.mem_cons, not_or]
          grind
        refine vo (lowr := false) (a := ga) (b := ta) (x0 := ga) Z3 R3 (RZ.off fun x hx => ?_) hLZ (by grind) hga hta (by grind) ?_ ?_ ?_ (by omega) fun W2 r2 rv2 nd2 h2 Z2 RZ2 R2 => ?_
        · rw [o3 x (by grind) (by grind), jc (by grind), o1 x (by grind) (by grind)]
        · simp only [ads, List.mem_append, List.mem_cons, not_or]; grind
        · simp only [ads, List.mem_append, List.mem_cons, not_or]; grind
        · intro x hx
          simp only [ads, List.mem_append, List.mem_cons, not_or]; grind
        · exact w W2 r2 rv2 nd2 (by omega) Z2 RZ2 R2
end Go.Proofs.YtpohfcljfemhlaaGreat.arenaParts
namespace Go.Proofs.YtpohfcljfemhlaaGreat.arenaParts
open Go Go.Ae arenaPlays
set_option maxRecDepth 100000
variable {α : Type} {W W0 : List Int} {T : Nat} {p p' rv : Int} {L fre L' F : List Int} {nd : Int → Nd} {r : Nat} {s : Int} {Q : Option α → Int → List Int → List Int → Prop}
def sdB (s : Bool) : Int := if s = true then 1 else 0
theorem yu {f : Fr} {t : Tr} {x : Int} : x ∈ ads (fr f t) ↔ x = f.a ∨ x ∈ ads f.o ∨ x ∈ ads t := by
  obtain ⟨a, c, k, v, s, o⟩ := f
  cases s <;> simp [fr, ads] <;> grind
theorem km {f : Fr} {t : Tr} : (ads (fr f t)).Nodup ↔ f.a ∉ ads f.o ∧ f.a ∉ ads t ∧ (ads f.o).Nodup ∧ (ads t).Nodup ∧ (∀ x ∈ ads f.o, x ∉ ads t) := by
  obtain ⟨a, c, k, v, s, o⟩ := f
  cases s <;> simp [fr, ads, List.nodup_append] <;> grind
theorem MK {a k v : Int} {c s : Bool} {o t : Tr} : fr ⟨a, c, k, v, s, o⟩ t = fr ⟨a, c, k, v, !s, t⟩ o := by cases s <;> rfl
theorem qJA (s : Bool) {t : Tr} (h : t ≠ .nil) : ∃ a c k v o u, t = fr ⟨a, c, k, v, s, o⟩ u := by
  cases t with
  | nil => exact absurd rfl h
  | node a c l k v r =>
    cases s
    · exact ⟨a, c, k, v, r, l, rfl⟩
    · exact ⟨a, c, k, v, l, r, rfl⟩
theorem rbF {f : Fr} {t : Tr} {n : Nat} : RB (fr f t) n ↔ ∃ m, RB f.o m ∧ RB t m ∧ (f.c = true → n = m ∧ isR f.o = false ∧ isR t = false) ∧ (f.c = false → n = m + 1) := by
  obtain ⟨a, c, k, v, s, o⟩ := f
  cases s
  · show (∃ m, RB t m ∧ RB o m ∧ _) ↔ _
    constructor
    · rintro ⟨m, h1, h2, h3, h4⟩; exact ⟨m, h2, h1, fun hc => ⟨(h3 hc).1, (h3 hc).2.2, (h3 hc).2.1⟩, h4⟩
    · rintro ⟨m, h1, h2, h3, h4⟩; exact ⟨m, h2, h1, fun hc => ⟨(h3 hc).1, (h3 hc).2.2, (h3 hc).2.1⟩, h4⟩
  · exact Iff.rfl
theorem vp {t : Tr} {k : Bool → Act α} (Z : Hp W T p L fre p' L' W0 rv nd) (R : Rep nd t) (hL : ∀ x ∈ ads t, x ∈ L) (w : wpA T (SqT p' L') (k (isR t)) W r F s Q) : wpA T (SqT p' L') (xx (rt t) k) W r F s Q := by
  cases t with
  | nil => exact qKB w
  | node a c l kk v rr =>
    show wpA T (SqT p' L') (xx a k) W r F s Q
    refine Zu (a := a) Z (hL a (List.mem_cons_self ..)) ?_
    rw [R.1]
    have e : decide ((rt l * 2 + zc c) % 2 = 1) = c := by rw [YT]; cases c <;> decide
    show wpA T _ (k (decide ((rt l * 2 + zc c) % 2 = 1))) W r F s Q
    rw [e]
    exact w
theorem Xg {f : Fr} {x : Int} {k : Bool → Act α} (Z : Hp W T p L fre p' L' W0 rv nd) (R : nd f.a = ndF f x) (hL : f.a ∈ L) (w : wpA T (SqT p' L') (k f.c) W r F s Q) : wpA T (SqT p' L') (xx f.a k) W r F s Q := by
  refine Zu Z hL ?_
  have e : decide ((nd f.a).w % 2 = 1) = f.c := by
    rw [R]; unfold ndF; split <;> dsimp only <;> rw [YT] <;> cases f.c <;> decide
  rw [e]
  exact w
theorem qKm {f : Fr} {x : Int} {k : Int → Act α} (Z : Hp W T p L fre p' L' W0 rv nd) (R : nd f.a = ndF f x) (hL : f.a ∈ L) (hx : x < 2147483648) (w : wpA T (SqT p' L') (k x) W r F s Q) : wpA T (SqT p' L') (jX f.a (sdB f.s) k) W r F s Q := by
  obtain ⟨a, c, kk, v, sd, o⟩ := f
  dsimp only at *
  cases sd
  · refine wS Z hL ?_ ?_
    · rw [R]; show (x * 2 + zc c) / 2 < _; rw [w9]; exact hx
    · rw [R]; show wpA T _ (k ((x * 2 + zc c) / 2)) W r F s Q; rw [w9]; exact w
  · refine vN Z hL ?_ ?_
    · rw [R]; exact hx
    · rw [R]; exact w
theorem QU {f : Fr} {x : Int} {k : Int → Act α} (Z : Hp W T p L fre p' L' W0 rv nd) (R : nd f.a = ndF f x) (hL : f.a ∈ L) (hx : rt f.o < 2147483648) (w : wpA T (SqT p' L') (k (rt f.o)) W r F s Q) : wpA T (SqT p' L') (jX f.a (1 - sdB f.s) k) W r F s Q := by
  obtain ⟨a, c, kk, v, sd, o⟩ := f
  dsimp only at *
  cases sd
  · refine vN Z hL ?_ ?_
    · rw [R]; exact hx
    · rw [R]; exact w
  · refine wS Z hL ?_ ?_
    · rw [R]; show (rt o * 2 + zc c) / 2 < _; rw [w9]; exact hx
    · rw [R]; show wpA T _ (k ((rt o * 2 + zc c) / 2)) W r F s Q; rw [w9]; exact w
theorem xK {f : Fr} {x : Int} {red : Bool} {k : Act α} (Z : Hp W T p L fre p' L' W0 rv nd) (R : nd f.a = ndF f x) (hL : f.a ∈ L) (hr : r + 1 ≤ 96)
    (w : ∀ W' r' nd', r' ≤ r + 1 → Hp W' T p L fre p' L' W0 rv nd' → nd' f.a = ndF { f with c := red } x → (∀ x, x ≠ f.a → nd' x = nd x) → wpA T (SqT p' L') k W' r' F s Q) : wpA T (SqT p' L') (jW f.a red k) W r F s Q := by
  obtain ⟨a, c, kk, v, sd, o⟩ := f
  dsimp only at *
  cases sd
  · refine Xu Z hL (x := x) (c := c) (by rw [R]; rfl) hr fun W' r' h1 Z' => w W' r' _ h1 Z' ?_ fun x hx => jc hx
    rw [z9, R]; rfl
  · refine Xu Z hL (x := rt o) (c := c) (by rw [R]; rfl) hr fun W' r' h1 Z' => w W' r' _ h1 Z' ?_ fun x hx => jc hx
    rw [z9, R]; rfl
def pnt (c : Bool) : Tr → Tr
  | .nil => .nil
  | .node a _ l k v r => .node a c l k v r
theorem wi {c : Bool} {t : Tr} : ads (pnt c t) = ads t := by cases t <;> rfl
theorem JJ {c : Bool} {t : Tr} : inr (pnt c t) = inr t := by cases t <;> rfl
theorem Xa {c : Bool} {t : Tr} : rt (pnt c t) = rt t := by cases t <;> rfl
theorem wD {t : Tr} {red : Bool} {k : Act α} (Z : Hp W T p L fre p' L' W0 rv nd) (R : Rep nd t) (hL : ∀ x ∈ ads t, x ∈ L) (N : (ads t).Nodup) (hn : t ≠ .nil) (hr : r + 1 ≤ 96)
    (w : ∀ W' r' nd', r' ≤ r + 1 → Hp W' T p L fre p' L' W0 rv nd' → Rep nd' (pnt red t) → (∀ x, x ≠ rt t → nd' x = nd x) → wpA T (SqT p' L') k W' r' F s Q) : wpA T (SqT p' L') (jW (rt t) red k) W r F s Q := by
  cases t with
  | nil => exact absurd rfl hn
  | node a c l kk v rr =>
    simp only [ads, List.nodup_cons, List.mem_append, not_or] at N
    exact wC Z R (hL a (List.mem_cons_self ..)) ⟨N.1.1, N.1.2⟩ hr w
theorem Gf {a b k v kb vb : Int} {sd c cb : Bool} {t inn far : Tr} {K : Int → Act α} (Z : Hp W T p L fre p' L' W0 rv nd) (R : Rep nd (fr ⟨a, c, k, v, sd, fr ⟨b, cb, kb, vb, sd, far⟩ inn⟩ t))
    (hL : ∀ x ∈ ads (fr ⟨a, c, k, v, sd, fr ⟨b, cb, kb, vb, sd, far⟩ inn⟩ t), x ∈ L) (N : (ads (fr ⟨a, c, k, v, sd, fr ⟨b, cb, kb, vb, sd, far⟩ inn⟩ t)).Nodup) (hr : r + 2 ≤ 96)
    (w : ∀ W' nd', Hp W' T p L fre p' L' W0 rv nd' → Rep nd' (fr ⟨b, cb, kb, vb, sd, far⟩ (fr ⟨a, c, k, v, sd, inn⟩ t)) → (∀ x, x ≠ a → x ≠ b → nd' x = nd x) → wpA T (SqT p' L') (K b) W' (r + 2) F s Q) :
    wpA T (SqT p' L') (xm a (sdB sd) K) W r F s Q := by
  cases sd
  · exact JB Z R hL N hr w
  · exact Jq Z R hL N hr w
end Go.Proofs.YtpohfcljfemhlaaGreat.arenaParts
namespace Go.Proofs.YtpohfcljfemhlaaGreat.arenaParts
open Go Go.Ae arenaPlays
set_option maxRecDepth 100000
variable {α : Type} {W W0 : List Int} {T : Nat} {p p' rv : Int} {L fre L' F : List Int} {nd : Int → Nd} {r : Nat} {s : Int} {Q : Option α → Int → List Int → List Int → Prop}
theorem perm_fr {f : Fr} {t : Tr} : (ads (fr f t)).Perm (f.a :: (ads f.o ++ ads t)) := by
  obtain ⟨a, c, k, v, s, o⟩ := f
  cases s
  · exact List.Perm.cons _ List.perm_append_comm
  · exact List.Perm.refl _
theorem ge {f g : Fr} {t u : Tr} (ha : f.a = g.a) (ho : (ads f.o).Perm (ads g.o)) (ht : (ads t).Perm (ads u)) : (ads (fr f t)).Perm (ads (fr g u)) := by
  refine perm_fr.trans (List.Perm.trans ?_ perm_fr.symm)
  rw [ha]
  exact List.Perm.cons _ (ho.append ht)
theorem perm_plug : ∀ {Z : List Fr} {t : Tr}, (ads (zH Z t)).Perm (ads t ++ jp Z) := by
  intro Z
  induction Z with
  | nil => intro t; rw [show jp [] = [] from rfl, List.append_nil]; exact List.Perm.refl _
  | cons f Z ih =>
    intro t
    refine (ih (t := fr f t)).trans ?_
    refine (List.Perm.append_right _ perm_fr).trans ?_
    refine List.perm_iff_count.2 fun x => ?_
    simp [jp, List.count_cons, List.count_append]
    omega
theorem k9 {Z : List Fr} {t : Tr} : Dj t Z ↔ (ads (zH Z t)).Nodup := (perm_plug.nodup_iff).symm
theorem qQE {f g : Fr} {t : Tr} (h : t ≠ .nil) : inr (Ym f g t) = inr (fr g (fr f t)) := by
  obtain ⟨fa, fc, fk, fv, fs, fo⟩ := f
  obtain ⟨ga, gc, gk, gv, gs, go⟩ := g
  cases t with
  | nil => exact absurd rfl h
  | node a c l k v r => cases fs <;> cases gs <;> simp [Ym, fr, inr]
theorem qQA {f g : Fr} {t : Tr} (h : t ≠ .nil) : (ads (Ym f g t)).Perm (ads (fr g (fr f t))) := by
  obtain ⟨fa, fc, fk, fv, fs, fo⟩ := f
  obtain ⟨ga, gc, gk, gv, gs, go⟩ := g
  refine List.perm_iff_count.2 fun x => ?_
  cases t with
  | nil => exact absurd rfl h
  | node a c l k v r =>
    cases fs <;> cases gs <;> simp [Ym, fr, ads, List.count_cons, List.count_append] <;> omega
theorem qZS {f g : Fr} {t : Tr} {n : Nat} (h : isR t = true) (ht : RB t n) (hf : RB f.o n) (hfc : f.c = true) (hfo : isR f.o = false) (hg : RB g.o n) (hgo : isR g.o = false) : RB (Ym f g t) (n + 1) ∧ isR (Ym f g t) = false := by
  obtain ⟨fa, fc, fk, fv, fs, fo⟩ := f
  obtain ⟨ga, gc, gk, gv, gs, go⟩ := g
  dsimp only at *
  subst hfc
  have hne : t ≠ .nil := fun e => by subst e; cases h
  cases t with
  | nil => exact absurd rfl hne
  | node a c l k v r =>
    have hc : c = true := h
    subst hc
    obtain ⟨m, hl, hr, h3, _⟩ := ht
    obtain ⟨e, h4, h5⟩ := h3 rfl
    subst e
    have hnode : ∀ {a k v : Int} {c : Bool} {x y : Tr} {j : Nat}, RB x j → RB y j → (c = true → isR x = false ∧ isR y = false) → RB (.node a c x k v y) (if c = true then j else j + 1) := by
      intro a k v c x y j h1 h2 h3
      refine ⟨j, h1, h2, fun hc => ?_, fun hc => ?_⟩
      · rw [if_pos hc]; exact ⟨rfl, h3 hc⟩
      · rw [if_neg (by rw [hc]; simp)]
    have hT : RB (.node a true l k v r) n := hnode (c := true) hl hr fun _ => ⟨h4, h5⟩
    cases fs <;> cases gs <;> simp only [Ym]
    · exact ⟨hnode (c := false) hT (hnode (c := true) hf hg fun _ => ⟨hfo, hgo⟩) (by simp), rfl⟩
    · exact ⟨hnode (c := false) (hnode (c := true) hg hl fun _ => ⟨hgo, h4⟩) (hnode (c := true) hr hf fun _ => ⟨h5, hfo⟩) (by simp), rfl⟩
    · exact ⟨hnode (c := false) (hnode (c := true) hf hl fun _ => ⟨hfo, h4⟩) (hnode (c := true) hr hg fun _ => ⟨h5, hgo⟩) (by simp), rfl⟩
    · exact ⟨hnode (c := false) (hnode (c := true) hg hf fun _ => ⟨hgo, hfo⟩) hT (by simp), rfl⟩
theorem z8 {Z : List Fr} {t u : Tr} (h : (ads t).Perm (ads u)) : (ads (zH Z t)).Perm (ads (zH Z u)) := (perm_plug.trans (List.Perm.append_right _ h)).trans perm_plug.symm
theorem vC {Z : List Fr} {t u : Tr} (h : inr t = inr u) : inr (zH Z t) = inr (zH Z u) := by rw [xn, xn, h]
theorem ZE {m : Nat} {way : List jf} {k : Act α} {root : Int} : zi root k (m + 1) way = if 2 ≤ way.length then .step (xx (zg way (way.length - 1)).1 fun r => if r = false then k else
        jX (zg way (way.length - 2)).1 (1 - (zg way (way.length - 2)).2) fun uncle => xx uncle fun ru =>
        if ru = false then xT root way (zg way (way.length - 1)) (zg way (way.length - 2)) k else
        jW (zg way (way.length - 1)).1 false (jW uncle false (jW (zg way (way.length - 2)).1 true (zi root k m (way.take (way.length - 2))))))
      else yH root fun a => jW a false k := rfl
theorem kt {k : Int → Act α} (Z : Hp W T p L fre p' L' W0 rv nd) (hv : rv < 2147483648) (w : wpA T (SqT p' L') (k rv) W r F s Q) : wpA T (SqT p' L') (yH p k) W r F s Q := by
  have hrr := Z.rr
  have hsz := Z.H.size
  refine Uk (by omega) (by omega) Z.sqr ?_ ?_
  · rw [Z.rv]; exact hv
  · rw [Z.rv]; exact w
structure Fin (T : Nat) (p : Int) (L fre : List Int) (p' : Int) (L' W0 W : List Int) (u : Tr) : Prop where
  ex : ∃ rv nd t n, Hp W T p L fre p' L' W0 rv nd ∧ rv = rt t ∧ Rep nd t ∧ RB t n ∧ inr t = inr u ∧ (ads t).Perm (ads u)
theorem OM {k : Act α} : ∀ {m : Nat} {Zs : List Fr} {t : Tr} {n : Nat} {W : List Int} {rv : Int} {nd : Int → Nd} {r : Nat} {s : Int}, Hp W T p L fre p' L' W0 rv nd → RepZ nd rv Zs (rt t) → Rep nd t → (∀ x ∈ ads t ++ jp Zs, x ∈ L) → Dj t Zs → isR t = true → RB t n → RBZ Zs n false →
    Zs.length ≤ m → s + Zs.length ≤ 2048 → r + 3 * Zs.length + 10 ≤ 96 →
    (∀ W' r' s', r' ≤ r + 3 * Zs.length + 10 → s' ≤ s + Zs.length → Fin T p L fre p' L' W0 W' (zH Zs t) → wpA T (SqT p' L') k W' r' F s' Q) → wpA T (SqT p' L') (zi p k m (jS Zs)) W r F s Q := by
  intro m
  induction m with
  | zero =>
    intro Zs t n W rv nd r s Z RZ R hL N hc hn hz hm hs hr w
    have : Zs = [] := by cases Zs with
      | nil => rfl
      | cons f Z => simp at hm
    subst this
    have hne : t ≠ .nil := fun e => by subst e; cases hc
    have hLt : ∀ x ∈ ads t, x ∈ L := fun x hx => hL x (List.mem_append.2 (.inl hx))
    have hb := gn Z hLt
    have RZ : rv = rt t := RZ
    unfold zi
    rw [if_neg (by rw [zE]; simp)]
    refine kt Z (by omega) ?_
    rw [RZ]
    refine wD Z R hLt ?_ hne (by omega) fun W1 r1 nd1 h1 Z1 R1 _ => w W1 r1 s (by omega) (by omega) ⟨⟨rv, nd1, pnt false t, n + 1, Z1, by rw [Xa]; exact RZ, R1, ?_, JJ, by rw [wi]; exact List.Perm.refl _⟩⟩
    · exact (List.nodup_append.1 N).1
    · cases t with
      | nil => exact absurd rfl hne
      | node a c l k v r =>
        have hc : c = true := hc
        subst hc
        obtain ⟨j, h1, h2, h3, _⟩ := hn
        have := (h3 rfl).1
        subst this
        exact ⟨n, h1, h2, by simp, fun _ => rfl⟩
  | succ m ih =>
    intro Zs t n W rv nd r s Z RZ R hL N hc hn hz hm hs hr w
    have hne : t ≠ .nil := fun e => by subst e; cases hc
    have hLt : ∀ x ∈ ads t, x ∈ L := fun x hx => hL x (List.mem_append.2 (.inl hx))
    have hb := gn Z hLt
    have Nt := (List.nodup_append.1 N).1
    rw [ZE]
    cases Zs with
    | nil =>
      have RZ : rv = rt t := RZ
      rw [if_neg (by rw [zE]; simp)]
      refine kt Z (by omega) ?_
      rw [RZ]
      refine wD Z R hLt Nt hne (by omega) fun W1 r1 nd1 h1 Z1 R1 _ => w W1 r1 s (by omega) (by omega) ⟨⟨rv, nd1, pnt false t, n + 1, Z1, by rw [Xa]; exact RZ, R1, ?_, JJ, by rw [wi]; exact List.Perm.refl _⟩⟩
      cases t with
      | nil => exact absurd rfl hne
      | node a c l k v r =>
        have hc : c = true := hc
        subst hc
        obtain ⟨j, h1, h2, h3, _⟩ := hn
        have := (h3 rfl).1
        subst this
        exact ⟨n, h1, h2, by simp, fun _ => rfl⟩
    | cons f Zs =>
      have hfa : f.a ∈ L := hL f.a (List.mem_append.2 (.inr (List.mem_cons_self ..)))
      have hfb := Z.b hfa
      have hsz := Z.H.size
      cases Zs with
      | nil =>
        obtain ⟨f1, f2, RZ⟩ := RZ
        have RZ : rv = f.a := RZ
        have Nf : f.a ∉ ads f.o ∧ f.a ∉ ads t := by
          simp only [Dj, jp, List.nodup_append, List.nodup_cons, List.mem_append, List.mem_cons, not_or, List.append_nil] at N
          grind
        rw [if_neg (by rw [zE]; simp)]
        refine kt Z (by omega) ?_
        rw [RZ]
        refine xK Z f1 hfa (by omega) fun W1 r1 nd1 h1 Z1 R1 o1 => w W1 r1 s (by omega) (by simp; omega) ⟨⟨rv, nd1, fr { f with c := false } t, n + 1, Z1, by rw [xi]; exact RZ, zS.2 ⟨R1, ?_, ?_⟩, ?_, ?_, ?_⟩⟩
        · exact f2.off fun x hx => o1 x fun e => Nf.1 (e ▸ hx)
        · exact R.off fun x hx => o1 x fun e => Nf.2 (e ▸ hx)
        · exact qKf (f := { f with c := false }) hz.1 hn (by simp)
        · show inr (fr { f with c := false } t) = inr (fr f t)
          rw [wR, wR]
        · show (ads (fr { f with c := false } t)).Perm (ads (fr f t))
          exact ge rfl (.refl _) (.refl _)
      | cons g Zs =>
        have hga : g.a ∈ L := hL g.a (by simp [jp])
        have hLo : ∀ x ∈ ads g.o, x ∈ L := fun x hx => hL x (by simp [jp, hx])
        have hbo := gn Z hLo
        have RZ0 := RZ
        obtain ⟨f1, f2, g1, g2, RZ⟩ := RZ
        have N0 := N
        simp only [Dj, jp, List.nodup_append, List.nodup_cons, List.mem_append, List.mem_cons, not_or] at N
        obtain ⟨hz1, hz2, hz3⟩ := hz
        have hz0 : RBZ (f :: g :: Zs) n false := ⟨hz1, hz2, hz3⟩
        have e1 : zg (jS (f :: g :: Zs)) ((jS (f :: g :: Zs)).length - 1) = (f.a, sdB f.s) := by
          have := Ma (f := f) (Z := g :: Zs) (rest := [])
          rw [List.append_nil] at this
          rw [zE]; exact this
        have e2 : zg (jS (f :: g :: Zs)) ((jS (f :: g :: Zs)).length - 2) = (g.a, sdB g.s) := by
          have := Ma (f := g) (Z := Zs) (rest := [(f.a, if f.s = true then (1 : Int) else 0)])
          rw [← gL] at this
          rw [zE]; exact this
        have e3 : (jS (f :: g :: Zs)).take ((jS (f :: g :: Zs)).length - 2) = jS Zs := by
          rw [MG, List.length_append, zE]
          exact List.take_left' (by simp [zE])
        rw [e1, e2, e3, if_pos (by rw [zE]; simp)]
        simp only [List.length_cons] at hm hs hr w
        refine ⟨by omega, ?_⟩
        refine Xg Z f1 hfa ?_
        cases hfc : f.c with
        | false =>
          rw [if_pos rfl]
          refine w W r (s + 1) (by omega) (by omega) ⟨⟨rv, nd, zH (f :: g :: Zs) t, ?_⟩⟩
          have hR := vk (Z := f :: g :: Zs) RZ0 R
          obtain ⟨j, hj⟩ := vL (Z := f :: g :: Zs) (t := t) hn (by rw [hc]; exact ⟨hz1, by rw [hfc]; simp, hz3⟩)
          exact ⟨j, Z, hR.1, hR.2, hj, rfl, List.Perm.refl _⟩
        | true =>
          rw [if_neg (by simp)]
          rw [if_pos hfc, hfc] at hz3
          obtain ⟨hz4, hz5, hz6⟩ := hz3
          have hgc : g.c = false := by
            cases hh : g.c with
            | false => rfl
            | true => exact absurd (hz5 hh).1 (by simp)
          rw [if_neg (by rw [hgc]; simp), hgc] at hz6
          have hfo := (hz2 hfc).2
          refine QU Z g1 hga (by omega) ?_
          refine vp Z g2 hLo ?_
          cases hgo : isR g.o with
          | false =>
            rw [if_pos rfl]
            refine UJ Z RZ0 R hL N0 hne (by omega) fun W1 r1 rv1 nd1 h1 Z1 RZ1 R1 => w W1 r1 (s + 1) (by omega) (by omega) ⟨⟨rv1, nd1, zH Zs (Ym f g t), ?_⟩⟩
            have hR := vk RZ1 R1
            have hst := qZS hc hn hz1 hfc hfo hz4 hgo
            obtain ⟨j, hj⟩ := vL (Z := Zs) hst.1 (by rw [hst.2]; exact hz6)
            exact ⟨j, Z1, hR.1, hR.2, hj, vC (qQE hne), z8 (qQA hne)⟩
          | true =>
            rw [if_neg (by simp)]
            have hone : g.o ≠ .nil := fun e => by rw [e] at hgo; cases hgo
            refine xK Z f1 hfa (by omega) fun W1 r1 nd1 h1 Z1 R1 o1 => ?_
            have g21 : Rep nd1 g.o := g2.off fun x hx => o1 x (by grind)
            refine wD Z1 g21 hLo (by grind) hone (by omega) fun W2 r2 nd2 h2 Z2 R2 o2 => ?_
            have hrt : rt g.o ∈ ads g.o := by
              cases hh : g.o with
              | nil => exact absurd hh hone
              | node a c l k v r => exact List.mem_cons_self ..
            have g12 : nd2 g.a = ndF g f.a := by rw [o2 g.a (by grind), o1 g.a (by grind)]; exact g1
            refine xK Z2 g12 hga (by omega) fun W3 r3 nd3 h3 Z3 R3 o3 => ?_
            have oo : ∀ x, x ≠ f.a → x ≠ rt g.o → x ≠ g.a → nd3 x = nd x := fun x h1 h2 h3 => by rw [o3 x h3, o2 x h2, o1 x h1]
            have hperm : (ads (fr { g with c := true, o := pnt false g.o } (fr { f with c := false } t))).Perm (ads (fr g (fr f t))) := by
              refine ge rfl ?_ (ge rfl (.refl _) (.refl _))
              dsimp only
              rw [wi]
            have hinr : inr (fr { g with c := true, o := pnt false g.o } (fr { f with c := false } t)) = inr (fr g (fr f t)) := by
              rw [wR, wR, wR, wR]
              dsimp only
              rw [JJ]
            have hmem : ∀ x, x ∈ ads (fr g (fr f t)) ++ jp Zs → x ∈ L := by
              intro x hx
              have : x ∈ ads (zH (f :: g :: Zs) t) := (perm_plug (Z := Zs) (t := fr g (fr f t))).mem_iff.2 hx
              exact hL x (perm_plug.mem_iff.1 this)
            have NP : Dj (fr { g with c := true, o := pnt false g.o } (fr { f with c := false } t)) Zs := by
              refine k9.2 ?_
              exact (z8 hperm).nodup_iff.2 (k9 (Z := f :: g :: Zs).1 N0)
            have hbr : RB (pnt false g.o) (n + 1) := by
              cases hh : g.o with
              | nil => exact absurd hh hone
              | node a c l k v r =>
                rw [hh] at hz4 hgo
                have hgo : c = true := hgo
                subst hgo
                obtain ⟨j, q1, q2, q3, _⟩ := hz4
                have := (q3 rfl).1
                subst this
                exact ⟨n, q1, q2, by simp, fun _ => rfl⟩
            refine ih (t := fr { g with c := true, o := pnt false g.o } (fr { f with c := false } t)) (n := n + 1) Z3 ?_ ?_ ?_ NP ?_ ?_ hz6 (by omega) (by omega) (by omega) ?_
            · rw [xi]
              exact RZ.off fun x hx => oo x (by grind) (by grind) (by grind)
            · refine zS.2 ⟨?_, ?_, zS.2 ⟨?_, ?_, ?_⟩⟩
              · dsimp only
                rw [R3, xi]
                unfold ndF
                dsimp only
                rw [Xa]
              · exact R2.off fun x hx => o3 x (by rw [wi] at hx; grind)
              · dsimp only
                rw [o3 f.a (by grind), o2 f.a (by grind)]
                exact R1
              · exact f2.off fun x hx => oo x (by grind) (by grind) (by grind)
              · exact R.off fun x hx => oo x (by grind) (by grind) (by grind)
            · intro x hx
              refine hmem x ?_
              rcases List.mem_append.1 hx with h | h
              · exact List.mem_append.2 (.inl (hperm.mem_iff.1 h))
              · exact List.mem_append.2 (.inr h)
            · rw [yK]
            · exact rbF.2 ⟨n + 1, hbr, rbF.2 ⟨n, hz1, hn, by simp, fun _ => rfl⟩, fun _ => ⟨rfl, by cases g.o <;> rfl, yK⟩, by simp⟩
            · intro W' r' s' q1 q2 q3
              refine w W' r' s' (by omega) (by omega) ?_
              obtain ⟨rv', nd', t', n', a1, a2, a3, a4, a5, a6⟩ := q3.ex
              exact ⟨⟨rv', nd', t', n', a1, a2, a3, a4, a5.trans (vC hinr), a6.trans (z8 hperm)⟩⟩
end Go.Proofs.YtpohfcljfemhlaaGreat.arenaParts
namespace Go.Proofs.YtpohfcljfemhlaaGreat.arenaParts
open Go Go.Ae arenaPlays
set_option maxRecDepth 100000
variable {α : Type} {W W0 W' : List Int} {T : Nat} {p p' rv : Int} {L fre L' F : List Int} {nd : Int → Nd} {r : Nat} {s : Int} {t t' : Tr}
def ndW (W : List Int) (a : Int) : Nd := ⟨qW W a.toNat, qW W (a + 1).toNat, qW W (a + 2).toNat, qW W (a + 3).toNat⟩
structure K9 (W : List Int) (p : Int) (t : Tr) : Prop where
  root : qW W p.toNat = rt t
  rep : Rep (ndW W) t
  rb : ∃ n, RB t n
  srt : Srt (inr t)
  key : ∀ q ∈ inr t, (0 ≤ q.1 ∧ q.1 < 12) ∧ 0 ≤ q.2 ∧ q.2 < 12
structure yJ (W : List Int) (T : Nat) (fr : List Int) (p : Int) (t : Tr) (p' : Int) (t' : Tr) : Prop where
  H : HY W T (ads t ++ ads t') fr
  A : K9 W p t
  B : K9 W p' t'
  rr : 6 ≤ p ∧ p ≤ 13 ∧ 6 ≤ p' ∧ p' ≤ 13 ∧ p ≠ p'
theorem qZ7 : ∀ {l : List qo} {a : Int}, Srt l → (∀ q ∈ l, a ≤ q.1 ∧ q.1 < 12) → a ≤ 12 → (l.length : Int) ≤ 12 - a := by
  intro l
  induction l with
  | nil => intro a _ _ h; simp; omega
  | cons q l ih =>
    intro a hs hk ha
    have h1 := List.pairwise_cons.1 hs
    have h2 := hk q (List.mem_cons_self ..)
    have := ih (a := q.1 + 1) h1.2 (fun x hx => ⟨by have := h1.1 x hx; omega, (hk x (List.mem_cons_of_mem _ hx)).2⟩) (by omega)
    rw [List.length_cons]
    omega
theorem k8 : ∀ {t : Tr}, (ads t).length = (inr t).length := by
  intro t
  induction t with
  | nil => rfl
  | node a c l k v r h1 h2 => simp [ads, inr, h1, h2]; omega
theorem K9.few (A : K9 W p t) : (ads t).length ≤ 12 := by
  rw [k8]
  have := qZ7 (a := 0) A.srt (fun q hq => (A.key q hq).1) (by omega)
  omega
theorem ZL : ∀ {Z : List Fr}, Z.length ≤ (jp Z).length := by
  intro Z
  induction Z with
  | nil => exact Nat.le_refl _
  | cons f Z ih => simp [jp]; omega
theorem UL {Z : List Fr} {t : Tr} : Z.length + (ads t).length ≤ (ads (zH Z t)).length := by
  rw [perm_plug.length_eq, List.length_append]
  have := ZL (Z := Z)
  omega
theorem XR : ∀ {Z : List Fr} {t : Tr} {m : Nat}, RB (zH Z t) m → ∃ n, RB t n ∧ RBZ Z n (isR t) := by
  intro Z
  induction Z with
  | nil => intro t m h; exact ⟨m, h, trivial⟩
  | cons f Z ih =>
    intro t m h
    obtain ⟨n, h1, h2⟩ := ih (t := fr f t) h
    rw [yK] at h2
    obtain ⟨j, h3, h4, h5, h6⟩ := rbF.1 h1
    refine ⟨j, h4, h3, fun hc => ⟨(h5 hc).2.2, (h5 hc).2.1⟩, ?_⟩
    cases hc : f.c with
    | true => rw [if_pos rfl]; rw [hc] at h2; rw [← (h5 hc).1]; exact h2
    | false => rw [if_neg (by simp)]; rw [hc] at h2; rw [← h6 hc]; exact h2
theorem yJ.hp (Z : yJ W T fre p t p' t') : Hp W T p (ads t) fre p' (ads t') W (rt t) (ndW W) :=
  ⟨Z.H, Z.A.root, fun _ _ => ⟨rfl, rfl, rfl, rfl⟩, ⟨rfl, fun _ _ _ _ _ => rfl⟩, Z.rr, rfl⟩
theorem HY.bump (H : HY W T L fre) : 14 ≤ qW W 5 ∧ qW W 5 ≤ T := by
  obtain ⟨sts, bs, ls, H⟩ := H
  exact ⟨H.P.low, H.P.bump⟩
theorem Hp.other (Z : Hp W T p L fre p' (ads t') W0 rv nd) (B : K9 W0 p' t') : K9 W p' t' := by
  refine ⟨Z.oth.1.trans B.root, B.rep.off fun x hx => ?_, B.rb, B.srt, B.key⟩
  have h := Z.oth.2 x hx
  have h0 := h 0 (by omega) (by omega)
  rw [Int.add_zero] at h0
  unfold ndW
  rw [h0, h 1 (by omega) (by omega), h 2 (by omega) (by omega), h 3 (by omega) (by omega)]
theorem Hp.repW (Z : Hp W T p L fre p' L' W0 rv nd) {u : Tr} (R : Rep nd u) (h : ∀ x ∈ ads u, x ∈ L) : Rep (ndW W) u := by
  refine R.off fun x hx => ?_
  have := Z.nds x (h x hx)
  unfold ndW
  rw [this.1, this.2.1, this.2.2.1, this.2.2.2]
theorem MJ {u : Tr} (Fi : Fin T p L fre p' (ads t') W0 W u) (hu : L.Perm (ads u)) (B : K9 W0 p' t') (srt : Srt (inr u)) (key : ∀ q ∈ inr u, (0 ≤ q.1 ∧ q.1 < 12) ∧ 0 ≤ q.2 ∧ q.2 < 12) :
    ∃ t2, yJ W T fre p t2 p' t' ∧ inr t2 = inr u ∧ qW W 5 = qW W0 5 := by
  obtain ⟨rv, nd, t2, n, Z, h1, h2, h3, h4, h5⟩ := Fi.ex
  have hp : L.Perm (ads t2) := hu.trans h5.symm
  refine ⟨t2, ⟨Z.H.perm (fun x => ?_) ?_, ⟨Z.rv.trans h1, Z.repW h2 fun x hx => hp.mem_iff.2 hx, ⟨n, h3⟩, by rw [h4]; exact srt, by rw [h4]; exact key⟩, Z.other B, Z.rr⟩, h4, Z.b5⟩
  · rw [List.mem_append, List.mem_append, hp.mem_iff]
  · exact (List.Perm.append_right _ hp).nodup_iff.1 Z.H.nd
def loP (k : Int) (l : List qo) : List qo := l.filter fun q => decide (q.1 < k)
def hiP (k : Int) (l : List qo) : List qo := l.filter fun q => decide (k < q.1)
def inP (k : Int) (l : List qo) : Bool := l.any fun q => decide (q.1 = k)
def kQ (k x : Int) (l : List qo) : List qo := loP k l ++ (k, x) :: hiP k l
def Jc (k : Int) (l : List qo) : List qo := loP k l ++ hiP k l
theorem XA {k : Int} {l : List qo} (h : ∀ q ∈ l, q.1 < k) : loP k l = l ∧ hiP k l = [] := by
  refine ⟨List.filter_eq_self.2 fun q hq => decide_eq_true (h q hq), List.filter_eq_nil_iff.2 fun q hq => ?_⟩
  have := h q hq
  simp; omega
theorem XD {k : Int} {l : List qo} (h : ∀ q ∈ l, k < q.1) : loP k l = [] ∧ hiP k l = l := by
  refine ⟨List.filter_eq_nil_iff.2 fun q hq => ?_, List.filter_eq_self.2 fun q hq => decide_eq_true (h q hq)⟩
  have := h q hq
  simp; omega
theorem wV {k : Int} {a b : List qo} : loP k (a ++ b) = loP k a ++ loP k b ∧ hiP k (a ++ b) = hiP k a ++ hiP k b := ⟨List.filter_append .., List.filter_append ..⟩
theorem MA {k : Int} {a b : List qo} (ha : ∀ q ∈ a, q.1 < k) (hb : ∀ q ∈ b, k < q.1) : loP k (a ++ b) = a ∧ hiP k (a ++ b) = b ∧ inP k (a ++ b) = false := by
  refine ⟨?_, ?_, ?_⟩
  · rw [wV.1, (XA ha).1, (XD hb).1, List.append_nil]
  · rw [wV.2, (XA ha).2, (XD hb).2, List.nil_append]
  · refine List.any_eq_false.2 fun q hq => ?_
    rcases List.mem_append.1 hq with h | h
    · have := ha q h; simp; omega
    · have := hb q h; simp; omega
theorem U9 {k x : Int} {a b : List qo} (ha : ∀ q ∈ a, q.1 < k) (hb : ∀ q ∈ b, k < q.1) : loP k (a ++ (k, x) :: b) = a ∧ hiP k (a ++ (k, x) :: b) = b ∧ inP k (a ++ (k, x) :: b) = true := by
  have e : (k, x) :: b = [(k, x)] ++ b := rfl
  have h0 : loP k [(k, x)] = [] ∧ hiP k [(k, x)] = [] := by simp [loP, hiP]
  refine ⟨?_, ?_, ?_⟩
  · rw [e, wV.1, wV.1, (XA ha).1, (XD hb).1, h0.1]; simp
  · rw [e, wV.2, wV.2, (XA ha).2, (XD hb).2, h0.2]; simp
  · exact List.any_eq_true.2 ⟨(k, x), by simp, by simp⟩
theorem Mx {k x : Int} {a b : List qo} (hs : Srt (a ++ b)) (ha : ∀ q ∈ a, q.1 < k) (hb : ∀ q ∈ b, k < q.1) : Srt (a ++ (k, x) :: b) := by
  have h := List.pairwise_append.1 hs
  refine List.pairwise_append.2 ⟨h.1, List.pairwise_cons.2 ⟨fun q hq => hb q hq, h.2.1⟩, fun q hq y hy => ?_⟩
  rcases List.mem_cons.1 hy with rfl | hy
  · exact ha q hq
  · have h1 := ha q hq; have h2 := hb y hy; omega
theorem Mg {a b : List qo} {q : qo} (hs : Srt (a ++ q :: b)) : Srt (a ++ b) := by
  have h := List.pairwise_append.1 hs
  have h2 := List.pairwise_cons.1 h.2.1
  exact List.pairwise_append.2 ⟨h.1, h2.2, fun x hx y hy => h.2.2 x hx y (List.mem_cons_of_mem _ hy)⟩
theorem Mc {a x : Int} {x' : Nd} {k : Act α} {Q : Option α → Int → List Int → List Int → Prop} (Z : Hp W T p L fre p' L' W0 rv nd) (ha : a ∈ L) (hx : 0 ≤ x ∧ x < 18446744073709551616)
    (hn : x' = ⟨x, (nd a).v, (nd a).w, (nd a).y⟩) (hr : r + 1 ≤ 96)
    (w : ∀ W', Hp W' T p L fre p' L' W0 rv (upd nd a x') → wpA T (SqT p' L') k W' (r + 1) F s Q) : wpA T (SqT p' L') (.take [(a, x)] k) W r F s Q := by
  have := wc (j := 0) (x := x) (x' := x') Z ha (by omega) hx (by rw [hn]; simp) hr w
  rwa [Int.add_zero] at this
theorem XS {key : Int} {K : Int → List jf → Act α} {Q : Option α → Int → List Int → List Int → Prop} (Z : yJ W T fre p t p' t')
    (w : ∀ (Zs : List Fr) (u : Tr) (s' : Int), zH Zs u = t → RepZ (ndW W) (rt t) Zs (rt u) → Rep (ndW W) u → (u = .nil ∨ ∃ a c l v rr, u = .node a c l key v rr) → (∀ q ∈ loZ Zs, q.1 < key) → (∀ q ∈ hiZ Zs, key < q.1) → s' ≤ 12 → Zs.length + (ads u).length ≤ 12 →
      wpA T (SqT p' (ads t')) (K (rt u) (jS Zs)) W r F s' Q) : wpA T (SqT p' (ads t')) (Qr p key K) W r F 0 Q := by
  have hf := Z.A.few
  have Hh := Z.hp
  unfold Qr
  have hb := gn Hh (t := t) fun x hx => hx
  refine kt Hh (by omega) ?_
  have e : ([] : List jf) = jS [] := rfl
  rw [e]
  refine qKM Hh (t := t) (Zs := []) (m := 2049) rfl Z.A.rep (fun x hx => hx) (by omega) (by omega) Z.A.srt (fun q hq => absurd hq (List.not_mem_nil)) (fun q hq => absurd hq (List.not_mem_nil)) ?_
  intro Zs u s' h1 h2 h3 h4 h5 h6 h7
  have h1 : zH Zs u = t := h1
  have := UL (Z := Zs) (t := u)
  rw [h1] at this
  exact w Zs u s' h1 h2 h3 h4 h5 h6 (by omega) (by omega)
theorem qK2 {key x : Int} {Q : Option Bool → Int → List Int → List Int → Prop} (Z : yJ W T [] p t p' t') (hk : 0 ≤ key ∧ key < 12) (hx : 0 ≤ x ∧ x < 12)
    (ok : ∀ W' t2, qW W 5 ≤ qW W' 5 → yJ W' T [] p t2 p' t' → inr t2 = kQ key x (inr t) → Q (some (!inP key (inr t))) 0 W' [])
    (full : (T : Int) < qW W 5 + 5 → Q none 4 W []) : wpA T (SqT p' (ads t')) (yy T p key x) W 0 [] 0 Q := by
  unfold yy
  refine XS Z fun Zs u s' hpl RZ R hu hlo hhi hs hz => ?_
  have Hh := Z.hp
  have hLu : ∀ y ∈ ads u ++ jp Zs, y ∈ ads t := fun y hy => by rw [← hpl]; exact perm_plug.mem_iff.2 hy
  have hin : inr t = loZ Zs ++ inr u ++ hiZ Zs := by rw [← hpl, xn]
  have hnd : (ads u ++ jp Zs).Nodup := by
    have h := (List.nodup_append.1 Z.H.nd).1
    rw [← hpl] at h
    exact perm_plug.nodup_iff.1 h
  have hrb : ∃ n, RB u n ∧ RBZ Zs n (isR u) := by
    obtain ⟨m, hm⟩ := Z.A.rb
    rw [← hpl] at hm
    exact XR hm
  rcases hu with rfl | ⟨a, c, l, v, rr, rfl⟩
  · rw [if_neg (by show ¬ (0 : Int) ≠ 0; omega)]
    have hbump := Z.H.bump
    have hL' : ∀ y ∈ ads t', y ∈ ads t ++ ads t' := fun y hy => List.mem_append.2 (.inr hy)
    have hrr := Z.rr
    have hSl : ∀ q : Int, 1 ≤ q → q ≤ 5 → SqT p' (ads t') q := fun q h1 h2 => ⟨by omega, fun y hy => by have := Z.H.mem (hL' y hy); omega⟩
    have hin2 : inr t = loZ Zs ++ hiZ Zs := by rw [hin]; simp [inr]
    obtain ⟨i1, i2, i3⟩ := MA hlo hhi
    rw [← hin2] at i1 i2 i3
    rw [i3] at ok
    refine qJd Z.H (hSl 2 (by omega) (by omega)) (hSl 5 (by omega) (by omega)) (fun q h1 h2 h3 => ⟨by omega, fun y hy => h3 y (hL' y hy)⟩) (by omega) (fun n W1 H1 f1 g5 => ?_) full
    have hnb := H1.mem (List.mem_cons_self ..)
    have hsz := H1.size
    have hnd1 := H1.nd
    rw [List.nodup_cons] at hnd1
    have hap : ∀ y ∈ ads t ++ ads t', y + 5 ≤ n ∨ n + 5 ≤ y := by
      intro y hy
      rcases H1.apart (List.mem_cons_of_mem _ hy) (List.mem_cons_self ..) with h | h
      · subst h; exact absurd hy hnd1.1
      · exact h
    have same : ∀ y ∈ ads t ++ ads t', ∀ j : Int, 0 ≤ j → j < 4 → qW W1 (y + j).toNat = qW W (y + j).toNat := by
      intro y hy j h1 h2
      have h3 := Z.H.mem hy
      have h4 := hap y hy
      exact f1 _ (by omega) (by omega) (by omega) (by omega) (by omega)
    have nsame : ∀ y ∈ ads t ++ ads t', ndW W1 y = ndW W y := by
      intro y hy
      have h0 := same y hy 0 (by omega) (by omega)
      rw [Int.add_zero] at h0
      unfold ndW
      rw [h0, same y hy 1 (by omega) (by omega), same y hy 2 (by omega) (by omega), same y hy 3 (by omega) (by omega)]
    have rsame : ∀ q : Int, 6 ≤ q → q ≤ 13 → qW W1 q.toNat = qW W q.toNat := fun q h1 h2 => f1 _ (by omega) (by omega) (by omega) (by omega) (by omega)
    have H0 : Hp W1 T p (n :: ads t) [] p' (ads t') W1 (rt t) (ndW W1) :=
      ⟨H1, by rw [rsame p (by omega) (by omega)]; exact Z.A.root, fun _ _ => ⟨rfl, rfl, rfl, rfl⟩, ⟨rfl, fun _ _ _ _ _ => rfl⟩, Z.rr, rfl⟩
    have B1 : K9 W1 p' t' := ⟨by rw [rsame p' (by omega) (by omega)]; exact Z.B.root, Z.B.rep.off fun y hy => nsame y (hL' y hy), Z.B.rb, Z.B.srt, Z.B.key⟩
    have hn : n ∈ n :: ads t := List.mem_cons_self ..
    have hnt : n ∉ ads t := fun h => hnd1.1 (List.mem_append.2 (.inl h))
    refine Mc H0 hn (by omega) rfl (by omega) fun W2 H2 => ?_
    refine wc (j := 1) (x' := ⟨key, x, (ndW W1 n).w, (ndW W1 n).y⟩) H2 hn (by omega) (by omega) (by rw [z9]; simp) (by omega) fun W3 H3 => ?_
    refine wc (j := 2) (x' := ⟨key, x, 1, (ndW W1 n).y⟩) H3 hn (by omega) (by omega) (by rw [z9]; simp) (by omega) fun W4 H4 => ?_
    refine wc (j := 3) (x' := ⟨key, x, 1, 0⟩) H4 hn (by omega) (by omega) (by rw [z9]; simp) (by omega) fun W5 H5 => ?_
    generalize hnd5 : upd (upd (upd (upd (ndW W1) n _) n _) n _) n _ = nd5 at H5
    have o5 : ∀ y, y ≠ n → nd5 y = ndW W1 y := fun y hy => by rw [← hnd5, jc hy, jc hy, jc hy, jc hy]
    have a5 : nd5 n = ⟨key, x, 1, 0⟩ := by rw [← hnd5, z9]
    have RZ5 : RepZ nd5 (rt t) Zs (rt .nil) := RZ.off fun y hy => by
      have hy2 := hLu y (List.mem_append.2 (.inr hy))
      rw [o5 y (fun e => hnt (e ▸ hy2)), nsame y (List.mem_append.2 (.inl hy2))]
    have hndz : (jp Zs).Nodup := (List.nodup_append.1 hnd).2.1
    have hnz : n ∉ jp Zs := fun h => hnt (hLu n (List.mem_append.2 (.inr h)))
    have e : xu p (jS Zs) (jS Zs).length n (zi p (.ret true) 2049 (jS Zs)) = xu p (jS Zs ++ []) Zs.length n (zi p (.ret true) 2049 (jS Zs)) := by rw [List.append_nil, zE]
    rw [e]
    refine Jy H5 RZ5 (fun y hy => List.mem_cons_of_mem _ (hLu y (List.mem_append.2 (.inr hy)))) hndz (by omega) (by omega) fun W6 rv6 nd6 H6 RZ6 o6 => ?_
    obtain ⟨m, hm1, hm2⟩ := hrb
    have hm1 : m = 0 := hm1
    subst hm1
    simp only [ads, List.length_nil] at hz
    refine OM (t := .node n true .nil key x .nil) (n := 0) H6 RZ6 ⟨?_, trivial, trivial⟩ ?_ ?_ rfl ⟨0, rfl, rfl, fun _ => ⟨rfl, rfl, rfl⟩, by simp⟩ hm2 (by omega) (by omega) (by omega) ?_
    · rw [o6 n hnz, a5]; rfl
    · intro y hy
      rcases List.mem_append.1 hy with h | h
      · rw [List.mem_singleton.1 h]; exact hn
      · exact List.mem_cons_of_mem _ (hLu y (List.mem_append.2 (.inr h)))
    · show (n :: jp Zs).Nodup
      exact List.nodup_cons.2 ⟨hnz, hndz⟩
    · intro W7 r7 s7 _ _ Fi
      have hu : inr (zH Zs (.node n true .nil key x .nil)) = kQ key x (inr t) := by
        rw [xn]
        unfold kQ
        rw [i1, i2]
        simp [inr]
      have hpm : (n :: ads t).Perm (ads (zH Zs (.node n true .nil key x .nil))) := by
        refine List.Perm.trans ?_ perm_plug.symm
        show (n :: ads t).Perm (n :: ([] ++ jp Zs))
        refine List.Perm.cons _ ?_
        rw [← hpl]
        exact perm_plug
      obtain ⟨t2, hT, hi, hb⟩ := MJ Fi hpm B1 (by
          rw [hu]; unfold kQ; rw [i1, i2]
          exact Mx (by rw [← hin2]; exact Z.A.srt) hlo hhi) (by
          intro q hq
          rw [hu] at hq; unfold kQ at hq; rw [i1, i2] at hq
          rcases List.mem_append.1 hq with h | h
          · exact Z.A.key q (by rw [hin2]; exact List.mem_append.2 (.inl h))
          · rcases List.mem_cons.1 h with rfl | h
            · exact ⟨hk, hx⟩
            · exact Z.A.key q (by rw [hin2]; exact List.mem_append.2 (.inr h)))
      exact ok W7 t2 (by omega) hT (hi.trans hu)
  · have ha : a ∈ ads t := hLu a (by simp [ads])
    have hab := Hh.b ha
    rw [if_pos (by show a ≠ 0; omega)]
    have hin2 : inr t = (loZ Zs ++ inr l) ++ (key, v) :: (inr rr ++ hiZ Zs) := by rw [hin]; simp [inr]
    have hsr := Z.A.srt
    rw [hin2] at hsr
    have hs2 := List.pairwise_append.1 hsr
    have hs3 := List.pairwise_cons.1 hs2.2.1
    have hlo2 : ∀ q ∈ loZ Zs ++ inr l, q.1 < key := fun q hq => hs2.2.2 q hq _ (List.mem_cons_self ..)
    have hhi2 : ∀ q ∈ inr rr ++ hiZ Zs, key < q.1 := fun q hq => hs3.1 q hq
    obtain ⟨i1, i2, i3⟩ := U9 (x := v) hlo2 hhi2
    rw [← hin2] at i1 i2 i3
    rw [i3] at ok
    obtain ⟨R1, R2, R3⟩ := R
    simp only [ads, List.nodup_append, List.nodup_cons, List.mem_append, List.mem_cons, not_or] at hnd
    refine wc (a := a) (j := 1) (x' := ⟨key, x, rt l * 2 + zc c, rt rr⟩) Hh ha (by omega) (by omega) (by show _ = (if (1 : Int) = 0 then x else (ndW W a).k) ∧ _ = (if (1 : Int) = 1 then x else (ndW W a).v) ∧ _ = (if (1 : Int) = 2 then x else (ndW W a).w) ∧ _ = (if (1 : Int) = 3 then x else (ndW W a).y); rw [R1]; simp) (by omega) fun W1 H1 => ?_
    obtain ⟨m, hm1, hm2⟩ := hrb
    have hu : inr (zH Zs (.node a c l key x rr)) = kQ key x (inr t) := by
      rw [xn]
      unfold kQ
      rw [i1, i2]
      simp [inr]
    have RZ1 : RepZ (upd (ndW W) a ⟨key, x, rt l * 2 + zc c, rt rr⟩) (rt t) Zs (rt (.node a c l key x rr)) := RZ.upd (by grind)
    have R1' : Rep (upd (ndW W) a ⟨key, x, rt l * 2 + zc c, rt rr⟩) (.node a c l key x rr) := ⟨z9, R2.upd (by grind), R3.upd (by grind)⟩
    have hRR := vk RZ1 R1'
    obtain ⟨j, hj⟩ := vL (Z := Zs) (t := .node a c l key x rr) (n := m) hm1 hm2
    have Fi : Fin T p (ads t) [] p' (ads t') W W1 (zH Zs (.node a c l key x rr)) := ⟨⟨_, _, _, j, H1, hRR.1, hRR.2, hj, rfl, List.Perm.refl _⟩⟩
    have hpm : (ads t).Perm (ads (zH Zs (.node a c l key x rr))) := by rw [← hpl]; exact z8 (.refl _)
    obtain ⟨t2, hT, hi, hb⟩ := MJ Fi hpm Z.B (by
        rw [hu]; unfold kQ; rw [i1, i2]
        have := Mg hsr
        exact Mx this hlo2 hhi2) (by
        intro q hq
        rw [hu] at hq; unfold kQ at hq; rw [i1, i2] at hq
        rcases List.mem_append.1 hq with h | h
        · exact Z.A.key q (by rw [hin2]; exact List.mem_append.2 (.inl h))
        · rcases List.mem_cons.1 h with rfl | h
          · exact ⟨hk, hx⟩
          · exact Z.A.key q (by rw [hin2]; exact List.mem_append.2 (.inr (List.mem_cons_of_mem _ h))))
    exact ok W1 t2 (by omega) hT (hi.trans hu)
end Go.Proofs.YtpohfcljfemhlaaGreat.arenaParts
namespace Go.Proofs.YtpohfcljfemhlaaGreat.arenaParts
open Go Go.Ae arenaPlays
set_option maxRecDepth 100000
variable {α : Type} {W W0 : List Int} {T : Nat} {p p' rv : Int} {L fre L' F : List Int} {nd : Int → Nd} {r : Nat} {s : Int} {Q : Option α → Int → List Int → List Int → Prop}
theorem Yq {f g : Fr} {t u : Tr} (hk : f.k = g.k) (hv : f.v = g.v) (hs : f.s = g.s) (ho : inr f.o = inr g.o) (ht : inr t = inr u) : inr (fr f t) = inr (fr g u) := by
  rw [wR, wR, hk, hv, hs, ho, ht]
theorem Mi {s : Bool} : 1 - sdB s = sdB (!s) := by cases s <;> rfl
theorem xE {f : Fr} {Z : List Fr} : jS (f :: Z) = jS Z ++ [(f.a, sdB f.s)] := gL
theorem V5 {t : Tr} (h : isR t = true) : t ≠ .nil := fun e => by subst e; cases h
theorem Zn {t : Tr} {n : Nat} (h : RB t n) (hr : isR t = true) : RB (pnt false t) (n + 1) := by
  cases t with
  | nil => cases hr
  | node a c l k v rr =>
    have hc : c = true := hr
    subst hc
    obtain ⟨j, q1, q2, q3, _⟩ := h
    have := (q3 rfl).1
    subst this
    exact ⟨n, q1, q2, by simp, fun _ => rfl⟩
theorem KY {t : Tr} (h : t ≠ .nil) : rt t ∈ ads t := by
  cases t with
  | nil => exact absurd rfl h
  | node a c l k v r => exact List.mem_cons_self ..
theorem qJt {f : Fr} {x c : Int} {o : Tr} {k : Act α} (Z : Hp W T p L fre p' L' W0 rv nd) (R : nd f.a = ndF f x) (hL : f.a ∈ L) (ho : rt o = c) (hc : 0 ≤ c ∧ c < 2147483648) (hr : r + 1 ≤ 96)
    (w : ∀ W' nd', Hp W' T p L fre p' L' W0 rv nd' → nd' f.a = ndF { f with o := o } x → (∀ x, x ≠ f.a → nd' x = nd x) → wpA T (SqT p' L') k W' (r + 1) F s Q) : wpA T (SqT p' L') (xC f.a (1 - sdB f.s) c k) W r F s Q := by
  obtain ⟨a, co, kk, v, sd, o0⟩ := f
  dsimp only at *
  subst ho
  cases sd
  · refine kH Z hL hc hr fun W' Z' => w W' _ Z' ?_ fun x hx => jc hx
    rw [z9, R]; rfl
  · refine kJ Z hL hc hr fun W' Z' => w W' _ Z' ?_ fun x hx => jc hx
    rw [z9, R]
    show (⟨kk, v, rt o * 2 + (rt o0 * 2 + zc co) % 2, x⟩ : Nd) = _
    rw [YT]; rfl
def w7 (f : Fr) (b kb vb : Int) (far inn t : Tr) : Tr := fr ⟨b, f.c, kb, vb, f.s, pnt false far⟩ (fr { f with c := false, o := inn } t)
theorem UM {Zs : List Fr} {fa fk fv b kb vb : Int} {fc cb sd : Bool} {far inn t : Tr} {k : Act α} (Z : Hp W T p L fre p' L' W0 rv nd) (RZ : RepZ nd rv (⟨fa, fc, fk, fv, sd, fr ⟨b, cb, kb, vb, sd, far⟩ inn⟩ :: Zs) (rt t)) (R : Rep nd t)
    (hL : ∀ x ∈ ads t ++ jp (⟨fa, fc, fk, fv, sd, fr ⟨b, cb, kb, vb, sd, far⟩ inn⟩ :: Zs), x ∈ L) (N : Dj t (⟨fa, fc, fk, fv, sd, fr ⟨b, cb, kb, vb, sd, far⟩ inn⟩ :: Zs)) (hfar : isR far = true) (hr : r + 6 ≤ 96)
    (w : ∀ W' r' rv' nd', r' ≤ r + 6 → Hp W' T p L fre p' L' W0 rv' nd' → RepZ nd' rv' Zs b → Rep nd' (w7 ⟨fa, fc, fk, fv, sd, fr ⟨b, cb, kb, vb, sd, far⟩ inn⟩ b kb vb far inn t) → wpA T (SqT p' L') k W' r' F s Q) :
    wpA T (SqT p' L') (YM p (jS (⟨fa, fc, fk, fv, sd, fr ⟨b, cb, kb, vb, sd, far⟩ inn⟩ :: Zs)) (fa, sdB sd) b k) W r F s Q := by
  obtain ⟨f1, f2, RZ⟩ := RZ
  have f2' := zS.1 f2
  obtain ⟨b1, b2, b3⟩ := f2'
  have hmem : ∀ x, x ∈ ads (fr ⟨b, cb, kb, vb, sd, far⟩ inn) ↔ x = b ∨ x ∈ ads far ∨ x ∈ ads inn := fun x => yu
  have N' := N
  unfold Dj at N'
  simp only [jp, List.nodup_append, List.nodup_cons, List.mem_append, List.mem_cons, not_or] at N' hL
  have hno := km.1 N'.2.1.2.1
  dsimp only at hno f1 b1 b2
  have hfa : fa ∈ L := hL fa (by simp)
  have hb : b ∈ L := hL b (by simp [hmem])
  have hbb := Z.b hb
  have hsz := Z.H.size
  have hfne := V5 hfar
  have hfm := KY hfne
  have hLf : ∀ x ∈ ads far, x ∈ L := fun x hx => hL x (by simp [hmem, hx])
  have hbf := gn Z hLf
  have dTF : (ads (fr ⟨fa, fc, fk, fv, sd, fr ⟨b, cb, kb, vb, sd, far⟩ inn⟩ t)).Nodup := by
    refine km.2 ⟨?_, ?_, N'.2.1.2.1, N'.1, ?_⟩ <;> dsimp only <;> grind
  unfold YM
  refine Gf Z (zS.2 ⟨f1, f2, R⟩) ?_ dTF (by omega) fun W1 nd1 Z1 R1 o1 => ?_
  · intro x hx
    rw [yu] at hx
    exact hL x (by dsimp only at hx; grind)
  obtain ⟨q1, q2, q3⟩ := zS.1 R1
  obtain ⟨q4, q5, q6⟩ := zS.1 q3
  dsimp only at q1 q2 q4 q5
  rw [xi] at q1
  simp only [hmem] at N' hL
  refine Xg (f := ⟨fa, fc, fk, fv, sd, inn⟩) Z1 q4 hfa ?_
  dsimp only
  refine xK (f := ⟨b, cb, kb, vb, sd, far⟩) Z1 q1 hb (by omega) fun W2 r2 nd2 h2 Z2 R2 o2 => ?_
  dsimp only at R2 o2
  have q4' : nd2 fa = ndF ⟨fa, fc, fk, fv, sd, inn⟩ (rt t) := by rw [o2 fa (by grind)]; exact q4
  refine xK (f := ⟨fa, fc, fk, fv, sd, inn⟩) Z2 q4' hfa (by omega) fun W3 r3 nd3 h3 Z3 R3 o3 => ?_
  dsimp only at R3 o3
  have R2' : nd3 b = ndF ⟨b, fc, kb, vb, sd, far⟩ fa := by rw [o3 b (by grind)]; exact R2
  refine QU (f := ⟨b, fc, kb, vb, sd, far⟩) Z3 R2' hb (by dsimp only; omega) ?_
  dsimp only
  have rfar : Rep nd3 far := q2.off fun x hx => by rw [o3 x (by grind), o2 x (by grind)]
  refine wD Z3 rfar hLf (by grind) hfne (by omega) fun W4 r4 nd4 h4 Z4 R4 o4 => ?_
  rw [xE]
  dsimp only
  have el : (jS Zs ++ [(fa, sdB sd)]).length - 1 = Zs.length := by simp [zE]
  rw [el]
  have oo : ∀ x, x ≠ fa → x ≠ b → x ≠ rt far → nd4 x = nd x := fun x h1 h2 h3 => by rw [o4 x h3, o3 x h1, o2 x h2, o1 x h1 h2]
  have o14 : ∀ x, x ≠ fa → x ≠ b → x ≠ rt far → nd4 x = nd1 x := fun x h1 h2 h3 => by rw [o4 x h3, o3 x h1, o2 x h2]
  refine Jy (x0 := fa) Z4 (RZ.off fun x hx => oo x (by grind) (by grind) (by grind)) (fun x hx => hL x (by simp [hx])) (by grind) (by omega) (by omega) fun W5 rv5 nd5 Z5 RZ5 o5 => ?_
  refine w W5 _ rv5 nd5 (by omega) Z5 RZ5 ?_
  unfold w7
  refine zS.2 ⟨?_, ?_, zS.2 ⟨?_, ?_, ?_⟩⟩
  · dsimp only
    rw [o5 b (by grind), o4 b (by grind), R2', xi]
    unfold ndF
    dsimp only
    rw [Xa]
  · dsimp only
    exact R4.off fun x hx => o5 x (by rw [wi] at hx; grind)
  · dsimp only
    rw [o5 fa (by grind), o4 fa (by grind)]
    exact R3
  · dsimp only
    exact q5.off fun x hx => by rw [o5 x (by grind), o14 x (by grind) (by grind) (by grind)]
  · exact q6.off fun x hx => by rw [o5 x (by grind), o14 x (by grind) (by grind) (by grind)]
theorem Y9 {f : Fr} {b kb vb : Int} {far inn t : Tr} {cb : Bool} (h : f.o = fr ⟨b, cb, kb, vb, f.s, far⟩ inn) : inr (w7 f b kb vb far inn t) = inr (fr f t) := by
  obtain ⟨a, c, k, v, sd, o⟩ := f
  dsimp only at h
  subst h
  unfold w7
  cases sd <;> simp [fr, inr, JJ]
theorem GT {f : Fr} {b kb vb : Int} {far inn t : Tr} {cb : Bool} (h : f.o = fr ⟨b, cb, kb, vb, f.s, far⟩ inn) : (ads (w7 f b kb vb far inn t)).Perm (ads (fr f t)) := by
  obtain ⟨a, c, k, v, sd, o⟩ := f
  dsimp only at h
  subst h
  refine List.perm_iff_count.2 fun x => ?_
  unfold w7
  cases sd <;> simp [fr, ads, wi, List.count_cons, List.count_append] <;> omega
theorem Kt {f : Fr} {b kb vb : Int} {far inn t : Tr} {n : Nat} (ht : RB t n) (hi : RB inn n) (hf : RB far n) (hr : isR far = true) : RB (w7 f b kb vb far inn t) (if f.c = true then n + 1 else n + 2) ∧ isR (w7 f b kb vb far inn t) = f.c := by
  refine ⟨?_, yK⟩
  have h1 : RB (fr { f with c := false, o := inn } t) (n + 1) := rbF.2 ⟨n, hi, ht, by simp, fun _ => rfl⟩
  have h2 := Zn hf hr
  refine rbF.2 ⟨n + 1, h2, h1, fun hc => ⟨?_, ?_, yK⟩, fun hc => ?_⟩
  · dsimp only at hc; rw [if_pos hc]
  · cases far <;> rfl
  · dsimp only at hc; rw [if_neg (by rw [hc]; simp)]
theorem ZH {Zs : List Fr} {fa fk fv b kb vb : Int} {fc cb sd : Bool} {far inn t : Tr} {n : Nat} {k : Act α} (Z : Hp W T p L fre p' L' W0 rv nd) (RZ : RepZ nd rv (⟨fa, fc, fk, fv, sd, fr ⟨b, cb, kb, vb, sd, far⟩ inn⟩ :: Zs) (rt t)) (R : Rep nd t)
    (hL : ∀ x ∈ ads t ++ jp (⟨fa, fc, fk, fv, sd, fr ⟨b, cb, kb, vb, sd, far⟩ inn⟩ :: Zs), x ∈ L) (N : Dj t (⟨fa, fc, fk, fv, sd, fr ⟨b, cb, kb, vb, sd, far⟩ inn⟩ :: Zs)) (hred : isR far = true ∨ isR inn = true)
    (ht : RB t n) (hi : RB inn n) (hf : RB far n) (hz : RBZ Zs (if fc = true then n + 1 else n + 2) fc) (hr : r + 11 ≤ 96)
    (w : ∀ W' r', r' ≤ r + 11 → Fin T p L fre p' L' W0 W' (zH (⟨fa, fc, fk, fv, sd, fr ⟨b, cb, kb, vb, sd, far⟩ inn⟩ :: Zs) t) → wpA T (SqT p' L') k W' r' F s Q) :
    wpA T (SqT p' L') (wg p (jS (⟨fa, fc, fk, fv, sd, fr ⟨b, cb, kb, vb, sd, far⟩ inn⟩ :: Zs)) (fa, sdB sd) b k) W r F s Q := by
  obtain ⟨f1, f2, RZ0⟩ := id RZ
  obtain ⟨b1, b2, b3⟩ := zS.1 f2
  dsimp only at b1 b2 f1
  have hmem : ∀ x, x ∈ ads (fr ⟨b, cb, kb, vb, sd, far⟩ inn) ↔ x = b ∨ x ∈ ads far ∨ x ∈ ads inn := fun x => yu
  have N' := N
  have hL' := hL
  unfold Dj at N'
  simp only [jp, List.nodup_append, List.nodup_cons, List.mem_append, List.mem_cons, not_or, hmem] at N' hL'
  have hno := km.1 N'.2.1.2.1
  dsimp only at hno
  have hfa : fa ∈ L := hL' fa (by simp)
  have hb : b ∈ L := hL' b (by simp)
  have hsz := Z.H.size
  have hLf : ∀ x ∈ ads far, x ∈ L := fun x hx => hL' x (by simp [hx])
  have hbf := gn Z hLf
  have hLi : ∀ x ∈ ads inn, x ∈ L := fun x hx => hL' x (by simp [hx])
  unfold wg
  dsimp only
  refine QU (f := ⟨b, cb, kb, vb, sd, far⟩) Z b1 hb (by dsimp only; omega) ?_
  dsimp only
  refine vp Z b2 hLf ?_
  cases hfr : isR far with
  | true =>
    rw [if_neg (by simp)]
    refine UM Z RZ R hL N hfr (by omega) fun W' r' rv' nd' h1 Z1 RZ1 R1 => w W' r' (by omega) ⟨⟨rv', nd', zH Zs (w7 ⟨fa, fc, fk, fv, sd, fr ⟨b, cb, kb, vb, sd, far⟩ inn⟩ b kb vb far inn t), ?_⟩⟩
    have hR := vk (by rw [show rt (w7 ⟨fa, fc, fk, fv, sd, fr ⟨b, cb, kb, vb, sd, far⟩ inn⟩ b kb vb far inn t) = b from xi]; exact RZ1) R1
    have hrb := Kt (f := ⟨fa, fc, fk, fv, sd, fr ⟨b, cb, kb, vb, sd, far⟩ inn⟩) (b := b) (kb := kb) (vb := vb) ht hi hf hfr
    obtain ⟨j, hj⟩ := vL (Z := Zs) hrb.1 (by rw [hrb.2]; exact hz)
    exact ⟨j, Z1, hR.1, hR.2, hj, vC (Y9 (cb := cb) rfl), z8 (GT (cb := cb) rfl)⟩
  | false =>
    have hir : isR inn = true := by
      rcases hred with h | h
      · rw [hfr] at h; cases h
      · exact h
    rw [if_pos rfl, Mi]
    obtain ⟨d, cd, kd, vd, X, Y, hin⟩ := qJA (!sd) (V5 hir)
    subst hin
    have hcd : cd = true := by rw [yK] at hir; exact hir
    subst hcd
    have hm2 : ∀ x, x ∈ ads (fr ⟨d, true, kd, vd, !sd, X⟩ Y) ↔ x = d ∨ x ∈ ads X ∨ x ∈ ads Y := fun x => yu
    obtain ⟨j, rX, rY, q3, _⟩ := rbF.1 hi
    obtain ⟨qn, qX, qY⟩ := q3 rfl
    dsimp only at rX qX
    subst qn
    simp only [hm2] at N' hL' hno
    have hno2 := km.1 hno.2.2.2.1
    dsimp only at hno2
    have hd : d ∈ L := hL' d (by simp)
    have hdb := Z.b hd
    have RB' : Rep nd (fr ⟨b, cb, kb, vb, !sd, fr ⟨d, true, kd, vd, !sd, X⟩ Y⟩ far) := by rw [← MK]; exact f2
    have hNB : (ads (fr ⟨b, cb, kb, vb, !sd, fr ⟨d, true, kd, vd, !sd, X⟩ Y⟩ far)).Nodup := by rw [← MK]; exact N'.2.1.2.1
    have hLB : ∀ x ∈ ads (fr ⟨b, cb, kb, vb, !sd, fr ⟨d, true, kd, vd, !sd, X⟩ Y⟩ far), x ∈ L := by
      intro x hx
      rw [yu] at hx
      dsimp only at hx
      rw [hm2] at hx
      exact hL' x (by grind)
    refine Gf Z RB' hLB hNB (by omega) fun W1 nd1 Z1 R1 o1 => ?_
    obtain ⟨q1, q2, q4⟩ := zS.1 R1
    obtain ⟨q5, q6, q7⟩ := zS.1 q4
    dsimp only at q1 q2 q5 q6
    rw [xi] at q1
    dsimp only at q1
    have f1' : nd1 fa = ndF ⟨fa, fc, fk, fv, sd, fr ⟨b, cb, kb, vb, sd, far⟩ (fr ⟨d, true, kd, vd, !sd, X⟩ Y)⟩ (rt t) := by rw [o1 fa (by grind) (by grind)]; exact f1
    rw [← Mi]
    refine qJt (f := ⟨fa, fc, fk, fv, sd, fr ⟨b, cb, kb, vb, sd, far⟩ (fr ⟨d, true, kd, vd, !sd, X⟩ Y)⟩) (o := fr ⟨d, false, kd, vd, sd, fr ⟨b, true, kb, vb, !sd, Y⟩ far⟩ X) (c := d) Z1 f1' hfa xi (by omega) (by omega) fun W2 nd2 Z2 R2 o2 => ?_
    dsimp only at R2 o2
    have q1' : nd2 d = ndF ⟨d, true, kd, vd, !sd, X⟩ b := by rw [o2 d (by grind)]; exact q1
    refine xK (f := ⟨d, true, kd, vd, !sd, X⟩) Z2 q1' hd (by omega) fun W3 r3 nd3 h3 Z3 R3 o3 => ?_
    dsimp only at R3 o3
    have q5' : nd3 b = ndF ⟨b, cb, kb, vb, !sd, Y⟩ (rt far) := by rw [o3 b (by grind), o2 b (by grind)]; exact q5
    refine xK (f := ⟨b, cb, kb, vb, !sd, Y⟩) Z3 q5' hb (by omega) fun W4 r4 nd4 h4 Z4 R4 o4 => ?_
    dsimp only at R4 o4
    have oo : ∀ x, x ≠ fa → x ≠ b → x ≠ d → nd4 x = nd x := fun x h1 h2 h3 => by rw [o4 x h2, o3 x h3, o2 x h1, o1 x h2 h3]
    have o14 : ∀ x, x ≠ fa → x ≠ b → x ≠ d → nd4 x = nd1 x := fun x h1 h2 h3 => by rw [o4 x h2, o3 x h3, o2 x h1]
    have hNew : Rep nd4 (fr ⟨b, true, kb, vb, !sd, Y⟩ far) := zS.2 ⟨R4, q6.off fun x hx => o14 x (by grind) (by grind) (by grind), q7.off fun x hx => o14 x (by grind) (by grind) (by grind)⟩
    have hm3 : ∀ x, x ∈ ads (fr ⟨b, true, kb, vb, !sd, Y⟩ far) ↔ x = b ∨ x ∈ ads Y ∨ x ∈ ads far := fun x => yu
    have hm4 : ∀ x, x ∈ ads (fr ⟨d, false, kd, vd, sd, fr ⟨b, true, kb, vb, !sd, Y⟩ far⟩ X) ↔ x = d ∨ x ∈ ads (fr ⟨b, true, kb, vb, !sd, Y⟩ far) ∨ x ∈ ads X := fun x => yu
    have hnewP : (ads (fr ⟨d, false, kd, vd, sd, fr ⟨b, true, kb, vb, !sd, Y⟩ far⟩ X)).Perm (ads (fr ⟨b, cb, kb, vb, sd, far⟩ (fr ⟨d, true, kd, vd, !sd, X⟩ Y))) := by
      refine List.perm_iff_count.2 fun x => ?_
      cases sd <;> simp [fr, ads, List.count_cons, List.count_append] <;> omega
    have hnewI : inr (fr ⟨d, false, kd, vd, sd, fr ⟨b, true, kb, vb, !sd, Y⟩ far⟩ X) = inr (fr ⟨b, cb, kb, vb, sd, far⟩ (fr ⟨d, true, kd, vd, !sd, X⟩ Y)) := by
      cases sd <;> simp [fr, inr]
    have hadsZ : (ads t ++ jp (⟨fa, fc, fk, fv, sd, fr ⟨d, false, kd, vd, sd, fr ⟨b, true, kb, vb, !sd, Y⟩ far⟩ X⟩ :: Zs)).Perm (ads t ++ jp (⟨fa, fc, fk, fv, sd, fr ⟨b, cb, kb, vb, sd, far⟩ (fr ⟨d, true, kd, vd, !sd, X⟩ Y)⟩ :: Zs)) :=
      List.Perm.append_left _ (List.Perm.cons _ (List.Perm.append_right _ hnewP))
    have hway : jS (⟨fa, fc, fk, fv, sd, fr ⟨b, cb, kb, vb, sd, far⟩ (fr ⟨d, true, kd, vd, !sd, X⟩ Y)⟩ :: Zs) = jS (⟨fa, fc, fk, fv, sd, fr ⟨d, false, kd, vd, sd, fr ⟨b, true, kb, vb, !sd, Y⟩ far⟩ X⟩ :: Zs) := by
      rw [xE, xE]
    rw [hway]
    refine UM (t := t) (cb := false) (far := fr ⟨b, true, kb, vb, !sd, Y⟩ far) (inn := X) Z4 ⟨?_, ?_, ?_⟩ ?_ ?_ ?_ yK (by omega) fun W5 r5 rv5 nd5 h5 Z5 RZ5 R5 => w W5 r5 (by omega) ⟨⟨rv5, nd5, zH Zs (w7 ⟨fa, fc, fk, fv, sd, fr ⟨d, false, kd, vd, sd, fr ⟨b, true, kb, vb, !sd, Y⟩ far⟩ X⟩ d kd vd (fr ⟨b, true, kb, vb, !sd, Y⟩ far) X t), ?_⟩⟩
    · dsimp only
      rw [o4 fa (by grind), o3 fa (by grind)]
      exact R2
    · dsimp only
      refine zS.2 ⟨?_, hNew, ?_⟩
      · dsimp only
        rw [o4 d (by grind), R3]
        unfold ndF
        dsimp only
        cases sd <;> simp [xi]
      · exact q2.off fun x hx => o14 x (by grind) (by grind) (by grind)
    · exact RZ0.off fun x hx => oo x (by grind) (by grind) (by grind)
    · exact R.off fun x hx => oo x (by grind) (by grind) (by grind)
    · intro x hx
      exact hL x (hadsZ.mem_iff.1 hx)
    · exact hadsZ.nodup_iff.2 N
    · have hR := vk (by rw [show rt (w7 ⟨fa, fc, fk, fv, sd, fr ⟨d, false, kd, vd, sd, fr ⟨b, true, kb, vb, !sd, Y⟩ far⟩ X⟩ d kd vd (fr ⟨b, true, kb, vb, !sd, Y⟩ far) X t) = d from xi]; exact RZ5) R5
      have hrb := Kt (f := ⟨fa, fc, fk, fv, sd, fr ⟨d, false, kd, vd, sd, fr ⟨b, true, kb, vb, !sd, Y⟩ far⟩ X⟩) (b := d) (kb := kd) (vb := vd) (far := fr ⟨b, true, kb, vb, !sd, Y⟩ far) ht rX (rbF.2 ⟨n, rY, hf, fun _ => ⟨rfl, qY, hfr⟩, by simp⟩) yK
      obtain ⟨j, hj⟩ := vL (Z := Zs) hrb.1 (by rw [hrb.2]; exact hz)
      refine ⟨j, Z5, hR.1, hR.2, hj, vC ?_, z8 ?_⟩
      · exact (Y9 (cb := false) rfl).trans (Yq rfl rfl rfl hnewI rfl)
      · exact (GT (cb := false) rfl).trans (ge rfl hnewP (.refl _))
end Go.Proofs.YtpohfcljfemhlaaGreat.arenaParts
namespace Go.Proofs.YtpohfcljfemhlaaGreat.arenaParts
open Go Go.Ae arenaPlays
set_option maxRecDepth 100000
variable {α : Type} {W W0 : List Int} {T : Nat} {p p' rv : Int} {L fre L' F : List Int} {nd : Int → Nd} {r : Nat} {s : Int} {Q : Option α → Int → List Int → List Int → Prop}
theorem Vs {b kb vb : Int} {cb sd : Bool} {far inn : Tr} {x : Int} {A B : Act α} (Z : Hp W T p L fre p' L' W0 rv nd) (R : Rep nd (fr ⟨b, cb, kb, vb, sd, far⟩ inn)) (hL : ∀ x ∈ ads (fr ⟨b, cb, kb, vb, sd, far⟩ inn), x ∈ L) (hx : x = b)
    (w1 : isR far = true ∨ isR inn = true → wpA T (SqT p' L') A W r F s Q) (w2 : isR far = false → isR inn = false → wpA T (SqT p' L') B W r F s Q) :
    wpA T (SqT p' L') (jX x 0 fun l => xx l fun rl => if rl = true then A else jX x 1 fun rr => xx rr fun r' => if r' = true then A else B) W r F s Q := by
  subst hx
  obtain ⟨b1, b2, b3⟩ := zS.1 R
  dsimp only at b1 b2
  have hmem : ∀ y, y ∈ ads (fr ⟨x, cb, kb, vb, sd, far⟩ inn) ↔ y = x ∨ y ∈ ads far ∨ y ∈ ads inn := fun y => yu
  simp only [hmem] at hL
  have hx : x ∈ L := hL x (by simp)
  have hLf : ∀ y ∈ ads far, y ∈ L := fun y hy => hL y (by simp [hy])
  have hLi : ∀ y ∈ ads inn, y ∈ L := fun y hy => hL y (by simp [hy])
  have hbf := gn Z hLf
  have hbi := gn Z hLi
  cases sd
  · -- the hole is low: inn first
    refine qKm (f := ⟨x, cb, kb, vb, false, far⟩) Z b1 hx (by omega) ?_
    refine vp Z b3 hLi ?_
    cases hi : isR inn with
    | true => rw [if_pos rfl]; exact w1 (.inr hi)
    | false =>
      rw [if_neg (by simp)]
      refine QU (f := ⟨x, cb, kb, vb, false, far⟩) Z b1 hx (by dsimp only; omega) ?_
      refine vp Z b2 hLf ?_
      cases hf : isR far with
      | true => rw [if_pos rfl]; exact w1 (.inl hf)
      | false => rw [if_neg (by simp)]; exact w2 hf hi
  · refine QU (f := ⟨x, cb, kb, vb, true, far⟩) Z b1 hx (by dsimp only; omega) ?_
    refine vp Z b2 hLf ?_
    cases hf : isR far with
    | true => rw [if_pos rfl]; exact w1 (.inl hf)
    | false =>
      rw [if_neg (by simp)]
      refine qKm (f := ⟨x, cb, kb, vb, true, far⟩) Z b1 hx (by omega) ?_
      refine vp Z b3 hLi ?_
      cases hi : isR inn with
      | true => rw [if_pos rfl]; exact w1 (.inr hi)
      | false => rw [if_neg (by simp)]; exact w2 hf hi
theorem GK {m : Nat} {way : List jf} {k : Act α} {root : Int} : zX root k (m + 1) way = if 0 < way.length then .step (
      jX (zg way (way.length - 1)).1 (1 - (zg way (way.length - 1)).2) fun other => xx other fun ro =>
      if ro = true then xm (zg way (way.length - 1)).1 (zg way (way.length - 1)).2 fun _ => jW other false (jW (zg way (way.length - 1)).1 true (xu root way (way.length - 1) other
        (zX root k m (way.set (way.length - 1) (other, (zg way (way.length - 1)).2) ++ [zg way (way.length - 1)]))))
      else jX other 0 fun l => xx l fun rl => if rl = true then wg root way (zg way (way.length - 1)) other k else
        jX other 1 fun r => xx r fun rr => if rr = true then wg root way (zg way (way.length - 1)) other k else
        jW other true (xx (zg way (way.length - 1)).1 fun ru => if ru = true then jW (zg way (way.length - 1)).1 false k else zX root k m (way.take (way.length - 1)))) else k := rfl
theorem GB {Zs : List Fr} {fa fk fv b kb vb : Int} {fc sd : Bool} {far inn t : Tr} {n : Nat} {k : Act α} {rec_ : Act α} {X : Int → Act α} (Z : Hp W T p L fre p' L' W0 rv nd) (RZ : RepZ nd rv (⟨fa, fc, fk, fv, sd, fr ⟨b, false, kb, vb, sd, far⟩ inn⟩ :: Zs) (rt t)) (R : Rep nd t)
    (hL : ∀ x ∈ ads t ++ jp (⟨fa, fc, fk, fv, sd, fr ⟨b, false, kb, vb, sd, far⟩ inn⟩ :: Zs), x ∈ L) (N : Dj t (⟨fa, fc, fk, fv, sd, fr ⟨b, false, kb, vb, sd, far⟩ inn⟩ :: Zs))
    (ht : RB t n) (htr : isR t = false) (hi : RB inn n) (hf : RB far n) (hz : RBZ Zs (if fc = true then n + 1 else n + 2) fc) (hr : r + 11 ≤ 96)
    (w : ∀ W' r', r' ≤ r + 11 → Fin T p L fre p' L' W0 W' (zH (⟨fa, fc, fk, fv, sd, fr ⟨b, false, kb, vb, sd, far⟩ inn⟩ :: Zs) t) → wpA T (SqT p' L') k W' r' F s Q)
    (wr : fc = false → ∀ W' r' nd', r' ≤ r + 1 → Hp W' T p L fre p' L' W0 rv nd' → RepZ nd' rv Zs fa → Rep nd' (fr ⟨fa, fc, fk, fv, sd, fr ⟨b, true, kb, vb, sd, far⟩ inn⟩ t) → RB (fr ⟨fa, fc, fk, fv, sd, fr ⟨b, true, kb, vb, sd, far⟩ inn⟩ t) (n + 1) → wpA T (SqT p' L') rec_ W' r' F s Q) :
    wpA T (SqT p' L') (jX fa (1 - sdB sd) fun other => xx other fun ro => if ro = true then X other else jX other 0 fun l => xx l fun rl => if rl = true then wg p (jS (⟨fa, fc, fk, fv, sd, fr ⟨b, false, kb, vb, sd, far⟩ inn⟩ :: Zs)) (fa, sdB sd) other k else
        jX other 1 fun r => xx r fun rr => if rr = true then wg p (jS (⟨fa, fc, fk, fv, sd, fr ⟨b, false, kb, vb, sd, far⟩ inn⟩ :: Zs)) (fa, sdB sd) other k else
        jW other true (xx fa fun ru => if ru = true then jW fa false k else rec_)) W r F s Q := by
  obtain ⟨f1, f2, RZ0⟩ := id RZ
  obtain ⟨b1, b2, b3⟩ := zS.1 f2
  dsimp only at b1 b2 f1 f2
  have hmem : ∀ x, x ∈ ads (fr ⟨b, false, kb, vb, sd, far⟩ inn) ↔ x = b ∨ x ∈ ads far ∨ x ∈ ads inn := fun x => yu
  have N' := N
  have hL' := hL
  unfold Dj at N'
  simp only [jp, List.nodup_append, List.nodup_cons, List.mem_append, List.mem_cons, not_or, hmem] at N' hL'
  have hno := km.1 N'.2.1.2.1
  dsimp only at hno
  have hfa : fa ∈ L := hL' fa (by simp)
  have hb : b ∈ L := hL' b (by simp)
  have hsz := Z.H.size
  have hbb := Z.b hb
  have hLo : ∀ x ∈ ads (fr ⟨b, false, kb, vb, sd, far⟩ inn), x ∈ L := fun x hx => hL' x (by rw [hmem] at hx; grind)
  refine QU (f := ⟨fa, fc, fk, fv, sd, fr ⟨b, false, kb, vb, sd, far⟩ inn⟩) Z f1 hfa (by dsimp only; rw [xi]; dsimp only; omega) ?_
  dsimp only
  refine vp Z f2 hLo ?_
  rw [yK]
  dsimp only
  rw [if_neg (by simp)]
  refine Vs Z f2 hLo xi (fun hred => ?_) fun hf0 hi0 => ?_
  · rw [xi]
    exact ZH Z RZ R hL N hred ht hi hf hz hr w
  · rw [xi]
    refine xK (f := ⟨b, false, kb, vb, sd, far⟩) Z b1 hb (by omega) fun W1 r1 nd1 h1 Z1 R1 o1 => ?_
    dsimp only at R1 o1
    have f1' : nd1 fa = ndF ⟨fa, fc, fk, fv, sd, fr ⟨b, true, kb, vb, sd, far⟩ inn⟩ (rt t) := by
      rw [o1 fa (by grind), f1]
      unfold ndF
      dsimp only
      rw [xi, xi]
    have ro : Rep nd1 (fr ⟨b, true, kb, vb, sd, far⟩ inn) := zS.2 ⟨R1, b2.off fun x hx => o1 x (by grind), b3.off fun x hx => o1 x (by grind)⟩
    have rt1 : Rep nd1 t := R.off fun x hx => o1 x (by grind)
    have rz1 : RepZ nd1 rv Zs fa := RZ0.off fun x hx => o1 x (by grind)
    have hrb : RB (fr ⟨b, true, kb, vb, sd, far⟩ inn) n := rbF.2 ⟨n, hf, hi, fun _ => ⟨rfl, hf0, hi0⟩, by simp⟩
    refine Xg (f := ⟨fa, fc, fk, fv, sd, fr ⟨b, true, kb, vb, sd, far⟩ inn⟩) Z1 f1' hfa ?_
    dsimp only
    cases fc with
    | false =>
      rw [if_neg (by simp)]
      exact wr rfl W1 r1 nd1 h1 Z1 rz1 (zS.2 ⟨f1', ro, rt1⟩) (rbF.2 ⟨n, hrb, ht, by simp, fun _ => rfl⟩)
    | true =>
      rw [if_pos rfl]
      refine xK (f := ⟨fa, true, fk, fv, sd, fr ⟨b, true, kb, vb, sd, far⟩ inn⟩) Z1 f1' hfa (by omega) fun W2 r2 nd2 h2 Z2 R2 o2 => w W2 r2 (by omega) ⟨⟨rv, nd2, zH Zs (fr ⟨fa, false, fk, fv, sd, fr ⟨b, true, kb, vb, sd, far⟩ inn⟩ t), ?_⟩⟩
      dsimp only at R2 o2
      have hm3 : ∀ x, x ∈ ads (fr ⟨b, true, kb, vb, sd, far⟩ inn) ↔ x = b ∨ x ∈ ads far ∨ x ∈ ads inn := fun x => yu
      have hR := vk (Z := Zs) (t := fr ⟨fa, false, fk, fv, sd, fr ⟨b, true, kb, vb, sd, far⟩ inn⟩ t) (by rw [xi]; exact rz1.off fun x hx => o2 x (by grind)) (zS.2 ⟨R2, ro.off fun x hx => o2 x (by rw [hm3] at hx; grind), rt1.off fun x hx => o2 x (by grind)⟩)
      rw [if_pos rfl] at hz
      obtain ⟨j, hj⟩ := vL (Z := Zs) (t := fr ⟨fa, false, fk, fv, sd, fr ⟨b, true, kb, vb, sd, far⟩ inn⟩ t) (n := n + 1) (rbF.2 ⟨n, hrb, ht, by simp, fun _ => rfl⟩) (by rw [yK]; exact hz.black)
      refine ⟨j, Z2, hR.1, hR.2, hj, vC ?_, z8 ?_⟩
      · exact Yq rfl rfl rfl (Yq rfl rfl rfl rfl rfl) rfl
      · exact ge rfl (ge rfl (.refl _) (.refl _)) (.refl _)
theorem qKe {t : Tr} {n : Nat} (h : RB t (n + 1)) : t ≠ .nil := fun e => by subst e; cases h
theorem VD {k : Act α} : ∀ {m : Nat} {Zs : List Fr} {t : Tr} {n : Nat} {W : List Int} {rv : Int} {nd : Int → Nd} {r : Nat} {s : Int}, Hp W T p L fre p' L' W0 rv nd → RepZ nd rv Zs (rt t) → Rep nd t → (∀ x ∈ ads t ++ jp Zs, x ∈ L) → Dj t Zs → RB t n → isR t = false → RBZ Zs (n + 1) false →
    Zs.length + 1 ≤ m → s + Zs.length + 2 ≤ 2048 → r + 2 * Zs.length + 20 ≤ 96 →
    (∀ W' r' s', r' ≤ r + 2 * Zs.length + 20 → s' ≤ s + Zs.length + 2 → Fin T p L fre p' L' W0 W' (zH Zs t) → wpA T (SqT p' L') k W' r' F s' Q) → wpA T (SqT p' L') (zX p k m (jS Zs)) W r F s Q := by
  intro m
  induction m with
  | zero => intro Zs t n W rv nd r s Z RZ R hL N hn hc hz hm; omega
  | succ m ih =>
    intro Zs t n W rv nd r s Z RZ R hL N hn hc hz hm hs hr w
    rw [GK]
    cases Zs with
    | nil =>
      rw [if_neg (by rw [zE]; simp)]
      exact w W r s (by omega) (by omega) ⟨⟨rv, nd, t, n, Z, RZ, R, hn, rfl, List.Perm.refl _⟩⟩
    | cons f Zs =>
      obtain ⟨fa, fc, fk, fv, sd, o⟩ := f
      simp only [List.length_cons] at hm hs hr w
      obtain ⟨hz1, hz2, hz3⟩ := hz
      dsimp only at hz1 hz2 hz3
      have e1 : ∀ {f : Fr} {Y : List Fr}, zg (jS (f :: Y)) ((jS (f :: Y)).length - 1) = (f.a, sdB f.s) := by
        intro f Y
        have := Ma (f := f) (Z := Y) (rest := [])
        rw [List.append_nil] at this
        rw [zE]; exact this
      have e2 : ∀ {f : Fr} {Y : List Fr}, (jS (f :: Y)).take ((jS (f :: Y)).length - 1) = jS Y := by
        intro f Y
        rw [xE, List.length_append, zE]
        exact List.take_left' (by simp [zE])
      rw [e1, e2, if_pos (by rw [zE]; simp)]
      dsimp only
      refine ⟨by omega, ?_⟩
      obtain ⟨b, cb, kb, vb, far, inn, ho⟩ := qJA sd (qKe hz1)
      subst ho
      obtain ⟨j, rf, ri, q3, q4⟩ := rbF.1 hz1
      dsimp only at rf q3 q4
      cases cb with
      | false =>
        have := q4 rfl
        have : j = n := by omega
        subst this
        refine GB Z RZ R hL N hn hc ri rf hz3 (by omega) (fun W' r' h1 Fi => w W' r' (s + 1) (by omega) (by omega) Fi) fun hfc W1 r1 nd1 h1 Z1 RZ1 R1 rb1 => ?_
        subst hfc
        rw [if_neg (by simp)] at hz3
        have hpm : (ads (fr ⟨fa, false, fk, fv, sd, fr ⟨b, true, kb, vb, sd, far⟩ inn⟩ t)).Perm (ads (fr ⟨fa, false, fk, fv, sd, fr ⟨b, false, kb, vb, sd, far⟩ inn⟩ t)) := ge rfl (ge rfl (.refl _) (.refl _)) (.refl _)
        have hin : inr (fr ⟨fa, false, fk, fv, sd, fr ⟨b, true, kb, vb, sd, far⟩ inn⟩ t) = inr (fr ⟨fa, false, fk, fv, sd, fr ⟨b, false, kb, vb, sd, far⟩ inn⟩ t) := Yq rfl rfl rfl (Yq rfl rfl rfl rfl rfl) rfl
        refine ih (t := fr ⟨fa, false, fk, fv, sd, fr ⟨b, true, kb, vb, sd, far⟩ inn⟩ t) (n := j + 1) Z1 (by rw [xi]; exact RZ1) R1 ?_ ?_ rb1 yK hz3 (by omega) (by omega) (by omega) fun W' r' s' h2 h3 Fi => w W' r' s' (by omega) (by omega) ?_
        · intro x hx
          have h5 : x ∈ ads (zH (⟨fa, false, fk, fv, sd, fr ⟨b, false, kb, vb, sd, far⟩ inn⟩ :: Zs) t) := (z8 (Z := Zs) hpm).mem_iff.1 (perm_plug.mem_iff.2 hx)
          exact hL x (perm_plug.mem_iff.1 h5)
        · exact k9.2 ((z8 hpm).nodup_iff.2 (k9 (Z := ⟨fa, false, fk, fv, sd, fr ⟨b, false, kb, vb, sd, far⟩ inn⟩ :: Zs).1 N))
        · obtain ⟨rv', nd', t', n', a1, a2, a3, a4, a5, a6⟩ := Fi.ex
          exact ⟨⟨rv', nd', t', n', a1, a2, a3, a4, a5.trans (vC hin), a6.trans (z8 hpm)⟩⟩
      | true =>
        obtain ⟨qj, qf, qi⟩ := q3 rfl
        have : j = n + 1 := by omega
        subst this
        have hfc : fc = false := by
          cases fc with
          | false => rfl
          | true => have := (hz2 rfl).2; rw [yK] at this; cases this
        subst hfc
        rw [if_neg (by simp)] at hz3
        obtain ⟨f1, f2, RZ0⟩ := id RZ
        dsimp only at f1 f2
        have hmem : ∀ x, x ∈ ads (fr ⟨b, true, kb, vb, sd, far⟩ inn) ↔ x = b ∨ x ∈ ads far ∨ x ∈ ads inn := fun x => yu
        have N' := N
        have hL' := hL
        unfold Dj at N'
        simp only [jp, List.nodup_append, List.nodup_cons, List.mem_append, List.mem_cons, not_or] at N' hL'
        have dTF : (ads (fr ⟨fa, false, fk, fv, sd, fr ⟨b, true, kb, vb, sd, far⟩ inn⟩ t)).Nodup := by
          refine km.2 ⟨?_, ?_, N'.2.1.2.1, N'.1, ?_⟩ <;> dsimp only <;> grind
        have hno := km.1 N'.2.1.2.1
        dsimp only at hno
        simp only [hmem] at N' hL'
        have hfa : fa ∈ L := hL' fa (by simp)
        have hb : b ∈ L := hL' b (by simp)
        have hsz := Z.H.size
        have hbb := Z.b hb
        have hLo : ∀ x ∈ ads (fr ⟨b, true, kb, vb, sd, far⟩ inn), x ∈ L := fun x hx => hL' x (by rw [hmem] at hx; grind)
        refine QU (f := ⟨fa, false, fk, fv, sd, fr ⟨b, true, kb, vb, sd, far⟩ inn⟩) Z f1 hfa (by dsimp only; rw [xi]; dsimp only; omega) ?_
        dsimp only
        refine vp Z f2 hLo ?_
        rw [yK]
        dsimp only
        rw [if_pos rfl]
        refine Gf Z (zS.2 ⟨f1, f2, R⟩) ?_ dTF (by omega) fun W1 nd1 Z1 R1 o1 => ?_
        · intro x hx
          rw [yu] at hx
          exact hL' x (by dsimp only at hx; rw [hmem] at hx; grind)
        rw [xi]
        obtain ⟨q1, q2, q5⟩ := zS.1 R1
        obtain ⟨q6, q7, q8⟩ := zS.1 q5
        dsimp only at q1 q2 q6 q7
        rw [xi] at q1
        refine xK (f := ⟨b, true, kb, vb, sd, far⟩) Z1 q1 hb (by omega) fun W2 r2 nd2 h2 Z2 R2 o2 => ?_
        dsimp only at R2 o2
        have q6' : nd2 fa = ndF ⟨fa, false, fk, fv, sd, inn⟩ (rt t) := by rw [o2 fa (by grind)]; exact q6
        refine xK (f := ⟨fa, false, fk, fv, sd, inn⟩) Z2 q6' hfa (by omega) fun W3 r3 nd3 h3 Z3 R3 o3 => ?_
        dsimp only at R3 o3
        have hway : (jS (⟨fa, false, fk, fv, sd, fr ⟨b, true, kb, vb, sd, far⟩ inn⟩ :: Zs)).set ((jS (⟨fa, false, fk, fv, sd, fr ⟨b, true, kb, vb, sd, far⟩ inn⟩ :: Zs)).length - 1) (b, sdB sd) ++ [(fa, sdB sd)] = jS (⟨fa, true, fk, fv, sd, inn⟩ :: ⟨b, false, kb, vb, sd, far⟩ :: Zs) := by
          rw [xE, xE, xE]
          dsimp only
          rw [List.length_append, show (jS Zs).length + [(fa, sdB sd)].length - 1 = (jS Zs).length by simp, List.set_append_right _ _ (Nat.le_refl _), Nat.sub_self]
          rfl
        rw [hway]
        have el : (jS (⟨fa, false, fk, fv, sd, fr ⟨b, true, kb, vb, sd, far⟩ inn⟩ :: Zs)).length - 1 = Zs.length := by rw [zE]; simp
        rw [el, xE]
        dsimp only
        have o03 : ∀ x, x ≠ fa → x ≠ b → nd3 x = nd x := fun x h1 h2 => by rw [o3 x h1, o2 x h2, o1 x h1 h2]
        have o13 : ∀ x, x ≠ fa → x ≠ b → nd3 x = nd1 x := fun x h1 h2 => by rw [o3 x h1, o2 x h2]
        refine Jy (x0 := fa) Z3 (RZ0.off fun x hx => o03 x (by grind) (by grind)) (fun x hx => hL' x (by simp [hx])) (by grind) (by omega) (by omega) fun W4 rv4 nd4 Z4 RZ4 o4 => ?_
        obtain ⟨m, rfl⟩ : ∃ m', m = m' + 1 := ⟨m - 1, by omega⟩
        obtain ⟨e, ce, ke, ve, fi, ii, hin⟩ := qJA sd (qKe ri)
        have hce : ce = false := by rw [hin, yK] at qi; exact qi
        subst hce
        have hinn : Rep nd4 inn := q7.off fun x hx => by rw [o4 x (by grind), o13 x (by grind) (by grind)]
        have hfar : Rep nd4 far := q2.off fun x hx => by rw [o4 x (by grind), o13 x (by grind) (by grind)]
        have ht4 : Rep nd4 t := q8.off fun x hx => by rw [o4 x (by grind), o13 x (by grind) (by grind)]
        have hfa4 : nd4 fa = ndF ⟨fa, true, fk, fv, sd, inn⟩ (rt t) := by rw [o4 fa (by grind)]; exact R3
        have hb4 : nd4 b = ndF ⟨b, false, kb, vb, sd, far⟩ fa := by rw [o4 b (by grind), o3 b (by grind)]; exact R2
        have hpm : (ads (fr ⟨b, false, kb, vb, sd, far⟩ (fr ⟨fa, true, fk, fv, sd, inn⟩ t))).Perm (ads (fr ⟨fa, false, fk, fv, sd, fr ⟨b, true, kb, vb, sd, far⟩ inn⟩ t)) := by
          refine List.perm_iff_count.2 fun x => ?_
          cases sd <;> simp [fr, ads, List.count_cons, List.count_append] <;> omega
        have hii : inr (fr ⟨b, false, kb, vb, sd, far⟩ (fr ⟨fa, true, fk, fv, sd, inn⟩ t)) = inr (fr ⟨fa, false, fk, fv, sd, fr ⟨b, true, kb, vb, sd, far⟩ inn⟩ t) := by
          cases sd <;> simp [fr, inr]
        have hdj : Dj t (⟨fa, true, fk, fv, sd, inn⟩ :: ⟨b, false, kb, vb, sd, far⟩ :: Zs) := k9.2 ((z8 (Z := Zs) hpm).nodup_iff.2 (k9 (Z := ⟨fa, false, fk, fv, sd, fr ⟨b, true, kb, vb, sd, far⟩ inn⟩ :: Zs).1 N))
        have hL2 : ∀ x ∈ ads t ++ jp (⟨fa, true, fk, fv, sd, inn⟩ :: ⟨b, false, kb, vb, sd, far⟩ :: Zs), x ∈ L := by
          intro x hx
          have h5 : x ∈ ads (zH (⟨fa, false, fk, fv, sd, fr ⟨b, true, kb, vb, sd, far⟩ inn⟩ :: Zs) t) := (z8 (Z := Zs) hpm).mem_iff.1 (perm_plug (Z := ⟨fa, true, fk, fv, sd, inn⟩ :: ⟨b, false, kb, vb, sd, far⟩ :: Zs).mem_iff.2 hx)
          exact hL x (perm_plug.mem_iff.1 h5)
        subst hin
        obtain ⟨j, rf2, ri2, _, q9⟩ := rbF.1 ri
        dsimp only at rf2 q9
        have : j = n := by have := q9 rfl; omega
        subst this
        rw [GK, e1, e2, if_pos (by rw [zE]; simp)]
        dsimp only
        refine ⟨by omega, ?_⟩
        refine GB Z4 ⟨hfa4, hinn, hb4, hfar, RZ4⟩ ht4 hL2 hdj hn hc ri2 rf2 ?_ (by omega) (fun W' r' h1 Fi => w W' r' (s + 1 + 1) (by omega) (by omega) ?_) fun h => by cases h
        · rw [if_pos rfl]
          exact ⟨rf, by simp, by rw [if_neg (by simp)]; exact hz3⟩
        · obtain ⟨rv', nd', t', n', a1, a2, a3, a4, a5, a6⟩ := Fi.ex
          exact ⟨⟨rv', nd', t', n', a1, a2, a3, a4, a5.trans (vC (Z := Zs) hii), a6.trans (z8 (Z := Zs) hpm)⟩⟩
end Go.Proofs.YtpohfcljfemhlaaGreat.arenaParts
namespace Go.Proofs.YtpohfcljfemhlaaGreat.arenaParts
open Go Go.Ae arenaPlays
set_option maxRecDepth 100000
variable {α : Type} {W W0 : List Int} {T : Nat} {p p' rv : Int} {L fre L' F : List Int} {nd : Int → Nd} {r : Nat} {s : Int} {Q : Option α → Int → List Int → List Int → Prop} {t t' : Tr}
theorem qQo : ∀ {Y Z : List Fr} {t : Tr}, zH (Y ++ Z) t = zH Z (zH Y t) := by
  intro Y
  induction Y with
  | nil => intro Z t; rfl
  | cons f Y ih => intro Z t; exact ih
theorem Zr {f g : Fr} {Z : List Fr} (ha : g.a = f.a) (ho : g.o = f.o) : ∀ {Y : List Fr}, jp (Y ++ g :: Z) = jp (Y ++ f :: Z) := by
  intro Y
  induction Y with
  | nil => show g.a :: (ads g.o ++ jp Z) = _; rw [ha, ho]; rfl
  | cons e Y ih => show e.a :: (ads e.o ++ jp (Y ++ g :: Z)) = _; rw [ih]; rfl
theorem qQu {f g : Fr} {Z : List Fr} (ha : g.a = f.a) (hs : g.s = f.s) : ∀ {Y : List Fr}, jS (Y ++ g :: Z) = jS (Y ++ f :: Z) := by
  intro Y
  unfold jS
  simp [ha, hs]
theorem RBZ.mid {f g : Fr} {Z : List Fr} (hc : g.c = f.c) (ho : g.o = f.o) : ∀ {Y : List Fr} {n : Nat} {c : Bool}, RBZ (Y ++ f :: Z) n c → RBZ (Y ++ g :: Z) n c := by
  intro Y
  induction Y with
  | nil => intro n c h; obtain ⟨h1, h2, h3⟩ := h; refine ⟨by rw [ho]; exact h1, by rw [hc, ho]; exact h2, by rw [hc]; exact h3⟩
  | cons e Y ih => intro n c h; obtain ⟨h1, h2, h3⟩ := h; exact ⟨h1, h2, ih h3⟩
theorem RepZ.mid {nd nd2 : Int → Nd} {rv : Int} {f g : Fr} {Z : List Fr} (ha : g.a = f.a) (ho : g.o = f.o) (hn : ∀ y, nd f.a = ndF f y → nd2 f.a = ndF g y) (oth : ∀ x, x ≠ f.a → nd2 x = nd x) :
    ∀ {Y : List Fr} {x : Int}, RepZ nd rv (Y ++ f :: Z) x → (jp (Y ++ f :: Z)).Nodup → RepZ nd2 rv (Y ++ g :: Z) x := by
  intro Y
  induction Y with
  | nil =>
    intro x h N
    obtain ⟨h1, h2, h3⟩ := h
    simp only [List.nil_append, jp, List.nodup_cons, List.mem_append, not_or] at N
    refine ⟨by rw [ha]; exact hn x h1, ?_, ?_⟩
    · rw [ho]; exact h2.off fun x hx => oth x fun e => N.1.1 (e ▸ hx)
    · rw [ha]; exact h3.off fun x hx => oth x fun e => N.1.2 (e ▸ hx)
  | cons e Y ih =>
    intro x h N
    obtain ⟨h1, h2, h3⟩ := h
    have hf : f.a ∈ jp (Y ++ f :: Z) := by
      clear ih h3 N h1 h2
      induction Y with
      | nil => exact List.mem_cons_self ..
      | cons d Y ih => exact List.mem_cons_of_mem _ (List.mem_append.2 (.inr ih))
    simp only [List.cons_append, jp, List.nodup_cons, List.mem_append, not_or, List.nodup_append] at N
    exact ⟨by rw [oth e.a (fun q => N.1.2 (q ▸ hf))]; exact h1, h2.off fun x hx => oth x fun q => by subst q; exact N.2.2.2 _ hx _ hf rfl, ih h3 N.2.2.1⟩
theorem qVD : ∀ {Y : List Fr}, (∀ f ∈ Y, f.s = false) → loZ Y = [] := by
  intro Y
  induction Y with
  | nil => intro _; rfl
  | cons f Y ih =>
    intro h
    unfold loZ
    rw [h f (List.mem_cons_self ..), if_neg (by simp)]
    exact ih fun g hg => h g (List.mem_cons_of_mem _ hg)
theorem Me {a : Int} {k : Int → Act α} (Z : Hp W T p L fre p' L' W0 rv nd) (ha : a ∈ L) (w : wpA T (SqT p' L') (k (nd a).k) W r F s Q) : wpA T (SqT p' L') (.read a k) W r F s Q := by
  have := kp (j := 0) (k := k) (Q := Q) (r := r) (F := F) (s := s) Z ha (by omega) (by rw [Int.add_zero, (Z.nds a ha).1]; exact w)
  rwa [Int.add_zero] at this
theorem qKL {k : Int → List jf → Act α} {m : Nat} {a : Int} {way : List jf} : kF k (m + 1) a way = .step (jX a 0 fun nx => if nx = 0 then k a way else kF k m nx (way ++ [(a, 0)])) := rfl
theorem qJ8 {fa : Fr} {Zs : List Fr} {k : Int → List jf → Act α} (Z : Hp W T p L fre p' L' W0 rv nd) : ∀ {u : Tr} {Y : List Fr} {m : Nat} {s : Int}, u ≠ .nil → RepZ nd rv (Y ++ fa :: Zs) (rt u) → Rep nd u → (∀ x ∈ ads u, x ∈ L) → (ads u).length ≤ m → s + (ads u).length ≤ 2048 → (∀ f ∈ Y, f.s = false) →
    (∀ (Y' : List Fr) (h : Int) (ch : Bool) (kh vh : Int) (hr : Tr) (s' : Int), (∀ f ∈ Y', f.s = false) → zH Y' (.node h ch .nil kh vh hr) = zH Y u → RepZ nd rv (Y' ++ fa :: Zs) h → Rep nd (.node h ch .nil kh vh hr) → s' ≤ s + (ads u).length → wpA T (SqT p' L') (k h (jS (Y' ++ fa :: Zs))) W r F s' Q) →
    wpA T (SqT p' L') (kF k m (rt u) (jS (Y ++ fa :: Zs))) W r F s Q := by
  intro u
  induction u with
  | nil => intro Y m s h; exact absurd rfl h
  | node a c l kk v rr ihl ihr =>
    intro Y m s _ RZ R hL hm hs hY w
    have hlen : (ads (.node a c l kk v rr)).length = (ads l).length + (ads rr).length + 1 := by simp [ads]
    rw [hlen] at hm hs w
    obtain ⟨m, rfl⟩ : ∃ m', m = m' + 1 := ⟨m - 1, by omega⟩
    have ha : a ∈ L := hL a (List.mem_cons_self ..)
    have hLl : ∀ x ∈ ads l, x ∈ L := fun x hx => hL x (List.mem_cons_of_mem _ (List.mem_append.2 (.inl hx)))
    have hb := gn Z hLl
    rw [qKL]
    refine ⟨by omega, ?_⟩
    show wpA T (SqT p' L') (jX a 0 fun nx => if nx = 0 then k a (jS (Y ++ fa :: Zs)) else kF k m nx (jS (Y ++ fa :: Zs) ++ [(a, 0)])) W r F (s + 1) Q
    refine wS Z ha (by rw [R.1]; show (rt l * 2 + zc c) / 2 < _; rw [w9]; omega) ?_
    rw [R.1]
    show wpA T (SqT p' L') (if (rt l * 2 + zc c) / 2 = 0 then k a (jS (Y ++ fa :: Zs)) else kF k m ((rt l * 2 + zc c) / 2) (jS (Y ++ fa :: Zs) ++ [(a, 0)])) W r F (s + 1) Q
    rw [w9]
    cases l with
    | nil =>
      rw [if_pos (show rt .nil = 0 from rfl)]
      exact w Y a c kk v rr (s + 1) hY rfl RZ R (by omega)
    | node a2 c2 l2 k2 v2 r2 =>
      have hz : a2 ∈ L := hLl a2 (List.mem_cons_self ..)
      have hab := Z.b hz
      rw [if_neg (by show ¬ a2 = 0; omega)]
      have e : jS (Y ++ fa :: Zs) ++ [(a, 0)] = jS ((⟨a, c, kk, v, false, rr⟩ :: Y) ++ fa :: Zs) := by
        rw [List.cons_append, xE]; rfl
      rw [e]
      refine ihl (Y := ⟨a, c, kk, v, false, rr⟩ :: Y) (by simp) ⟨R.1, R.2.2, RZ⟩ R.2.1 hLl (by omega) (by omega) ?_ fun Y' h ch kh vh hr s' h1 h2 h3 h4 h5 => w Y' h ch kh vh hr s' h1 (h2.trans rfl) h3 h4 (by omega)
      intro f hf
      rcases List.mem_cons.1 hf with rfl | hf
      · rfl
      · exact hY f hf
theorem MS {Zs : List Fr} {a kk v : Int} {c sd : Bool} {o : Tr} {n : Nat} {k : Act α} (Z : Hp W T p L fre p' L' W0 rv nd) (RZ : RepZ nd rv Zs a) (R : Rep nd (fr ⟨a, c, kk, v, sd, .nil⟩ o)) (hL : ∀ x ∈ ads (fr ⟨a, c, kk, v, sd, .nil⟩ o) ++ jp Zs, x ∈ L)
    (N : Dj (fr ⟨a, c, kk, v, sd, .nil⟩ o) Zs) (hn : RB (fr ⟨a, c, kk, v, sd, .nil⟩ o) n) (hz : RBZ Zs n c) (hm : Zs.length ≤ 12) (hs : s ≤ 1000) (hr : r + 2 * Zs.length + 22 ≤ 96)
    (w : ∀ W' r' s', r' ≤ r + 2 * Zs.length + 22 → Fin T p L fre p' L' W0 W' (zH Zs o) → wpA T (SqT p' L') (xg T a k) W' r' F s' Q) : wpA T (SqT p' L') (qQR T p a (jS Zs) (rt o) k) W r F s Q := by
  obtain ⟨b1, b2, b3⟩ := zS.1 R
  dsimp only at b1
  have hmem : ∀ x, x ∈ ads (fr ⟨a, c, kk, v, sd, .nil⟩ o) ↔ x = a ∨ x ∈ ads o := fun x => by rw [yu]; simp [ads]
  have N' := N
  have hL' := hL
  unfold Dj at N'
  simp only [List.nodup_append, List.mem_append, hmem] at N' hL'
  have hno := km.1 N'.1
  dsimp only at hno
  have ha : a ∈ L := hL' a (by simp)
  have hLo : ∀ x ∈ ads o, x ∈ L := fun x hx => hL' x (by simp [hx])
  have hbo := gn Z hLo
  have hLz : ∀ x ∈ jp Zs, x ∈ L := fun x hx => hL' x (by simp [hx])
  unfold qQR
  refine Xg (f := ⟨a, c, kk, v, sd, .nil⟩) Z b1 ha ?_
  dsimp only
  have e : xu p (jS Zs) (jS Zs).length (rt o) = xu (α := α) p (jS Zs ++ []) Zs.length (rt o) := by rw [List.append_nil, zE]
  rw [e]
  refine Jy Z RZ hLz N'.2.1 (by omega) (by omega) fun W1 rv1 nd1 Z1 RZ1 o1 => ?_
  have ro : Rep nd1 o := b3.off fun x hx => o1 x (by grind)
  have hdj : Dj o Zs := by
    unfold Dj
    refine List.nodup_append.2 ⟨hno.2.2.2.1, N'.2.1, ?_⟩
    grind
  have hL2 : ∀ x ∈ ads o ++ jp Zs, x ∈ L := fun x hx => hL' x (by rw [List.mem_append] at hx; grind)
  obtain ⟨j, q1, q2, q3, q4⟩ := rbF.1 hn
  have q1 : j = 0 := q1
  subst q1
  dsimp only at q3 q4
  cases c with
  | true =>
    rw [if_pos rfl]
    obtain ⟨h1, _, h2⟩ := q3 rfl
    subst h1
    have hR := vk RZ1 ro
    obtain ⟨m, hm⟩ := vL (Z := Zs) q2 (by rw [h2]; exact hz.black)
    exact w W1 _ s (by omega) ⟨⟨rv1, nd1, zH Zs o, m, Z1, hR.1, hR.2, hm, rfl, List.Perm.refl _⟩⟩
  | false =>
    rw [if_neg (by simp)]
    have hn1 := q4 rfl
    subst hn1
    refine vp Z1 ro hLo ?_
    cases hro : isR o with
    | true =>
      rw [if_pos rfl]
      have hne := V5 hro
      refine wD Z1 ro hLo hno.2.2.2.1 hne (by omega) fun W2 r2 nd2 h2 Z2 R2 o2 => w W2 r2 s (by omega) ⟨⟨rv1, nd2, zH Zs (pnt false o), ?_⟩⟩
      have hmo := KY hne
      have hR := vk (Z := Zs) (t := pnt false o) (by rw [Xa]; exact RZ1.off fun x hx => o2 x (by grind)) R2
      obtain ⟨m, hm⟩ := vL (Z := Zs) (Zn q2 hro) (by rw [show isR (pnt false o) = false by cases o <;> rfl]; exact hz)
      exact ⟨m, Z2, hR.1, hR.2, hm, vC JJ, z8 (by rw [wi])⟩
    | false =>
      rw [if_neg (by simp)]
      exact VD Z1 RZ1 ro hL2 hdj q2 hro hz (by omega) (by omega) (by omega) fun W2 r2 s2 h1 h2 Fi => w W2 r2 s2 (by omega) Fi
theorem Gl {Zs : List Fr} {a kk v : Int} {c : Bool} {l rr : Tr} {k : Act α} (Z : Hp W T p L fre p' L' W0 rv nd) (RZ : RepZ nd rv Zs a) (R : Rep nd (.node a c l kk v rr)) (hL : ∀ x ∈ ads (.node a c l kk v rr) ++ jp Zs, x ∈ L)
    (N : Dj (.node a c l kk v rr) Zs) (ho : l = .nil ∨ rr = .nil) (hn : ∃ m, RB (zH Zs (.node a c l kk v rr)) m) (hm : Zs.length ≤ 12) (hs : s ≤ 1000) (hr : r + 2 * Zs.length + 22 ≤ 96)
    (w : ∀ W' r' s' u, r' ≤ r + 2 * Zs.length + 22 → Fin T p L fre p' L' W0 W' u → inr u = loZ Zs ++ (inr l ++ inr rr) ++ hiZ Zs → (a :: ads u).Perm (ads (.node a c l kk v rr) ++ jp Zs) → wpA T (SqT p' L') (xg T a k) W' r' F s' Q) : wpA T (SqT p' L') (Kw T p a (jS Zs) k) W r F s Q := by
  obtain ⟨m, hm2⟩ := hn
  obtain ⟨n, hn, hz⟩ := XR hm2
  have ha : a ∈ L := hL a (by simp [ads])
  have hLl : ∀ x ∈ ads l, x ∈ L := fun x hx => hL x (by simp [ads, hx])
  have hLr : ∀ x ∈ ads rr, x ∈ L := fun x hx => hL x (by simp [ads, hx])
  have hbl := gn Z hLl
  have hbr := gn Z hLr
  unfold Kw
  refine wS Z ha (by rw [R.1]; show (rt l * 2 + zc c) / 2 < _; rw [w9]; omega) ?_
  rw [show (nd a).w / 2 = rt l by rw [R.1]; exact w9]
  cases l with
  | nil =>
    rw [if_pos (show rt .nil = 0 from rfl)]
    refine vN Z ha (by rw [R.1]; show rt rr < _; omega) ?_
    rw [show (nd a).y = rt rr by rw [R.1]]
    refine MS (sd := true) (c := c) (kk := kk) (v := v) (o := rr) Z RZ R hL N hn hz hm hs hr fun W' r' s' h1 Fi => w W' r' s' _ h1 Fi ?_ ?_
    · rw [xn]; simp [inr]
    · show (a :: ads (zH Zs rr)).Perm (a :: (([] ++ ads rr) ++ jp Zs))
      exact List.Perm.cons _ perm_plug
  | node a2 c2 l2 k2 v2 r2 =>
    have hrr : rr = .nil := by
      rcases ho with h | h
      · cases h
      · exact h
    subst hrr
    have ha2 := Z.b (hLl a2 (List.mem_cons_self ..))
    rw [if_neg (by show ¬ a2 = 0; omega)]
    refine MS (sd := false) (c := c) (kk := kk) (v := v) (o := .node a2 c2 l2 k2 v2 r2) Z RZ R hL N hn hz hm hs hr fun W' r' s' h1 Fi => w W' r' s' _ h1 Fi ?_ ?_
    · rw [xn]; simp [inr]
    · show (a :: ads (zH Zs (.node a2 c2 l2 k2 v2 r2))).Perm (a :: ((ads (.node a2 c2 l2 k2 v2 r2) ++ []) ++ jp Zs))
      refine List.Perm.cons _ ?_
      rw [List.append_nil]
      exact perm_plug
theorem qVc {Zs : List Fr} {a kk v : Int} {c : Bool} {l rr : Tr} {k : Act α} (Z : Hp W T p L fre p' L' W0 rv nd) (RZ : RepZ nd rv Zs a) (R : Rep nd (.node a c l kk v rr)) (hL : ∀ x ∈ ads (.node a c l kk v rr) ++ jp Zs, x ∈ L)
    (N : Dj (.node a c l kk v rr) Zs) (hn : ∃ m, RB (zH Zs (.node a c l kk v rr)) m) (hm : Zs.length + (ads (.node a c l kk v rr)).length ≤ 12) (hs : s ≤ 900) (hr : r ≤ 10)
    (w : ∀ W' r' s' a' u, r' ≤ 80 → a' ∈ L → Fin T p L fre p' L' W0 W' u → inr u = loZ Zs ++ (inr l ++ inr rr) ++ hiZ Zs → (a' :: ads u).Perm (ads (.node a c l kk v rr) ++ jp Zs) → wpA T (SqT p' L') (xg T a' k) W' r' F s' Q) : wpA T (SqT p' L') (QS T p a (jS Zs) k) W r F s Q := by
  have ha : a ∈ L := hL a (by simp [ads])
  have hLl : ∀ x ∈ ads l, x ∈ L := fun x hx => hL x (by simp [ads, hx])
  have hLr : ∀ x ∈ ads rr, x ∈ L := fun x hx => hL x (by simp [ads, hx])
  have hbl := gn Z hLl
  have hbr := gn Z hLr
  have hab := Z.b ha
  have hlen : (ads (.node a c l kk v rr)).length = (ads l).length + (ads rr).length + 1 := by simp [ads]
  unfold QS
  refine wS Z ha (by rw [R.1]; show (rt l * 2 + zc c) / 2 < _; rw [w9]; omega) ?_
  rw [show (nd a).w / 2 = rt l by rw [R.1]; exact w9]
  by_cases hl : l = .nil
  · rw [if_pos (by rw [hl]; rfl)]
    exact Gl Z RZ R hL N (.inl hl) hn (by omega) (by omega) (by omega) fun W' r' s' u h1 Fi h2 h3 => w W' r' s' a u (by omega) ha Fi h2 h3
  have hlm := KY hl
  have hlb := Z.b (hLl _ hlm)
  rw [if_neg (by omega)]
  refine vN Z ha (by rw [R.1]; show rt rr < _; omega) ?_
  rw [show (nd a).y = rt rr by rw [R.1]]
  by_cases hrn : rr = .nil
  · rw [if_pos (by rw [hrn]; rfl)]
    exact Gl Z RZ R hL N (.inr hrn) hn (by omega) (by omega) (by omega) fun W' r' s' u h1 Fi h2 h3 => w W' r' s' a u (by omega) ha Fi h2 h3
  have hrm := KY hrn
  have hrb := Z.b (hLr _ hrm)
  rw [if_neg (by omega)]
  unfold Xh
  refine vN Z ha (by rw [R.1]; show rt rr < _; omega) ?_
  rw [show (nd a).y = rt rr by rw [R.1]]
  have e : jS Zs ++ [(a, 1)] = jS ([] ++ ⟨a, c, kk, v, true, l⟩ :: Zs) := by
    rw [List.nil_append, xE]; rfl
  rw [e]
  refine qJ8 (Y := []) Z hrn ⟨R.1, R.2.1, RZ⟩ R.2.2 hLr (by omega) (by omega) (fun f hf => absurd hf List.not_mem_nil) fun Y h ch kh vh hr s' hY hpl RZ2 R2 hs' => ?_
  have hpl : zH Y (.node h ch .nil kh vh hr) = rr := hpl
  have hwhole : zH (Y ++ ⟨a, c, kk, v, true, l⟩ :: Zs) (.node h ch .nil kh vh hr) = zH Zs (.node a c l kk v rr) := by
    rw [qQo, hpl]; rfl
  have hperm : (ads (.node h ch .nil kh vh hr) ++ jp (Y ++ ⟨a, c, kk, v, true, l⟩ :: Zs)).Perm (ads (.node a c l kk v rr) ++ jp Zs) := by
    refine perm_plug.symm.trans ?_
    rw [hwhole]
    exact perm_plug
  have hplen := UL (Z := Y) (t := .node h ch .nil kh vh hr)
  rw [hpl] at hplen
  have hL2 : ∀ x ∈ ads (.node h ch .nil kh vh hr) ++ jp (Y ++ ⟨a, c, kk, v, true, l⟩ :: Zs), x ∈ L := fun x hx => hL x (hperm.mem_iff.1 hx)
  have N2 : (ads (.node h ch .nil kh vh hr) ++ jp (Y ++ ⟨a, c, kk, v, true, l⟩ :: Zs)).Nodup := hperm.nodup_iff.2 N
  have hh : h ∈ L := hL2 h (by simp [ads])
  have hhb := Z.b hh
  have haz : a ∈ jp (Y ++ ⟨a, c, kk, v, true, l⟩ :: Zs) := by
    have : ∀ {Y : List Fr}, a ∈ jp (Y ++ ⟨a, c, kk, v, true, l⟩ :: Zs) := by
      intro Y
      induction Y with
      | nil => exact List.mem_cons_self ..
      | cons d Y ih => exact List.mem_cons_of_mem _ (List.mem_append.2 (.inr ih))
    exact this
  have N3 := List.nodup_append.1 N2
  have hah : a ≠ h := fun q => N3.2.2 h (by simp [ads]) a haz q.symm
  have hhr : a ∉ ads hr := fun q => N3.2.2 a (by simp [ads, q]) a haz rfl
  have hkh : 0 ≤ kh ∧ kh < 18446744073709551616 := by
    have := Z.wds h.toNat
    rw [(Z.nds h hh).1, R2.1] at this
    exact this
  have hvh : 0 ≤ vh ∧ vh < 18446744073709551616 := by
    have := Z.wds (h + 1).toNat
    rw [(Z.nds h hh).2.1, R2.1] at this
    exact this
  refine Me Z hh ?_
  rw [show (nd h).k = kh by rw [R2.1]]
  refine Mc Z ha hkh rfl (by omega) fun W1 Z1 => ?_
  refine kp Z1 hh (j := 1) (by omega) ?_
  rw [(Z1.nds h hh).2.1, jc (Ne.symm hah), show (nd h).v = vh by rw [R2.1]]
  refine wc (j := 1) (x' := ⟨kh, vh, (nd a).w, (nd a).y⟩) Z1 ha (by omega) hvh (by rw [z9]; simp) (by omega) fun W2 Z2 => ?_
  generalize hnd2 : upd (upd nd a _) a _ = nd2 at Z2
  have o2 : ∀ y, y ≠ a → nd2 y = nd y := fun y hy => by rw [← hnd2, jc hy, jc hy]
  have a2 : nd2 a = ⟨kh, vh, (nd a).w, (nd a).y⟩ := by rw [← hnd2, z9]
  have hw : jS (Y ++ ⟨a, c, kk, v, true, l⟩ :: Zs) = jS (Y ++ ⟨a, c, kh, vh, true, l⟩ :: Zs) := qQu (f := ⟨a, c, kh, vh, true, l⟩) (g := ⟨a, c, kk, v, true, l⟩) rfl rfl
  rw [hw]
  have hZ : jp (Y ++ ⟨a, c, kh, vh, true, l⟩ :: Zs) = jp (Y ++ ⟨a, c, kk, v, true, l⟩ :: Zs) := Zr (f := ⟨a, c, kk, v, true, l⟩) (g := ⟨a, c, kh, vh, true, l⟩) rfl rfl
  have RZ3 : RepZ nd2 rv (Y ++ ⟨a, c, kh, vh, true, l⟩ :: Zs) h := by
    refine RZ2.mid (f := ⟨a, c, kk, v, true, l⟩) (g := ⟨a, c, kh, vh, true, l⟩) rfl rfl (fun y hy => ?_) o2 N3.2.1
    dsimp only at hy ⊢
    rw [a2, hy]
    rfl
  have R3 : Rep nd2 (.node h ch .nil kh vh hr) := R2.off fun x hx => o2 x fun q => by
    subst q
    simp only [ads, List.nil_append, List.mem_cons] at hx
    rcases hx with hx | hx
    · exact hah hx
    · exact hhr hx
  have hnn : ∃ m, RB (zH (Y ++ ⟨a, c, kh, vh, true, l⟩ :: Zs) (.node h ch .nil kh vh hr)) m := by
    obtain ⟨m, hm⟩ := hn
    rw [← hwhole] at hm
    obtain ⟨n, h1, h2⟩ := XR hm
    exact vL h1 (h2.mid (f := ⟨a, c, kk, v, true, l⟩) (g := ⟨a, c, kh, vh, true, l⟩) rfl rfl)
  have hzl : (Y ++ ⟨a, c, kh, vh, true, l⟩ :: Zs).length = Y.length + Zs.length + 1 := by simp; omega
  have hal : (ads (.node h ch .nil kh vh hr)).length = (ads hr).length + 1 := by simp [ads]
  refine Gl Z2 RZ3 R3 (by rw [hZ]; exact hL2) (by unfold Dj; rw [hZ]; exact N2) (.inl rfl) hnn (by omega) (by omega) (by omega) fun W' r' s' u h1 Fi h2 h3 => w W' r' s' h u (by omega) hh Fi ?_ (h3.trans (by rw [hZ]; exact hperm))
  rw [h2]
  have hloY := qVD hY
  have hrr : inr rr = (kh, vh) :: (inr hr ++ hiZ Y) := by
    rw [← hpl, xn, hloY]; simp [inr]
  have hloA : ∀ {Y : List Fr}, (∀ f ∈ Y, f.s = false) → loZ (Y ++ ⟨a, c, kh, vh, true, l⟩ :: Zs) = loZ Zs ++ (inr l ++ [(kh, vh)]) ∧ hiZ (Y ++ ⟨a, c, kh, vh, true, l⟩ :: Zs) = hiZ Y ++ hiZ Zs := by
    intro Y
    induction Y with
    | nil => intro _; exact ⟨by simp [loZ], by simp [hiZ]⟩
    | cons d Y ih =>
      intro hY
      have hd := hY d (List.mem_cons_self ..)
      obtain ⟨i1, i2⟩ := ih fun g hg => hY g (List.mem_cons_of_mem _ hg)
      exact ⟨by simp only [List.cons_append, loZ, hd]; exact i1, by simp only [List.cons_append, hiZ, hd, i2]; simp⟩
  rw [(hloA hY).1, (hloA hY).2, hrr]
  simp [inr]
theorem qVI {key : Int} {Q : Option Bool → Int → List Int → List Int → Prop} (Z : yJ W T [] p t p' t')
    (no : inP key (inr t) = false → Q (some false) 0 W [])
    (ok : ∀ W' t2 a, inP key (inr t) = true → qW W' 5 = qW W 5 → a ∉ ads t2 → a ∉ ads t' → yJ W' T [a] p t2 p' t' → inr t2 = Jc key (inr t) → Q (some true) 0 W' [a]) : wpA T (SqT p' (ads t')) (vE T p key) W 0 [] 0 Q := by
  unfold vE
  refine XS Z fun Zs u s' hpl RZ R hu hlo hhi hs hz => ?_
  have Hh := Z.hp
  have hLu : ∀ y ∈ ads u ++ jp Zs, y ∈ ads t := fun y hy => by rw [← hpl]; exact perm_plug.mem_iff.2 hy
  have hin : inr t = loZ Zs ++ inr u ++ hiZ Zs := by rw [← hpl, xn]
  have hpt : (ads t).Perm (ads u ++ jp Zs) := by rw [← hpl]; exact perm_plug
  have hnd : (ads u ++ jp Zs).Nodup := hpt.nodup_iff.1 (List.nodup_append.1 Z.H.nd).1
  rcases hu with rfl | ⟨a, c, l, v, rr, rfl⟩
  · rw [if_neg (by show ¬ (0 : Int) ≠ 0; omega)]
    have hin2 : inr t = loZ Zs ++ hiZ Zs := by rw [hin]; simp [inr]
    obtain ⟨i1, i2, i3⟩ := MA hlo hhi
    rw [← hin2] at i3
    exact no i3
  · have ha : a ∈ ads t := hLu a (by simp [ads])
    have hab := Hh.b ha
    rw [if_pos (by show a ≠ 0; omega)]
    have hin2 : inr t = (loZ Zs ++ inr l) ++ (key, v) :: (inr rr ++ hiZ Zs) := by rw [hin]; simp [inr]
    have hsr := Z.A.srt
    rw [hin2] at hsr
    have hs2 := List.pairwise_append.1 hsr
    have hs3 := List.pairwise_cons.1 hs2.2.1
    obtain ⟨i1, i2, i3⟩ := U9 (x := v) (fun q hq => hs2.2.2 q hq _ (List.mem_cons_self ..)) (fun q hq => hs3.1 q hq)
    rw [← hin2] at i1 i2 i3
    show wpA T (SqT p' (ads t')) (QS T p a (jS Zs) (.ret true)) W 0 [] s' Q
    refine qVc Hh RZ R hLu hnd (by rw [hpl]; exact Z.A.rb) hz (by omega) (by omega) fun W1 r1 s1 a1 u h1 ha1 Fi hu hp1 => ?_
    obtain ⟨rv, nd, t2, n, Z1, e1, e2, e3, e4, e5⟩ := Fi.ex
    have hap : (ads t).Perm (a1 :: ads t2) := (hpt.trans hp1.symm).trans (List.Perm.cons _ e5.symm)
    have hb1 := Z1.b ha1
    have hmem : ∀ {y : Int}, y ∈ ads t ++ ads t' → 15 ≤ y ∧ y + 4 ≤ T := fun h => Z1.H.mem h
    have hndd : (a1 :: ads t2 ++ ads t').Nodup := (List.Perm.append_right _ hap).nodup_iff.1 Z1.H.nd
    have hndc := List.nodup_cons.1 (show (a1 :: (ads t2 ++ ads t')).Nodup from hndd)
    refine qXr Z1.H (List.mem_append.2 (.inl ha1)) ?_ (by omega) fun W2 H2 f2 => ?_
    · have hrr := Z1.rr
      refine ⟨by omega, fun y hy => ?_⟩
      rcases Z1.ne ha1 hy with h | h <;> omega
    have hsame : ∀ y ∈ ads t2 ++ ads t', ∀ j : Int, 0 ≤ j → j < 4 → qW W2 (y + j).toNat = qW W1 (y + j).toNat := by
      intro y hy j h1 h2
      have hy' : y ∈ ads t ++ ads t' := by
        rcases List.mem_append.1 hy with h | h
        · exact List.mem_append.2 (.inl (hap.mem_iff.2 (List.mem_cons_of_mem _ h)))
        · exact List.mem_append.2 (.inr h)
      have hyb := hmem hy'
      have hne : y ≠ a1 := fun e => hndc.1 (e ▸ hy)
      have hsz := Z1.H.size
      rcases Z1.H.apart hy' (List.mem_append.2 (.inl ha1)) with h | h | h
      · exact absurd h hne
      · exact f2 _ (by omega) (by omega) (by omega)
      · exact f2 _ (by omega) (by omega) (by omega)
    have hnsame : ∀ y ∈ ads t2 ++ ads t', ndW W2 y = ndW W1 y := by
      intro y hy
      have h0 := hsame y hy 0 (by omega) (by omega)
      rw [Int.add_zero] at h0
      unfold ndW
      rw [h0, hsame y hy 1 (by omega) (by omega), hsame y hy 2 (by omega) (by omega), hsame y hy 3 (by omega) (by omega)]
    have hsz := Z1.H.size
    have hrr := Z1.rr
    have rsame : ∀ q : Int, 5 ≤ q → q ≤ 13 → qW W2 q.toNat = qW W1 q.toNat := fun q h1 h2 => f2 _ (by omega) (by omega) (by omega)
    have B1 := Z1.other Z.B
    have hr2 := Z1.repW e2 fun x hx => hap.mem_iff.2 (List.mem_cons_of_mem _ hx)
    have hu2 : inr u = Jc key (inr t) := by
      rw [hu]; unfold Jc; rw [i1, i2]; simp
    have hi2 : inr t2 = Jc key (inr t) := e4.trans hu2
    refine ok W2 t2 a1 i3 ?_ (fun h => hndc.1 (List.mem_append.2 (.inl h))) (fun h => hndc.1 (List.mem_append.2 (.inr h))) ⟨H2.perm (fun x => ?_) hndc.2, ⟨?_, ?_, ⟨n, e3⟩, ?_, ?_⟩, ⟨?_, ?_, B1.rb, B1.srt, B1.key⟩, hrr⟩ hi2
    · have := rsame 5 (by omega) (by omega)
      rw [show (5 : Int).toNat = 5 from rfl] at this
      rw [this]; exact Z1.b5
    · rw [((List.Perm.append_right (ads t') hap).erase a1).mem_iff]
      show x ∈ ads t2 ++ ads t' ↔ x ∈ (a1 :: (ads t2 ++ ads t')).erase a1
      rw [List.erase_cons_head]
    · rw [rsame p (by omega) (by omega)]; exact Z1.rv.trans e1
    · exact hr2.off fun x hx => hnsame x (List.mem_append.2 (.inl hx))
    · rw [hi2]; unfold Jc; rw [i1, i2]
      exact Mg hsr
    · intro q hq
      rw [hi2] at hq; unfold Jc at hq; rw [i1, i2] at hq
      rcases List.mem_append.1 hq with h | h
      · exact Z.A.key q (by rw [hin2]; exact List.mem_append.2 (.inl h))
      · exact Z.A.key q (by rw [hin2]; exact List.mem_append.2 (.inr (List.mem_cons_of_mem _ h)))
    · rw [rsame p' (by omega) (by omega)]; exact B1.root
    · exact B1.rep.off fun x hx => hnsame x (List.mem_append.2 (.inr hx))
end Go.Proofs.YtpohfcljfemhlaaGreat.arenaParts
namespace Go.Proofs.YtpohfcljfemhlaaGreat.arenaParts
open Go Go.Ae arenaPlays
set_option maxRecDepth 100000
variable {α : Type} {W W0 : List Int} {T : Nat} {p p' rv : Int} {L fre L' F : List Int} {nd : Int → Nd} {r : Nat} {s : Int} {t t' : Tr}
def Qu (k : Int) (l : List qo) : Int × Bool := match l.find? fun q => decide (q.1 = k) with
  | some q => (q.2, true)
  | none => (0, false)
def xU (lo hi : Int) (l : List qo) : List qo := l.filter fun q => decide (lo ≤ q.1 ∧ q.1 ≤ hi)
theorem Mk {k : Int} {l : List qo} (h : inP k l = false) : Qu k l = (0, false) := by
  unfold Qu
  have : l.find? (fun q => decide (q.1 = k)) = none := by
    rw [List.find?_eq_none]
    intro q hq
    have := List.any_eq_false.1 h q hq
    simpa using this
  rw [this]
theorem UQ {k x : Int} {a b : List qo} (ha : ∀ q ∈ a, q.1 < k) : Qu k (a ++ (k, x) :: b) = (x, true) := by
  unfold Qu
  have h0 : a.find? (fun q => decide (q.1 = k)) = none := by
    rw [List.find?_eq_none]
    intro q hq
    have := ha q hq
    simp; omega
  rw [List.find?_append, h0]
  simp
theorem qQh {key : Int} {Q : Option (Int × Bool) → Int → List Int → List Int → Prop} (Z : yJ W T fre p t p' t') (ok : Q (some (Qu key (inr t))) 0 W []) : wpA T (SqT p' (ads t')) (xd p key) W 0 [] 0 Q := by
  unfold xd
  refine XS Z fun Zs u s' hpl RZ R hu hlo hhi hs hz => ?_
  have Hh := Z.hp
  have hLu : ∀ y ∈ ads u ++ jp Zs, y ∈ ads t := fun y hy => by rw [← hpl]; exact perm_plug.mem_iff.2 hy
  have hin : inr t = loZ Zs ++ inr u ++ hiZ Zs := by rw [← hpl, xn]
  rcases hu with rfl | ⟨a, c, l, v, rr, rfl⟩
  · rw [if_neg (by show ¬ (0 : Int) ≠ 0; omega)]
    have hin2 : inr t = loZ Zs ++ hiZ Zs := by rw [hin]; simp [inr]
    obtain ⟨_, _, i3⟩ := MA hlo hhi
    rw [← hin2] at i3
    rw [Mk i3] at ok
    exact ok
  · have ha : a ∈ ads t := hLu a (by simp [ads])
    have hab := Hh.b ha
    rw [if_pos (by show a ≠ 0; omega)]
    have hin2 : inr t = (loZ Zs ++ inr l) ++ (key, v) :: (inr rr ++ hiZ Zs) := by rw [hin]; simp [inr]
    have hsr := Z.A.srt
    rw [hin2] at hsr
    have hs2 := List.pairwise_append.1 hsr
    have hg := UQ (x := v) (b := inr rr ++ hiZ Zs) (fun q hq => hs2.2.2 q hq (key, v) (List.mem_cons_self ..))
    rw [← hin2] at hg
    rw [hg] at ok
    refine kp (a := a) (j := 1) Hh ha (by omega) ?_
    rw [(Hh.nds a ha).2.1, show (ndW W a).v = v by rw [R.1]]
    exact ok
theorem M3 {lo hi a : Int} {m : Nat} {out : List qo} {k : List qo → Act α} : jP lo hi (m + 1) a out k = if a = 0 then k out else .step (.read a fun key =>
      let k2 : List qo → Act α := fun out => if key < hi then jX a 1 fun c => jP lo hi m c out k else k out
      let k1 : List qo → Act α := fun out => if lo ≤ key ∧ key ≤ hi then .read (a + 1) fun x => k2 (out ++ [(key, x)]) else k2 out
      if lo < key then jX a 0 fun c => jP lo hi m c out k1 else k1 out) := rfl
theorem YL {lo hi : Int} {l : List qo} (h : ∀ q ∈ l, q.1 < lo ∨ hi < q.1) : xU lo hi l = [] := by
  refine List.filter_eq_nil_iff.2 fun q hq => ?_
  have := h q hq
  simp; omega
theorem MQ {lo hi : Int} {Q : Option α → Int → List Int → List Int → Prop} (Z : Hp W T p L fre p' L' W0 rv nd) : ∀ {u : Tr} {m : Nat} {out : List qo} {s : Int} {k : List qo → Act α}, Rep nd u → (∀ x ∈ ads u, x ∈ L) → Srt (inr u) → (ads u).length ≤ m → s + (ads u).length ≤ 2048 →
    (∀ s', s' ≤ s + (ads u).length → wpA T (SqT p' L') (k (out ++ xU lo hi (inr u))) W r F s' Q) → wpA T (SqT p' L') (jP lo hi m (rt u) out k) W r F s Q := by
  intro u
  induction u with
  | nil =>
    intro m out s k R hL hs hm hst w
    have e : jP lo hi m (rt .nil) out k = k out := by
      cases m <;> (unfold jP; rw [if_pos (show rt .nil = 0 from rfl)])
    rw [e]
    have := w s (by simp [ads])
    simpa [inr, xU] using this
  | node a c l kk v rr ihl ihr =>
    intro m out s k R hL ho hm hst w
    have hlen : (ads (.node a c l kk v rr)).length = (ads l).length + (ads rr).length + 1 := by simp [ads]
    rw [hlen] at hm hst w
    obtain ⟨m, rfl⟩ : ∃ m', m = m' + 1 := ⟨m - 1, by omega⟩
    have ha : a ∈ L := hL a (List.mem_cons_self ..)
    have hab := Z.b ha
    have hLl : ∀ x ∈ ads l, x ∈ L := fun x hx => hL x (List.mem_cons_of_mem _ (List.mem_append.2 (.inl hx)))
    have hLr : ∀ x ∈ ads rr, x ∈ L := fun x hx => hL x (List.mem_cons_of_mem _ (List.mem_append.2 (.inr hx)))
    have hbl := gn Z hLl
    have hbr := gn Z hLr
    have ho2 : Srt (inr l) ∧ Srt (inr rr) ∧ (∀ q ∈ inr l, q.1 < kk) ∧ (∀ q ∈ inr rr, kk < q.1) := by
      have h := List.pairwise_append.1 (show (inr l ++ (kk, v) :: inr rr).Pairwise _ from ho)
      have h2 := List.pairwise_cons.1 h.2.1
      exact ⟨h.1, h2.2, fun q hq => h.2.2 q hq _ (List.mem_cons_self ..), fun q hq => h2.1 q hq⟩
    have hall : xU lo hi (inr (.node a c l kk v rr)) = xU lo hi (inr l) ++ (xU lo hi [(kk, v)] ++ xU lo hi (inr rr)) := by
      show List.filter _ (inr l ++ ([(kk, v)] ++ inr rr)) = _
      rw [List.filter_append, List.filter_append]; rfl
    rw [hall] at w
    show wpA T (SqT p' L') (jP lo hi (m + 1) a out k) W r F s Q
    rw [M3, if_neg (by omega)]
    refine ⟨by omega, ?_⟩
    refine Me Z ha ?_
    rw [show (nd a).k = kk by rw [R.1]]
    dsimp only
    have k2ok : ∀ {out2 : List qo} {s2 : Int}, s2 ≤ s + 1 + (ads l).length → out2 = out ++ (xU lo hi (inr l) ++ xU lo hi [(kk, v)]) → wpA T (SqT p' L') (if kk < hi then jX a 1 fun c => jP lo hi m c out2 k else k out2) W r F s2 Q := by
      intro out2 s2 hs2 he
      subst he
      by_cases h : kk < hi
      · rw [if_pos h]
        refine vN Z ha (by rw [R.1]; show rt rr < _; omega) ?_
        rw [show (nd a).y = rt rr by rw [R.1]]
        refine ihr R.2.2 hLr ho2.2.1 (by omega) (by omega) fun s' h' => ?_
        have := w s' (by omega)
        simpa [List.append_assoc] using this
      · rw [if_neg h]
        have h0 : xU lo hi (inr rr) = [] := YL fun q hq => by have := ho2.2.2.2 q hq; omega
        have := w s2 (by omega)
        rw [h0] at this
        simpa [List.append_assoc] using this
    have k1ok : ∀ {out2 : List qo} {s2 : Int}, s2 ≤ s + 1 + (ads l).length → out2 = out ++ xU lo hi (inr l) → wpA T (SqT p' L') (if lo ≤ kk ∧ kk ≤ hi then .read (a + 1) fun x => (if kk < hi then jX a 1 fun c => jP lo hi m c (out2 ++ [(kk, x)]) k else k (out2 ++ [(kk, x)])) else (if kk < hi then jX a 1 fun c => jP lo hi m c out2 k else k out2)) W r F s2 Q := by
      intro out2 s2 hs2 he
      by_cases h : lo ≤ kk ∧ kk ≤ hi
      · rw [if_pos h]
        refine kp (j := 1) Z ha (by omega) ?_
        rw [(Z.nds a ha).2.1, show (nd a).v = v by rw [R.1]]
        have e : xU lo hi [(kk, v)] = [(kk, v)] := by simp [xU, h]
        exact k2ok hs2 (by rw [e, he, List.append_assoc])
      · rw [if_neg h]
        have e : xU lo hi [(kk, v)] = [] := YL fun q hq => by rw [List.mem_singleton.1 hq]; show kk < lo ∨ hi < kk; omega
        exact k2ok hs2 (by rw [e, he, List.append_nil])
    by_cases h : lo < kk
    · rw [if_pos h]
      refine wS Z ha (by rw [R.1]; show (rt l * 2 + zc c) / 2 < _; rw [w9]; omega) ?_
      rw [show (nd a).w / 2 = rt l by rw [R.1]; exact w9]
      exact ihl R.2.1 hLl ho2.1 (by omega) (by omega) fun s' h' => k1ok (by omega) rfl
    · rw [if_neg h]
      have h0 : xU lo hi (inr l) = [] := YL fun q hq => by have := ho2.2.2.1 q hq; omega
      exact k1ok (by omega) (by rw [h0, List.append_nil])
theorem Xt {lo hi : Int} {Q : Option (List qo) → Int → List Int → List Int → Prop} (Z : yJ W T fre p t p' t') (ok : Q (some (xU lo hi (inr t))) 0 W []) : wpA T (SqT p' (ads t')) (jb p lo hi) W 0 [] 0 Q := by
  have hf := Z.A.few
  have Hh := Z.hp
  unfold jb
  have hb := gn Hh (t := t) fun x hx => hx
  refine kt Hh (by omega) ?_
  refine MQ Hh Z.A.rep (fun x hx => hx) Z.A.srt (by omega) (by omega) fun s' _ => ?_
  rw [List.nil_append]
  exact ok
theorem yJ.congr {W' : List Int} (Z : yJ W T fre p t p' t') (hl : W'.length = T) (hn : ∀ z ∈ W', 0 ≤ z ∧ z < 18446744073709551616) (hat : ∀ q : Nat, 0 < q → q < T → qW W' q = qW W q) : yJ W' T fre p t p' t' := by
  have hrr := Z.rr
  have hsz := Z.H.size
  have key : ∀ y ∈ ads t ++ ads t', ndW W' y = ndW W y := by
    intro y hy
    have hb := Z.H.mem hy
    unfold ndW
    rw [hat _ (by omega) (by omega), hat _ (by omega) (by omega), hat _ (by omega) (by omega), hat _ (by omega) (by omega)]
  refine ⟨Z.H.congr hl hn hat, ⟨?_, Z.A.rep.off fun y hy => key y (List.mem_append.2 (.inl hy)), Z.A.rb, Z.A.srt, Z.A.key⟩, ⟨?_, Z.B.rep.off fun y hy => key y (List.mem_append.2 (.inr hy)), Z.B.rb, Z.B.srt, Z.B.key⟩, Z.rr⟩
  · rw [hat _ (by omega) (by omega)]; exact Z.A.root
  · rw [hat _ (by omega) (by omega)]; exact Z.B.root
theorem OA {a : Int} (Z : yJ W T [a] p t p' t') : kT (zv W 96) a = (0, yG W 96 [(a, qW W 2), (2, a)] []) ∧ yJ (jz W [(a, qW W 2), (2, a)]) T [] p t p' t' ∧ qW W 5 ≤ qW (jz W [(a, qW W 2), (2, a)]) 5 := by
  obtain ⟨⟨sts, bs, ls, H⟩, A, B, rr⟩ := Z
  have P := H.P
  have hlo := P.lo
  have ha := H.fre a (List.mem_cons_self ..)
  have hma := P.mem ha.1
  have hg := qJL P ha.1 ha.2
  have htwo : ((2 : Int).toNat) = 2 := rfl
  rw [htwo] at hg
  have P' := P.given ha.1 ha.2
  rw [htwo] at P'
  have hstat : ∀ j, qW (sts.set a.toNat 3) j = if a.toNat = j then 3 else qW sts j := fun j => gp sts _ j 3 (by have := P.slen; have := P.hi; omega)
  have hat : ∀ q : Nat, 0 < q → q < T → qW (jz W [(a, qW W 2), (2, a)]) q = if (2 : Int) = (q : Int) then a else if a = (q : Int) then qW W 2 else qW W q := fun q h1 h2 => xf P.len P.lo P.hi h1 h2
  have hma2 : 15 ≤ a := hma.1
  have hne : ∀ {y : Int}, y ∈ ads t ++ ads t' → y ≠ a ∧ (y + 5 ≤ a ∨ a + 5 ≤ y) ∧ 15 ≤ y ∧ y + 4 ≤ T := by
    intro y hy
    have h1 := H.own y hy
    have h2 := HY.mem ⟨sts, bs, ls, H⟩ hy
    have h3 : y ≠ a := by
      rintro rfl
      have := ha.2
      omega
    exact ⟨h3, (Jr P h1.1 ha.1).resolve_left h3, h2⟩
  have key : ∀ y ∈ ads t ++ ads t', ndW (jz W [(a, qW W 2), (2, a)]) y = ndW W y := by
    intro y hy
    have h1 := hne hy
    unfold ndW
    rw [hat _ (by omega) (by omega), hat _ (by omega) (by omega), hat _ (by omega) (by omega), hat _ (by omega) (by omega)]
    rw [if_neg (by omega), if_neg (by omega), if_neg (by omega), if_neg (by omega), if_neg (by omega), if_neg (by omega), if_neg (by omega), if_neg (by omega)]
  refine ⟨hg, ⟨⟨_, _, _, P', ?_, ?_, ?_, ?_, H.nodup, List.nodup_nil, H.one⟩, ⟨?_, A.rep.off fun y hy => key y (List.mem_append.2 (.inl hy)), A.rb, A.srt, A.key⟩, ⟨?_, B.rep.off fun y hy => key y (List.mem_append.2 (.inr hy)), B.rb, B.srt, B.key⟩, rr⟩, by rw [hat 5 (by omega) (by omega), if_neg (by omega), if_neg (by omega)]; exact Int.le_refl _⟩
  · intro y hy
    have h1 := hne hy
    rw [hstat, if_neg (by omega)]
    exact H.own y hy
  · intro b hb hs
    rw [hstat] at hs
    split at hs
    · omega
    · exact H.live b hb hs
  · intro b hb hs
    rw [hstat] at hs
    have h3 := P.mem (b := b.1) (c := b.2) hb
    split at hs
    · omega
    · rename_i h
      have := H.rest b hb hs
      rw [List.mem_singleton] at this
      exact absurd (by rw [this]) h
  · intro y hy; cases hy
  · rw [hat _ (by omega) (by omega), if_neg (by omega), if_neg (by omega)]; exact A.root
  · rw [hat _ (by omega) (by omega), if_neg (by omega), if_neg (by omega)]; exact B.root
theorem Vf : yJ (zu 256) 256 [] 12 .nil 13 .nil := by
  obtain ⟨bs, ls, P⟩ := VA 256
  have hbs : bs = [] := by
    have ht := P.tile
    rw [show qW (zu 256) 5 = 14 from rfl] at ht
    cases bs with
    | nil => rfl
    | cons b bs =>
      have h1 := ht.2.2.le
      have h2 := zx ht.2.1
      omega
  have hlen := P.len
  have hat : ∀ q, q ≠ 5 → qW (zu 256) q = 0 := by
    intro q hq
    unfold zu
    rw [gp _ _ _ _ (by simp [szZ]; omega), KH, if_neg (by omega)]
  have hr : ∀ x, qW (List.replicate 257 (0 : Int)) x = 0 := KH 257
  have P2 := P.loose
  refine ⟨⟨_, _, _, P2, (fun y hy => by cases hy), ?_, ?_, (fun y hy => by cases hy), List.nodup_nil, List.nodup_nil, fun b hb => by rw [hbs] at hb; cases hb⟩, ⟨hat _ (by decide), trivial, ⟨0, rfl⟩, List.Pairwise.nil, fun q hq => by cases hq⟩, ⟨hat _ (by decide), trivial, ⟨0, rfl⟩, List.Pairwise.nil, fun q hq => by cases hq⟩, by omega⟩
  · intro b hb hs; rw [hr] at hs; omega
  · intro b hb hs; rw [hr] at hs; omega
end Go.Proofs.YtpohfcljfemhlaaGreat.arenaParts
namespace Go.Proofs.YtpohfcljfemhlaaGreat.arenaParts
open Go Go.Ae arenaPlays
set_option maxRecDepth 100000
variable {zs : List Int} {α : Type}
theorem qXF {p v : Int} : ∀ {l : List Cl}, p ∉ l.map (·.1) → z6 p v l = l ++ [(p, v)] := by
  intro l
  induction l with
  | nil => intro _; rfl
  | cons d l ih =>
    intro h
    rw [List.map_cons, List.mem_cons, not_or] at h
    unfold z6
    rw [if_neg (fun e => h.1 e.symm), ih h.2]; rfl
theorem YX : ∀ {cs out : List Cl}, UnC (out ++ cs) → zC out cs = out ++ cs := by
  intro cs
  induction cs with
  | nil => intro out _; show out = _; simp
  | cons c cs ih =>
    intro out h
    have hn : c.1 ∉ out.map (·.1) := by
      unfold UnC at h
      rw [List.map_append, List.nodup_append] at h
      intro hm
      exact h.2.2 _ hm c.1 (List.mem_map.2 ⟨c, List.mem_cons_self .., rfl⟩) rfl
    show zC (z6 c.1 c.2 out) cs = _
    rw [qXF hn, ih (by rw [List.append_assoc]; exact h), List.append_assoc]; rfl
theorem N6 {C : List Cl} (h : UnC C) : zC [] C = C := by
  have := YX (cs := C) (out := []) (by simpa using h)
  simpa using this
theorem ZN {p : Int} : ∀ {C : List Cl} {w : Int}, UnC C → C.foldl (fun w c => if c.1 = p then c.2 else w) w = (jM p C).getD w := by
  intro C
  induction C with
  | nil => intro w _; rfl
  | cons c C ih =>
    intro w h
    unfold UnC at h
    rw [List.map_cons, List.nodup_cons] at h
    rw [List.foldl_cons, ih h.2, Qq]
    by_cases e : c.1 = p
    · rw [if_pos e, if_pos e]
      have : jM p C = none := kf.2 (by rw [← e]; exact h.1)
      rw [this]; rfl
    · rw [if_neg e, if_neg e]
theorem Wd.nil {sz : Nat} (h : zs.length = sz) : Wd zs sz [] zs := ⟨h, fun _ _ _ => rfl⟩
abbrev Mv (K : List Cl) (nd : Int) : VM := lvV 256 K [] [] nd
theorem Xo (h : zs.length = 256) : zv zs 96 = Mv (kW zs) 0 := by
  unfold zv
  rw [h]; rfl
theorem Qa (h : zs.length = 256) : NR zs (kW zs) ∧ ∀ q : Int, 1 ≤ q → q < 256 → jM q (kW zs) ≠ none := by
  have hl : szZ zs.length = 256 := by rw [h]; rfl
  have hg : ∀ i : Nat, 0 < i → i < 256 → jM (i : Int) (kW zs) = some (qW zs i) := fun i h0 h1 => Mb zs h0 (by rw [hl]; exact h1)
  refine ⟨fun p x hp => ?_, fun q h1 h2 hn => ?_⟩
  · by_cases hr : 1 ≤ p ∧ p < 256
    · have := hg p.toNat (by omega) (by omega)
      rw [show ((p.toNat : Nat) : Int) = p by omega, hp] at this
      exact Option.some.inj this
    · have hnone : jM p (kW zs) = none := kf.2 (by
        intro hm
        obtain ⟨c, hc, rfl⟩ := List.mem_map.1 hm
        obtain ⟨i, hi⟩ := List.getElem?_of_mem hc
        have hlt : i < (kW zs).length := (List.getElem?_eq_some_iff.1 hi).1
        rw [QL] at hlt
        rw [ku zs (by omega)] at hi
        cases hi
        dsimp only at hr
        omega)
      rw [hnone] at hp
      cases hp
  · have := hg q.toNat (by omega) (by omega)
    rw [show ((q.toNat : Nat) : Int) = q by omega, hn] at this
    cases this
theorem VO (K C : List Cl) (nd : Int) : ∀ (F F0 : List Int), F.foldl freeV (lvV 256 K C F0 nd) = lvV 256 K C (F0 ++ F) nd := by
  intro F
  induction F with
  | nil => intro F0; rw [List.append_nil]; rfl
  | cons b F ih =>
    intro F0
    rw [List.foldl_cons]
    have e : freeV (lvV 256 K C F0 nd) b = lvV 256 K C (F0 ++ [b]) nd := rfl
    rw [e, ih, List.append_assoc]; rfl
theorem Kj {S : Int → Prop} {act : Act α} {Q : Option α → Int → List Int → List Int → Prop} (hz : zs.length = 256) (w : wpA 256 S act zs 0 [] 0 Q) :
    ∃ o e W' C' F', e ≠ 11 ∧ (e = 0 → o.isSome) ∧ Q o e W' F' ∧ Wd zs 256 C' W' ∧ UnC C' ∧ InC C' ∧ C'.length ≤ 96 ∧ (e = 0 → ∀ c ∈ C', S c.1) ∧ ∀ K nd, NR zs K →
      ((∃ q, 1 ≤ q ∧ q < 256 ∧ S q ∧ jM q K = none ∧ doR (Mv K nd) act = (11, Mv K q)) ∨
        (doR (Mv K nd) act = (e, if e = 0 then lvV 256 K C' F' nd else Mv K nd) ∧ (qO act ⟨lvV 256 K [] [] 0, 0, 0⟩).1 = o)) := by
  obtain ⟨o, e, W', C', F', s', q1, q2, q3, q4, q5, q6, q7, q9, q8⟩ := XI (by omega) w (Wd.nil hz) (Nat.le_refl 0) List.nodup_nil (fun c hc => by cases hc) (by omega)
  refine ⟨o, e, W', C', F', q1, q2, q3, q4, q5, q6, q7, fun he c hc => (q9 he c hc).resolve_left (fun h => by cases h), fun K nd hK => ?_⟩
  rcases q8 K 0 hK with ⟨C'', F'', q, s'', h1, h2, h3, h4, h5⟩ | h1
  · refine .inl ⟨q, h2, h3, h4, h5, ?_⟩
    unfold doR
    rw [show (Mv K nd).sz = 256 from rfl, show (Mv K nd).K = K from rfl, h1]
    dsimp only
    rw [if_pos rfl]
    have hr := KU (sz := 256) (K := K) (C := []) (F := []) (nd := nd) (p := q) ⟨h2, h3⟩
    have hr : qM (Mv K nd) q = ((0, 11), Mv K q) := by
      rw [hr, show jM q ([] : List Cl) = none from rfl]
      dsimp only
      rw [h5]
    show ((qM (Mv K nd) q).1.2, (qM (Mv K nd) q).2) = _
    rw [hr]
  · refine .inr ⟨?_, by rw [h1]⟩
    unfold doR
    rw [show (Mv K nd).sz = 256 from rfl, show (Mv K nd).K = K from rfl, h1]
    dsimp only
    rw [if_neg q1]
    by_cases he : e = 0
    · rw [if_neg (by omega), if_pos he]
      have hm : jy (lvV 256 K C' F' 0).lv = C' := rfl
      have hf : xX (lvV 256 K C' F' 0).lv = F' := by show [(C', F')].reverse.flatMap (·.2) = F'; simp
      have ht := KS (sz := 256) (K := K) (C := []) (F := []) (nd := nd) (cs := C') (by omega) (fun c hc => by have := q6 c hc; omega) (by simp; omega)
      rw [N6 q5] at ht
      rw [hm, hf, ht]
      dsimp only
      rw [if_neg (by omega), VO, List.nil_append, he]
    · rw [if_pos he, if_neg he]
theorem Ug {C' : List Cl} {W' : List Int} (hz : zs.length = 256) (hw : Wd zs 256 C' W') (hu : UnC C') {q : Nat} (h0 : 0 < q) (h1 : q < 256) : qW (jz zs C') q = qW W' q := by
  rw [arenaParts.apply_at hz (by omega) (by omega) C' h0 h1, ZN hu, hw.2 q h0 h1]
theorem O8 {C' : List Cl} {W' : List Int} (hw : Wd zs 256 C' W') (hu : UnC C') (hi : InC C') (hn : ∀ z ∈ W', 0 ≤ z ∧ z < 18446744073709551616) : WdC C' := by
  intro c hc
  have h1 := hi c hc
  have h2 := hw.2 c.1.toNat (by omega) (by omega)
  rw [show ((c.1.toNat : Nat) : Int) = c.1 by omega, Gg hu hc] at h2
  have h3 := vY hn c.1.toNat
  rw [h2] at h3
  exact h3
def noT : Act α → Prop
  | .ret _ => True
  | .fail _ => True
  | .read _ k => ∀ x, noT (k x)
  | .take _ _ => False
  | .note _ _ => False
  | .step k => noT k
theorem UN {M : VM} {p : Int} : (qM M p).2.lv = M.lv := by
  unfold qM
  repeat' split
  all_goals rfl
theorem qZI : ∀ {a : Act α} {D : DM}, noT a → (qO a D).2.M.lv = D.M.lv := by
  intro a
  induction a with
  | ret a => intro D _; rfl
  | fail e => intro D _; unfold qO; dsimp only; split <;> rfl
  | read p k ih =>
    intro D h
    unfold qO
    split
    · rfl
    · split
      · rw [ih _ (h _)]; exact UN
      · exact UN
  | take cs k ih => intro D h; cases h
  | note b k ih => intro D h; cases h
  | step k ih =>
    intro D h
    unfold qO
    split
    · rfl
    · split
      · rfl
      · exact ih h
theorem Y6 {p : Int} {k : Int → Act α} (h : ∀ x, noT (k x)) : noT (yH p k) := by
  intro x
  dsimp only
  split
  · trivial
  · exact h x
theorem qXL {S : Int → Prop} {act : Act α} {x : α} {nd : Int} (hz : zs.length = 256) (hn : noT act) (w : wpA 256 S act zs 0 [] 0 fun o e _ _ => o = some x ∧ e = 0) :
    ∀ K, NR zs K → (∃ q, 1 ≤ q ∧ q < 256 ∧ S q ∧ jM q K = none ∧ doR (Mv K nd) act = (11, Mv K q)) ∨ (doR (Mv K nd) act = (0, Mv K nd) ∧ (qO act ⟨lvV 256 K [] [] 0, 0, 0⟩).1 = some x) := by
  intro K hK
  obtain ⟨o, e, W', C', F', s', q1, q2, ⟨q3, q10⟩, q4, q5, q6, q7, q9, q8⟩ := XI (by omega) w (Wd.nil hz) (Nat.le_refl 0) List.nodup_nil (fun c hc => by cases hc) (by omega)
  subst q10
  have hn2 := qZI (D := ⟨lvV 256 K [] [] 0, 0, 0⟩) hn
  rcases q8 K 0 hK with ⟨C'', F'', q, s'', h1, h2, h3, h4, h5⟩ | h1
  · refine .inl ⟨q, h2, h3, h4, h5, ?_⟩
    unfold doR
    rw [show (Mv K nd).sz = 256 from rfl, show (Mv K nd).K = K from rfl, h1]
    dsimp only
    rw [if_pos rfl]
    have hr := KU (sz := 256) (K := K) (C := []) (F := []) (nd := nd) (p := q) ⟨h2, h3⟩
    have hr : qM (Mv K nd) q = ((0, 11), Mv K q) := by
      rw [hr, show jM q ([] : List Cl) = none from rfl]
      dsimp only
      rw [h5]
    show ((qM (Mv K nd) q).1.2, (qM (Mv K nd) q).2) = _
    rw [hr]
  · rw [h1] at hn2
    have hcf : C' = [] ∧ F' = [] := by
      have hn2 : [(C', F')] = [(([] : List Cl), ([] : List Int))] := hn2
      simp at hn2; exact hn2
    obtain ⟨rfl, rfl⟩ := hcf
    refine .inr ⟨?_, by rw [h1]; exact q3⟩
    unfold doR
    rw [show (Mv K nd).sz = 256 from rfl, show (Mv K nd).K = K from rfl, h1]
    dsimp only
    rw [if_neg (by omega), if_neg (by omega)]
    have hm : jy (lvV 256 K [] [] 0).lv = [] := rfl
    have hf : xX (lvV 256 K [] [] 0).lv = [] := rfl
    have ht := KS (sz := 256) (K := K) (C := []) (F := []) (nd := nd) (cs := []) (by omega) (fun c hc => by cases hc) (by simp)
    rw [hm, hf, ht]
    rfl
end Go.Proofs.YtpohfcljfemhlaaGreat.arenaParts
namespace Go.Proofs.YtpohfcljfemhlaaGreat.arenaParts
open Go Go.Ae arenaPlays
set_option maxRecDepth 100000
variable {zs : List Int} {α : Type} {p p' : Int} {t t' : Tr}
def UT (e : Int) (o : Option Bool) : Int × Int := if e = 0 then (2, if o = some true then 1 else 0) else (2, 0)
def NS (e : Int) (o : Option (Int × Bool)) : Int × Int := if e = 0 then match o with | some (x, true) => (1, x) | _ => (3, 0) else (3, 0)
def Zy (e : Int) (o : Option (List qo)) : Int × Int := if e = 0 then match o with | some l => (1, (l.length : Int)) | none => (1, 0) else (1, 0)
abbrev vm (M : VM) (act : Act α) : Option α := (qO act ⟨lvV M.sz M.K [] [] 0, 0, 0⟩).1
def kU (M : VM) (root what k x : Int) : (Int × Int) × Int × VM :=
  if what = 9 then (UT (doR M (yy M.sz root k x)).1 (vm M (yy M.sz root k x)), doR M (yy M.sz root k x))
  else if what = 10 then (NS (doR M (xd root k)).1 (vm M (xd root k)), doR M (xd root k))
  else if what = 11 then (UT (doR M (vE M.sz root k)).1 (vm M (vE M.sz root k)), doR M (vE M.sz root k))
  else (Zy (doR M (jb root k x)).1 (vm M (jb root k x)), doR M (jb root k x))
structure SmX (M : VM) (root what k x : Int) : Prop where
  put : what = 9 → (doR M (yy M.sz root k x)).1 = 0 → (vm M (yy M.sz root k x)).isSome
  get : what = 10 → (doR M (xd root k)).1 = 0 → (vm M (xd root k)).isSome
  del : what = 11 → (doR M (vE M.sz root k)).1 = 0 → (vm M (vE M.sz root k)).isSome
  rng : what = 12 → (doR M (jb root k x)).1 = 0 → (vm M (jb root k x)).isSome
def Xq (what k x : Int) (row : List qo) : (Int × Int) × List qo :=
  if what = 9 then ((2, if inP k row = true then 0 else 1), kQ k x row)
  else if what = 10 then (if (Qu k row).2 = true then (1, (Qu k row).1) else (3, 0), row)
  else if what = 11 then ((2, if inP k row = true then 1 else 0), Jc k row)
  else ((1, ((xU k x row).length : Int)), row)
theorem vr {k : Int} : ∀ {l : List qo}, Srt l → (inP k l = false ∧ l = loP k l ++ hiP k l) ∨ ∃ v, inP k l = true ∧ l = loP k l ++ (k, v) :: hiP k l := by
  intro l
  induction l with
  | nil => intro _; exact .inl ⟨rfl, rfl⟩
  | cons q l ih =>
    intro h
    obtain ⟨h1, h2⟩ := List.pairwise_cons.1 h
    by_cases hlt : q.1 < k
    · have e1 : loP k (q :: l) = q :: loP k l := by unfold loP; rw [List.filter_cons, if_pos (by simpa using hlt)]
      have e2 : hiP k (q :: l) = hiP k l := by unfold hiP; rw [List.filter_cons, if_neg (by simp; omega)]
      have e3 : inP k (q :: l) = inP k l := by
        unfold inP
        rw [List.any_cons, decide_eq_false (by omega), Bool.false_or]
      rw [e1, e2, e3]
      rcases ih h2 with ⟨h3, h4⟩ | ⟨v, h3, h4⟩
      · exact .inl ⟨h3, congrArg (q :: ·) h4⟩
      · exact .inr ⟨v, h3, congrArg (q :: ·) h4⟩
    · have hall : ∀ y ∈ l, k < y.1 := fun y hy => by have := h1 y hy; omega
      by_cases heq : q.1 = k
      · obtain ⟨a, v⟩ := q
        dsimp only at heq
        subst heq
        obtain ⟨i1, i2, i3⟩ := U9 (k := a) (x := v) (a := []) (b := l) (fun q hq => by cases hq) hall
        rw [List.nil_append] at i1 i2 i3
        exact .inr ⟨v, i3, by rw [i1, i2]; rfl⟩
      · have hall2 : ∀ y ∈ q :: l, k < y.1 := by
          intro y hy
          rcases List.mem_cons.1 hy with rfl | hy
          · omega
          · exact hall y hy
        obtain ⟨i1, i2, i3⟩ := MA (k := k) (a := []) (b := q :: l) (fun q hq => by cases hq) hall2
        rw [List.nil_append] at i1 i2 i3
        exact .inl ⟨i3, by rw [i1, i2]; rfl⟩
theorem O9 {k : Int} {l : List qo} (h : Srt l) (hi : inP k l = false) : Jc k l = l := by
  rcases vr (k := k) h with ⟨_, h2⟩ | ⟨v, h1, _⟩
  · exact h2.symm
  · rw [hi] at h1; cases h1
structure CallX (zs : List Int) (p : Int) (t : Tr) (p' : Int) (t' : Tr) (what k x : Int) (it : Int × Int) (e : Int) (C' : List Cl) (F' : List Int) : Prop where
  ne : e ≠ 11
  un : UnC C'
  ins : InC C'
  wd : e = 0 → WdC C'
  few : C'.length ≤ 96
  S : e = 0 → ∀ c ∈ C', SqT p' (ads t') c.1
  run : ∀ K nd, NR zs K → SmX (Mv K nd) p what k x ∧ ((∃ q, 1 ≤ q ∧ q < 256 ∧ SqT p' (ads t') q ∧ jM q K = none ∧ ∃ it', kU (Mv K nd) p what k x = (it', 11, Mv K q)) ∨ kU (Mv K nd) p what k x = (it, e, if e = 0 then lvV 256 K C' F' nd else Mv K nd))
  out : (e = 4 ∧ (256 : Int) < qW zs 5 + 40) ∨ (e = 0 ∧ qW zs 5 ≤ qW (jz zs C') 5 ∧ it = (Xq what k x (inr t)).1 ∧
    ∃ t2, inr t2 = (Xq what k x (inr t)).2 ∧ ((F' = [] ∧ yJ (jz zs C') 256 [] p t2 p' t') ∨ ∃ a, F' = [a] ∧ yJ (jz zs C') 256 [a] p t2 p' t'))
theorem OB {what k x : Int} (Z : yJ zs 256 [] p t p' t') (hw : 9 ≤ what ∧ what ≤ 12) (hk : 0 ≤ k ∧ k < 12) (hx : 0 ≤ x ∧ x < 12) : ∃ it e C' F', CallX zs p t p' t' what k x it e C' F' := by
  have hz := Z.H.size.2.2
  have hcg : ∀ {W' : List Int} {C' : List Cl} {fr : List Int} {t2 : Tr}, Wd zs 256 C' W' → UnC C' → InC C' → yJ W' 256 fr p t2 p' t' → WdC C' ∧ qW (jz zs C') 5 = qW W' 5 ∧ yJ (jz zs C') 256 fr p t2 p' t' := by
    intro W' C' fr t2 h1 h2 h3 Z'
    have hc := O8 h1 h2 h3 Z'.H.nn
    exact ⟨hc, Ug hz h1 h2 (by omega) (by omega), Z'.congr (by rw [yV, hz]; rfl) (yo Z.H.nn hc) fun q h0 h5 => Ug hz h1 h2 h0 h5⟩
  have hsm : ∀ {β : Type} {act : Act β} {o : Option β} {e : Int} {K : List Cl} {nd : Int} {X : VM}, (e = 0 → o.isSome) →
      ((∃ q, 1 ≤ q ∧ q < 256 ∧ SqT p' (ads t') q ∧ jM q K = none ∧ doR (Mv K nd) act = (11, Mv K q)) ∨ (doR (Mv K nd) act = (e, X) ∧ (qO act ⟨lvV 256 K [] [] 0, 0, 0⟩).1 = o)) → (doR (Mv K nd) act).1 = 0 → (vm (Mv K nd) act).isSome := by
    intro β act o e K nd X ho h h0
    rcases h with ⟨q, _, _, _, _, h⟩ | ⟨h, h2⟩
    · rw [h] at h0; cases h0
    · show ((qO act ⟨lvV 256 K [] [] 0, 0, 0⟩).1).isSome
      rw [h2]
      rw [h] at h0
      exact ho h0
  have hw4 : what = 9 ∨ what = 10 ∨ what = 11 ∨ what = 12 := by omega
  rcases hw4 with rfl | rfl | rfl | rfl
  · obtain ⟨o, e, W', C', F', q1, q2, q3, q4, q5, q6, q96, q7, q8⟩ := Kj (Q := fun o e W' F' => (∃ t2, o = some (!inP k (inr t)) ∧ e = 0 ∧ F' = [] ∧ qW zs 5 ≤ qW W' 5 ∧ yJ W' 256 [] p t2 p' t' ∧ inr t2 = kQ k x (inr t)) ∨ (o = none ∧ e = 4 ∧ (256 : Int) < qW zs 5 + 5)) hz
      (qK2 Z hk hx (fun W' t2 h1 h2 h3 => .inl ⟨t2, rfl, rfl, rfl, h1, h2, h3⟩) (fun h => .inr ⟨rfl, rfl, h⟩))
    refine ⟨UT e o, e, C', F', q1, q5, q6, fun he => ?_, q96, q7, fun K nd hK => ⟨⟨fun _ => hsm q2 (q8 K nd hK), fun h => by omega, fun h => by omega, fun h => by omega⟩, ?_⟩, ?_⟩
    · rcases q3 with ⟨t2, _, _, _, _, Z', _⟩ | ⟨_, h, _⟩
      · exact (hcg q4 q5 q6 Z').1
      · omega
    · unfold kU
      rw [if_pos rfl, show (Mv K nd).sz = 256 from rfl]
      rcases q8 K nd hK with ⟨q, h1, h2, h3, h4, h5⟩ | ⟨h, h6⟩
      · exact .inl ⟨q, h1, h2, h3, h4, _, by rw [h5]⟩
      · refine .inr ?_
        rw [h, show vm (Mv K nd) (yy 256 p k x) = o from h6]
    · rcases q3 with ⟨t2, rfl, rfl, rfl, h1, Z', h2⟩ | ⟨_, rfl, h⟩
      · obtain ⟨_, h5, Z2⟩ := hcg q4 q5 q6 Z'
        refine .inr ⟨rfl, by omega, ?_, t2, h2, .inl ⟨rfl, Z2⟩⟩
        unfold UT Xq
        rw [if_pos rfl, if_pos rfl]
        cases inP k (inr t) <;> rfl
      · exact .inl ⟨rfl, by omega⟩
  · obtain ⟨o, e, W', C', F', q1, q2, q3, q4, q5, q6, q96, q7, q8⟩ := Kj (Q := fun o e W' F' => o = some (Qu k (inr t)) ∧ e = 0 ∧ W' = zs ∧ F' = []) hz (qQh Z ⟨rfl, rfl, rfl, rfl⟩)
    obtain ⟨rfl, rfl, rfl, rfl⟩ := q3
    obtain ⟨hc, h5, Z2⟩ := hcg q4 q5 q6 Z
    refine ⟨NS 0 (some (Qu k (inr t))), 0, C', [], q1, q5, q6, fun _ => hc, q96, q7, fun K nd hK => ⟨⟨fun h => by omega, fun _ => hsm q2 (q8 K nd hK), fun h => by omega, fun h => by omega⟩, ?_⟩, .inr ⟨rfl, by omega, ?_, t, rfl, .inl ⟨rfl, Z2⟩⟩⟩
    · unfold kU
      rw [if_neg (by omega), if_pos rfl]
      rcases q8 K nd hK with ⟨q, h1, h2, h3, h4, h5⟩ | ⟨h, h6⟩
      · exact .inl ⟨q, h1, h2, h3, h4, _, by rw [h5]⟩
      · refine .inr ?_
        rw [h, show vm (Mv K nd) (xd p k) = _ from h6]
    · unfold NS Xq
      rw [if_pos rfl, if_neg (by omega), if_pos rfl]
      generalize Qu k (inr t) = g
      obtain ⟨y, b⟩ := g
      cases b <;> rfl
  · obtain ⟨o, e, W', C', F', q1, q2, q3, q4, q5, q6, q96, q7, q8⟩ := Kj (Q := fun o e W' F' => e = 0 ∧ ((inP k (inr t) = false ∧ o = some false ∧ W' = zs ∧ F' = []) ∨ ∃ t2 a, inP k (inr t) = true ∧ o = some true ∧ F' = [a] ∧ qW W' 5 = qW zs 5 ∧ yJ W' 256 [a] p t2 p' t' ∧ inr t2 = Jc k (inr t))) hz
      (qVI Z (fun h => ⟨rfl, .inl ⟨h, rfl, rfl, rfl⟩⟩) (fun W' t2 a h0 h1 _ _ h2 h3 => ⟨rfl, .inr ⟨t2, a, h0, rfl, rfl, h1, h2, h3⟩⟩))
    obtain ⟨rfl, q3⟩ := q3
    have hall : ∃ fr t2, WdC C' ∧ qW (jz zs C') 5 = qW zs 5 ∧ yJ (jz zs C') 256 fr p t2 p' t' ∧ F' = fr ∧ (fr = [] ∨ ∃ a, fr = [a]) ∧ inr t2 = Jc k (inr t) ∧ UT 0 o = (2, if inP k (inr t) = true then 1 else 0) := by
      rcases q3 with ⟨h0, rfl, rfl, rfl⟩ | ⟨t2, a, h0, rfl, rfl, h1, Z', h2⟩
      · obtain ⟨hc, h5, Z2⟩ := hcg q4 q5 q6 Z
        exact ⟨[], t, hc, h5, Z2, rfl, .inl rfl, (O9 Z.A.srt h0).symm, by rw [h0]; rfl⟩
      · obtain ⟨hc, h5, Z2⟩ := hcg q4 q5 q6 Z'
        exact ⟨[a], t2, hc, by omega, Z2, rfl, .inr ⟨a, rfl⟩, h2, by rw [h0]; rfl⟩
    obtain ⟨fr, t2, hc, h5, Z2, rfl, hfr, hi, hit⟩ := hall
    refine ⟨UT 0 o, 0, C', F', q1, q5, q6, fun _ => hc, q96, q7, fun K nd hK => ⟨⟨fun h => by omega, fun h => by omega, fun _ => hsm q2 (q8 K nd hK), fun h => by omega⟩, ?_⟩, .inr ⟨rfl, by omega, ?_, t2, ?_, ?_⟩⟩
    · unfold kU
      rw [if_neg (by omega), if_neg (by omega), if_pos rfl, show (Mv K nd).sz = 256 from rfl]
      rcases q8 K nd hK with ⟨q, h1, h2, h3, h4, h5⟩ | ⟨h, h6⟩
      · exact .inl ⟨q, h1, h2, h3, h4, _, by rw [h5]⟩
      · refine .inr ?_
        rw [h, show vm (Mv K nd) (vE 256 p k) = _ from h6]
    · unfold Xq
      rw [if_neg (by omega), if_neg (by omega), if_pos rfl]
      exact hit
    · unfold Xq
      rw [if_neg (by omega), if_neg (by omega), if_pos rfl]
      exact hi
    · rcases hfr with rfl | ⟨a, rfl⟩
      · exact .inl ⟨rfl, Z2⟩
      · exact .inr ⟨a, rfl, Z2⟩
  · obtain ⟨o, e, W', C', F', q1, q2, q3, q4, q5, q6, q96, q7, q8⟩ := Kj (Q := fun o e W' F' => o = some (xU k x (inr t)) ∧ e = 0 ∧ W' = zs ∧ F' = []) hz (Xt Z ⟨rfl, rfl, rfl, rfl⟩)
    obtain ⟨rfl, rfl, rfl, rfl⟩ := q3
    obtain ⟨hc, h5, Z2⟩ := hcg q4 q5 q6 Z
    refine ⟨Zy 0 (some (xU k x (inr t))), 0, C', [], q1, q5, q6, fun _ => hc, q96, q7, fun K nd hK => ⟨⟨fun h => by omega, fun h => by omega, fun h => by omega, fun _ => hsm q2 (q8 K nd hK)⟩, ?_⟩, .inr ⟨rfl, by omega, ?_, t, rfl, .inl ⟨rfl, Z2⟩⟩⟩
    · unfold kU
      rw [if_neg (by omega), if_neg (by omega), if_neg (by omega)]
      rcases q8 K nd hK with ⟨q, h1, h2, h3, h4, h5⟩ | ⟨h, h6⟩
      · exact .inl ⟨q, h1, h2, h3, h4, _, by rw [h5]⟩
      · refine .inr ?_
        rw [h, show vm (Mv K nd) (jb p k x) = _ from h6]
    · rfl
theorem qQt {w : Int} {k : Int → Act α} (h : ∀ x, noT (k x)) : noT (GR w k) := by
  unfold GR
  split
  · trivial
  · exact h _
theorem Gx {a sd : Int} {k : Int → Act α} (h : ∀ x, noT (k x)) : noT (jX a sd k) := by
  unfold jX
  split
  · trivial
  split
  · exact Y6 h
  · intro w; exact qQt h
theorem qJl {lo hi : Int} : ∀ {m : Nat} {a : Int} {out : List qo} {k : List qo → Act α}, (∀ l, noT (k l)) → noT (jP lo hi m a out k) := by
  intro m
  induction m with
  | zero =>
    intro a out k h
    unfold jP
    split
    · exact h _
    · trivial
  | succ m ih =>
    intro a out k h
    rw [M3]
    split
    · exact h _
    intro key
    have k2 : ∀ out : List qo, noT (if key < hi then jX a 1 fun c => jP lo hi m c out k else k out) := by
      intro out
      split
      · exact Gx fun c => ih h
      · exact h _
    have k1 : ∀ out : List qo, noT (if lo ≤ key ∧ key ≤ hi then .read (a + 1) fun x => (if key < hi then jX a 1 fun c => jP lo hi m c (out ++ [(key, x)]) k else k (out ++ [(key, x)])) else (if key < hi then jX a 1 fun c => jP lo hi m c out k else k out)) := by
      intro out
      split
      · intro x; exact k2 _
      · exact k2 _
    dsimp only
    split
    · exact Gx fun c => ih k1
    · exact k1 _
theorem OZ {lo hi : Int} {fr : List Int} (Z : yJ zs 256 fr p t p' t') : doR (Mv (kW zs) 0) (jb p lo hi) = (0, Mv (kW zs) 0) ∧ (qO (jb p lo hi) ⟨lvV 256 (kW zs) [] [] 0, 0, 0⟩).1 = some (xU lo hi (inr t)) := by
  have hz := Z.H.size.2.2
  obtain ⟨k1, k2⟩ := Qa hz
  rcases qXL (act := jb p lo hi) (nd := 0) hz (Y6 fun a => qJl fun l => trivial) (Xt Z ⟨rfl, rfl⟩) (kW zs) k1 with ⟨q, h1, h2, _, h4, _⟩ | h
  · exact absurd h4 (k2 q h1 h2)
  · exact h
theorem qZh {hi : Int} {l : List qo} (h : ∀ q ∈ l, (0 ≤ q.1 ∧ q.1 < 12) ∧ 0 ≤ q.2 ∧ q.2 < 12) (hh : 12 ≤ hi) : xU 0 hi l = l := by
  refine List.filter_eq_self.2 fun q hq => ?_
  have := h q hq
  simp; omega
end Go.Proofs.YtpohfcljfemhlaaGreat.arenaParts
namespace Go.Proofs.YtpohfcljfemhlaaGreat.arenaParts
open Go Go.Ae arenaPlays
set_option maxRecDepth 100000
variable {g h : AH} {L R : List SP} {α : Type}
theorem M6 {n : Nat} (hn : 16 ≤ n) {t d : Nat} {D : DM} {root other : Int} {up : jf} {wv : AV} {way : List jf} {sz : Nat} (H : HS g h (DrC d D :: TrC t d root wv :: zD wv way :: R)) (G : jG D sz 5) (O : OkW way) (hl1 : 1 ≤ way.length) (hl : way.length ≤ 1000000)
    (hu : (0 ≤ up.1 ∧ up.1 ≤ 2147483648) ∧ (0 ≤ up.2 ∧ up.2 ≤ 1)) (ho : 0 ≤ other ∧ other ≤ 2147483648) :
    wp (qw tab qI n (.fn 113 [] []) [.ptr t 0, .agg (yA up), .int .i64 other] h) fun _ h' => ∃ (D' : DM), (∀ k : Act α, EqR (qO (wg root way up other k) D) (qO k D')) ∧ Aft D D' sz ∧ HS g h' (DrC d D' :: TrC t d root wv :: zD wv way :: R) := by
  (refine qd (g := W113) rfl (by omega) fun k hk => ?_; show wp (S113 (qw tab qI k) _ _ _ _) _; unfold S113; try simp only [iI, uU, Int.ofNat_eq_natCast])
  obtain ⟨ua, us⟩ := up
  dsimp only at hu
  refine jw H rfl fun b0 h1 H1 => ?_
  have H1 : HS g h1 (qg b0 [.int .i64 ua, .int .i64 us] :: DrC d D :: TrC t d root wv :: zD wv way :: R) := H1
  have H1 : HS g h1 (DrC d D :: TrC t d root wv :: zD wv way :: qg b0 [.int .i64 ua, .int .i64 us] :: R) := H1.sub (.cons e_1 (.cons e_1 (.cons e_1 (.cons .here .refl))))
  clear H
  refine z7 [] (fun s h' => ∃ (o2 : Int) (D2 : DM), s = (.ptr b0 0, .int .i64 o2, .ptr t 0, ()) ∧ (0 ≤ o2 ∧ o2 ≤ 2147483648) ∧ (∀ k : Act α, EqR (qO (wg root way (ua, us) other k) D) (qO (YM root way (ua, us) o2 k) D2)) ∧ Aft D D2 sz ∧
    HS g h' (DrC d D2 :: TrC t d root wv :: zD wv way :: qg b0 [.int .i64 ua, .int .i64 us] :: R)) ?_ ?_
  · intro j hj
    with_reducible (refine qZ ?_; refine qv (by assumption) e_3 (by with_unfolding_all exact rfl) ?_; refine jB (by omega) ?_)
    refine qJ (zz (α := α) (side := 1 - us) (by omega) H1 G ho) ?_
    rintro _ h2 ⟨c, D2, rfl, E2, A2, b2, H2⟩
    refine qJ (gt (α := α) (by omega) H2 A2.good (by omega)) ?_
    rintro _ h3 ⟨rc, D3, rfl, E3, A3, H3⟩
    have E4 : ∀ k : Act α, EqR (qO (wg root way (ua, us) other k) D) (qO (if rc = false then xm other (1 - us) fun inner => xC ua (1 - us) inner (jW inner false (jW other true (YM root way (ua, us) inner k))) else YM root way (ua, us) other k) D3) := fun k => (E2 _).trans (E3 _)
    cases rc with
    | true =>
      with_reducible (refine jU ?_; refine qV ?_)
      exact hj _ _ ⟨other, D3, rfl, ho, fun k => E4 k, ⟨A3.good, A3.stp.trans A2.stp⟩, H3⟩
    | false =>
      with_reducible (refine jr ?_; refine qx ?_; refine qZ ?_; refine qv (by assumption) e_3 (by with_unfolding_all exact rfl) ?_; refine jB (by omega) ?_)
      refine qJ (JY (α := α) (side := 1 - us) (by omega) H3 A3.good ho (by omega)) ?_
      rintro _ h4 ⟨inner, D4, rfl, E5, A4, b4, H4⟩
      with_reducible (refine qZ ?_; refine qv (by assumption) e_3 (by with_unfolding_all exact rfl) ?_; refine qZ ?_; refine qv (by assumption) e_3 (by with_unfolding_all exact rfl) ?_; refine jB (by omega) ?_)
      refine qJ (JW (α := α) (side := 1 - us) (by omega) H4 A4.good hu.1 (by omega)) ?_
      rintro _ h5 ⟨D5, E6, A5, H5⟩
      refine qJ (zN (α := α) (by omega) H5 A5.good (by omega)) ?_
      rintro _ h6 ⟨D6, E7, A6, H6⟩
      refine qJ (zN (α := α) (by omega) H6 A6.good ho) ?_
      rintro _ h7 ⟨D7, E8, A7, H7⟩
      exact hj _ _ ⟨inner, D7, rfl, by omega, fun k => (E4 k).trans ((E5 _).trans ((E6 _).trans ((E7 _).trans (E8 _)))), ⟨A7.good, A7.stp.trans (A6.stp.trans (A5.stp.trans (A4.stp.trans (A3.stp.trans A2.stp))))⟩, H7⟩
  clear H1
  rintro s h3 ⟨o2, D2, rfl, ho2, E2, A2, H3⟩
  dsimp only
  with_reducible (refine qZ ?_; refine qv (by assumption) e_3 (by with_unfolding_all exact rfl) ?_; refine qZ ?_; refine qv (by assumption) e_3 (by with_unfolding_all exact rfl) ?_)
  refine qJ (JY (α := α) (by omega) H3 A2.good hu.1 hu.2) ?_
  rintro _ h4 ⟨v, D4, rfl, E4, A4, b4, H4⟩
  with_reducible (refine qZ ?_; refine qv (by assumption) e_3 (by with_unfolding_all exact rfl) ?_)
  refine qJ (gt (α := α) (by omega) H4 A4.good hu.1) ?_
  rintro _ h5 ⟨ru, D5, rfl, E5, A5, H5⟩
  refine qJ (zN (α := α) (by omega) H5 A5.good ho2) ?_
  rintro _ h6 ⟨D6, E6, A6, H6⟩
  with_reducible (refine qZ ?_; refine qv (by assumption) e_3 (by with_unfolding_all exact rfl) ?_)
  refine qJ (zN (α := α) (by omega) H6 A6.good hu.1) ?_
  rintro _ h7 ⟨D7, E7, A7, H7⟩
  with_reducible (refine qZ ?_; refine qv (by assumption) e_3 (by with_unfolding_all exact rfl) ?_; refine jB (by omega) ?_)
  refine qJ (zz (α := α) (side := 1 - us) (by omega) H7 A7.good ho2) ?_
  rintro _ h8 ⟨c, D8, rfl, E8, A8, b8, H8⟩
  refine qJ (zN (α := α) (by omega) H8 A8.good (by omega)) ?_
  rintro _ h9 ⟨D9, E9, A9, H9⟩
  with_reducible (refine qE ?_; refine qZ ?_; refine qv (by assumption) e_1 (by with_unfolding_all exact rfl) ?_; refine jI (by assumption) e_2 ?_; refine jB (by omega) ?_)
  rw [show ((way.length : Nat) : Int) - ((1 : Nat) : Int) = ((way.length - 1 : Nat) : Int) by omega]
  refine qJ (Qs (α := α) (by omega) H9 A9.good O (by omega) hl ho2) ?_
  rintro _ h10 ⟨D10, E10, A10, H10⟩
  with_reducible (refine qF ?_)
  exact qz ⟨D10, fun k => (E2 k).trans ((E4 _).trans ((E5 _).trans ((E6 _).trans ((E7 _).trans ((E8 _).trans ((E9 _).trans (E10 _))))))), ⟨A10.good, A10.stp.trans (A9.stp.trans (A8.stp.trans (A7.stp.trans (A6.stp.trans (A5.stp.trans (A4.stp.trans A2.stp))))))⟩, H10.sub (.cons .here (.cons .here (.cons .here (.drop .refl))))⟩
theorem qXU {n : Nat} (hn : 16 ≤ n) {t d : Nat} {D : DM} {root a : Int} {wv : AV} {way : List jf} {sz : Nat} (H : HS g h (DrC d D :: TrC t d root wv :: zD wv way :: R)) (G : jG D sz 5) (O : OkW way) (hl : way.length ≤ 10000) (hs : D.stp ≤ 10000) (ha : 0 ≤ a ∧ a ≤ 2147483648) :
    wp (qw tab qI n (.fn 97 [] []) [.ptr t 0, .int .i64 a] h) fun r h' => ∃ (v : Int) (way' : List jf) (wv' : AV) (D' : DM), r = .int .i64 v ∧ (∀ k : Int → List jf → Act α, EqR (qO (Xh a way k) D) (qO (k v way') D')) ∧ jG D' sz 5 ∧ D'.stp ≤ 20000 ∧ (0 ≤ v ∧ v ≤ 2147483648) ∧ OkW way' ∧ way'.length ≤ 20000 ∧
      HS g h' (DrC d D' :: TrC t d root wv' :: zD wv' way' :: R) := by
  (refine qd (g := W97) rfl (by omega) fun k hk => ?_; show wp (S97 (qw tab qI k) _ _ _) _; unfold S97; try simp only [iI, uU, Int.ofNat_eq_natCast])
  have hs0 := G.st
  with_reducible (refine qE ?_; refine qZ ?_; refine qv (by assumption) e_1 (by with_unfolding_all exact rfl) ?_; refine qm (by with_unfolding_all exact rfl) ?_)
  refine jh (n := 1) (l := [.int .i64 a, .int .i64 ((1 : Nat) : Int)]) (sz := 2) H rfl rfl rfl rfl fun v1 h1 H1 => ?_
  refine zU (H1.sel e_3) (H1.sl .here) (by omega) (by omega) rfl fun v2 h2 H2 => ?_
  have o2 := H2.one .here
  with_reducible (refine qE ?_; refine qZ ?_)
  refine jx H2 (b := t) e_3 o2 (by simp) fun h3 H3 => ?_
  have H3 : HS g h3 (DrC d D :: TrC t d root v2 :: zD v2 (way ++ [(a, 1)]) :: R) := by
    have H4 : HS g h3 (TrC t d root v2 :: qc 140 2 (way.length + 1) v2 (way.flatMap yA ++ [.int .i64 a, .int .i64 ((1 : Nat) : Int)]) :: qc 140 2 1 v1 [.int .i64 a, .int .i64 ((1 : Nat) : Int)] :: DrC d D :: R) := H3
    unfold zD
    rw [List.flatMap_append, List.length_append]
    exact H4.sub (.cons e_3 (.cons .here (.cons .here (.drop .refl))))
  have O3 : OkW (way ++ [(a, 1)]) := O.add ha (by dsimp only; omega)
  refine qJ (zz (α := α) (by omega) H3 G ha) ?_
  rintro _ h5 ⟨c, D5, rfl, E5, A5, b5, H5⟩
  have hs5 := A5.stp
  refine z7 [] (fun s h' => ∃ (v : Int) (way' : List jf) (wv' : AV) (D' : DM), s = (.int .i64 v, ()) ∧ (∀ k : Int → List jf → Act α, EqR (qO (Xh a way k) D) (qO (k v way') D')) ∧ jG D' sz 5 ∧ D'.stp ≤ 20000 ∧ (0 ≤ v ∧ v ≤ 2147483648) ∧ OkW way' ∧ way'.length ≤ 20000 ∧
      HS g h' (DrC d D' :: TrC t d root wv' :: zD wv' way' :: R)) ?_ ?_
  rotate_left
  · rintro s h6 ⟨v, way', wv', D', rfl, E, GD, q1, q2, q3, q4, H6⟩
    dsimp only
    with_reducible (refine qF ?_)
    exact qz ⟨v, way', wv', D', rfl, E, GD, q1, q2, q3, q4, H6⟩
  intro j hj
  refine jO (fun m s h' => ∃ (a2 : Int) (way2 : List jf) (wv2 : AV) (D2 : DM), s = (.int .i64 a2, .ptr t 0, ()) ∧ (∀ k : Int → List jf → Act α, EqR (qO (Xh a way k) D) (qO (kF k m a2 way2) D2)) ∧ jG D2 sz 5 ∧ (0 ≤ a2 ∧ a2 ≤ 2147483648) ∧ OkW way2 ∧ 2049 ≤ D2.stp + m ∧ D2.stp + m ≤ 15000 ∧ way2.length + m ≤ 15000 ∧
    HS g h' (DrC d D2 :: TrC t d root wv2 :: zD wv2 way2 :: R))
    ?_ (m := 2049) (by show 2049 < 1000000000; omega) ⟨c, way ++ [(a, 1)], v2, D5, rfl, fun k => E5 _, A5.good, by omega, O3, by omega, by omega, by simp; omega, H5⟩
  clear E5 A5 b5 H H1 H2 H3 H5 G O O3 hs0 hs5
  rintro m ih s h6 hih ⟨a2, way2, wv2, D2, rfl, E, G2, hb, O, hst, hst2, hwl, H⟩
  dsimp only
  with_reducible (refine qE ?_; refine qZ ?_; refine qv (by assumption) e_1 (by with_unfolding_all exact rfl) ?_)
  refine qJ (wq (by omega) H G2) ?_
  rintro _ h7 ⟨rfl, H7⟩
  have hg2 := G2.st
  have G3 := G2.step (by omega)
  cases m with
  | zero =>
    have herr := JK (D := D2) (by omega)
    rw [decide_eq_false herr]
    with_reducible (refine qV ?_)
    exact hj _ _ ⟨a2, way2, wv2, _, rfl, fun k => (E k).trans (by unfold kF; exact XC (by omega)), G3.1, by omega, hb, O, by omega, H7⟩
  | succ m =>
    have E3 : ∀ k : Int → List jf → Act α, EqR (qO (Xh a way k) D) (qO (jX a2 0 fun nx => if nx = 0 then k a2 way2 else kF k m nx (way2 ++ [(a2, 0)])) (zk D2)) := by
      intro k
      refine (E k).trans ?_
      rw [kF]
      exact wz
    by_cases herr : (zk D2).err = 0
    rotate_left
    · rw [decide_eq_false herr]
      with_reducible (refine qV ?_)
      exact hj _ _ ⟨a2, way2, wv2, _, rfl, fun k => (E3 k).trans (EqR.errs herr ⟨rfl, rfl⟩), G3.1, by omega, hb, O, by omega, H7⟩
    rw [decide_eq_true herr]
    obtain ⟨G3, hs3⟩ := G3
    generalize zk D2 = D3 at *
    with_reducible (refine qx ?_)
    refine qJ (zz (α := α) (by omega) H7 G3 hb) ?_
    rintro _ h8 ⟨nx, D8, rfl, E8, A8, b8, H8⟩
    have hs8 := A8.stp
    have E9 : ∀ k : Int → List jf → Act α, _ := fun k => (E3 k).trans (E8 _)
    by_cases hnx : nx = 0
    · refine jg hnx (qx ?_)
      exact hj _ _ ⟨a2, way2, wv2, D8, rfl, fun k => (E9 k).trans (by rw [if_pos hnx]; exact EqR.refl _), A8.good, by omega, hb, O, by omega, H8⟩
    refine ql hnx (qV ?_)
    with_reducible (refine qE ?_; refine qZ ?_; refine qv (by assumption) e_1 (by with_unfolding_all exact rfl) ?_; refine qm (by with_unfolding_all exact rfl) ?_)
    refine jh (n := 1) (l := [.int .i64 a2, .int .i64 ((0 : Nat) : Int)]) (sz := 2) H8 rfl rfl rfl rfl fun v9 h9 H9 => ?_
    refine zU (H9.sel e_3) (H9.sl .here) (by omega) (by omega) rfl fun v10 h10 H10 => ?_
    have o10 := H10.one .here
    with_reducible (refine qE ?_; refine qZ ?_)
    refine jx H10 (b := t) e_3 o10 (by simp) fun h11 H11 => ?_
    have H11 : HS g h11 (DrC d D8 :: TrC t d root v10 :: zD v10 (way2 ++ [(a2, 0)]) :: R) := by
      have H4 : HS g h11 (TrC t d root v10 :: qc 140 2 (way2.length + 1) v10 (way2.flatMap yA ++ [.int .i64 a2, .int .i64 ((0 : Nat) : Int)]) :: qc 140 2 1 v9 [.int .i64 a2, .int .i64 ((0 : Nat) : Int)] :: DrC d D8 :: R) := H11
      unfold zD
      rw [List.flatMap_append, List.length_append]
      exact H4.sub (.cons e_3 (.cons .here (.cons .here (.drop .refl))))
    exact hih m _ _ (by omega) ⟨nx, way2 ++ [(a2, 0)], v10, D8, rfl, fun k => (E9 k).trans (by rw [if_neg hnx]; exact EqR.refl _), A8.good, by omega, O.add hb (by dsimp only; omega), by omega, by omega, by simp; omega, H11⟩
end Go.Proofs.YtpohfcljfemhlaaGreat.arenaParts
namespace Go.Proofs.YtpohfcljfemhlaaGreat.arenaParts
open Go Go.Ae arenaPlays
set_option maxRecDepth 100000
variable {g h : AH} {L R : List SP} {α : Type}
theorem Ve {n : Nat} (hn : 18 ≤ n) {t d : Nat} {D : DM} {root : Int} {wv : AV} {way : List jf} {sz : Nat} (H : HS g h (DrC d D :: TrC t d root wv :: zD wv way :: R)) (G : jG D sz 5) (O : OkW way) (hl : way.length ≤ 20000) (hs : D.stp ≤ 20000) :
    wp (qw tab qI n (.fn 98 [] []) [.ptr t 0] h) fun _ h' => ∃ (D' : DM) (wv' : AV) (way' : List jf), (∀ k : Act α, EqR (qO (zX root k 2049 way) D) (qO k D')) ∧ jG D' sz 5 ∧ HS g h' (DrC d D' :: TrC t d root wv' :: zD wv' way' :: R) := by
  (refine qd (g := W98) rfl (by omega) fun k hk => ?_; show wp (S98 (qw tab qI k) _ _) _; unfold S98; try simp only [iI, uU, Int.ofNat_eq_natCast])
  have hs0 := G.st
  refine jO (fun m s h' => ∃ (way2 : List jf) (wv2 : AV) (D2 : DM), s = (.ptr t 0, ()) ∧ (∀ k : Act α, EqR (qO (zX root k 2049 way) D) (qO (zX root k m way2) D2)) ∧ jG D2 sz 5 ∧ OkW way2 ∧ way2.length + m ≤ 30000 ∧ 2049 ≤ D2.stp + m ∧ D2.stp + m ≤ 30000 ∧
    HS g h' (DrC d D2 :: TrC t d root wv2 :: zD wv2 way2 :: R))
    ?_ (m := 2049) (by show 2049 < 1000000000; omega) ⟨way, wv, D, rfl, fun k => EqR.refl _, G, O, by omega, by omega, by omega, H⟩
  clear H G O hl hs hs0
  rintro m ih s h3 hih ⟨way2, wv2, D2, rfl, E, G2, O, hl, hst, hst2, H⟩
  dsimp only
  with_reducible (refine qE ?_; refine qZ ?_; refine qv (by assumption) e_1 (by with_unfolding_all exact rfl) ?_; refine jI (by assumption) e_2 ?_)
  by_cases h2 : 0 < way2.length
  rotate_left
  · have e : ∀ k : Act α, zX root k m way2 = k := by
      intro k
      cases m <;> (unfold zX; rw [if_neg h2])
    refine yT (by omega) ?_
    with_reducible (refine qk ?_; (try dsimp only); refine jk ?_; (try dsimp only); refine qb ?_; refine qV ?_; refine qF ?_)
    exact qz ⟨D2, _, _, fun k => (E k).trans (by rw [e]; exact EqR.refl _), G2, H⟩
  refine x8 (by omega) ?_
  with_reducible (refine qk ?_; (try dsimp only); refine qp ?_; (try dsimp only); refine qE ?_; refine qZ ?_; refine qv (by assumption) e_1 (by with_unfolding_all exact rfl) ?_)
  refine qJ (wq (by omega) H G2) ?_
  rintro _ h4 ⟨rfl, H4⟩
  have hs2 := G2.st
  have G3 := G2.step (by omega)
  cases m with
  | zero =>
    have herr := JK (D := D2) (by omega)
    rw [decide_eq_false herr]
    with_reducible (refine qR ?_; refine qV ?_; refine qF ?_)
    refine qz ⟨_, _, _, fun k => (E k).trans ?_, G3.1, H4⟩
    unfold zX
    rw [if_pos h2]
    exact XC (by omega)
  | succ m =>
    obtain ⟨up, hup⟩ : ∃ up, up = zg way2 (way2.length - 1) := ⟨_, rfl⟩
    have bu : (0 ≤ up.1 ∧ up.1 ≤ 2147483648) ∧ (0 ≤ up.2 ∧ up.2 ≤ 1) := by rw [hup]; exact O.nth (by omega)
    have E3 : ∀ k : Act α, EqR (qO (zX root k 2049 way) D) (qO (jX up.1 (1 - up.2) fun other => xx other fun ro =>
      if ro = true then xm up.1 up.2 fun _ => jW other false (jW up.1 true (xu root way2 (way2.length - 1) other
        (zX root k m (way2.set (way2.length - 1) (other, up.2) ++ [up]))))
      else jX other 0 fun l => xx l fun rl => if rl = true then wg root way2 up other k else
        jX other 1 fun r => xx r fun rr => if rr = true then wg root way2 up other k else
        jW other true (xx up.1 fun ru => if ru = true then jW up.1 false k else zX root k m (way2.take (way2.length - 1)))) (zk D2)) := by
      intro k
      refine (E k).trans ?_
      rw [zX, if_pos h2, hup]
      exact wz
    by_cases herr : (zk D2).err = 0
    rotate_left
    · rw [decide_eq_false herr]
      with_reducible (refine qR ?_; refine qV ?_; refine qF ?_)
      exact qz ⟨_, _, _, fun k => (E3 k).trans (EqR.errs herr ⟨rfl, rfl⟩), G3.1, H4⟩
    rw [decide_eq_true herr]
    obtain ⟨G3, hs3⟩ := G3
    generalize zk D2 = D3 at *
    with_reducible (refine qR ?_; refine qx ?_; refine qk ?_; (try dsimp only); refine qE ?_; refine qZ ?_; refine qv (by assumption) e_1 (by with_unfolding_all exact rfl) ?_; refine jI (by assumption) e_2 ?_; refine qE ?_; refine qZ ?_; refine qv (by assumption) e_1 (by with_unfolding_all exact rfl) ?_; refine jB (by omega) ?_)
    rw [show ((way2.length : Nat) : Int) - ((1 : Nat) : Int) = ((way2.length - 1 : Nat) : Int) by omega]
    refine xj (l := yA up) (H4.sl e_2) (show way2.length - 1 < way2.length by omega) (by omega) (by rw [hup]; exact MI (by omega)) ?_
    clear hup
    obtain ⟨ua, us⟩ := up
    dsimp only at bu
    refine jw H4 rfl fun b5 h5 H5 => ?_
    refine zW H5 (b := b5) .here rfl (by simp [yA]) rfl fun h8 H8 => ?_
    have H8 : HS g h8 (qg b5 [.int .i64 ua, .int .i64 us] :: DrC d D3 :: TrC t d root wv2 :: zD wv2 way2 :: R) := H8
    have H8 : HS g h8 (DrC d D3 :: TrC t d root wv2 :: zD wv2 way2 :: qg b5 [.int .i64 ua, .int .i64 us] :: R) := H8.sub (.cons e_1 (.cons e_1 (.cons e_1 (.cons .here .refl))))
    clear H H4 H5
    with_reducible (refine qZ ?_; refine qv (by assumption) e_3 (by with_unfolding_all exact rfl) ?_; refine qZ ?_; refine qv (by assumption) e_3 (by with_unfolding_all exact rfl) ?_; refine jB (by omega) ?_)
    refine qJ (zz (α := α) (side := 1 - us) (by omega) H8 G3 bu.1) ?_
    rintro _ h9 ⟨other, D9, rfl, E9, A9, b9, H9⟩
    refine qJ (gt (α := α) (by omega) H9 A9.good (by omega)) ?_
    rintro _ h10 ⟨ro, D10, rfl, E10, A10, H10⟩
    have E11 : ∀ k : Act α, _ := fun k => (E3 k).trans ((E9 _).trans (E10 _))
    have q1 := A9.stp
    have q2 := A10.stp
    clear E3 E9 E10 H8 H9
    cases ro with
    | true =>
      with_reducible (refine qx ?_; refine qZ ?_; refine qv (by assumption) e_3 (by with_unfolding_all exact rfl) ?_; refine qZ ?_; refine qv (by assumption) e_3 (by with_unfolding_all exact rfl) ?_)
      refine qJ (JY (α := α) (by omega) H10 A10.good bu.1 bu.2) ?_
      rintro _ h11 ⟨v, D11, rfl, E12, A11, b11, H11⟩
      refine qJ (zN (α := α) (by omega) H11 A11.good (by omega)) ?_
      rintro _ h12 ⟨D12, E13, A12, H12⟩
      with_reducible (refine qZ ?_; refine qv (by assumption) e_3 (by with_unfolding_all exact rfl) ?_)
      refine qJ (zN (α := α) (by omega) H12 A12.good bu.1) ?_
      rintro _ h13 ⟨D13, E14, A13, H13⟩
      with_reducible (refine jB (by omega) ?_)
      rw [show ((way2.length : Nat) : Int) - ((1 : Nat) : Int) = ((way2.length - 1 : Nat) : Int) by omega]
      refine qJ (Qs (α := α) (by omega) H13 A13.good O (by omega) (by omega) (by omega)) ?_
      rintro _ h14 ⟨D14, E15, A14, H14⟩
      with_reducible (refine qE ?_; refine qZ ?_; refine qv (by assumption) e_1 (by with_unfolding_all exact rfl) ?_; refine jB (by omega) ?_; refine qZ ?_; refine qv (by assumption) e_3 (by with_unfolding_all exact rfl) ?_; refine qm (by with_unfolding_all exact rfl) ?_)
      rw [show ((way2.length : Nat) : Int) - ((1 : Nat) : Int) = ((way2.length - 1 : Nat) : Int) by omega]
      refine qQH (l := yA (other, us)) (H14.sel e_2) (show way2.length - 1 < way2.length by omega) rfl rfl fun h15 H15 => ?_
      rw [My (sz := 2) (enc := yA) (fun _ => rfl) (by omega)] at H15
      with_reducible (refine qE ?_; refine qZ ?_; refine qv (by assumption) e_2 (by with_unfolding_all exact rfl) ?_)
      refine jv H15 (b := b5) (off := 0) e_3 rfl (by omega) rfl ?_
      refine jh (n := 1) (l := [.int .i64 ua, .int .i64 us]) (sz := 2) H15 rfl rfl rfl rfl fun v16 h16 H16 => ?_
      refine zU (H16.sel e_1) (H16.sl .here) (by omega) (by omega) rfl fun v17 h17 H17 => ?_
      have o17 := H17.one .here
      with_reducible (refine qE ?_; refine qZ ?_)
      refine jx H17 (b := t) e_3 o17 (by simp) fun h18 H18 => ?_
      have H18 : HS g h18 (DrC d D14 :: TrC t d root v17 :: zD v17 (way2.set (way2.length - 1) (other, us) ++ [(ua, us)]) :: R) := by
        have H4 : HS g h18 (TrC t d root v17 :: qc 140 2 (way2.length + 1) v17 ((way2.set (way2.length - 1) (other, us)).flatMap yA ++ [.int .i64 ua, .int .i64 us]) :: qc 140 2 1 v16 [.int .i64 ua, .int .i64 us] :: DrC d D14 :: qg b5 [.int .i64 ua, .int .i64 us] :: R) := H18
        unfold zD
        rw [List.flatMap_append, List.length_append, List.length_set]
        exact H4.sub (.cons e_3 (.cons .here (.cons .here (.drop (.drop .refl)))))
      have q3 := A11.stp
      have q4 := A12.stp
      have q5 := A13.stp
      have q6 := A14.stp
      have O18 : OkW (way2.set (way2.length - 1) (other, us) ++ [(ua, us)]) := by
        refine OkW.add (fun s hs => ?_) bu.1 bu.2
        rcases List.mem_or_eq_of_mem_set hs with h1 | rfl
        · exact O s h1
        · exact ⟨by dsimp only; omega, bu.2⟩
      exact hih m _ _ (by omega) ⟨_, v17, D14, rfl, fun k => (E11 k).trans ((E12 _).trans ((E13 _).trans ((E14 _).trans (E15 _)))), A14.good, O18, by simp; omega, by omega, by omega, H18⟩
    | false =>
      with_reducible (refine qV ?_)
      refine qJ (zz (α := α) (by omega) H10 A10.good (by omega)) ?_
      rintro _ h11 ⟨l, D11, rfl, E12, A11, b11, H11⟩
      refine qJ (gt (α := α) (by omega) H11 A11.good (by omega)) ?_
      rintro _ h12 ⟨rl, D12, rfl, E13, A12, H12⟩
      have E14 : ∀ k : Act α, _ := fun k => (E11 k).trans ((E12 _).trans (E13 _))
      have q3 := A11.stp
      have q4 := A12.stp
      cases rl with
      | true =>
        with_reducible (refine qk ?_; (try dsimp only); refine jC ?_; (try dsimp only); refine qR ?_; refine qx ?_)
        refine jv H12 (b := b5) (off := 0) e_3 rfl (by omega) rfl ?_
        refine qJ (M6 (α := α) (up := (ua, us)) (by omega) H12 A12.good O (by omega) (by omega) bu (by omega)) ?_
        rintro _ h13 ⟨D13, E15, A13, H13⟩
        with_reducible (refine qF ?_)
        exact qz ⟨_, _, _, fun k => (E14 k).trans (E15 _), A13.good, H13.sub (.cons .here (.cons .here (.cons .here (.drop .refl))))⟩
      | false =>
        with_reducible (refine qk ?_; (try dsimp only); refine jZ ?_; (try dsimp only))
        refine qJ (zz (α := α) (by omega) H12 A12.good (by omega)) ?_
        rintro _ h13 ⟨r, D13, rfl, E15, A13, b13, H13⟩
        refine qJ (gt (α := α) (by omega) H13 A13.good (by omega)) ?_
        rintro _ h14 ⟨rr, D14, rfl, E16, A14, H14⟩
        have E17 : ∀ k : Act α, _ := fun k => (E14 k).trans ((E15 _).trans (E16 _))
        have q5 := A13.stp
        have q6 := A14.stp
        cases rr with
        | true =>
          with_reducible (refine qb ?_; refine qx ?_)
          refine jv H14 (b := b5) (off := 0) e_3 rfl (by omega) rfl ?_
          refine qJ (M6 (α := α) (up := (ua, us)) (by omega) H14 A14.good O (by omega) (by omega) bu (by omega)) ?_
          rintro _ h15 ⟨D15, E18, A15, H15⟩
          with_reducible (refine qF ?_)
          exact qz ⟨_, _, _, fun k => (E17 k).trans (E18 _), A15.good, H15.sub (.cons .here (.cons .here (.cons .here (.drop .refl))))⟩
        | false =>
          with_reducible (refine qb ?_; refine qV ?_)
          refine qJ (zN (α := α) (by omega) H14 A14.good (by omega)) ?_
          rintro _ h15 ⟨D15, E18, A15, H15⟩
          with_reducible (refine qZ ?_; refine qv (by assumption) e_3 (by with_unfolding_all exact rfl) ?_)
          refine qJ (gt (α := α) (by omega) H15 A15.good bu.1) ?_
          rintro _ h16 ⟨ru, D16, rfl, E19, A16, H16⟩
          have E20 : ∀ k : Act α, _ := fun k => (E17 k).trans ((E18 _).trans (E19 _))
          have q7 := A15.stp
          have q8 := A16.stp
          cases ru with
          | true =>
            with_reducible (refine qx ?_; refine qZ ?_; refine qv (by assumption) e_3 (by with_unfolding_all exact rfl) ?_)
            refine qJ (zN (α := α) (by omega) H16 A16.good bu.1) ?_
            rintro _ h17 ⟨D17, E21, A17, H17⟩
            with_reducible (refine qF ?_)
            exact qz ⟨_, _, _, fun k => (E20 k).trans (E21 _), A17.good, H17.sub (.cons .here (.cons .here (.cons .here (.drop .refl))))⟩
          | false =>
            with_reducible (refine qV ?_; refine qE ?_; refine qZ ?_; refine qv (by assumption) e_1 (by with_unfolding_all exact rfl) ?_; refine jB (by omega) ?_)
            rw [show ((way2.length : Nat) : Int) - ((1 : Nat) : Int) = ((way2.length - 1 : Nat) : Int) by omega]
            refine Xy (H16.sel e_2) (by omega) (show way2.length - 1 ≤ way2.length by omega) fun v17 H17 => ?_
            have o17 := H17.one .here
            with_reducible (refine qE ?_; refine qZ ?_)
            refine jx H17 (b := t) e_2 o17 (by simp) fun h18 H18 => ?_
            have hlen : (way2.take (way2.length - 1)).length = way2.length - 1 := by rw [List.length_take]; omega
            have H18 : HS g h18 (TrC t d root v17 :: zD v17 (way2.take (way2.length - 1)) :: DrC d D16 :: qg b5 [.int .i64 ua, .int .i64 us] :: R) := by
              have H19 : HS g h18 (TrC t d root v17 :: qc 140 2 (way2.length - 1) v17 ((way2.flatMap yA).take ((way2.length - 1) * 2)) :: DrC d D16 :: qg b5 [.int .i64 ua, .int .i64 us] :: R) := H18
              rw [Ul] at H19
              unfold zD
              rw [hlen]
              exact H19
            exact hih m _ _ (by omega) ⟨way2.take (way2.length - 1), v17, D16, rfl, E20, A16.good, O.take, by omega, by omega, by omega, H18.sub (.cons e_2 (.cons .here (.cons .here (.drop .refl))))⟩
end Go.Proofs.YtpohfcljfemhlaaGreat.arenaParts
