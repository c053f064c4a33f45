/- Queues in a parted heap: the plain law. -/
import Derived.Test.YthajhlachmgdoaaPartsM
import Derived.Test.YthajhlachmgdoaaDraftS
namespace Go.Proofs.Ythajhlachmgdoaa.arenaParts
open Go Go.Ae arenaPlays
set_option maxRecDepth 100000

variable {dt : Prop} {W sts : List Int} {T : Nat} {bs : List Bk} {ls : Int → List Int}

theorem Tile.far2 {e : Int} : ∀ {bs : List Bk} {a : Int}, Tile e a bs → ∀ b ∈ bs, ∀ b' ∈ bs, b = b' ∨ b.1 + sizeA b.2 + 1 ≤ b'.1 ∨ b'.1 + sizeA b'.2 + 1 ≤ b.1 := by
  intro bs
  induction bs with
  | nil => intro a _ b hb; cases hb
  | cons b bs ih =>
    intro a h x hx y hy
    obtain ⟨h1, h2, h3⟩ := h
    rcases List.mem_cons.1 hx with rfl | hx
    · rcases List.mem_cons.1 hy with rfl | hy
      · exact .inl rfl
      · have := h3.mem y hy
        exact .inr (.inl (by omega))
    · rcases List.mem_cons.1 hy with rfl | hy
      · have := h3.mem x (by assumption)
        exact .inr (.inr (by omega))
      · exact ih h3 x (by assumption) y hy
theorem PartS.congr (P : PartS dt W sts T bs ls) {W' : List Int} (hl : W'.length = T) (hn : ∀ z ∈ W', 0 ≤ z ∧ z < 18446744073709551616) (hat : ∀ p : Nat, 0 < p → p < T → wordAt W' p = wordAt W p) : PartS dt W' sts T bs ls := by
  have hlo := P.lo
  have h5 := hat 5 (by omega) (by omega)
  refine ⟨hl, P.lo, P.hi, hn, P.slen, by rw [h5]; exact P.tile, by rw [h5]; exact P.bump, ?_, P.known, P.st, ?_, ?_, P.listed, P.nodup⟩
  · rintro ⟨b, c⟩ hb
    have := P.mem hb
    rw [hat _ (by dsimp only; omega) (by dsimp only; omega)]
    exact P.hdr _ hb
  · intro hd p h1 h2 h3
    rw [hat _ (by omega) h2]
    exact P.data hd p h1 h2 h3
  · intro c h1 h2
    rw [hat _ (by omega) (by omega)]
    refine (P.chain c h1 h2).keep fun x hx => ?_
    have hm := P.mem ((P.listed c h1 h2 x).1 hx).1
    exact hat _ (by omega) (by omega)
theorem PartS.loose (P : PartS dt W sts T bs ls) : PartS False W sts T bs ls := ⟨P.len, P.lo, P.hi, P.nn, P.slen, P.tile, P.bump, P.hdr, P.known, P.st, fun h => h.elim, P.chain, P.listed, P.nodup⟩
/-- a word that is nobody's but a live block's, or a root's, is written -/
theorem PartS.write (P : PartS False W sts T bs ls) {p x : Int} (hx : 0 ≤ x ∧ x < 18446744073709551616) (hp : (6 ≤ p ∧ p ≤ 13) ∨ ∃ b c, (b, c) ∈ bs ∧ wordAt sts b.toNat = 1 ∧ b ≤ p ∧ p < b + sizeA c) :
    PartS False (putZ W (p, x)) sts T bs ls := by
  have hlo := P.lo
  have hhi := P.hi
  have hbu := P.bump
  have hpr : 6 ≤ p ∧ p < T := by
    rcases hp with h | ⟨b, c, hb, _, h1, h2⟩
    · omega
    · have := P.tile.mem _ hb
      have := P.mem hb
      dsimp only at *
      omega
  have hat : ∀ q : Nat, wordAt (putZ W (p, x)) q = if p = (q : Int) then x else wordAt W q := by
    intro q
    rw [putZ_at, P.len]
    by_cases e : p = (q : Int)
    · rw [if_pos ⟨e, by dsimp only; omega, by dsimp only; omega⟩, if_pos e]
    · rw [if_neg (fun h => e h.1), if_neg e]
  have hnb : ∀ {b c : Int}, (b, c) ∈ bs → p ≠ b - 1 := by
    intro b c hb
    have hm := P.mem hb
    have hz := sizeA_pos hm.2.2
    rcases hp with h | ⟨b', c', hb', _, h1, h2⟩
    · omega
    · rcases P.tile.far2 _ hb _ hb' with h | h | h
      · cases h; omega
      · dsimp only at h; omega
      · dsimp only at h; omega
  have hnx : ∀ {b c : Int}, (b, c) ∈ bs → wordAt sts b.toNat ≠ 1 → p ≠ b := by
    intro b c hb hs
    have hm := P.mem hb
    have hz := sizeA_pos hm.2.2
    rcases hp with h | ⟨b', c', hb', hs', h1, h2⟩
    · omega
    · rcases P.tile.far2 _ hb _ hb' with h | h | h
      · cases h; exact absurd hs' hs
      · dsimp only at h; omega
      · dsimp only at h; omega
  have h5 : wordAt (putZ W (p, x)) 5 = wordAt W 5 := by rw [hat, if_neg (by omega)]
  refine ⟨by rw [putZ_len]; exact P.len, P.lo, P.hi, putZ_nn P.nn hx, P.slen, by rw [h5]; exact P.tile, by rw [h5]; exact P.bump, ?_, P.known, P.st, fun h => h.elim, ?_, P.listed, P.nodup⟩
  · rintro ⟨b, c⟩ hb
    have hm := P.mem hb
    have hn := hnb hb
    rw [hat, if_neg (by dsimp only; omega)]
    exact P.hdr _ hb
  · intro c h1 h2
    rw [hat, if_neg (by omega)]
    refine (P.chain c h1 h2).keep fun y hy => ?_
    have hl := (P.listed c h1 h2 y).1 hy
    have hm := P.mem hl.1
    have hn := hnx hl.1 (by omega)
    rw [hat, if_neg (by omega)]
theorem give_blk (P : PartS dt W sts T bs ls) {b c : Int} (hb : (b, c) ∈ bs) (hs : wordAt sts b.toNat = 2) : giveA (wholeV W 96) b = (0, oneV W 96 [(b, wordAt W c.toNat), (c, b)] []) := by
  have hl := P.szz
  have hm := P.mem hb
  have ha := P.ask_blk (m := 96) hb
  have hr := one_read (zs := W) (m := 96) (C := []) (F := []) (i := c.toNat) (by omega) (by rw [hl]; omega)
  rw [show ((c.toNat : Nat) : Int) = c by omega] at hr
  have hr : readV (oneV W 96 [] []) c = ((wordAt W c.toNat, 0), oneV W 96 [] []) := hr
  have ht := one_take (zs := W) (m := 96) (C := []) (F := []) (cs := [(b, wordAt W c.toNat), (c, b)]) (by rw [hl]; exact in_two (by omega) (by omega)) (most_le (by simp))
  rw [put_two (by omega)] at ht
  rw [wholeV_one]
  have h1 : ¬ wordAt sts b.toNat = 1 := by omega
  unfold giveA
  simp only [ha, h1, decide_false, if_true, Bool.false_eq_true, if_false, hr, ht]

/-! ### a heap whose live blocks are listed: each of two words -/
structure HQ (W sts : List Int) (T : Nat) (bs : List Bk) (ls : Int → List Int) (L fr : List Int) : Prop where
  P : PartS False W sts T bs ls
  own : ∀ y ∈ L, (y, 1) ∈ bs ∧ wordAt sts y.toNat = 1
  live : ∀ b ∈ bs, wordAt sts b.1.toNat = 1 → b.1 ∈ L
  rest : ∀ b ∈ bs, wordAt sts b.1.toNat = 2 → b.1 ∈ fr
  fre : ∀ y ∈ fr, (y, 1) ∈ bs ∧ wordAt sts y.toNat = 2
  nodup : L.Nodup
  fnd : fr.Nodup
  one : ∀ b ∈ bs, b.2 = 1
def HX (W : List Int) (T : Nat) (L fr : List Int) : Prop := ∃ sts bs ls, HQ W sts T bs ls L fr
variable {L fr F : List Int} {r : Nat} {s : Int} {α : Type}
theorem HX.perm {L' : List Int} (H : HX W T L fr) (h : ∀ x, x ∈ L' ↔ x ∈ L) (nd : L'.Nodup) : HX W T L' fr := by
  obtain ⟨sts, bs, ls, H⟩ := H
  exact ⟨sts, bs, ls, H.P, fun y hy => H.own y ((h y).1 hy), fun b hb hs => (h _).2 (H.live b hb hs), H.rest, H.fre, nd, H.fnd, H.one⟩
theorem HX.mem (H : HX W T L fr) {y : Int} (hy : y ∈ L) : 15 ≤ y ∧ y + 2 ≤ T := by
  obtain ⟨sts, bs, ls, H⟩ := H
  have := H.P.mem (H.own y hy).1
  exact ⟨this.1, this.2.1⟩
theorem HX.apart (H : HX W T L fr) {y z : Int} (hy : y ∈ L) (hz : z ∈ L) : y = z ∨ y + 3 ≤ z ∨ z + 3 ≤ y := by
  obtain ⟨sts, bs, ls, H⟩ := H
  exact H.P.apart (H.own y hy).1 (H.own z hz).1
theorem HX.size (H : HX W T L fr) : 32 ≤ T ∧ T ≤ 256 ∧ W.length = T := by
  obtain ⟨sts, bs, ls, H⟩ := H
  exact ⟨H.P.lo, H.P.hi, H.P.len⟩
theorem HX.nd (H : HX W T L fr) : L.Nodup := by
  obtain ⟨sts, bs, ls, H⟩ := H
  exact H.nodup
theorem HX.nn (H : HX W T L fr) : ∀ z ∈ W, 0 ≤ z ∧ z < 18446744073709551616 := by
  obtain ⟨sts, bs, ls, H⟩ := H
  exact H.P.nn
theorem HX.congr (H : HX W T L fr) {W' : List Int} (hl : W'.length = T) (hn : ∀ z ∈ W', 0 ≤ z ∧ z < 18446744073709551616) (hat : ∀ p : Nat, 0 < p → p < T → wordAt W' p = wordAt W p) : HX W' T L fr := by
  obtain ⟨sts, bs, ls, H⟩ := H
  exact ⟨sts, bs, ls, H.P.congr hl hn hat, H.own, H.live, H.rest, H.fre, H.nodup, H.fnd, H.one⟩
theorem HX.write (H : HX W T L fr) {p x : Int} (hx : 0 ≤ x ∧ x < 18446744073709551616) (hp : (6 ≤ p ∧ p ≤ 13) ∨ ∃ y ∈ L, p = y ∨ p = y + 1) : HX (putZ W (p, x)) T L fr := by
  obtain ⟨sts, bs, ls, H⟩ := H
  refine ⟨sts, bs, ls, H.P.write hx ?_, H.own, H.live, H.rest, H.fre, H.nodup, H.fnd, H.one⟩
  rcases hp with h | ⟨y, hy, h⟩
  · exact .inl h
  · have := H.own y hy
    have e : sizeA 1 = 2 := rfl
    exact .inr ⟨y, 1, this.1, this.2, by omega, by rw [e]; omega⟩

variable {S : Int → Prop} {Q : Option α → Int → List Int → List Int → Prop}
theorem wp_read {p : Int} {k : Int → Act α} (h1 : 1 ≤ p) (h2 : p < (T : Int)) (hS : S p) (w : wpA T S (k (wordAt W p.toNat)) W r F s Q) : wpA T S (.read p k) W r F s Q := ⟨⟨h1, h2, hS⟩, w⟩
theorem wp_place {p : Int} {k : Int → Act α} (h1 : 1 ≤ p) (h2 : p < (T : Int)) (hS : S p) (hw : wordAt W p.toNat < 2147483648) (w : wpA T S (k (wordAt W p.toNat)) W r F s Q) : wpA T S (placeA p k) W r F s Q := by
  refine wp_read h1 h2 hS ?_
  rw [if_neg (by omega)]
  exact w
theorem wp_write {p x : Int} {k : Act α} (H : HX W T L fr) (hx : 0 ≤ x ∧ x < 18446744073709551616) (hp : (6 ≤ p ∧ p ≤ 13) ∨ ∃ y ∈ L, p = y ∨ p = y + 1) (hS : S p) (hr : r + 1 ≤ 96)
    (w : HX (putZ W (p, x)) T L fr → (∀ q : Nat, wordAt (putZ W (p, x)) q = if p = (q : Int) then x else wordAt W q) → wpA T S k (putZ W (p, x)) (r + 1) F s Q) : wpA T S (.take [(p, x)] k) W r F s Q := by
  have hsz := H.size
  have hpr : 6 ≤ p ∧ p < T := by
    rcases hp with h | ⟨y, hy, h⟩
    · omega
    · have := H.mem hy
      omega
  refine ⟨fun c hc => by rw [List.mem_singleton] at hc; subst hc; exact ⟨by dsimp only; omega, hpr.2, hS⟩, hr, w (H.write hx hp) fun q => ?_⟩
  rw [putZ_at, hsz.2.2]
  by_cases e : p = (q : Int)
  · rw [if_pos ⟨e, by dsimp only; omega, by dsimp only; omega⟩, if_pos e]
  · rw [if_neg (fun h => e h.1), if_neg e]
theorem fold2_at (P : PartS dt W sts T bs ls) {a x b y : Int} {p : Nat} (hp : 0 < p) (hT : p < T) : wordAt ([(a, x), (b, y)].foldl putZ W) p = wordAt (applyZ W [(a, x), (b, y)]) p := by
  rw [apply_two P.len P.lo P.hi hp hT]
  show wordAt (putZ (putZ W (a, x)) (b, y)) p = _
  rw [putZ_at, putZ_at, putZ_len, P.len]
  by_cases e : b = (p : Int)
  · rw [if_pos ⟨e, by dsimp only; omega, by dsimp only; omega⟩, if_pos e]
  · rw [if_neg (fun h => e h.1), if_neg e]
    by_cases e2 : a = (p : Int)
    · rw [if_pos ⟨e2, by dsimp only; omega, by dsimp only; omega⟩, if_pos e2]
    · rw [if_neg (fun h => e2 h.1), if_neg e2]
theorem fold1_at (P : PartS dt W sts T bs ls) {a x : Int} {p : Nat} (hp : 0 < p) (hT : p < T) : wordAt ([(a, x)].foldl putZ W) p = wordAt (applyZ W [(a, x)]) p := by
  rw [apply_one P.len P.lo P.hi hp hT]
  show wordAt (putZ W (a, x)) p = _
  rw [putZ_at, P.len]
  by_cases e2 : a = (p : Int)
  · rw [if_pos ⟨e2, by dsimp only; omega, by dsimp only; omega⟩, if_pos e2]
  · rw [if_neg (fun h => e2 h.1), if_neg e2]
theorem fold_nn {cs : List Cl} (h : ∀ z ∈ W, 0 ≤ z ∧ z < 18446744073709551616) (hc : WdC cs) : ∀ z ∈ cs.foldl putZ W, 0 ≤ z ∧ z < 18446744073709551616 := by
  induction cs generalizing W with
  | nil => exact h
  | cons c cs ih => exact ih (putZ_nn h (hc c (List.mem_cons_self ..))) fun d hd => hc d (List.mem_cons_of_mem _ hd)

theorem wp_alloc {k : Int → Act α} (H : HX W T L fr) (hS1 : S 1) (hS5 : S 5) (hS : ∀ p : Int, 14 ≤ p → p < T → (∀ y ∈ L, p ≠ y ∧ p ≠ y + 1) → S p) (hr : r + 2 ≤ 96)
    (ok : ∀ n W', HX W' T (n :: L) fr → (∀ p : Nat, 0 < p → p < T → p ≠ 1 → p ≠ 5 → (p : Int) + 1 ≠ n → wordAt W' p = wordAt W p) → (wordAt W 5 ≤ wordAt W' 5 ∧ wordAt W' 5 ≤ wordAt W 5 + 3) → wpA T S (k n) W' (r + 2) F s Q)
    (full : (T : Int) < wordAt W 5 + 3 → Q none 4 W F) : wpA T S (allocA T 2 k) W r F s Q := by
  obtain ⟨sts, bs, ls, H⟩ := H
  have P := H.P
  have hlo := P.lo
  have hhi := P.hi
  have hc : classA 2 = 1 := rfl
  have hz : sizeA 1 = 2 := rfl
  unfold allocA
  rw [hc, if_neg (by omega), hz]
  refine wp_read (by omega) (by omega) hS1 ?_
  have hch := P.chain 1 (by omega) (by omega)
  have hlow := P.low
  have hbump := P.bump
  have hone : ((1 : Int).toNat) = 1 := rfl
  rw [hone] at hch ⊢
  have hLb : ∀ y ∈ L, y + 2 ≤ wordAt W 5 := by
    intro y hy
    have := P.tile.mem _ (H.own y hy).1
    dsimp only at this
    rw [hz] at this
    omega
  cases hls : ls 1 with
  | nil =>
    rw [hls] at hch
    have h0 : wordAt W 1 = 0 := hch
    rw [if_pos h0]
    refine wp_read (by omega) (by omega) hS5 ?_
    rw [show ((5 : Int).toNat) = 5 from rfl]
    obtain ⟨e, he⟩ : ∃ e, wordAt W 5 = e := ⟨_, rfl⟩
    rw [he] at hlow hbump full ok hLb ⊢
    by_cases hT : e + 1 + 2 ≤ T
    · rw [if_neg (by omega)]
      have P' := P.grown (c := 1) (by omega) he (by rw [hz]; omega)
      rw [hz] at P'
      have hno : ∀ d, (e + 1, d) ∉ bs := by
        intro d hd
        have h1 := P.tile.mem _ hd
        rw [he] at h1
        dsimp only at h1
        have := sizeA_pos h1.2.1
        omega
      have hst0 := P.st_no (show (0 : Int) ≤ e + 1 by omega) hno
      have hstat : ∀ j, wordAt (sts.set (e + 1).toNat 1) j = if (e + 1).toNat = j then 1 else wordAt sts j := fun j => set_at sts _ j 1 (by have := P.slen; omega)
      have hwd : WdC [(5, e + 1 + 2), (e, (1 : Int) + 8)] := .two ⟨by dsimp only; omega, by dsimp only; omega⟩ ⟨by dsimp only; omega, by dsimp only; omega⟩
      have P2 := P'.congr (W' := [(5, e + 1 + 2), (e, (1 : Int) + 8)].foldl putZ W) (by rw [foldZ_len]; exact P.len) (fold_nn P.nn hwd) (fun p h1 h2 => fold2_at P h1 h2)
      refine ⟨?_, by simpa using hr, ok (e + 1) _ ⟨_, _, _, P2, ?_, ?_, ?_, ?_, ?_, H.fnd, ?_⟩ ?_ ?_⟩
      · intro c hc
        rcases List.mem_cons.1 hc with rfl | hc
        · exact ⟨by dsimp only; omega, by dsimp only; omega, hS5⟩
        · rw [List.mem_singleton] at hc; subst hc
          exact ⟨by dsimp only; omega, by dsimp only; omega, hS e (by omega) (by omega) (fun y hy => by have := hLb y hy; omega)⟩
      · intro y hy
        rw [hstat]
        rcases List.mem_cons.1 hy with rfl | hy
        · exact ⟨List.mem_append.2 (.inr (List.mem_singleton.2 rfl)), by rw [if_pos rfl]⟩
        · have h1 := H.own y hy
          have h2 := hLb y hy
          have h3 := P.mem h1.1
          rw [if_neg (by omega)]
          exact ⟨List.mem_append.2 (.inl h1.1), h1.2⟩
      · intro b hb hs
        rw [hstat] at hs
        rcases List.mem_append.1 hb with hb | hb
        · obtain ⟨b, c⟩ := b
          have h3 := P.mem hb
          have h1 := P.tile.mem _ hb
          have h4 := sizeA_pos h3.2.2
          rw [he] at h1
          dsimp only at hs h1 ⊢
          rw [if_neg (by omega)] at hs
          exact List.mem_cons_of_mem _ (H.live _ hb hs)
        · rw [List.mem_singleton] at hb
          subst hb
          exact List.mem_cons_self ..
      · intro b hb hs
        rw [hstat] at hs
        rcases List.mem_append.1 hb with hb | hb
        · obtain ⟨b, c⟩ := b
          dsimp only at hs ⊢
          split at hs
          · omega
          · exact H.rest _ hb hs
        · rw [List.mem_singleton] at hb
          subst hb
          dsimp only at hs
          rw [if_pos rfl] at hs
          omega
      · intro y hy
        have h1 := H.fre y hy
        have h3 := P.mem h1.1
        rw [hstat]
        refine ⟨List.mem_append.2 (.inl h1.1), ?_⟩
        rw [if_neg (fun h => by rw [h] at hst0; omega)]
        exact h1.2
      · rw [List.nodup_cons]
        exact ⟨fun h => by have := hLb _ h; omega, H.nodup⟩
      · intro b hb
        rcases List.mem_append.1 hb with hb | hb
        · exact H.one b hb
        · rw [List.mem_singleton] at hb; subst hb; rfl
      · intro p h1 h2 h3 h4 h5
        rw [fold2_at P h1 h2, apply_two P.len P.lo P.hi h1 h2, if_neg (by omega), if_neg (by omega)]
      · rw [fold2_at P (by omega) (by omega), apply_two P.len P.lo P.hi (by omega) (by omega), if_neg (by omega), if_pos (by omega)]
        omega
    · rw [if_pos (by omega)]
      exact ⟨by omega, by omega, full (by omega)⟩
  | cons b l =>
    rw [hls] at hch
    have h0 : wordAt W 1 = b := hch.1
    have hbl := (P.listed 1 (by omega) (by omega) b).1 (by rw [hls]; exact List.mem_cons_self ..)
    have hm := P.mem hbl.1
    have hbL : b ∉ L := fun h => by have := (H.own b h).2; omega
    have hapb : ∀ y ∈ L, b + 3 ≤ y ∨ y + 3 ≤ b := by
      intro y hy
      rcases P.apart hbl.1 (H.own y hy).1 with h | h
      · subst h; exact absurd hy hbL
      · exact h
    rw [h0, if_neg (by omega), if_neg (by omega)]
    refine wp_read (by omega) (by omega) (hS b (by omega) (by omega) (fun y hy => by have := hapb y hy; omega)) ?_
    have P' := P.again (c := 1) (by omega) hls
    have hwb := wordAt_b P.nn b.toNat
    generalize hw : wordAt W b.toNat = w at *
    have hstat : ∀ j, wordAt (sts.set b.toNat 1) j = if b.toNat = j then 1 else wordAt sts j := fun j => set_at sts _ j 1 (by have := P.slen; omega)
    have hwd : WdC [((1 : Int), w), (b - 1, (1 : Int) + 8)] := .two hwb ⟨by dsimp only; omega, by dsimp only; omega⟩
    have P2 := P'.congr (W' := [((1 : Int), w), (b - 1, (1 : Int) + 8)].foldl putZ W) (by rw [foldZ_len]; exact P.len) (fold_nn P.nn hwd) (fun p h1 h2 => fold2_at P h1 h2)
    refine ⟨?_, by simpa using hr, ok b _ ⟨_, _, _, P2, ?_, ?_, ?_, ?_, ?_, H.fnd, H.one⟩ ?_ ?_⟩
    · intro c hc
      rcases List.mem_cons.1 hc with rfl | hc
      · exact ⟨by dsimp only; omega, by dsimp only; omega, hS1⟩
      · rw [List.mem_singleton] at hc; subst hc
        exact ⟨by dsimp only; omega, by dsimp only; omega, hS (b - 1) (by omega) (by omega) (fun y hy => by have := hapb y hy; omega)⟩
    · intro y hy
      rw [hstat]
      rcases List.mem_cons.1 hy with rfl | hy
      · exact ⟨hbl.1, by rw [if_pos rfl]⟩
      · have h1 := H.own y hy
        have h2 := hapb y hy
        have h3 := P.mem h1.1
        rw [if_neg (by omega)]
        exact h1
    · intro d hd hs
      rw [hstat] at hs
      obtain ⟨d, c⟩ := d
      have h3 := P.mem hd
      dsimp only at hs ⊢
      by_cases e : d = b
      · subst e; exact List.mem_cons_self ..
      · rw [if_neg (by omega)] at hs
        exact List.mem_cons_of_mem _ (H.live _ hd hs)
    · intro d hd hs
      rw [hstat] at hs
      split at hs
      · omega
      · exact H.rest _ hd hs
    · intro y hy
      have h1 := H.fre y hy
      have h3 := P.mem h1.1
      rw [hstat, if_neg (fun h => by
        have : y = b := by omega
        subst this
        have := h1.2
        have := hbl.2
        omega)]
      exact h1
    · rw [List.nodup_cons]
      exact ⟨hbL, H.nodup⟩
    · intro p h1 h2 h3 h4 h5
      rw [fold2_at P h1 h2, apply_two P.len P.lo P.hi h1 h2, if_neg (by omega), if_neg (by omega)]
    · rw [fold2_at P (by omega) (by omega), apply_two P.len P.lo P.hi (by omega) (by omega), if_neg (by omega), if_neg (by omega)]
      omega
theorem wp_free {y : Int} {k : Act α} (H : HX W T L fr) (hy : y ∈ L) (hS : S (y - 1)) (hr : r + 1 ≤ 96)
    (ok : ∀ W', HX W' T (L.erase y) (y :: fr) → (∀ p : Nat, 0 < p → p < T → (p : Int) + 1 ≠ y → wordAt W' p = wordAt W p) → wpA T S k W' (r + 1) (F ++ [y]) s Q) : wpA T S (freeAc T y k) W r F s Q := by
  obtain ⟨sts, bs, ls, H⟩ := H
  have P := H.P
  have hlo := P.lo
  have hhi := P.hi
  have ho := H.own y hy
  have hm := P.mem ho.1
  have hh := P.hdr _ ho.1
  dsimp only at hh
  rw [if_pos ho.2] at hh
  unfold freeAc
  rw [if_neg (by omega)]
  refine wp_read (by omega) (by omega) hS ?_
  rw [hh, headI_live (by omega)]
  dsimp only
  rw [if_neg (by omega), if_pos rfl]
  have P' := P.freed ho.1 ho.2
  have hstat : ∀ j, wordAt (sts.set y.toNat 2) j = if y.toNat = j then 2 else wordAt sts j := fun j => set_at sts _ j 2 (by have := P.slen; omega)
  have hwd : WdC [(y - 1, (1 : Int))] := .one1 ⟨by dsimp only; omega, by dsimp only; omega⟩
  have P2 := P'.congr (W' := [(y - 1, (1 : Int))].foldl putZ W) (by rw [foldZ_len]; exact P.len) (fold_nn P.nn hwd) (fun p h1 h2 => fold1_at P h1 h2)
  refine ⟨?_, by simpa using hr, ok _ ⟨_, _, _, P2, ?_, ?_, ?_, ?_, H.nodup.erase _, ?_, H.one⟩ ?_⟩
  · intro c hc
    rw [List.mem_singleton] at hc; subst hc
    exact ⟨by dsimp only; omega, by dsimp only; omega, hS⟩
  · intro z hz
    have hne : z ≠ y := fun h => by subst h; exact H.nodup.not_mem_erase hz
    have h1 := H.own z (List.mem_of_mem_erase hz)
    have h3 := P.mem h1.1
    rw [hstat, if_neg (by omega)]
    exact h1
  · intro d hd hs
    rw [hstat] at hs
    split at hs
    · omega
    · rename_i hne
      exact (List.mem_erase_of_ne (fun h => hne (by rw [h]))).2 (H.live _ hd hs)
  · intro d hd hs
    rw [hstat] at hs
    have h3 := P.mem (b := d.1) (c := d.2) hd
    split at hs
    · rename_i he
      have : d.1 = y := by omega
      rw [this]
      exact List.mem_cons_self ..
    · exact List.mem_cons_of_mem _ (H.rest _ hd hs)
  · intro z hz
    rw [hstat]
    rcases List.mem_cons.1 hz with rfl | hz
    · exact ⟨ho.1, by rw [if_pos rfl]⟩
    · have h1 := H.fre z hz
      have h3 := P.mem h1.1
      rw [if_neg (fun h => by
        have : z = y := by omega
        subst this
        have := h1.2
        have := ho.2
        omega)]
      exact h1
  · rw [List.nodup_cons]
    refine ⟨fun h => ?_, H.fnd⟩
    have := (H.fre y h).2
    have := ho.2
    omega
  · intro p h1 h2 h3
    rw [fold1_at P h1 h2, apply_one P.len P.lo P.hi h1 h2, if_neg (by omega)]
end Go.Proofs.Ythajhlachmgdoaa.arenaParts
