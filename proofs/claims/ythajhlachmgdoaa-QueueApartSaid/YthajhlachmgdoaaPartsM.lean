/- The blocks part the arena: the plain law of 'ArenaParts'. -/
import Derived.Test.YthajhlachmgdoaaArenaFull
import Derived.Test.YthajhlachmgdoaaArenaLs
namespace Go.Proofs.Ythajhlachmgdoaa.arenaParts
open Go Go.Ae arenaPlays
set_option maxRecDepth 100000

abbrev Bk : Type := Int × Int
/-- blocks side by side from a to e -/
def Tile (e : Int) : Int → List Bk → Prop
  | a, [] => a = e
  | a, b :: bs => b.1 = a + 1 ∧ (1 ≤ b.2 ∧ b.2 ≤ 4) ∧ Tile e (a + 1 + sizeA b.2) bs
theorem Tile.le {e : Int} : ∀ {bs : List Bk} {a : Int}, Tile e a bs → a + 3 * (bs.length : Int) ≤ e := by
  intro bs
  induction bs with
  | nil => intro a h; have h : a = e := h; subst h; simp
  | cons b bs ih =>
    intro a h
    obtain ⟨h1, h2, h3⟩ := h
    have := ih h3
    have := sizeA_pos h2
    simp
    omega
theorem Tile.mem {e : Int} : ∀ {bs : List Bk} {a : Int}, Tile e a bs → ∀ b ∈ bs, a + 1 ≤ b.1 ∧ (1 ≤ b.2 ∧ b.2 ≤ 4) ∧ b.1 + sizeA b.2 ≤ e := by
  intro bs
  induction bs with
  | nil => intro a _ b hb; cases hb
  | cons b bs ih =>
    intro a h x hx
    obtain ⟨h1, h2, h3⟩ := h
    have h4 := h3.le
    have h5 := sizeA_pos h2
    rcases List.mem_cons.1 hx with rfl | hx
    · exact ⟨by omega, h2, by omega⟩
    · have := ih h3 x hx
      exact ⟨by omega, this.2⟩
theorem Tile.far {e : Int} : ∀ {bs : List Bk} {a : Int}, Tile e a bs → ∀ b ∈ bs, ∀ b' ∈ bs, b = b' ∨ b.1 + 3 ≤ b'.1 ∨ b'.1 + 3 ≤ b.1 := by
  intro bs
  induction bs with
  | nil => intro a _ b hb; cases hb
  | cons b bs ih =>
    intro a h x hx y hy
    obtain ⟨h1, h2, h3⟩ := h
    have h5 := sizeA_pos h2
    rcases List.mem_cons.1 hx with rfl | hx
    · rcases List.mem_cons.1 hy with rfl | hy
      · exact .inl rfl
      · have := h3.mem y hy
        exact .inr (.inl (by omega))
    · skip
      rcases List.mem_cons.1 hy with rfl | hy
      · have := h3.mem x (by assumption)
        exact .inr (.inr (by omega))
      · exact ih h3 x (by assumption) y hy
theorem Tile.snoc {e c : Int} (hc : 1 ≤ c ∧ c ≤ 4) : ∀ {bs : List Bk} {a : Int}, Tile e a bs → Tile (e + 1 + sizeA c) a (bs ++ [(e + 1, c)]) := by
  intro bs
  induction bs with
  | nil => intro a h; have h : a = e := h; subst h; exact ⟨rfl, hc, rfl⟩
  | cons b bs ih => intro a h; exact ⟨h.1, h.2.1, ih h.2.2⟩
theorem Tile.nodup {e : Int} : ∀ {bs : List Bk} {a : Int}, Tile e a bs → (bs.map (·.1)).Nodup := by
  intro bs
  induction bs with
  | nil => intro a _; exact List.nodup_nil
  | cons b bs ih =>
    intro a h
    obtain ⟨h1, h2, h3⟩ := h
    rw [List.map_cons, List.nodup_cons]
    refine ⟨?_, ih h3⟩
    intro hm
    obtain ⟨x, hx, he⟩ := List.mem_map.1 hm
    have := h3.mem x hx
    have := sizeA_pos h2
    omega

/-- from word to word -/
def Chain (zs : List Int) : Int → List Int → Prop
  | w, [] => w = 0
  | w, x :: l => w = x ∧ Chain zs (wordAt zs x.toNat) l
theorem Chain.keep {zs zt : List Int} : ∀ {l : List Int} {w : Int}, Chain zs w l → (∀ x ∈ l, wordAt zt x.toNat = wordAt zs x.toNat) → Chain zt w l := by
  intro l
  induction l with
  | nil => intro w h _; exact h
  | cons x l ih =>
    intro w h hk
    refine ⟨h.1, ?_⟩
    rw [hk x (List.mem_cons_self ..)]
    exact ih h.2 fun y hy => hk y (List.mem_cons_of_mem _ hy)

/-- the words say what the states are -/
structure PartS (dt : Prop) (zs sts : List Int) (T : Nat) (bs : List Bk) (ls : Int → List Int) : Prop where
  len : zs.length = T
  lo : 32 ≤ T
  hi : T ≤ 256
  nn : ∀ z ∈ zs, 0 ≤ z ∧ z < 18446744073709551616
  slen : sts.length = 257
  tile : Tile (wordAt zs 5) 14 bs
  bump : wordAt zs 5 ≤ T
  hdr : ∀ b ∈ bs, wordAt zs (b.1 - 1).toNat = b.2 + (if wordAt sts b.1.toNat = 1 then 8 else 0)
  known : ∀ x : Nat, wordAt sts x ≠ 0 → ∃ c, ((x : Int), c) ∈ bs
  st : ∀ b ∈ bs, 1 ≤ wordAt sts b.1.toNat ∧ wordAt sts b.1.toNat ≤ 3
  data : dt → ∀ p : Nat, 14 ≤ p → p < T → (∀ c, ((p : Int) + 1, c) ∉ bs) → wordAt zs p = 0 ∨ 13 ≤ wordAt zs p
  chain : ∀ c : Int, 1 ≤ c → c ≤ 4 → Chain zs (wordAt zs c.toNat) (ls c)
  listed : ∀ c : Int, 1 ≤ c → c ≤ 4 → ∀ x, x ∈ ls c ↔ (x, c) ∈ bs ∧ wordAt sts x.toNat = 3
  nodup : ∀ c : Int, (ls c).Nodup
def PS (zs sts : List Int) (T : Nat) : Prop := ∃ bs ls, PartS True zs sts T bs ls

theorem set_at (l : List Int) (i j : Nat) (v : Int) (hi : i < l.length) : wordAt (l.set i v) j = if i = j then v else wordAt l j := by
  unfold wordAt
  rw [List.getElem?_set]
  by_cases h : i = j
  · rw [if_pos h, if_pos h, if_pos hi]; rfl
  · rw [if_neg h, if_neg h]
theorem fold_at (cs : List Cl) (p : Nat) (hp : 0 < p) : ∀ (l : List Int), p < l.length → wordAt (cs.foldl putZ l) p = cs.foldl (fun w c => if c.1 = (p : Int) then c.2 else w) (wordAt l p) := by
  induction cs with
  | nil => intro l _; rfl
  | cons c cs ih =>
    intro l hl
    rw [List.foldl_cons, List.foldl_cons, ih _ (by rw [putZ_len]; exact hl), putZ_at]
    congr 1
    by_cases h : c.1 = (p : Int)
    · rw [if_pos h, if_pos ⟨h, by omega, by omega⟩]
    · rw [if_neg h, if_neg (fun h' => h h'.1)]
theorem apply_at {zs : List Int} {T : Nat} (h1 : zs.length = T) (h2 : 32 ≤ T) (h3 : T ≤ 256) (cs : List Cl) {p : Nat} (hp : 0 < p) (hT : p < T) :
    wordAt (applyZ zs cs) p = cs.foldl (fun w c => if c.1 = (p : Int) then c.2 else w) (wordAt zs p) := by
  have hl : szZ zs.length = T := by rw [h1]; exact szZ_id h2 h3
  unfold applyZ
  rw [fold_at cs p hp _ (by rw [baseZ_len, hl]; exact hT), base_at zs hp (by omega)]
theorem apply_none {zs : List Int} {T : Nat} (h1 : zs.length = T) (h2 : 32 ≤ T) (h3 : T ≤ 256) {p : Nat} (hp : 0 < p) (hT : p < T) : wordAt (applyZ zs []) p = wordAt zs p := apply_at h1 h2 h3 [] hp hT
theorem apply_one {zs : List Int} {T : Nat} (h1 : zs.length = T) (h2 : 32 ≤ T) (h3 : T ≤ 256) {a x : Int} {p : Nat} (hp : 0 < p) (hT : p < T) :
    wordAt (applyZ zs [(a, x)]) p = if a = (p : Int) then x else wordAt zs p := apply_at h1 h2 h3 [(a, x)] hp hT
theorem apply_two {zs : List Int} {T : Nat} (h1 : zs.length = T) (h2 : 32 ≤ T) (h3 : T ≤ 256) {a x b y : Int} {p : Nat} (hp : 0 < p) (hT : p < T) :
    wordAt (applyZ zs [(a, x), (b, y)]) p = if b = (p : Int) then y else if a = (p : Int) then x else wordAt zs p := apply_at h1 h2 h3 [(a, x), (b, y)] hp hT

variable {dt : Prop} {zs sts : List Int} {T : Nat} {bs : List Bk} {ls : Int → List Int}

theorem PartS.mem (P : PartS dt zs sts T bs ls) {b c : Int} (h : (b, c) ∈ bs) : 15 ≤ b ∧ b + 2 ≤ T ∧ 1 ≤ c ∧ c ≤ 4 := by
  have h1 := P.tile.mem _ h
  have h2 := P.bump
  dsimp only at h1
  have := sizeA_pos h1.2.1
  exact ⟨by omega, by omega, h1.2.1⟩
theorem PartS.uniq (P : PartS dt zs sts T bs ls) {b c c' : Int} (h : (b, c) ∈ bs) (h' : (b, c') ∈ bs) : c = c' := by
  rcases P.tile.far _ h _ h' with h | h | h
  · cases h; rfl
  · dsimp only at h; omega
  · dsimp only at h; omega
theorem PartS.apart (P : PartS dt zs sts T bs ls) {b c b' c' : Int} (h : (b, c) ∈ bs) (h' : (b', c') ∈ bs) : b = b' ∨ b + 3 ≤ b' ∨ b' + 3 ≤ b := by
  rcases P.tile.far _ h _ h' with h | h | h
  · cases h; exact .inl rfl
  · exact .inr (.inl h)
  · exact .inr (.inr h)
theorem PartS.low (P : PartS dt zs sts T bs ls) : 14 ≤ wordAt zs 5 := by have := P.tile.le; omega
theorem PartS.head (P : PartS dt zs sts T bs ls) {c : Int} (h1 : 1 ≤ c) (h2 : c ≤ 4) : wordAt zs c.toNat = 0 ∨ ((wordAt zs c.toNat, c) ∈ bs ∧ wordAt sts (wordAt zs c.toNat).toNat = 3) := by
  have hc := P.chain c h1 h2
  have hl := P.listed c h1 h2
  cases h : ls c with
  | nil => rw [h] at hc; exact .inl hc
  | cons x l =>
    rw [h] at hc hl
    have he : wordAt zs c.toNat = x := hc.1
    rw [he]
    exact .inr ((hl x).1 (List.mem_cons_self ..))

theorem PartS.same (P : PartS dt zs sts T bs ls) : PartS dt (applyZ zs []) sts T bs ls := by
  have hlo := P.lo
  have hl : szZ zs.length = T := by rw [P.len]; exact szZ_id P.lo P.hi
  have hat : ∀ p : Nat, 0 < p → p < T → wordAt (applyZ zs []) p = wordAt zs p := fun p h0 hp => apply_none P.len P.lo P.hi h0 hp
  have h5 := hat 5 (by omega) (by omega)
  refine ⟨by rw [applyZ_len, hl], P.lo, P.hi, applyZ_nn P.nn (fun c hc => by cases hc), P.slen, by rw [h5]; exact P.tile, by rw [h5]; exact P.bump, ?_, P.known, P.st, ?_, ?_, P.listed, P.nodup⟩
  · rintro ⟨b, c⟩ hb
    have := P.mem hb
    rw [hat _ (by dsimp only; omega) (by dsimp only; omega)]
    exact P.hdr _ hb
  · intro hd p h1 h2 h3
    rw [hat _ (by omega) h2]
    exact P.data hd p h1 h2 h3
  · intro c h1 h2
    rw [hat _ (by omega) (by omega)]
    refine (P.chain c h1 h2).keep fun x hx => ?_
    have hm := P.mem ((P.listed c h1 h2 x).1 hx).1
    exact hat _ (by omega) (by omega)

/-- a live block is freed -/
theorem PartS.freed (P : PartS dt zs sts T bs ls) {b c : Int} (hb : (b, c) ∈ bs) (hs : wordAt sts b.toNat = 1) : PartS dt (applyZ zs [(b - 1, c)]) (sts.set b.toNat 2) T bs ls := by
  have hm := P.mem hb
  have hlo := P.lo
  have hhi := P.hi
  have hsl := P.slen
  have hl : szZ zs.length = T := by rw [P.len]; exact szZ_id P.lo P.hi
  have hat : ∀ p : Nat, 0 < p → p < T → wordAt (applyZ zs [(b - 1, c)]) p = if b - 1 = (p : Int) then c else wordAt zs p := fun p h0 hp => apply_one P.len P.lo P.hi h0 hp
  have hst : ∀ j, wordAt (sts.set b.toNat 2) j = if b.toNat = j then 2 else wordAt sts j := fun j => set_at sts _ j 2 (by omega)
  have h5 : wordAt (applyZ zs [(b - 1, c)]) 5 = wordAt zs 5 := by rw [hat 5 (by omega) (by omega), if_neg (by omega)]
  refine ⟨by rw [applyZ_len, hl], P.lo, P.hi, applyZ_nn P.nn (fun d hd => by rw [List.mem_singleton] at hd; subst hd; dsimp only; omega), by rw [List.length_set]; exact P.slen, by rw [h5]; exact P.tile, by rw [h5]; exact P.bump, ?_, ?_, ?_, ?_, ?_, ?_, P.nodup⟩
  · rintro ⟨b', c'⟩ hb'
    have hm' := P.mem hb'
    have hf := P.apart hb hb'
    have hh := P.hdr _ hb'
    dsimp only at hh ⊢
    rw [hat _ (by omega) (by omega), hst]
    by_cases e : b = b'
    · subst e
      have := P.uniq hb hb'
      subst this
      rw [if_pos (by omega), if_pos rfl, if_neg (by omega)]; omega
    · rw [if_neg (by omega), if_neg (show ¬ b.toNat = b'.toNat by omega)]; exact hh
  · intro x hx
    rw [hst] at hx
    by_cases e : b.toNat = x
    · exact ⟨c, by rw [show (x : Int) = b by omega]; exact hb⟩
    · rw [if_neg e] at hx; exact P.known x hx
  · rintro ⟨b', c'⟩ hb'
    have := P.st _ hb'
    rw [hst]
    dsimp only at this ⊢
    split <;> omega
  · intro hd p h1 h2 h3
    rw [hat _ (by omega) h2, if_neg (fun e => h3 c (by rw [show (p : Int) + 1 = b by omega]; exact hb))]
    exact P.data hd p h1 h2 h3
  · intro c' h1 h2
    rw [hat _ (by omega) (by omega), if_neg (by omega)]
    refine (P.chain c' h1 h2).keep fun x hx => ?_
    have hx := ((P.listed c' h1 h2 x).1 hx).1
    have hm' := P.mem hx
    have hf := P.apart hb hx
    rw [hat _ (by omega) (by omega), if_neg (by omega)]
  · intro c' h1 h2 x
    rw [P.listed c' h1 h2 x, hst]
    constructor
    · rintro ⟨h3, h4⟩
      have := P.mem h3
      rw [if_neg (fun e => by rw [e] at hs; omega)]
      exact ⟨h3, h4⟩
    · rintro ⟨h3, h4⟩
      split at h4
      · omega
      · exact ⟨h3, h4⟩

/-- a freed block is given back -/
theorem PartS.given (P : PartS dt zs sts T bs ls) {b c : Int} (hb : (b, c) ∈ bs) (hs : wordAt sts b.toNat = 2) :
    PartS dt (applyZ zs [(b, wordAt zs c.toNat), (c, b)]) (sts.set b.toNat 3) T bs (fun d => if d = c then b :: ls c else ls d) := by
  have hm := P.mem hb
  have hlo := P.lo
  have hhi := P.hi
  have hsl := P.slen
  have hl : szZ zs.length = T := by rw [P.len]; exact szZ_id P.lo P.hi
  have hat : ∀ p : Nat, 0 < p → p < T → wordAt (applyZ zs [(b, wordAt zs c.toNat), (c, b)]) p = if c = (p : Int) then b else if b = (p : Int) then wordAt zs c.toNat else wordAt zs p := fun p h0 hp => apply_two P.len P.lo P.hi h0 hp
  have hst : ∀ j, wordAt (sts.set b.toNat 3) j = if b.toNat = j then 3 else wordAt sts j := fun j => set_at sts _ j 3 (by omega)
  have hwc := P.head hm.2.2.1 hm.2.2.2
  have hwb := wordAt_b P.nn c.toNat
  have hch := P.chain c hm.2.2.1 hm.2.2.2
  generalize hw : wordAt zs c.toNat = w at *
  have hw0 : w = 0 ∨ 15 ≤ w := by
    rcases hwc with h | h
    · exact .inl h
    · exact .inr (P.mem h.1).1
  have h5 : wordAt (applyZ zs [(b, w), (c, b)]) 5 = wordAt zs 5 := by rw [hat 5 (by omega) (by omega), if_neg (by omega), if_neg (by omega)]
  have hnb : ∀ {c' x : Int}, 1 ≤ c' → c' ≤ 4 → x ∈ ls c' → x ≠ b ∧ (x, c') ∈ bs ∧ 15 ≤ x ∧ x + 2 ≤ T := by
    intro c' x h1 h2 hx
    have h3 := (P.listed c' h1 h2 x).1 hx
    have h4 := P.mem h3.1
    refine ⟨?_, h3.1, h4.1, h4.2.1⟩
    rintro rfl
    omega
  refine ⟨by rw [applyZ_len, hl], P.lo, P.hi, applyZ_nn P.nn (fun d hd => by
    rcases List.mem_cons.1 hd with rfl | hd
    · exact hwb
    · rw [List.mem_singleton] at hd; subst hd; dsimp only; omega), by rw [List.length_set]; exact P.slen, by rw [h5]; exact P.tile, by rw [h5]; exact P.bump, ?_, ?_, ?_, ?_, ?_, ?_, ?_⟩
  · rintro ⟨b', c'⟩ hb'
    have hm' := P.mem hb'
    have hf := P.apart hb hb'
    have hh := P.hdr _ hb'
    dsimp only at hh ⊢
    rw [hat _ (by omega) (by omega), hst, if_neg (by omega), if_neg (by omega), hh]
    by_cases e : b = b'
    · subst e
      rw [hs, if_neg (by omega), if_pos rfl, if_neg (by omega)]
    · rw [if_neg (show ¬ b.toNat = b'.toNat by omega)]
  · intro x hx
    rw [hst] at hx
    by_cases e : b.toNat = x
    · exact ⟨c, by rw [show (x : Int) = b by omega]; exact hb⟩
    · rw [if_neg e] at hx; exact P.known x hx
  · rintro ⟨b', c'⟩ hb'
    have := P.st _ hb'
    rw [hst]
    dsimp only at this ⊢
    split <;> omega
  · intro hd p h1 h2 h3
    rw [hat _ (by omega) h2, if_neg (by omega)]
    split
    · omega
    · exact P.data hd p h1 h2 h3
  · intro c' h1 h2
    have key : ∀ x ∈ ls c', wordAt (applyZ zs [(b, w), (c, b)]) x.toNat = wordAt zs x.toNat := by
      intro x hx
      have h3 := hnb h1 h2 hx
      rw [hat _ (by omega) (by omega), if_neg (by omega), if_neg (by omega)]
    rw [hat _ (by omega) (by omega)]
    by_cases e : c' = c
    · subst e
      rw [if_pos (by omega), if_pos rfl]
      refine ⟨rfl, ?_⟩
      rw [hat _ (by omega) (by omega), if_neg (by omega), if_pos (by omega)]
      exact hch.keep key
    · rw [if_neg (by omega), if_neg (by omega), if_neg e]
      exact (P.chain c' h1 h2).keep key
  · intro c' h1 h2 x
    rw [hst]
    by_cases e : c' = c
    · subst e
      rw [if_pos rfl, List.mem_cons, P.listed c' h1 h2 x]
      constructor
      · rintro (rfl | ⟨h3, h4⟩)
        · exact ⟨hb, by rw [if_pos rfl]⟩
        · refine ⟨h3, ?_⟩
          split
          · rfl
          · exact h4
      · rintro ⟨h3, h4⟩
        have := P.mem h3
        by_cases e2 : x = b
        · exact .inl e2
        · rw [if_neg (by omega)] at h4
          exact .inr ⟨h3, h4⟩
    · rw [if_neg e, P.listed c' h1 h2 x]
      constructor
      · rintro ⟨h3, h4⟩
        refine ⟨h3, ?_⟩
        split
        · rfl
        · exact h4
      · rintro ⟨h3, h4⟩
        have := P.mem h3
        by_cases e2 : x = b
        · subst e2
          exact absurd (P.uniq h3 hb) e
        · rw [if_neg (by omega)] at h4
          exact ⟨h3, h4⟩
  · intro c'
    try dsimp only
    split
    · rw [List.nodup_cons]
      refine ⟨fun h => (hnb hm.2.2.1 hm.2.2.2 h).1 rfl, P.nodup c⟩
    · exact P.nodup c'

/-- a block of a list is told again -/
theorem PartS.again (P : PartS dt zs sts T bs ls) {b c : Int} {l : List Int} (hc : 1 ≤ c ∧ c ≤ 4) (hl0 : ls c = b :: l) :
    PartS dt (applyZ zs [(c, wordAt zs b.toNat), (b - 1, c + 8)]) (sts.set b.toNat 1) T bs (fun d => if d = c then l else ls d) := by
  have hbl := (P.listed c hc.1 hc.2 b).1 (by rw [hl0]; exact List.mem_cons_self ..)
  have hb := hbl.1
  have hs := hbl.2
  have hm := P.mem hb
  have hlo := P.lo
  have hhi := P.hi
  have hsl := P.slen
  have hl : szZ zs.length = T := by rw [P.len]; exact szZ_id P.lo P.hi
  have hat : ∀ p : Nat, 0 < p → p < T → wordAt (applyZ zs [(c, wordAt zs b.toNat), (b - 1, c + 8)]) p = if b - 1 = (p : Int) then c + 8 else if c = (p : Int) then wordAt zs b.toNat else wordAt zs p := fun p h0 hp => apply_two P.len P.lo P.hi h0 hp
  have hst : ∀ j, wordAt (sts.set b.toNat 1) j = if b.toNat = j then 1 else wordAt sts j := fun j => set_at sts _ j 1 (by omega)
  have hwb := wordAt_b P.nn b.toNat
  have hch := P.chain c hc.1 hc.2
  rw [hl0] at hch
  have hch2 : Chain zs (wordAt zs b.toNat) l := hch.2
  have hnd := P.nodup c
  rw [hl0, List.nodup_cons] at hnd
  generalize hw : wordAt zs b.toNat = w at *
  have h5 : wordAt (applyZ zs [(c, w), (b - 1, c + 8)]) 5 = wordAt zs 5 := by rw [hat 5 (by omega) (by omega), if_neg (by omega), if_neg (by omega)]
  refine ⟨by rw [applyZ_len, hl], P.lo, P.hi, applyZ_nn P.nn (fun d hd => by
    rcases List.mem_cons.1 hd with rfl | hd
    · exact hwb
    · rw [List.mem_singleton] at hd; subst hd; dsimp only; omega), by rw [List.length_set]; exact P.slen, by rw [h5]; exact P.tile, by rw [h5]; exact P.bump, ?_, ?_, ?_, ?_, ?_, ?_, ?_⟩
  · rintro ⟨b', c'⟩ hb'
    have hm' := P.mem hb'
    have hf := P.apart hb hb'
    have hh := P.hdr _ hb'
    dsimp only at hh ⊢
    rw [hat _ (by omega) (by omega), hst]
    by_cases e : b = b'
    · subst e
      have := P.uniq hb hb'
      subst this
      rw [if_pos (by omega), if_pos rfl, if_pos rfl]
    · rw [if_neg (by omega), if_neg (by omega), if_neg (show ¬ b.toNat = b'.toNat by omega)]; exact hh
  · intro x hx
    rw [hst] at hx
    by_cases e : b.toNat = x
    · exact ⟨c, by rw [show (x : Int) = b by omega]; exact hb⟩
    · rw [if_neg e] at hx; exact P.known x hx
  · rintro ⟨b', c'⟩ hb'
    have := P.st _ hb'
    rw [hst]
    dsimp only at this ⊢
    split <;> omega
  · intro hd p h1 h2 h3
    rw [hat _ (by omega) h2, if_neg (fun e => h3 c (by rw [show (p : Int) + 1 = b by omega]; exact hb)), if_neg (by omega)]
    exact P.data hd p h1 h2 h3
  · intro c' h1 h2
    have key : ∀ x ∈ ls c', wordAt (applyZ zs [(c, w), (b - 1, c + 8)]) x.toNat = wordAt zs x.toNat := by
      intro x hx
      have hx := ((P.listed c' h1 h2 x).1 hx).1
      have hm' := P.mem hx
      have hf := P.apart hb hx
      rw [hat _ (by omega) (by omega), if_neg (by omega), if_neg (by omega)]
    rw [hat _ (by omega) (by omega), if_neg (by omega)]
    by_cases e : c' = c
    · subst e
      rw [if_pos (by omega), if_pos rfl]
      exact hch2.keep fun x hx => key x (by rw [hl0]; exact List.mem_cons_of_mem _ hx)
    · rw [if_neg (by omega), if_neg e]
      exact (P.chain c' h1 h2).keep key
  · intro c' h1 h2 x
    rw [hst]
    by_cases e : c' = c
    · subst e
      rw [if_pos rfl]
      have hx := P.listed c' h1 h2 x
      rw [hl0, List.mem_cons] at hx
      constructor
      · intro h3
        have h4 := hx.1 (.inr h3)
        have := P.mem h4.1
        refine ⟨h4.1, ?_⟩
        rw [if_neg]
        · exact h4.2
        · intro e2
          have : b = x := by omega
          subst this
          exact hnd.1 h3
      · rintro ⟨h3, h4⟩
        split at h4
        · omega
        · rename_i hne
          rcases hx.2 ⟨h3, h4⟩ with rfl | h
          · exact absurd rfl hne
          · exact h
    · rw [if_neg e, P.listed c' h1 h2 x]
      constructor
      · rintro ⟨h3, h4⟩
        have := P.mem h3
        refine ⟨h3, ?_⟩
        rw [if_neg]
        · exact h4
        · intro e2
          have : b = x := by omega
          subst this
          exact absurd (P.uniq h3 hb) e
      · rintro ⟨h3, h4⟩
        split at h4
        · omega
        · exact ⟨h3, h4⟩
  · intro c'
    try dsimp only
    split
    · exact hnd.2
    · exact P.nodup c'

/-- a block more -/
theorem PartS.grown (P : PartS dt zs sts T bs ls) {c e : Int} (hc : 1 ≤ c ∧ c ≤ 4) (he : wordAt zs 5 = e) (hT : e + 1 + sizeA c ≤ T) :
    PartS dt (applyZ zs [(5, e + 1 + sizeA c), (e, c + 8)]) (sts.set (e + 1).toNat 1) T (bs ++ [(e + 1, c)]) ls := by
  have hlo := P.lo
  have hhi := P.hi
  have hsl := P.slen
  have he14 := P.low
  rw [he] at he14
  have hs := sizeA_pos hc
  have hl : szZ zs.length = T := by rw [P.len]; exact szZ_id P.lo P.hi
  have hat : ∀ p : Nat, 0 < p → p < T → wordAt (applyZ zs [(5, e + 1 + sizeA c), (e, c + 8)]) p = if e = (p : Int) then c + 8 else if 5 = (p : Int) then e + 1 + sizeA c else wordAt zs p := fun p h0 hp => apply_two P.len P.lo P.hi h0 hp
  have hst : ∀ j, wordAt (sts.set (e + 1).toNat 1) j = if (e + 1).toNat = j then 1 else wordAt sts j := fun j => set_at sts _ j 1 (by omega)
  have h5 : wordAt (applyZ zs [(5, e + 1 + sizeA c), (e, c + 8)]) 5 = e + 1 + sizeA c := by rw [hat 5 (by omega) (by omega), if_neg (by omega), if_pos (by omega)]
  have hme : ∀ {b c' : Int}, (b, c') ∈ bs → 15 ≤ b ∧ b + 2 ≤ e ∧ 1 ≤ c' ∧ c' ≤ 4 := by
    intro b c' h
    have h1 := P.tile.mem _ h
    rw [he] at h1
    dsimp only at h1
    have := sizeA_pos h1.2.1
    exact ⟨by omega, by omega, h1.2.1⟩
  refine ⟨by rw [applyZ_len, hl], P.lo, P.hi, applyZ_nn P.nn (fun d hd => by
    rcases List.mem_cons.1 hd with rfl | hd
    · dsimp only; omega
    · rw [List.mem_singleton] at hd; subst hd; dsimp only; omega), by rw [List.length_set]; exact P.slen, by rw [h5]; exact Tile.snoc hc (he ▸ P.tile), by rw [h5]; exact hT, ?_, ?_, ?_, ?_, ?_, ?_, P.nodup⟩
  · rintro ⟨b', c'⟩ hb'
    rcases List.mem_append.1 hb' with hb' | hb'
    · have hm' := hme hb'
      have hh := P.hdr _ hb'
      dsimp only at hh ⊢
      rw [hat _ (by omega) (by omega), hst, if_neg (by omega), if_neg (by omega), if_neg (show ¬ (e + 1).toNat = b'.toNat by omega)]; exact hh
    · rw [List.mem_singleton] at hb'
      cases hb'
      dsimp only
      rw [hat _ (by omega) (by omega), hst, if_pos (by omega), if_pos rfl, if_pos rfl]
  · intro x hx
    rw [hst] at hx
    by_cases e2 : (e + 1).toNat = x
    · exact ⟨c, List.mem_append.2 (.inr (by rw [show (x : Int) = e + 1 by omega]; exact List.mem_singleton.2 rfl))⟩
    · rw [if_neg e2] at hx
      obtain ⟨d, hd⟩ := P.known x hx
      exact ⟨d, List.mem_append.2 (.inl hd)⟩
  · rintro ⟨b', c'⟩ hb'
    rw [hst]
    rcases List.mem_append.1 hb' with hb' | hb'
    · have := P.st _ hb'
      dsimp only at this ⊢
      split <;> omega
    · rw [List.mem_singleton] at hb'
      cases hb'
      dsimp only
      rw [if_pos rfl]; omega
  · intro hd p h1 h2 h3
    rw [hat _ (by omega) h2, if_neg (fun e2 => h3 c (List.mem_append.2 (.inr (by rw [show (p : Int) + 1 = e + 1 by omega]; exact List.mem_singleton.2 rfl)))), if_neg (by omega)]
    exact P.data hd p h1 h2 fun d hd => h3 d (List.mem_append.2 (.inl hd))
  · intro c' h1 h2
    rw [hat _ (by omega) (by omega), if_neg (by omega), if_neg (by omega)]
    refine (P.chain c' h1 h2).keep fun x hx => ?_
    have hm' := hme ((P.listed c' h1 h2 x).1 hx).1
    rw [hat _ (by omega) (by omega), if_neg (by omega), if_neg (by omega)]
  · intro c' h1 h2 x
    rw [P.listed c' h1 h2 x, hst, List.mem_append, List.mem_singleton]
    constructor
    · rintro ⟨h3, h4⟩
      have := hme h3
      rw [if_neg (by omega)]
      exact ⟨.inl h3, h4⟩
    · rintro ⟨h3 | h3, h4⟩
      · have := hme h3
        rw [if_neg (by omega)] at h4
        exact ⟨h3, h4⟩
      · cases h3
        rw [if_pos rfl] at h4
        omega

/-! ### what is done with a heap -/
theorem headI_free {c : Int} (hc : 1 ≤ c ∧ c ≤ 4) : headA c = (c, false) := by unfold headA; rw [if_pos hc]
theorem headI_live {c : Int} (hc : 1 ≤ c ∧ c ≤ 4) : headA (c + 8) = (c, true) := by
  unfold headA
  rw [if_neg (by omega), if_pos (by omega), show c + 8 - 8 = c by omega]
theorem headI_none {w : Int} (h : w = 0 ∨ 13 ≤ w) : headA w = (0, false) := by
  unfold headA
  rw [if_neg (by omega), if_neg (by omega)]
theorem PartS.szz (P : PartS dt zs sts T bs ls) : szZ zs.length = T := by rw [P.len]; exact szZ_id P.lo P.hi
theorem PartS.ask_blk (P : PartS dt zs sts T bs ls) {m b c : Int} (hb : (b, c) ∈ bs) : askV (oneV zs m [] []) b = ((c, decide (wordAt sts b.toNat = 1), 0), oneV zs m [] []) := by
  have hm := P.mem hb
  have hl := P.szz
  have hh := P.hdr _ hb
  dsimp only at hh
  have ha := one_ask (zs := zs) (m := m) (C := []) (F := []) (p := (b - 1).toNat) (w := wordAt zs (b - 1).toNat) (by omega) (by omega) rfl
  rw [show (((b - 1).toNat : Nat) : Int) + 1 = b by omega, hh] at ha
  rw [ha]
  by_cases h1 : wordAt sts b.toNat = 1
  · rw [if_pos h1, headI_live hm.2.2, if_neg (by dsimp only; omega), decide_eq_true h1]
  · rw [if_neg h1, Int.add_zero, headI_free hm.2.2, if_neg (by dsimp only; omega), decide_eq_false h1]
theorem PartS.ask_no (P : PartS True zs sts T bs ls) {m b : Int} (hb : ∀ c, (b, c) ∉ bs) : askV (oneV zs m [] []) b = ((0, false, 2), oneV zs m [] []) := by
  have hl := P.szz
  by_cases hr : b ≤ 14 ∨ (T : Int) ≤ b
  · unfold askV
    rw [if_pos (by show b ≤ 14 ∨ ((szZ zs.length : Nat) : Int) ≤ b; rw [hl]; exact hr)]
  · have hd := P.data trivial (b - 1).toNat (by omega) (by omega) (fun c hc => hb c (by rw [show (((b - 1).toNat : Nat) : Int) + 1 = b by omega] at hc; exact hc))
    have ha := one_ask (zs := zs) (m := m) (C := []) (F := []) (p := (b - 1).toNat) (w := wordAt zs (b - 1).toNat) (by omega) (by omega) rfl
    rw [show (((b - 1).toNat : Nat) : Int) + 1 = b by omega, headI_none hd, if_pos rfl] at ha
    exact ha
theorem PartS.st_no (P : PartS dt zs sts T bs ls) {b : Int} (h0 : 0 ≤ b) (hb : ∀ c, (b, c) ∉ bs) : wordAt sts b.toNat = 0 := by
  by_cases h : wordAt sts b.toNat = 0
  · exact h
  · obtain ⟨c, hc⟩ := P.known _ h
    rw [show ((b.toNat : Nat) : Int) = b by omega] at hc
    exact absurd hc (hb c)

theorem most_le {n : Nat} (h : n ≤ 9) : n ≤ (max 0 (min (96 : Int) 96)).toNat := by omega
theorem in_one {T : Nat} {a x : Int} (h : 1 ≤ a ∧ a < (T : Int)) : ∀ d ∈ [((a, x) : Cl)], 1 ≤ d.1 ∧ d.1 < (T : Int) := by
  intro d hd; rw [List.mem_singleton] at hd; subst hd; exact h
theorem in_two {T : Nat} {a x b y : Int} (h : 1 ≤ a ∧ a < (T : Int)) (h' : 1 ≤ b ∧ b < (T : Int)) : ∀ d ∈ [((a, x) : Cl), (b, y)], 1 ≤ d.1 ∧ d.1 < (T : Int) := by
  intro d hd
  rcases List.mem_cons.1 hd with rfl | hd
  · exact h
  · rw [List.mem_singleton] at hd; subst hd; exact h'
theorem put_two {a x b y : Int} (h : a ≠ b) : putsC [] [(a, x), (b, y)] = [(a, x), (b, y)] := by
  show putC b y [(a, x)] = _
  unfold putC
  rw [if_neg (by dsimp only; omega)]; rfl

theorem free_step (P : PartS True zs sts T bs ls) {b : Int} (h0 : 0 ≤ b) : ∃ cs : List Cl, cs.length ≤ 2 ∧ mergeL (freeA (wholeV zs 96) b).2.lv = cs ∧
    ((freeA (wholeV zs 96) b).1 = 0 ∧ wordAt sts b.toNat = 1 ∧ PS (applyZ zs cs) (sts.set b.toNat 2) T ∨ (freeA (wholeV zs 96) b).1 = 2 ∧ wordAt sts b.toNat ≠ 1 ∧ PS (applyZ zs cs) sts T) := by
  have hl := P.szz
  rw [wholeV_one]
  by_cases hb : ∃ c, (b, c) ∈ bs
  · obtain ⟨c, hb⟩ := hb
    have hm := P.mem hb
    have ha := P.ask_blk (m := 96) hb
    have ht := one_take (zs := zs) (m := 96) (C := []) (F := []) (cs := [(b - 1, c)]) (by rw [hl]; exact in_one (by omega)) (most_le (by simp))
    by_cases hs : wordAt sts b.toNat = 1
    · have e : freeA (oneV zs 96 [] []) b = (0, oneV zs 96 [(b - 1, c)] [b]) := by
        unfold freeA
        simp only [ha, hs, decide_true, if_true, ht]; rfl
      rw [e]
      exact ⟨[(b - 1, c)], by simp, rfl, .inl ⟨rfl, hs, bs, ls, P.freed hb hs⟩⟩
    · have e : freeA (oneV zs 96 [] []) b = (2, oneV zs 96 [] []) := by
        unfold freeA
        simp only [ha, hs, decide_false, if_true, Bool.false_eq_true, if_false]
      rw [e]
      exact ⟨[], by simp, rfl, .inr ⟨rfl, hs, bs, ls, P.same⟩⟩
  · have hb : ∀ c, (b, c) ∉ bs := fun c hc => hb ⟨c, hc⟩
    have ha := P.ask_no (m := 96) hb
    have e : freeA (oneV zs 96 [] []) b = (2, oneV zs 96 [] []) := by
      unfold freeA
      simp only [ha]; rfl
    rw [e]
    exact ⟨[], by simp, rfl, .inr ⟨rfl, by rw [P.st_no h0 hb]; omega, bs, ls, P.same⟩⟩

theorem give_step (P : PartS True zs sts T bs ls) {b : Int} (h0 : 0 ≤ b) (h3 : wordAt sts b.toNat ≠ 3) : ∃ cs : List Cl, cs.length ≤ 2 ∧ mergeL (giveA (wholeV zs 96) b).2.lv = cs ∧
    ((giveA (wholeV zs 96) b).1 = 0 ∧ wordAt sts b.toNat = 2 ∧ PS (applyZ zs cs) (sts.set b.toNat 3) T ∨ (giveA (wholeV zs 96) b).1 = 2 ∧ wordAt sts b.toNat ≠ 2 ∧ PS (applyZ zs cs) sts T) := by
  have hl := P.szz
  rw [wholeV_one]
  by_cases hb : ∃ c, (b, c) ∈ bs
  · obtain ⟨c, hb⟩ := hb
    have hm := P.mem hb
    have ha := P.ask_blk (m := 96) hb
    have hst := P.st _ hb
    dsimp only at hst
    by_cases hs : wordAt sts b.toNat = 1
    · have e : giveA (oneV zs 96 [] []) b = (2, oneV zs 96 [] []) := by
        unfold giveA
        simp only [ha, hs, decide_true, if_true]
      rw [e]
      exact ⟨[], by simp, rfl, .inr ⟨rfl, by omega, bs, ls, P.same⟩⟩
    · have hs2 : wordAt sts b.toNat = 2 := by omega
      have hr := one_read (zs := zs) (m := 96) (C := []) (F := []) (i := c.toNat) (by omega) (by rw [hl]; omega)
      rw [show ((c.toNat : Nat) : Int) = c by omega] at hr
      have hr : readV (oneV zs 96 [] []) c = ((wordAt zs c.toNat, 0), oneV zs 96 [] []) := hr
      have ht := one_take (zs := zs) (m := 96) (C := []) (F := []) (cs := [(b, wordAt zs c.toNat), (c, b)]) (by rw [hl]; exact in_two (by omega) (by omega)) (most_le (by simp))
      rw [put_two (by omega)] at ht
      have e : giveA (oneV zs 96 [] []) b = (0, oneV zs 96 [(b, wordAt zs c.toNat), (c, b)] []) := by
        unfold giveA
        simp only [ha, hs, decide_false, if_true, Bool.false_eq_true, if_false, hr, ht]
      rw [e]
      exact ⟨[(b, wordAt zs c.toNat), (c, b)], by simp, rfl, .inl ⟨rfl, hs2, bs, _, P.given hb hs2⟩⟩
  · have hb : ∀ c, (b, c) ∉ bs := fun c hc => hb ⟨c, hc⟩
    have ha := P.ask_no (m := 96) hb
    have e : giveA (oneV zs 96 [] []) b = (2, oneV zs 96 [] []) := by
      unfold giveA
      simp only [ha]; rfl
    rw [e]
    exact ⟨[], by simp, rfl, .inr ⟨rfl, by rw [P.st_no h0 hb]; omega, bs, ls, P.same⟩⟩

theorem alloc_step (P : PartS True zs sts T bs ls) {n : Int} (hn : 1 ≤ n ∧ n ≤ 16) : ∃ cs : List Cl, cs.length ≤ 2 ∧ mergeL (allocV (wholeV zs 96) n).2.lv = cs ∧
    ((allocV (wholeV zs 96) n).1.2 = 0 ∧ 15 ≤ (allocV (wholeV zs 96) n).1.1 ∧ (allocV (wholeV zs 96) n).1.1 < 256 ∧ wordAt sts (allocV (wholeV zs 96) n).1.1.toNat ≠ 1 ∧ wordAt sts (allocV (wholeV zs 96) n).1.1.toNat ≠ 2 ∧
        PS (applyZ zs cs) (sts.set (allocV (wholeV zs 96) n).1.1.toNat 1) T ∨
      (allocV (wholeV zs 96) n).1.2 = 4 ∧ (allocV (wholeV zs 96) n).1.1 = 0 ∧ PS (applyZ zs cs) sts T) := by
  have hl := P.szz
  have hlo := P.lo
  have hhi := P.hi
  rw [wholeV_one]
  obtain ⟨c, hc, hc4⟩ : ∃ c, classA n = c ∧ 1 ≤ c ∧ c ≤ 4 := by
    refine ⟨_, rfl, ?_⟩
    unfold classA; repeat' split <;> omega
  have hr := one_read (zs := zs) (m := 96) (C := []) (F := []) (i := c.toNat) (by omega) (by rw [hl]; omega)
  rw [show ((c.toNat : Nat) : Int) = c by omega] at hr
  have hr : readV (oneV zs 96 [] []) c = ((wordAt zs c.toNat, 0), oneV zs 96 [] []) := hr
  have hch := P.chain c hc4.1 hc4.2
  cases hls : ls c with
  | nil =>
    rw [hls] at hch
    have hz : wordAt zs c.toNat = 0 := hch
    rw [hz] at hr
    have h5 := one_read (zs := zs) (m := 96) (C := []) (F := []) (i := 5) (by omega) (by rw [hl]; omega)
    have h5 : readV (oneV zs 96 [] []) 5 = ((wordAt zs 5, 0), oneV zs 96 [] []) := h5
    have hlow := P.low
    have hbump := P.bump
    have hs := sizeA_pos hc4
    obtain ⟨e, he⟩ : ∃ e, wordAt zs 5 = e := ⟨_, rfl⟩
    rw [he] at h5 hlow hbump
    have hsz : ((oneV zs 96 [] []).sz : Int) = (T : Int) := by show ((szZ zs.length : Nat) : Int) = _; rw [hl]
    by_cases hT : e + 1 + sizeA c ≤ T
    · have ht := one_take (zs := zs) (m := 96) (C := []) (F := []) (cs := [(5, e + 1 + sizeA c), (e, c + 8)]) (by rw [hl]; exact in_two (by omega) (by omega)) (most_le (by simp))
      rw [put_two (by omega)] at ht
      have ea : allocV (oneV zs 96 [] []) n = ((e + 1, 0), oneV zs 96 [(5, e + 1 + sizeA c), (e, c + 8)] []) := by
        unfold allocV
        rw [hc, if_neg (by omega)]
        simp only [hr, if_true]
        unfold grownV
        simp only [h5, if_true]
        rw [if_neg (by rw [hsz]; omega)]
        simp only [ht, if_true]
      have hno : ∀ d, (e + 1, d) ∉ bs := by
        intro d hd
        have h1 := P.tile.mem _ hd
        rw [he] at h1
        dsimp only at h1
        have := sizeA_pos h1.2.1
        omega
      rw [ea]
      dsimp only
      have h0 := P.st_no (by omega) hno
      exact ⟨[(5, e + 1 + sizeA c), (e, c + 8)], by simp, rfl, .inl ⟨rfl, by omega, by omega, by rw [h0]; omega, by rw [h0]; omega, _, _, P.grown hc4 he hT⟩⟩
    · have ea : allocV (oneV zs 96 [] []) n = ((0, 4), oneV zs 96 [] []) := by
        unfold allocV
        rw [hc, if_neg (by omega)]
        simp only [hr, if_true]
        unfold grownV
        simp only [h5, if_true]
        rw [if_pos (by rw [hsz]; omega)]
      rw [ea]
      exact ⟨[], by simp, rfl, .inr ⟨rfl, rfl, bs, ls, P.same⟩⟩
  | cons b l =>
    rw [hls] at hch
    have hz : wordAt zs c.toNat = b := hch.1
    rw [hz] at hr
    have hbl := (P.listed c hc4.1 hc4.2 b).1 (by rw [hls]; exact List.mem_cons_self ..)
    have hm := P.mem hbl.1
    have hrb := one_read (zs := zs) (m := 96) (C := []) (F := []) (i := b.toNat) (by omega) (by rw [hl]; omega)
    rw [show ((b.toNat : Nat) : Int) = b by omega] at hrb
    have hrb : readV (oneV zs 96 [] []) b = ((wordAt zs b.toNat, 0), oneV zs 96 [] []) := hrb
    have ht := one_take (zs := zs) (m := 96) (C := []) (F := []) (cs := [(c, wordAt zs b.toNat), (b - 1, c + 8)]) (by rw [hl]; exact in_two (by omega) (by omega)) (most_le (by simp))
    rw [put_two (by omega)] at ht
    have n0 : ¬ b = 0 := by omega
    have n1 : ¬ 2147483648 ≤ b := by omega
    have ea : allocV (oneV zs 96 [] []) n = ((b, 0), oneV zs 96 [(c, wordAt zs b.toNat), (b - 1, c + 8)] []) := by
      unfold allocV
      rw [hc, if_neg (by omega)]
      simp only [hr, if_true, if_neg n0]
      unfold againV
      simp only [if_neg n1, hrb, if_true, ht]
    rw [ea]
    dsimp only
    exact ⟨[(c, wordAt zs b.toNat), (b - 1, c + 8)], by simp, rfl, .inl ⟨rfl, by omega, by omega, by omega, by omega, _, _, P.again hc4 hls⟩⟩

/-! ### a fresh heap -/
theorem rep_at (n i : Nat) : wordAt (List.replicate n (0 : Int)) i = 0 := by
  unfold wordAt
  rw [List.getElem?_replicate]
  split <;> rfl
theorem fresh_part (w : Int) : PS (freshA w) (List.replicate 257 0) (szZ w) := by
  have hb := szZ_b w
  have hat : ∀ p, wordAt (freshA w) p = if 5 = p then 14 else 0 := by
    intro p
    unfold freshA
    rw [set_at _ _ _ _ (by simp; omega), rep_at]
  have h5 : wordAt (freshA w) 5 = 14 := by rw [hat, if_pos rfl]
  refine ⟨[], fun _ => [], freshA_len w, hb.1, hb.2, fresh_words w, by simp, h5.symm, by rw [h5]; omega, (fun b hb => by cases hb), ?_, (fun b hb => by cases hb), ?_, ?_, ?_, fun _ => List.nodup_nil⟩
  · intro x hx
    exact absurd (rep_at 257 x) hx
  · intro hd p h1 h2 h3
    rw [hat, if_neg (by omega)]
    exact .inl rfl
  · intro c h1 h2
    show wordAt _ _ = 0
    rw [hat, if_neg (by omega)]
  · intro c h1 h2 x
    constructor
    · intro h; cases h
    · rintro ⟨h, _⟩; cases h

/-! ### blocks and lists of such words -/
def told1 (sts : List Int) (b : Bk) : BlkT := (b.1, b.2, decide (wordAt sts b.1.toNat = 1))
theorem parse_ok {e : Int} : ∀ {bs : List Bk} {a : Int} {m : Nat} {acc : List BlkT}, Tile e a bs → 14 ≤ a → (∀ b ∈ bs, wordAt zs (b.1 - 1).toNat = b.2 + (if wordAt sts b.1.toNat = 1 then 8 else 0)) → bs.length < m →
    parseM zs e m a acc = some (acc ++ bs.map (told1 sts)) := by
  intro bs
  induction bs with
  | nil =>
    intro a m acc h _ _ hm
    obtain ⟨m, rfl⟩ : ∃ k, m = k + 1 := ⟨m - 1, by simp at hm; omega⟩
    have h : a = e := h
    subst h
    rw [parseM_s, if_pos (Int.le_refl _)]; simp
  | cons b bs ih =>
    intro a m acc h ha hh hm
    obtain ⟨m, rfl⟩ : ∃ k, m = k + 1 := ⟨m - 1, by simp at hm; omega⟩
    obtain ⟨h1, h2, h3⟩ := h
    have h4 := h3.le
    have h5 := sizeA_pos h2
    have hb := hh b (List.mem_cons_self ..)
    rw [h1, show a + 1 - 1 = a by omega] at hb
    have hd1 : hd zs a = (b.2, decide (wordAt sts b.1.toNat = 1)) := by
      unfold hd
      rw [hb, h1]
      by_cases hs : wordAt sts (a + 1).toNat = 1
      · rw [if_pos hs, headI_live h2, decide_eq_true hs]
      · rw [if_neg hs, Int.add_zero, headI_free h2, decide_eq_false hs]
    rw [parseM_s, if_neg (by omega), hd1]
    dsimp only
    rw [if_neg (by omega), ih h3 (by omega) (fun x hx => hh x (List.mem_cons_of_mem _ hx)) (by simp at hm; omega)]
    rw [List.append_assoc]
    congr 2
    show (a + 1, b.2, _) :: _ = told1 sts b :: _
    unfold told1
    rw [h1]; rfl
theorem PartS.blocks (P : PartS dt zs sts T bs ls) : blocksM zs = some (bs.map (told1 sts)) := by
  have hlo := P.lo
  have hhi := P.hi
  have hlow := P.low
  have hb := P.bump
  have hle := P.tile.le
  unfold blocksM
  rw [if_neg (by rw [P.len]; omega), parse_ok P.tile (by omega) P.hdr (by omega), List.nil_append]
theorem row_ok {Bs : List BlkT} {c : Int} : ∀ {l : List Int} {w : Int} {m : Nat} {acc : List Int}, Chain zs w l → (∀ x ∈ l, x ≠ 0 ∧ (x, c, false) ∈ Bs) → (acc ++ l).Nodup → l.length < m → rowM zs Bs c m w acc = some (acc ++ l) := by
  intro l
  induction l with
  | nil =>
    intro w m acc h _ _ hm
    obtain ⟨m, rfl⟩ : ∃ k, m = k + 1 := ⟨m - 1, by simp at hm; omega⟩
    have h : w = 0 := h
    subst h
    rw [rowM_s, if_pos rfl, List.append_nil]
  | cons x l ih =>
    intro w m acc h hx hn hm
    obtain ⟨m, rfl⟩ : ∃ k, m = k + 1 := ⟨m - 1, by simp at hm; omega⟩
    obtain ⟨h1, h2⟩ := h
    have hx1 := hx x (List.mem_cons_self ..)
    have e : acc ++ x :: l = (acc ++ [x]) ++ l := by simp
    have hni : x ∉ acc := by
      rw [List.nodup_append] at hn
      intro h
      exact hn.2.2 x h x (List.mem_cons_self ..) rfl
    rw [rowM_s, h1, if_neg hx1.1, if_pos ⟨hx1.2, hni⟩, e]
    exact ih h2 (fun y hy => hx y (List.mem_cons_of_mem _ hy)) (e ▸ hn) (by simp at hm; omega)
theorem PartS.lists (P : PartS dt zs sts T bs ls) : listsM zs = some [ls 1, ls 2, ls 3, ls 4] := by
  have key : ∀ c : Int, 1 ≤ c → c ≤ 4 → rowM zs (bs.map (told1 sts)) c 301 (wordAt zs c.toNat) [] = some (ls c) := by
    intro c h1 h2
    have hb : ∀ x ∈ ls c, (x, c) ∈ bs ∧ wordAt sts x.toNat = 3 := fun x hx => (P.listed c h1 h2 x).1 hx
    have hn : (ls c).length ≤ 256 := row_len (n := T) (P.nodup c) (fun x hx => by have := P.mem (hb x hx).1; omega) P.hi
    rw [row_ok (P.chain c h1 h2) (fun x hx => ?_) (by rw [List.nil_append]; exact P.nodup c) (by omega), List.nil_append]
    have h3 := hb x hx
    have h4 := P.mem h3.1
    refine ⟨by omega, List.mem_map.2 ⟨_, h3.1, ?_⟩⟩
    unfold told1
    dsimp only
    rw [h3.2]; rfl
  unfold listsM
  rw [P.blocks, Option.bind_some]
  unfold rowsM
  rw [key 1 (by omega) (by omega), Option.bind_some]
  unfold rowsM
  rw [show (1 : Int) + 1 = 2 from rfl, key 2 (by omega) (by omega), Option.bind_some]
  unfold rowsM
  rw [show (2 : Int) + 1 = 3 from rfl, key 3 (by omega) (by omega), Option.bind_some]
  unfold rowsM
  rw [show (3 : Int) + 1 = 4 from rfl, key 4 (by omega) (by omega), Option.bind_some]
  rfl

/-! ### as many states as blocks -/
theorem sub_len {α : Type} [BEq α] [LawfulBEq α] : ∀ {l1 l2 : List α}, l1.Nodup → (∀ x ∈ l1, x ∈ l2) → l1.length ≤ l2.length := by
  intro l1
  induction l1 with
  | nil => intro l2 _ _; simp
  | cons a l ih =>
    intro l2 hn hs
    rw [List.nodup_cons] at hn
    have ha := hs a (List.mem_cons_self ..)
    have h1 := ih (l2 := l2.erase a) hn.2 (fun x hx => by
      have hne : x ≠ a := by rintro rfl; exact hn.1 hx
      exact (List.mem_erase_of_ne hne).2 (hs x (List.mem_cons_of_mem _ hx)))
    have h2 := List.length_erase_of_mem ha
    have h3 := List.length_pos_of_mem ha
    simp only [List.length_cons]
    omega
def cntS (sts : List Int) (n : Nat) : Nat := ((List.range n).filter fun x => decide (wordAt sts x ≠ 0)).length
theorem cntS_s (sts : List Int) (n : Nat) : cntS sts (n + 1) = cntS sts n + (if wordAt sts n ≠ 0 then 1 else 0) := by
  unfold cntS
  rw [List.range_succ, List.filter_append, List.length_append]
  congr 1
  by_cases h : wordAt sts n ≠ 0
  · rw [if_pos h, List.filter_cons, if_pos (decide_eq_true h)]; rfl
  · rw [if_neg h, List.filter_cons, if_neg (by rw [decide_eq_false h]; exact Bool.false_ne_true)]; rfl
theorem PartS.count (P : PartS dt zs sts T bs ls) : cntS sts 257 = bs.length := by
  have hhi := P.hi
  have h1 : ((List.range 257).filter fun x => decide (wordAt sts x ≠ 0)).Nodup := List.Nodup.sublist (List.filter_sublist ..) List.nodup_range
  have h2 : (bs.map (·.1.toNat)).Nodup := by
    have h := P.tile.nodup
    rw [show (bs.map fun b => b.1.toNat) = (bs.map (·.1)).map Int.toNat by rw [List.map_map]; rfl]
    have key : ∀ l : List Int, l.Nodup → (∀ x ∈ l, 0 ≤ x) → (l.map Int.toNat).Nodup := by
      intro l
      induction l with
      | nil => intro _ _; exact List.nodup_nil
      | cons a l ih =>
        intro hn hp
        rw [List.nodup_cons] at hn
        rw [List.map_cons, List.nodup_cons]
        refine ⟨?_, ih hn.2 fun x hx => hp x (List.mem_cons_of_mem _ hx)⟩
        intro hm
        obtain ⟨x, hx, he⟩ := List.mem_map.1 hm
        have := hp x (List.mem_cons_of_mem _ hx)
        have := hp a (List.mem_cons_self ..)
        have : x = a := by omega
        subst this
        exact hn.1 hx
    refine key _ h fun x hx => ?_
    obtain ⟨⟨b, c⟩, hb, rfl⟩ := List.mem_map.1 hx
    have := P.mem hb
    dsimp only; omega
  have e : bs.length = (bs.map (·.1.toNat)).length := by simp
  unfold cntS
  rw [e]
  apply Nat.le_antisymm
  · refine sub_len h1 fun x hx => ?_
    rw [List.mem_filter] at hx
    obtain ⟨c, hc⟩ := P.known x (of_decide_eq_true hx.2)
    exact List.mem_map.2 ⟨_, hc, by dsimp only; omega⟩
  · refine sub_len h2 fun x hx => ?_
    obtain ⟨⟨b, c⟩, hb, rfl⟩ := List.mem_map.1 hx
    have := P.mem hb
    have h3 := P.st _ hb
    dsimp only at h3 ⊢
    rw [List.mem_filter]
    exact ⟨List.mem_range.2 (by omega), decide_eq_true (by omega)⟩
end Go.Proofs.Ythajhlachmgdoaa.arenaParts
