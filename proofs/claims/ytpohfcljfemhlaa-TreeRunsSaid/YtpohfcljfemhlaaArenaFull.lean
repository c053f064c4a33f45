/- 'ArenaFull' comes to true for every argument: its own walk. -/
import Derived.Test.YtpohfcljfemhlaaArenaPlays
namespace Go.Proofs.Ytpohfcljfemhlaa
open Go Go.Ae
set_option maxRecDepth 100000

variable {g h : AH} {L R : List SP}

/-! ### cells applied to words -/
def baseZ (zs : List Int) : List Int := (List.range (szZ zs.length)).map fun i => if i = 0 then 0 else wordAt zs i
def putZ (l : List Int) (c : Cl) : List Int := if 1 ≤ c.1 ∧ c.1 < l.length then l.set c.1.toNat c.2 else l
def applyZ (zs : List Int) (cs : List Cl) : List Int := cs.foldl putZ (baseZ zs)
theorem putZ_len (l : List Int) (c : Cl) : (putZ l c).length = l.length := by unfold putZ; split <;> simp
theorem putZ_in {l : List Int} {c : Cl} (h : 1 ≤ c.1 ∧ c.1 < l.length) : putZ l c = l.set c.1.toNat c.2 := if_pos h
theorem putZ_out {l : List Int} {c : Cl} (h : ¬ (1 ≤ c.1 ∧ c.1 < l.length)) : putZ l c = l := if_neg h
theorem foldZ_len : ∀ (cs : List Cl) (l : List Int), (cs.foldl putZ l).length = l.length := by
  intro cs
  induction cs with
  | nil => intro l; rfl
  | cons c cs ih => intro l; rw [List.foldl_cons, ih, putZ_len]
theorem baseZ_len (zs : List Int) : (baseZ zs).length = szZ zs.length := by simp [baseZ]
theorem applyZ_len (zs : List Int) (cs : List Cl) : (applyZ zs cs).length = szZ zs.length := by unfold applyZ; rw [foldZ_len, baseZ_len]
theorem base_at (zs : List Int) {i : Nat} (hi : 0 < i) (h : i < szZ zs.length) : wordAt (baseZ zs) i = wordAt zs i := by
  unfold baseZ
  show ((List.map _ _)[i]?).getD 0 = _
  rw [List.getElem?_map, List.getElem?_range h, Option.map_some, Option.getD_some, if_neg (by omega)]
theorem putZ_at (l : List Int) (c : Cl) (i : Nat) : wordAt (putZ l c) i = if (c.1 = (i : Int) ∧ 1 ≤ c.1 ∧ c.1 < l.length) then c.2 else wordAt l i := by
  unfold putZ wordAt
  by_cases h : 1 ≤ c.1 ∧ c.1 < l.length
  · rw [if_pos h, List.getElem?_set]
    by_cases h2 : c.1 = (i : Int)
    · rw [if_pos (by omega), if_pos (by omega), if_pos ⟨h2, h⟩]; rfl
    · rw [if_neg (by omega), if_neg (fun h' => h2 h'.1)]
  · rw [if_neg h, if_neg (fun h' => h h'.2)]
theorem putZ_nn {l : List Int} {c : Cl} (h : ∀ z ∈ l, 0 ≤ z ∧ z < 18446744073709551616) (hc : 0 ≤ c.2 ∧ c.2 < 18446744073709551616) : ∀ z ∈ putZ l c, 0 ≤ z ∧ z < 18446744073709551616 := by
  unfold putZ
  split
  · intro z hz
    rcases List.mem_or_eq_of_mem_set hz with h1 | rfl
    · exact h z h1
    · exact hc
  · exact h
theorem applyZ_nn {zs : List Int} {cs : List Cl} (h : ∀ z ∈ zs, 0 ≤ z ∧ z < 18446744073709551616) (hc : WdC cs) : ∀ z ∈ applyZ zs cs, 0 ≤ z ∧ z < 18446744073709551616 := by
  unfold applyZ
  have hb : ∀ z ∈ baseZ zs, 0 ≤ z ∧ z < 18446744073709551616 := by
    intro z hz
    obtain ⟨i, _, rfl⟩ := List.mem_map.1 hz
    split
    · omega
    · unfold wordAt
      cases hzi : zs[i]? with
      | none => simp
      | some z => exact h z (List.mem_of_getElem? hzi)
  generalize baseZ zs = l at hb
  induction cs generalizing l with
  | nil => exact hb
  | cons c cs ih => exact ih (fun d hd => hc d (List.mem_cons_of_mem _ hd)) _ (putZ_nn hb (hc c (List.mem_cons_self ..)))

theorem kM_fold (zs : List Int) : ∀ i, i ≤ szZ zs.length - 1 → ((kW zs).take i).foldl putZ (List.replicate (szZ zs.length) 0) = (List.range (szZ zs.length)).map fun j => if j = 0 ∨ i < j then 0 else wordAt zs j := by
  intro i
  induction i with
  | zero =>
    intro _
    rw [List.take_zero, List.foldl_nil]
    apply List.ext_getElem?
    intro j
    by_cases hj : j < szZ zs.length
    · rw [List.getElem?_replicate, if_pos hj, List.getElem?_map, List.getElem?_range hj, Option.map_some, if_pos (by omega)]
    · rw [List.getElem?_eq_none (by simp; omega), List.getElem?_eq_none (by simp; omega)]
  | succ i ih =>
    intro hi
    have hk := kW_get zs (show i + 1 < szZ zs.length by omega)
    rw [List.take_add_one, hk, Option.toList_some, List.foldl_append, ih (by omega)]
    show putZ _ _ = _
    unfold putZ
    rw [if_pos ⟨by show 1 ≤ ((i + 1 : Nat) : Int); omega, by show ((i + 1 : Nat) : Int) < _; simp; omega⟩]
    apply List.ext_getElem?
    intro j
    rw [List.getElem?_set]
    by_cases hj : j < szZ zs.length
    · by_cases h1 : ((i + 1 : Nat) : Int).toNat = j
      · rw [if_pos h1, if_pos (by simp; omega), List.getElem?_map, List.getElem?_range hj, Option.map_some, if_neg (by omega)]
        rw [show j = i + 1 by omega]
      · rw [if_neg h1, List.getElem?_map, List.getElem?_map, List.getElem?_range hj, Option.map_some, Option.map_some]
        by_cases h2 : j = 0 ∨ i < j
        · rw [if_pos h2, if_pos (by omega)]
        · rw [if_neg h2, if_neg (by omega)]
    · rw [if_neg (by omega), List.getElem?_eq_none (by simp; omega), List.getElem?_eq_none (by simp; omega)]

/-! ### views of one level -/
theorem takeL_one {most : Nat} {F : List Int} {was : List LvM} : ∀ {cs C : List Cl}, InC cs → C.length + cs.length ≤ most → takeL most was [(C, F)] cs = (0, [(putsC C cs, F)]) := by
  intro cs
  induction cs with
  | nil => intro C _ _; rfl
  | cons c cs ih =>
    intro C hi hl
    have hc := hi c (List.mem_cons_self ..)
    simp at hl
    have hp : putL most [(C, F)] c.1 c.2 = (0, [(putC c.1 c.2 C, F)]) := by
      unfold putL
      dsimp only
      rw [if_neg (by omega), if_neg (fun h => by have := h.2; simp [heldL] at this; omega)]
    rw [takeL_cons, hp, if_pos rfl, ih (fun d hd => hi d (List.mem_cons_of_mem _ hd)) (by
      have := putC_len (p := c.1) (v := c.2) (l := C)
      split at this <;> omega)]
    rfl
/-- a view whose words are known, with one level -/
def oneV (zs : List Int) (m : Int) (C : List Cl) (F : List Int) : VM := { wholeV zs m with lv := [(C, F)] }
theorem getC_cons {p : Int} {c : Cl} {l : List Cl} : getC p (c :: l) = if c.1 = p then some c.2 else getC p l := rfl
theorem kW_getC (zs : List Int) {i : Nat} (h0 : 0 < i) (h : i < szZ zs.length) : getC (i : Int) (kW zs) = some (wordAt zs i) := by
  have e : kW zs = (kW zs).take (i - 1) ++ [((i : Int), wordAt zs i)] ++ (kW zs).drop i := by
    have hk := kW_get zs (show i - 1 + 1 < szZ zs.length by omega)
    rw [show i - 1 + 1 = i by omega] at hk
    have := List.take_add_one (l := kW zs) (i := i - 1)
    rw [show i - 1 + 1 = i by omega, hk, Option.toList_some] at this
    rw [← this, List.take_append_drop]
  have hg : ∀ (l1 l2 : List Cl), getC (i : Int) l1 = none → getC (i : Int) (l1 ++ l2) = getC (i : Int) l2 := by
    intro l1 l2
    induction l1 with
    | nil => intro _; rfl
    | cons c l ih =>
      intro hn
      rw [getC_cons] at hn
      split at hn
      · cases hn
      · rename_i hc
        show getC (i : Int) (c :: (l ++ l2)) = _
        rw [getC_cons, if_neg hc]
        exact ih hn
  rw [e, List.append_assoc, hg _ _ (kW_take zs (by omega))]
  show getC (i : Int) (((i : Int), wordAt zs i) :: _) = _
  rw [getC_cons, if_pos rfl]
theorem one_read {zs : List Int} {m : Int} {C : List Cl} {F : List Int} {i : Nat} (h0 : 0 < i) (h : i < szZ zs.length) : readV (oneV zs m C F) (i : Int) = (((getC (i : Int) C).getD (wordAt zs i), 0), oneV zs m C F) := by
  unfold readV
  rw [if_pos (show 1 ≤ (i : Int) ∧ (i : Int) < ((oneV zs m C F).sz : Int) from ⟨by omega, show (i : Int) < ((szZ zs.length : Nat) : Int) by omega⟩)]
  have hL : getL (i : Int) (oneV zs m C F).lv = getC (i : Int) C := by
    show (match getC (i : Int) C with | some v => some v | none => getL (i : Int) []) = _
    cases getC (i : Int) C <;> rfl
  have hK : getC (i : Int) (oneV zs m C F).K = some (wordAt zs i) := kW_getC zs h0 h
  rw [hL, hK]
  cases getC (i : Int) C <;> rfl
theorem one_take {zs : List Int} {m : Int} {C cs : List Cl} {F : List Int} (hi : ∀ c ∈ cs, 1 ≤ c.1 ∧ c.1 < ((szZ zs.length : Nat) : Int)) (hl : C.length + cs.length ≤ (max 0 (min m 96)).toNat) :
    takeV (oneV zs m C F) cs = (0, oneV zs m (putsC C cs) F) := by
  have hb := szZ_b (zs.length : Int)
  unfold takeV
  rw [if_pos (show ∀ c ∈ cs, 1 ≤ c.1 ∧ c.1 < ((oneV zs m C F).sz : Int) from hi)]
  rw [show takeL (oneV zs m C F).most (oneV zs m C F).lv (oneV zs m C F).lv cs = (0, [(putsC C cs, F)]) from takeL_one (fun c hc => by have := hi c hc; omega) hl]; rfl
theorem wholeV_one (zs : List Int) (m : Int) : wholeV zs m = oneV zs m [] [] := rfl
theorem one_free {zs : List Int} {m : Int} {C : List Cl} {F : List Int} {b : Int} : freeV (oneV zs m C F) b = oneV zs m C (F ++ [b]) := rfl

/-! ### one size -/
/-- so many blocks of a class are told; the words then -/
structure FullS (zs : List Int) (T c i : Nat) : Prop where
  len : zs.length = T
  lo : 32 ≤ T
  hi : T ≤ 256
  cls : 1 ≤ c ∧ c ≤ 4
  nn : ∀ z ∈ zs, 0 ≤ z ∧ z < 18446744073709551616
  head : wordAt zs c = 0
  bump : wordAt zs 5 = 14 + (i : Int) * (sizeA c + 1)
  hdr : ∀ j, j < i → ∀ p : Nat, (p : Int) = 14 + (j : Int) * (sizeA c + 1) → wordAt zs p = (c : Int) + 8
theorem szZ_id {T : Nat} (h1 : 32 ≤ T) (h2 : T ≤ 256) : szZ (T : Int) = T := by unfold szZ; omega
theorem mul_b (i : Nat) {s : Int} (h : 0 ≤ s) : 0 ≤ (i : Int) * s := Int.mul_nonneg (by omega) h
theorem full_alloc {zs : List Int} {T c i : Nat} {x : Int} (F : FullS zs T c i) (hx : classA x = (c : Int)) (hT : 14 + ((i : Int) + 1) * (sizeA c + 1) ≤ T) :
    allocV (wholeV zs 9) x = ((14 + (i : Int) * (sizeA c + 1) + 1, 0), oneV zs 9 [(5, 14 + ((i : Int) + 1) * (sizeA c + 1)), (14 + (i : Int) * (sizeA c + 1), (c : Int) + 8)] []) := by
  have hs := sizeA_b c
  have hm := mul_b i (show 0 ≤ sizeA c + 1 by omega)
  have hc := F.cls
  have hlo := F.lo
  have hhi := F.hi
  have hl : szZ zs.length = T := by rw [F.len]; exact szZ_id F.lo F.hi
  have e1 : ((i : Int) + 1) * (sizeA c + 1) = (i : Int) * (sizeA c + 1) + sizeA c + 1 := by rw [Int.add_mul, Int.one_mul]; omega
  rw [e1] at hT ⊢
  have hbump := F.bump
  generalize (i : Int) * (sizeA c + 1) = b at *
  unfold allocV
  rw [hx, if_neg (by omega), wholeV_one, one_read (by omega) (by omega)]
  show (if (0 : Int) = 0 then _ else _) = _
  rw [if_pos rfl]
  have h0 : (getC (c : Int) []).getD (wordAt zs c) = 0 := F.head
  simp only [h0, if_true]
  unfold grownV
  have h5 := one_read (zs := zs) (m := 9) (C := []) (F := []) (i := 5) (by omega) (by omega)
  have hb : (getC ((5 : Nat) : Int) []).getD (wordAt zs 5) = 14 + b := hbump
  rw [hb] at h5
  rw [show ((5 : Nat) : Int) = 5 from rfl] at h5
  simp only [h5, if_true]
  have hsz : ((oneV zs 9 [] []).sz : Int) = (T : Int) := by show ((szZ zs.length : Nat) : Int) = _; rw [hl]
  rw [if_neg (by rw [hsz]; omega)]
  have ht := one_take (zs := zs) (m := 9) (C := []) (F := []) (cs := [(5, 14 + b + 1 + sizeA c), (14 + b, (c : Int) + 8)]) (fun d hd => by
    rw [hl]
    rcases List.mem_cons.1 hd with rfl | hd
    · dsimp only; omega
    · rw [List.mem_singleton] at hd; subst hd; dsimp only; omega) (by show 0 + 2 ≤ (max 0 (min (9 : Int) 96)).toNat; omega)
  have hp : putsC [] [(5, 14 + b + 1 + sizeA c), (14 + b, (c : Int) + 8)] = [(5, 14 + (b + sizeA c + 1)), (14 + b, (c : Int) + 8)] := by
    show putC (14 + b) ((c : Int) + 8) [(5, 14 + b + 1 + sizeA c)] = _
    unfold putC
    rw [if_neg (by dsimp only; omega), show 14 + b + 1 + sizeA c = 14 + (b + sizeA c + 1) by omega]; rfl
  rw [ht, hp]
  rfl
theorem full_none {zs : List Int} {T c i : Nat} {x : Int} (F : FullS zs T c i) (hx : classA x = (c : Int)) (hT : (T : Int) < 14 + ((i : Int) + 1) * (sizeA c + 1)) :
    allocV (wholeV zs 9) x = ((0, 4), wholeV zs 9) := by
  have hs := sizeA_b c
  have hc := F.cls
  have hlo := F.lo
  have hl : szZ zs.length = T := by rw [F.len]; exact szZ_id F.lo F.hi
  have e1 : ((i : Int) + 1) * (sizeA c + 1) = (i : Int) * (sizeA c + 1) + sizeA c + 1 := by rw [Int.add_mul, Int.one_mul]; omega
  rw [e1] at hT
  have hbump := F.bump
  generalize (i : Int) * (sizeA c + 1) = b at *
  unfold allocV
  rw [hx, if_neg (by omega), wholeV_one, one_read (by omega) (by omega)]
  have h0 : (getC (c : Int) []).getD (wordAt zs c) = 0 := F.head
  simp only [h0, if_true]
  unfold grownV
  have h5 := one_read (zs := zs) (m := 9) (C := []) (F := []) (i := 5) (by omega) (by omega)
  have hb : (getC ((5 : Nat) : Int) []).getD (wordAt zs 5) = 14 + b := hbump
  rw [hb] at h5
  rw [show ((5 : Nat) : Int) = 5 from rfl] at h5
  simp only [h5, if_true]
  have hsz : ((oneV zs 9 [] []).sz : Int) = (T : Int) := by show ((szZ zs.length : Nat) : Int) = _; rw [hl]
  rw [if_pos (by rw [hsz]; omega)]
theorem full_next {zs : List Int} {T c i : Nat} (F : FullS zs T c i) (hT : 14 + ((i : Int) + 1) * (sizeA c + 1) ≤ T) :
    FullS (applyZ zs [(5, 14 + ((i : Int) + 1) * (sizeA c + 1)), (14 + (i : Int) * (sizeA c + 1), (c : Int) + 8)]) T c (i + 1) := by
  have hs := sizeA_b c
  have hm := mul_b i (show 0 ≤ sizeA c + 1 by omega)
  have hc := F.cls
  have hlo := F.lo
  have hhi := F.hi
  have hl : szZ zs.length = T := by rw [F.len]; exact szZ_id F.lo F.hi
  have e1 : ((i : Int) + 1) * (sizeA c + 1) = (i : Int) * (sizeA c + 1) + sizeA c + 1 := by rw [Int.add_mul, Int.one_mul]; omega
  have hwd : WdC [(5, 14 + ((i : Int) + 1) * (sizeA c + 1)), (14 + (i : Int) * (sizeA c + 1), (c : Int) + 8)] := .two ⟨by dsimp only; omega, by dsimp only; omega⟩ ⟨by dsimp only; omega, by dsimp only; omega⟩
  have hat : ∀ p : Nat, 0 < p → p < T → wordAt (applyZ zs [(5, 14 + ((i : Int) + 1) * (sizeA c + 1)), (14 + (i : Int) * (sizeA c + 1), (c : Int) + 8)]) p =
      if (p : Int) = 14 + (i : Int) * (sizeA c + 1) then (c : Int) + 8 else if p = 5 then 14 + ((i : Int) + 1) * (sizeA c + 1) else wordAt zs p := by
    intro p h0 hp
    show wordAt (putZ (putZ (baseZ zs) _) _) p = _
    rw [putZ_at, putZ_at, putZ_len, baseZ_len, hl, base_at zs h0 (by omega)]
    dsimp only
    by_cases h1 : (p : Int) = 14 + (i : Int) * (sizeA c + 1)
    · rw [if_pos (by omega), if_pos h1]
    · rw [if_neg (by omega), if_neg h1]
      by_cases h2 : p = 5
      · rw [if_pos (by omega), if_pos h2]
      · rw [if_neg (by omega), if_neg h2]
  refine ⟨by rw [applyZ_len, hl], F.lo, F.hi, F.cls, applyZ_nn F.nn hwd, ?_, ?_, ?_⟩
  · rw [hat c (by omega) (by omega), if_neg (by omega), if_neg (by omega)]; exact F.head
  · rw [hat 5 (by omega) (by omega), if_neg (by omega), if_pos rfl]; push_cast; rfl
  · intro j hj p hp
    have hjm := mul_b j (show 0 ≤ sizeA c + 1 by omega)
    have hji : (j : Int) * (sizeA c + 1) ≤ (i : Int) * (sizeA c + 1) := Int.mul_le_mul_of_nonneg_right (by omega) (by omega)
    rw [hat p (by omega) (by omega)]
    by_cases h1 : (p : Int) = 14 + (i : Int) * (sizeA c + 1)
    · rw [if_pos h1]
    · have hne : j ≠ i := by rintro rfl; exact h1 hp
      rw [if_neg h1, if_neg (by omega)]
      exact F.hdr j (by omega) p hp
theorem full_same {zs : List Int} {T c i : Nat} (F : FullS zs T c i) : FullS (applyZ zs []) T c i := by
  have hc := F.cls
  have hs := sizeA_b c
  have hlo := F.lo
  have hl : szZ zs.length = T := by rw [F.len]; exact szZ_id F.lo F.hi
  have hat : ∀ p : Nat, 0 < p → wordAt (applyZ zs []) p = wordAt zs p := by
    intro p h0
    by_cases hp : p < szZ zs.length
    · exact base_at zs h0 hp
    · unfold wordAt
      rw [List.getElem?_eq_none (by rw [applyZ_len]; omega), List.getElem?_eq_none (by rw [F.len]; omega)]
  refine ⟨by rw [applyZ_len, hl], F.lo, F.hi, F.cls, applyZ_nn F.nn (fun c hc => by cases hc), ?_, ?_, ?_⟩
  · rw [hat c (by omega)]; exact F.head
  · rw [hat 5 (by omega)]; exact F.bump
  · intro j hj p hp
    have hjm := mul_b j (show 0 ≤ sizeA c + 1 by omega)
    rw [hat p (by omega)]
    exact F.hdr j hj p hp

theorem head_live {c : Nat} (hc : 1 ≤ c ∧ c ≤ 4) : headA ((c : Int) + 8) = ((c : Int), true) := by
  unfold headA
  rw [if_neg (by omega), if_pos (by omega), show (c : Int) + 8 - 8 = c by omega]
theorem head_free {c : Nat} (hc : 1 ≤ c ∧ c ≤ 4) : headA (c : Int) = ((c : Int), false) := by
  unfold headA
  rw [if_pos (by omega)]
theorem one_ask {zs : List Int} {m : Int} {C : List Cl} {F : List Int} {p : Nat} {w : Int} (h0 : 14 ≤ p) (h : p + 1 < szZ zs.length) (hw : (getC (p : Int) C).getD (wordAt zs p) = w) :
    askV (oneV zs m C F) ((p : Int) + 1) = (if (headA w).1 = 0 then ((0, false, 2), oneV zs m C F) else (((headA w).1, (headA w).2, 0), oneV zs m C F)) := by
  unfold askV
  have hsz : ((oneV zs m C F).sz : Int) = ((szZ zs.length : Nat) : Int) := rfl
  rw [if_neg (by rw [hsz]; omega), show (p : Int) + 1 - 1 = (p : Int) by omega, one_read (by omega) (by omega), hw]
  rfl
theorem full_last {zs : List Int} {T c i j : Nat} {x : Int} {p : Nat} (F : FullS zs T c i) (hx : classA x = (c : Int)) (hj : j < i) (hp : (p : Int) = 14 + (j : Int) * (sizeA c + 1)) (hT : (p : Int) + 1 + sizeA c ≤ T) :
    freeA (wholeV zs 9) ((p : Int) + 1) = (0, oneV zs 9 [((p : Int), (c : Int))] [(p : Int) + 1]) ∧
    giveA (oneV zs 9 [((p : Int), (c : Int))] [(p : Int) + 1]) ((p : Int) + 1) = (0, oneV zs 9 [((p : Int), (c : Int)), ((p : Int) + 1, 0), ((c : Int), (p : Int) + 1)] [(p : Int) + 1]) ∧
    allocV (oneV zs 9 [((p : Int), (c : Int)), ((p : Int) + 1, 0), ((c : Int), (p : Int) + 1)] [(p : Int) + 1]) x = (((p : Int) + 1, 0), oneV zs 9 [((p : Int), (c : Int) + 8), ((p : Int) + 1, 0), ((c : Int), 0)] [(p : Int) + 1]) ∧
    (freeA (oneV zs 9 [((p : Int), (c : Int) + 8), ((p : Int) + 1, 0), ((c : Int), 0)] [(p : Int) + 1]) ((p : Int) + 1 + 1)).1 = 2 := by
  have hc := F.cls
  have hm := mul_b j (show 0 ≤ sizeA c + 1 by have := sizeA_b c; omega)
  have hs : 2 ≤ sizeA c := by unfold sizeA; repeat' split <;> omega
  have hlo := F.lo
  have hhi := F.hi
  have hl : szZ zs.length = T := by rw [F.len]; exact szZ_id F.lo F.hi
  have hw := F.hdr j hj p hp
  have hroom : ∀ n, n ≤ 9 → n ≤ (max 0 (min (9 : Int) 96)).toNat := by intro n hn; omega
  refine ⟨?_, ?_, ?_, ?_⟩
  · have ha : askV (oneV zs 9 [] []) ((p : Int) + 1) = (((c : Int), true, 0), oneV zs 9 [] []) := by
      rw [one_ask (w := (c : Int) + 8) (by omega) (by omega) (by rw [hw]; rfl), head_live hc, if_neg (by dsimp only; omega)]
    have ht := one_take (zs := zs) (m := 9) (C := []) (F := []) (cs := [((p : Int), (c : Int))]) (by
      intro d hd; rw [List.mem_singleton] at hd; subst hd; dsimp only; omega) (hroom _ (by simp))
    unfold freeA
    rw [wholeV_one]
    simp only [ha, if_true, show (p : Int) + 1 - 1 = (p : Int) by omega, ht]
    rfl
  · have ha : askV (oneV zs 9 [((p : Int), (c : Int))] [(p : Int) + 1]) ((p : Int) + 1) = (((c : Int), false, 0), oneV zs 9 [((p : Int), (c : Int))] [(p : Int) + 1]) := by
      rw [one_ask (w := (c : Int)) (by omega) (by omega) (by rw [getC_cons, if_pos rfl]; rfl), head_free hc, if_neg (by dsimp only; omega)]
    have hg : getC (c : Int) [((p : Int), (c : Int))] = none := by rw [getC_cons, if_neg (by dsimp only; omega)]; rfl
    have hr := one_read (zs := zs) (m := 9) (C := [((p : Int), (c : Int))]) (F := [(p : Int) + 1]) (i := c) (by omega) (by omega)
    rw [hg] at hr
    have hr : readV (oneV zs 9 [((p : Int), (c : Int))] [(p : Int) + 1]) (c : Int) = ((wordAt zs c, 0), oneV zs 9 [((p : Int), (c : Int))] [(p : Int) + 1]) := hr
    rw [F.head] at hr
    have ht := one_take (zs := zs) (m := 9) (C := [((p : Int), (c : Int))]) (F := [(p : Int) + 1]) (cs := [((p : Int) + 1, 0), ((c : Int), (p : Int) + 1)]) (by
      intro d hd
      rcases List.mem_cons.1 hd with rfl | hd
      · dsimp only; omega
      · rw [List.mem_singleton] at hd; subst hd; dsimp only; omega) (hroom _ (by simp))
    unfold giveA
    simp only [ha, if_true, hr, ht, Bool.false_eq_true, if_false]
    have : putsC [((p : Int), (c : Int))] [((p : Int) + 1, 0), ((c : Int), (p : Int) + 1)] = [((p : Int), (c : Int)), ((p : Int) + 1, 0), ((c : Int), (p : Int) + 1)] := by
      show putC (c : Int) ((p : Int) + 1) (putC ((p : Int) + 1) 0 [((p : Int), (c : Int))]) = _
      rw [show putC ((p : Int) + 1) 0 [((p : Int), (c : Int))] = [((p : Int), (c : Int)), ((p : Int) + 1, 0)] by unfold putC; rw [if_neg (by dsimp only; omega)]; rfl]
      unfold putC
      rw [if_neg (by dsimp only; omega)]
      unfold putC
      rw [if_neg (by dsimp only; omega)]; rfl
    rw [this]
  · unfold allocV
    have hgc : getC (c : Int) [((p : Int), (c : Int)), ((p : Int) + 1, 0), ((c : Int), (p : Int) + 1)] = some ((p : Int) + 1) := by
      rw [getC_cons, if_neg (by dsimp only; omega), getC_cons, if_neg (by dsimp only; omega), getC_cons, if_pos rfl]
    have hgb : getC ((p + 1 : Nat) : Int) [((p : Int), (c : Int)), ((p : Int) + 1, 0), ((c : Int), (p : Int) + 1)] = some 0 := by
      rw [getC_cons, if_neg (by dsimp only; omega), getC_cons, if_pos (by dsimp only; omega)]
    have hrc := one_read (zs := zs) (m := 9) (C := [((p : Int), (c : Int)), ((p : Int) + 1, 0), ((c : Int), (p : Int) + 1)]) (F := [(p : Int) + 1]) (i := c) (by omega) (by omega)
    rw [hgc, Option.getD_some] at hrc
    have hr := one_read (zs := zs) (m := 9) (C := [((p : Int), (c : Int)), ((p : Int) + 1, 0), ((c : Int), (p : Int) + 1)]) (F := [(p : Int) + 1]) (i := p + 1) (by omega) (by omega)
    rw [hgb, show ((p + 1 : Nat) : Int) = (p : Int) + 1 by omega, Option.getD_some] at hr
    have ht := one_take (zs := zs) (m := 9) (C := [((p : Int), (c : Int)), ((p : Int) + 1, 0), ((c : Int), (p : Int) + 1)]) (F := [(p : Int) + 1]) (cs := [((c : Int), 0), ((p : Int), (c : Int) + 8)]) (by
      intro d hd
      rcases List.mem_cons.1 hd with rfl | hd
      · dsimp only; omega
      · rw [List.mem_singleton] at hd; subst hd; dsimp only; omega) (hroom _ (by simp))
    rw [hx, if_neg (by omega)]
    unfold againV
    have n0 : ¬ (p : Int) + 1 = 0 := by omega
    have n1 : ¬ 2147483648 ≤ (p : Int) + 1 := by omega
    simp only [hrc, if_true, if_neg n0, if_neg n1, hr, show (p : Int) + 1 - 1 = (p : Int) by omega, ht]
    have : putsC [((p : Int), (c : Int)), ((p : Int) + 1, 0), ((c : Int), (p : Int) + 1)] [((c : Int), 0), ((p : Int), (c : Int) + 8)] = [((p : Int), (c : Int) + 8), ((p : Int) + 1, 0), ((c : Int), 0)] := by
      show putC (p : Int) ((c : Int) + 8) (putC (c : Int) 0 [((p : Int), (c : Int)), ((p : Int) + 1, 0), ((c : Int), (p : Int) + 1)]) = _
      have e : putC (c : Int) 0 [((p : Int), (c : Int)), ((p : Int) + 1, 0), ((c : Int), (p : Int) + 1)] = [((p : Int), (c : Int)), ((p : Int) + 1, 0), ((c : Int), 0)] := by
        unfold putC
        rw [if_neg (by dsimp only; omega)]
        unfold putC
        rw [if_neg (by dsimp only; omega)]
        unfold putC
        rw [if_pos rfl]
      rw [e]
      unfold putC
      rw [if_pos rfl]
    rw [this]
  · unfold freeA
    have hgb : getC ((p + 1 : Nat) : Int) [((p : Int), (c : Int) + 8), ((p : Int) + 1, 0), ((c : Int), 0)] = some 0 := by
      rw [getC_cons, if_neg (by dsimp only; omega), getC_cons, if_pos (by dsimp only; omega)]
    have ha := one_ask (zs := zs) (m := 9) (C := [((p : Int), (c : Int) + 8), ((p : Int) + 1, 0), ((c : Int), 0)]) (F := [(p : Int) + 1]) (p := p + 1) (w := 0) (by omega) (by omega) (by rw [hgb]; rfl)
    rw [show ((p + 1 : Nat) : Int) = (p : Int) + 1 by omega, show (headA 0).1 = 0 from rfl, if_pos rfl] at ha
    simp only [ha]
    rfl
end Go.Proofs.Ytpohfcljfemhlaa

namespace Go.Proofs.Ytpohfcljfemhlaa.arenaFull
open Go Go.Ae arenaPlays
set_option maxRecDepth 100000
variable {g h : AH} {L R : List SP}

theorem ww_beqT {a b neg t : Bool} {K : AV → Go.Ae.R} {Q : AV → AH → Prop} (ht : ((a == b) != neg) = t) (w : wp (K (.bool t)) Q) : wp (pEq .bool neg (.bool a) (.bool b) K) Q := by
  subst ht; exact w
theorem fit_ex {T : Nat} {s : Int} (h1 : 32 ≤ T) (h2 : T ≤ 256) (hs : 3 ≤ s ∧ s ≤ 17) : ∃ f : Nat, awrap .i64 (((T : Int) - 14).tdiv s) = (f : Int) ∧ 14 + (f : Int) * s ≤ T ∧ (T : Int) < 14 + ((f : Int) + 1) * s ∧ f ≤ 256 := by
  have e : ((T : Int) - 14).tdiv s = ((T : Int) - 14) / s := Int.tdiv_eq_ediv_of_nonneg (by omega)
  have b1 := Int.ediv_mul_le ((T : Int) - 14) (show s ≠ 0 by omega)
  have b2 := Int.lt_ediv_add_one_mul_self ((T : Int) - 14) (show 0 < s by omega)
  have b3 := Int.ediv_nonneg (show 0 ≤ (T : Int) - 14 by omega) (show 0 ≤ s by omega)
  have b4 := Int.ediv_le_self s (show 0 ≤ (T : Int) - 14 by omega)
  rw [e]
  generalize ((T : Int) - 14) / s = q at *
  refine ⟨q.toNat, ?_, ?_, ?_, by omega⟩
  · rw [wrapI (by omega)]; omega
  · rw [show ((q.toNat : Nat) : Int) = q by omega]; omega
  · rw [show ((q.toNat : Nat) : Int) = q by omega]; omega

end Go.Proofs.Ytpohfcljfemhlaa.arenaFull
