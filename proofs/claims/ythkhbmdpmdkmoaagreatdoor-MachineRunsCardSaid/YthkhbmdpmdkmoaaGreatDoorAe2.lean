/- The abstract executor of the program's form in Lean, shown sound: what an abstract heap says of a world; loads, stores, numbers, simple operations. -/
import Derived.Test.YthkhbmdpmdkmoaaGreatDoorAe1
import Derived.Below
import Derived.Lib.LaidTab
import Derived.Laws.StructEq
namespace Go.Ae

/-! ### trees -/
theorem nbeq_f {a b : Nat} (h : a ≠ b) : Nat.beq a b = false := by
  cases e : Nat.beq a b
  · rfl
  · exact absurd (Nat.eq_of_beq_eq_true e) h
theorem nbeq_ne {a b : Nat} (h : Nat.beq a b = false) : a ≠ b := fun e => by subst e; rw [Nat.beq_refl] at h; cases h
theorem nbeq_t {a b : Nat} (h : Nat.beq a b = true) : a = b := Nat.eq_of_beq_eq_true h
theorem PT.get_e0 {α : Type} (i : Nat) : (PT.e : PT α).get i = none := rfl
theorem PT.get_n {α : Type} (l : PT α) (v : Option α) (r : PT α) (i : Nat) : (PT.n l v r).get i = bif Nat.beq i 0 then v else bif Nat.beq (i % 2) 1 then l.get (i / 2) else r.get (i / 2 - 1) := by
  show Bool.rec (motive := fun _ => Option α) (Bool.rec (motive := fun _ => Option α) (r.get (i / 2 - 1)) (l.get (i / 2)) (Nat.beq (i % 2) 1)) v (Nat.beq i 0) = _
  cases Nat.beq i 0 <;> cases Nat.beq (i % 2) 1 <;> rfl
theorem PT.setF_e {α : Type} (f i : Nat) (x : α) : PT.setF (f + 1) .e i x = bif Nat.beq i 0 then .n .e (some x) .e else bif Nat.beq (i % 2) 1 then .n (PT.setF f .e (i / 2) x) none .e else .n .e none (PT.setF f .e (i / 2 - 1) x) := by
  show Bool.rec (motive := fun _ => PT α) (Bool.rec (motive := fun _ => PT α) (.n .e none (PT.setF f .e (i / 2 - 1) x)) (.n (PT.setF f .e (i / 2) x) none .e) (Nat.beq (i % 2) 1)) (.n .e (some x) .e) (Nat.beq i 0) = _
  cases Nat.beq i 0 <;> cases Nat.beq (i % 2) 1 <;> rfl
theorem PT.setF_n {α : Type} (f i : Nat) (x : α) (l : PT α) (v : Option α) (r : PT α) : PT.setF (f + 1) (.n l v r) i x = bif Nat.beq i 0 then .n l (some x) r else bif Nat.beq (i % 2) 1 then .n (PT.setF f l (i / 2) x) v r else .n l v (PT.setF f r (i / 2 - 1) x) := by
  show Bool.rec (motive := fun _ => PT α) (Bool.rec (motive := fun _ => PT α) (.n l v (PT.setF f r (i / 2 - 1) x)) (.n (PT.setF f l (i / 2) x) v r) (Nat.beq (i % 2) 1)) (.n l (some x) r) (Nat.beq i 0) = _
  cases Nat.beq i 0 <;> cases Nat.beq (i % 2) 1 <;> rfl
theorem lget_nil {α : Type} (i : Nat) : lget ([] : List α) i = none := rfl
theorem lget_cons {α : Type} (a : α) (r : List α) (i : Nat) : lget (a :: r) i = bif Nat.beq i 0 then some a else lget r (i - 1) := by
  show Bool.rec (motive := fun _ => Option α) (lget r (i - 1)) (some a) (Nat.beq i 0) = _
  cases Nat.beq i 0 <;> rfl
theorem ltake_z {α : Type} (l : List α) : ltake 0 l = some [] := rfl
theorem ltake_nil {α : Type} (n : Nat) : ltake (n + 1) ([] : List α) = none := rfl
theorem ltake_cons {α : Type} (n : Nat) (a : α) (r : List α) : ltake (n + 1) (a :: r) = (ltake n r).bind fun s => some (a :: s) := by
  show Option.rec (motive := fun _ => Option (List α)) none (fun s => some (a :: s)) (ltake n r) = _
  cases ltake n r <;> rfl
theorem ldrop_z {α : Type} (l : List α) : ldrop 0 l = l := rfl
theorem ldrop_nil {α : Type} (n : Nat) : ldrop (n + 1) ([] : List α) = [] := rfl
theorem ldrop_cons {α : Type} (n : Nat) (a : α) (r : List α) : ldrop (n + 1) (a :: r) = ldrop n r := rfl
theorem lput_z {α : Type} (l : List α) : lput l [] = some l := rfl
theorem lput_nil {α : Type} (x : α) (xs : List α) : lput [] (x :: xs) = none := rfl
theorem lput_cons {α : Type} (a : α) (l : List α) (x : α) (xs : List α) : lput (a :: l) (x :: xs) = (lput l xs).bind fun s => some (x :: s) := by
  show Option.rec (motive := fun _ => Option (List α)) none (fun s => some (x :: s)) (lput l xs) = _
  cases lput l xs <;> rfl
theorem lputAt_z {α : Type} (l xs : List α) : lputAt l 0 xs = lput l xs := rfl
theorem lputAt_nil {α : Type} (n : Nat) (xs : List α) : lputAt [] (n + 1) xs = none := rfl
theorem lputAt_cons {α : Type} (a : α) (l : List α) (n : Nat) (xs : List α) : lputAt (a :: l) (n + 1) xs = (lputAt l n xs).bind fun s => some (a :: s) := by
  show Option.rec (motive := fun _ => Option (List α)) none (fun s => some (a :: s)) (lputAt l n xs) = _
  cases lputAt l n xs <;> rfl
theorem setL_nil (t : Trie AV) (i : Nat) : setL t i [] = t := rfl
theorem setL_cons (t : Trie AV) (i : Nat) (x : AV) (r : List AV) : setL t i (x :: r) = setL (Trie.set t i x) (i + 1) r := rfl
theorem tcell_eq (z : List AV) (t : Trie AV) (i : Nat) : tcell z t i = (match Trie.get t i with | some v => some v | none => lget z (i % z.length)) := by
  show Option.rec (motive := fun _ => Option AV) (lget z (i % z.length)) (fun v => some v) (Trie.get t i) = _
  cases Trie.get t i <;> rfl
theorem readT_z (z : List AV) (t : Trie AV) (i : Nat) : readT z t i 0 = some [] := rfl
theorem readT_s (z : List AV) (t : Trie AV) (i n : Nat) : readT z t i (n + 1) = (tcell z t i).bind fun v => (readT z t (i + 1) n).bind fun s => some (v :: s) := by
  show Option.rec (motive := fun _ => Option (List AV)) none (fun v => Option.rec (motive := fun _ => Option (List AV)) none (fun s => some (v :: s)) (readT z t (i + 1) n)) (tcell z t i) = _
  cases tcell z t i with
  | none => rfl
  | some v => cases readT z t (i + 1) n <;> rfl
theorem PT.get_setF {α : Type} : ∀ (f : Nat) (t : PT α) (i : Nat) (x : α) (j : Nat), i < f → (PT.setF f t i x).get j = if i = j then some x else t.get j := by
  intro f
  induction f with
  | zero => intro t i x j h; omega
  | succ f ih =>
    intro t i x j h
    cases t with
    | e =>
      simp only [PT.setF_e]
      by_cases h0 : i = 0
      · subst h0
        simp only [Nat.beq_refl, cond_true, PT.get_n, PT.get_e0]
        by_cases hj : j = 0
        · subst hj; simp
        · rw [if_neg (fun e => hj e.symm)]
          have : Nat.beq j 0 = false := nbeq_f hj
          rw [this]
          cases hb : Nat.beq (j % 2) 1 <;> simp
      · have hi0 : Nat.beq i 0 = false := nbeq_f h0
        rw [hi0]
        simp only [cond_false]
        cases hm : Nat.beq (i % 2) 1
        · have hm' : i % 2 ≠ 1 := nbeq_ne hm
          simp only [cond_false, PT.get_n, PT.get_e0]
          by_cases hj : j = 0
          · subst hj; simp [h0]
          · have hj0 : Nat.beq j 0 = false := nbeq_f hj
            rw [hj0]; simp only [cond_false]
            cases hjm : Nat.beq (j % 2) 1
            · have hjm' : j % 2 ≠ 1 := nbeq_ne hjm
              simp only [cond_false]
              rw [ih _ _ _ _ (by omega)]
              simp only [PT.get_e0]
              by_cases e : i = j
              · subst e; simp
              · rw [if_neg (by omega), if_neg e]
            · have hjm' : j % 2 = 1 := Nat.eq_of_beq_eq_true hjm
              simp only [cond_true]
              rw [if_neg (by omega)]
        · have hm' : i % 2 = 1 := Nat.eq_of_beq_eq_true hm
          simp only [cond_true, PT.get_n, PT.get_e0]
          by_cases hj : j = 0
          · subst hj; simp [h0]
          · have hj0 : Nat.beq j 0 = false := nbeq_f hj
            rw [hj0]; simp only [cond_false]
            cases hjm : Nat.beq (j % 2) 1
            · have hjm' : j % 2 ≠ 1 := nbeq_ne hjm
              simp only [cond_false]
              rw [if_neg (by omega)]
            · have hjm' : j % 2 = 1 := Nat.eq_of_beq_eq_true hjm
              simp only [cond_true]
              rw [ih _ _ _ _ (by omega)]
              simp only [PT.get_e0]
              by_cases e : i = j
              · subst e; simp
              · rw [if_neg (by omega), if_neg e]
    | n l v r =>
      simp only [PT.setF_n]
      by_cases h0 : i = 0
      · subst h0
        simp only [Nat.beq_refl, cond_true, PT.get_n]
        by_cases hj : j = 0
        · subst hj; simp
        · rw [if_neg (fun e => hj e.symm)]
          have : Nat.beq j 0 = false := nbeq_f hj
          rw [this]; simp
      · have hi0 : Nat.beq i 0 = false := nbeq_f h0
        rw [hi0]
        simp only [cond_false]
        cases hm : Nat.beq (i % 2) 1
        · have hm' : i % 2 ≠ 1 := nbeq_ne hm
          simp only [cond_false, PT.get_n]
          by_cases hj : j = 0
          · subst hj; simp [h0]
          · have hj0 : Nat.beq j 0 = false := nbeq_f hj
            rw [hj0]; simp only [cond_false]
            cases hjm : Nat.beq (j % 2) 1
            · have hjm' : j % 2 ≠ 1 := nbeq_ne hjm
              simp only [cond_false]
              rw [ih _ _ _ _ (by omega)]
              by_cases e : i = j
              · subst e; simp
              · rw [if_neg (by omega), if_neg e]
            · have hjm' : j % 2 = 1 := Nat.eq_of_beq_eq_true hjm
              simp only [cond_true]
              rw [if_neg (by omega)]
        · have hm' : i % 2 = 1 := Nat.eq_of_beq_eq_true hm
          simp only [cond_true, PT.get_n]
          by_cases hj : j = 0
          · subst hj; simp [h0]
          · have hj0 : Nat.beq j 0 = false := nbeq_f hj
            rw [hj0]; simp only [cond_false]
            cases hjm : Nat.beq (j % 2) 1
            · have hjm' : j % 2 ≠ 1 := nbeq_ne hjm
              simp only [cond_false]
              rw [if_neg (by omega)]
            · have hjm' : j % 2 = 1 := Nat.eq_of_beq_eq_true hjm
              simp only [cond_true]
              rw [ih _ _ _ _ (by omega)]
              by_cases e : i = j
              · subst e; simp
              · rw [if_neg (by omega), if_neg e]

theorem PT.get_set {α : Type} (t : PT α) (i : Nat) (x : α) (j : Nat) : (t.set i x).get j = if i = j then some x else t.get j :=
  PT.get_setF (i + 1) t i x j (Nat.lt_succ_self i)
@[simp] theorem PT.get_set_same {α : Type} (t : PT α) (i : Nat) (x : α) : (t.set i x).get i = some x := by rw [PT.get_set, if_pos rfl]
theorem PT.get_set_ne {α : Type} (t : PT α) {i j : Nat} (x : α) (h : i ≠ j) : (t.set i x).get j = t.get j := by rw [PT.get_set, if_neg h]

/-! ### trees of trees -/
def bitZ (i m : Nat) : Bool := Nat.beq (Nat.land i m) 0
theorem PT.kid_sub {α : Type} (i j m : Nat) (f : PT α → PT α) (t : PT α) : PT.kid j m (PT.sub i m f t) = if bitZ i m = bitZ j m then f (PT.kid j m t) else PT.kid j m t := by
  unfold bitZ
  cases t with
  | e =>
    show PT.kid j m (Bool.rec (motive := fun _ => PT α) (.n .e none (f .e)) (.n (f .e) none .e) (Nat.beq (Nat.land i m) 0)) = _
    cases Nat.beq (Nat.land i m) 0
    · show Bool.rec (motive := fun _ => PT α) (f .e) .e (Nat.beq (Nat.land j m) 0) = _
      cases Nat.beq (Nat.land j m) 0 <;> rfl
    · show Bool.rec (motive := fun _ => PT α) .e (f .e) (Nat.beq (Nat.land j m) 0) = _
      cases Nat.beq (Nat.land j m) 0 <;> rfl
  | n l v r =>
    show PT.kid j m (Bool.rec (motive := fun _ => PT α) (.n l v (f r)) (.n (f l) v r) (Nat.beq (Nat.land i m) 0)) = if _ then f (Bool.rec (motive := fun _ => PT α) r l (Nat.beq (Nat.land j m) 0)) else Bool.rec (motive := fun _ => PT α) r l (Nat.beq (Nat.land j m) 0)
    cases Nat.beq (Nat.land i m) 0
    · show Bool.rec (motive := fun _ => PT α) (f r) l (Nat.beq (Nat.land j m) 0) = _
      cases Nat.beq (Nat.land j m) 0 <;> rfl
    · show Bool.rec (motive := fun _ => PT α) r (f l) (Nat.beq (Nat.land j m) 0) = _
      cases Nat.beq (Nat.land j m) 0 <;> rfl
theorem PT.leaf_mark {α : Type} (x : α) (t : PT α) : (PT.mark x t).leaf = some x := by cases t <;> rfl
noncomputable def kids {α : Type} : List Nat → PT α → Nat → Option α
  | [], t, _ => t.leaf
  | m :: r, t, i => kids r (PT.kid i m t) i
noncomputable def subs {α : Type} : List Nat → Nat → α → PT α → PT α
  | [], _, x => PT.mark x
  | m :: r, i, x => PT.sub i m (subs r i x)
theorem kids_subs {α : Type} (i j : Nat) (x : α) : ∀ (L : List Nat) (t : PT α), kids L (subs L i x t) j = if (∀ m ∈ L, bitZ i m = bitZ j m) then some x else kids L t j := by
  intro L
  induction L with
  | nil => intro t; simp [kids, subs, PT.leaf_mark]
  | cons m L ih =>
    intro t
    simp only [kids, subs, PT.kid_sub]
    by_cases h : bitZ i m = bitZ j m
    · rw [if_pos h, ih]
      by_cases h2 : ∀ k ∈ L, bitZ i k = bitZ j k
      · rw [if_pos h2, if_pos (by intro k hk; rcases List.mem_cons.1 hk with rfl | hk; exact h; exact h2 k hk)]
      · rw [if_neg h2, if_neg (fun hh => h2 fun k hk => hh k (List.mem_cons_of_mem _ hk))]
    · rw [if_neg h, if_neg (fun hh => h (hh m (List.mem_cons_self ..)))]
def masks12 : List Nat := [2048, 1024, 512, 256, 128, 64, 32, 16, 8, 4, 2, 1]
theorem bitZ_pow (i k : Nat) : bitZ i (2 ^ k) = !i.testBit k := by
  unfold bitZ
  cases h : i.testBit k
  · have : Nat.land i (2 ^ k) = 0 := by
      apply Nat.eq_of_testBit_eq
      intro n
      show (i &&& 2 ^ k).testBit n = _
      rw [Nat.testBit_and, Nat.testBit_two_pow]
      by_cases e : k = n
      · subst e; simp [h]
      · simp [e]
    rw [this]; rfl
  · have : Nat.land i (2 ^ k) ≠ 0 := by
      intro e
      have := congrArg (fun x => x.testBit k) e
      simp only [Nat.zero_testBit] at this
      have h2 : (i &&& 2 ^ k).testBit k = false := this
      rw [Nat.testBit_and, Nat.testBit_two_pow, h] at h2
      simp at h2
    rw [nbeq_f this]; rfl
theorem masks_mod (i j : Nat) : (∀ m ∈ masks12, bitZ i m = bitZ j m) ↔ i % 4096 = j % 4096 := by
  have hm : masks12 = [2 ^ 11, 2 ^ 10, 2 ^ 9, 2 ^ 8, 2 ^ 7, 2 ^ 6, 2 ^ 5, 2 ^ 4, 2 ^ 3, 2 ^ 2, 2 ^ 1, 2 ^ 0] := rfl
  rw [hm]
  constructor
  · intro h
    have hb : ∀ k, k < 12 → i.testBit k = j.testBit k := by
      intro k hk
      have hmem : 2 ^ k ∈ [2 ^ 11, 2 ^ 10, 2 ^ 9, 2 ^ 8, 2 ^ 7, 2 ^ 6, 2 ^ 5, 2 ^ 4, 2 ^ 3, 2 ^ 2, 2 ^ 1, 2 ^ 0] := by
        have : k = 0 ∨ k = 1 ∨ k = 2 ∨ k = 3 ∨ k = 4 ∨ k = 5 ∨ k = 6 ∨ k = 7 ∨ k = 8 ∨ k = 9 ∨ k = 10 ∨ k = 11 := by omega
        rcases this with rfl | rfl | rfl | rfl | rfl | rfl | rfl | rfl | rfl | rfl | rfl | rfl <;> simp
      have := h _ hmem
      rw [bitZ_pow, bitZ_pow] at this
      simpa using this
    apply Nat.eq_of_testBit_eq
    intro n
    rw [show 4096 = 2 ^ 12 from rfl, Nat.testBit_mod_two_pow, Nat.testBit_mod_two_pow]
    by_cases hn : n < 12
    · simp [hn, hb n hn]
    · simp [hn]
  · intro h m hmem
    have key : ∀ k, k < 12 → bitZ i (2 ^ k) = bitZ j (2 ^ k) := by
      intro k hk
      rw [bitZ_pow, bitZ_pow]
      have := congrArg (fun x => x.testBit k) h
      simp only [show 4096 = 2 ^ 12 from rfl, Nat.testBit_mod_two_pow, hk, decide_true, Bool.true_and] at this
      rw [this]
    simp only [List.mem_cons, List.not_mem_nil, or_false] at hmem
    rcases hmem with rfl | rfl | rfl | rfl | rfl | rfl | rfl | rfl | rfl | rfl | rfl | rfl <;> exact key _ (by omega)
theorem PT.get12_eq {α : Type} (t : PT α) (i : Nat) : t.get12 i = kids masks12 t i := rfl
theorem PT.set12_eq {α : Type} (t : PT α) (i : Nat) (x : α) : t.set12 i x = subs masks12 i x t := rfl
theorem PT.get_set12 {α : Type} (t : PT α) (i : Nat) (x : α) (j : Nat) : (t.set12 i x).get12 j = if i % 4096 = j % 4096 then some x else t.get12 j := by
  rw [PT.get12_eq, PT.get12_eq, PT.set12_eq, kids_subs]
  by_cases h : i % 4096 = j % 4096
  · rw [if_pos h, if_pos ((masks_mod i j).2 h)]
  · rw [if_neg h, if_neg (fun hh => h ((masks_mod i j).1 hh))]
theorem Trie.get_eq {α : Type} (t : Trie α) (i : Nat) : t.get i = (PT.get t (i / 4096)).bind fun s => s.get12 i := by
  show Option.rec (motive := fun _ => Option α) none (fun s => PT.get12 s i) (PT.get t (i / 4096)) = _
  cases PT.get t (i / 4096) <;> rfl
theorem PT.get12_e {α : Type} (i : Nat) : (PT.e : PT α).get12 i = none := rfl
theorem Trie.get_e {α : Type} (i : Nat) : Trie.get (PT.e : Trie α) i = none := rfl
theorem Trie.get_set {α : Type} (t : Trie α) (i : Nat) (x : α) (j : Nat) : (t.set i x).get j = if i = j then some x else t.get j := by
  rw [Trie.get_eq, Trie.get_eq]
  show ((PT.set t (i / 4096) (PT.set12 (Option.rec (motive := fun _ => PT α) .e (fun s => s) (PT.get t (i / 4096))) i x)).get (j / 4096)).bind _ = _
  rw [PT.get_set]
  by_cases hd : i / 4096 = j / 4096
  · rw [if_pos hd, Option.bind_some, PT.get_set12, ← hd]
    by_cases hm : i % 4096 = j % 4096
    · have : i = j := by omega
      rw [if_pos hm, if_pos this]
    · have : i ≠ j := fun e => hm (by rw [e])
      rw [if_neg hm, if_neg this]
      cases PT.get t (i / 4096) <;> rfl
  · have : i ≠ j := fun e => hd (by rw [e])
    rw [if_neg hd, if_neg this]
@[simp] theorem Trie.get_set_same {α : Type} (t : Trie α) (i : Nat) (x : α) : (t.set i x).get i = some x := by rw [Trie.get_set, if_pos rfl]
theorem Trie.get_set_ne {α : Type} (t : Trie α) {i j : Nat} (x : α) (h : i ≠ j) : (t.set i x).get j = t.get j := by rw [Trie.get_set, if_neg h]

theorem look_cons (p : Nat × Blk) (l : List (Nat × Blk)) (b : Nat) (d : Option Blk) : look (p :: l) b d = if p.1 = b then some p.2 else look l b d := by
  show Bool.rec (motive := fun _ => Option Blk) (look l b d) (some p.2) (Nat.beq p.1 b) = _
  by_cases h : p.1 = b
  · rw [if_pos h, h, Nat.beq_refl]
  · rw [if_neg h, nbeq_f h]
theorem keep_look : ∀ (n : Nat) (l : List (Nat × Blk)) (b : Nat) (d : Option Blk), look (keep3 n l) b (look (ldrop n l) b d) = look l b d := by
  intro n
  induction n with
  | zero => intro l b d; rfl
  | succ n ih =>
    intro l b d
    cases l with
    | nil => rfl
    | cons p l =>
      show look (p :: keep3 n l) b (look (ldrop n l) b d) = _
      rw [look_cons, look_cons, ih]
theorem spill_get : ∀ (l : List (Nat × Blk)) (t : Trie Blk) (b : Nat), Trie.get (spill l t) b = look l b (Trie.get t b) := by
  intro l
  induction l with
  | nil => intro t b; rfl
  | cons p l ih =>
    intro t b
    show Trie.get (Trie.set (spill l t) p.1 p.2) b = _
    rw [Trie.get_set, look_cons, ih]
theorem AH.get_put (h : AH) (b b' : Nat) (x : Blk) : (h.put b x).get b' = if b = b' then some x else h.get b' := by
  show look ((b, x) :: keep3 5 h.rc) b' (Trie.get (spill (ldrop 5 h.rc) h.t) b') = _
  rw [look_cons, spill_get, keep_look]; rfl
theorem AH.get_new (h : AH) (b' : Nat) (x : Blk) : (h.new x).get b' = if h.nx = b' then some x else h.get b' := by
  show look ((h.nx, x) :: keep3 5 h.rc) b' (Trie.get (spill (ldrop 5 h.rc) h.t) b') = _
  rw [look_cons, spill_get, keep_look]; rfl
@[simp] theorem AH.get_put_same (h : AH) (b : Nat) (x : Blk) : (h.put b x).get b = some x := by rw [AH.get_put, if_pos rfl]
theorem AH.get_put_ne (h : AH) {b b' : Nat} (x : Blk) (e : b ≠ b') : (h.put b x).get b' = h.get b' := by rw [AH.get_put, if_neg e]
@[simp] theorem AH.get_new_same (h : AH) (x : Blk) : (h.new x).get h.nx = some x := by rw [AH.get_new, if_pos rfl]
theorem AH.get_new_ne (h : AH) {b : Nat} (x : Blk) (e : h.nx ≠ b) : (h.new x).get b = h.get b := by rw [AH.get_new, if_neg e]
@[simp] theorem AH.nx_put (h : AH) (b : Nat) (x : Blk) : (h.put b x).nx = h.nx := rfl
@[simp] theorem AH.nx_new (h : AH) (x : Blk) : (h.new x).nx = h.nx + 1 := rfl

theorem keq_eq (a b : IntKind) : keq a b = (a == b) := by cases a <;> cases b <;> rfl
theorem beqF_eq (t w : Bool) : beqF t w = (t == w) := by cases t <;> cases w <;> rfl
theorem notF_eq (b : Bool) : notF b = !b := by cases b <;> rfl
theorem iadd_eq (x y : Int) : iadd x y = x + y := by cases x <;> cases y <;> rfl
theorem isub_eq (x y : Int) : isub x y = x - y := by
  cases x with
  | negSucc a => rfl
  | ofNat a =>
    cases y with
    | negSucc b => rfl
    | ofNat b =>
      show Bool.rec (motive := fun _ => Int) (.negSucc (Nat.sub (Nat.sub b a) 1)) (.ofNat (Nat.sub a b)) (Nat.ble b a) = (a : Int) - (b : Int)
      cases hb : Nat.ble b a
      · have : ¬ b ≤ a := fun h => by rw [Nat.ble_eq_true_of_le h] at hb; cases hb
        show Int.negSucc (b - a - 1) = _
        rw [Int.negSucc_eq]; omega
      · have := Nat.le_of_ble_eq_true hb
        show Int.ofNat (a - b) = _
        show ((a - b : Nat) : Int) = _
        omega
theorem iltF_eq (x y : Int) : iltF x y = ilt x y := by cases x <;> cases y <;> rfl
theorem ieqF_eq (x y : Int) : ieqF x y = ieq x y := by cases x <;> cases y <;> rfl
theorem wrapK_eq (k : IntKind) (n : Int) (f : Int → R) : wrapK k n f = f (awrap k n) := by
  cases k <;> first | rfl | skip
  · cases n with
    | negSucc a => rfl
    | ofNat a =>
      show Bool.rec (motive := fun _ => R) (f (awrap .i64 (.ofNat a))) (f (.ofNat a)) (Nat.ble a 9223372036854775807) = _
      cases hb : Nat.ble a 9223372036854775807
      · rfl
      · simp only [awrap, hb, cond_true]
  · cases n with
    | negSucc a => rfl
    | ofNat a =>
      show Bool.rec (motive := fun _ => R) (f (awrap .u64 (.ofNat a))) (f (.ofNat a)) (Nat.ble a 18446744073709551615) = _
      cases hb : Nat.ble a 18446744073709551615
      · rfl
      · have := Nat.le_of_ble_eq_true hb
        simp only [awrap]
        rw [Nat.mod_eq_of_lt (by omega)]
theorem aintK_eq (op : BinOp) (k : IntKind) (x y : Int) (f : AV → R) : aintK op k x y f = ob (aint op k x y) f := by
  cases op <;> first | rfl | skip
  · show wrapK k (iadd x y) (fun n => f (.int k n)) = f (.int k (awrap k (x + y))); rw [wrapK_eq, iadd_eq]
  · show wrapK k (isub x y) (fun n => f (.int k n)) = f (.int k (awrap k (x - y))); rw [wrapK_eq, isub_eq]
  · show f (.bool (ieqF x y)) = _; rw [ieqF_eq]; rfl
  · show f (.bool (notF (ieqF x y))) = _; rw [ieqF_eq, notF_eq]; rfl
  · show f (.bool (iltF x y)) = _; rw [iltF_eq]; rfl
  · show f (.bool (notF (iltF y x))) = _; rw [iltF_eq, notF_eq]; rfl
  · show f (.bool (iltF y x)) = _; rw [iltF_eq]; rfl
  · show f (.bool (notF (iltF x y))) = _; rw [iltF_eq, notF_eq]; rfl
theorem orec {α : Type} (x : Option α) (k : α → R) : Option.rec (motive := fun _ => R) none k x = ob x k := by cases x <;> rfl
theorem brec (b : Bool) (x y : R) : Bool.rec (motive := fun _ => R) y x b = bif b then x else y := by cases b <;> rfl
theorem pCond_eq (v : AV) (a b : R) : pCond v a b = (match v with | .bool t => (match t with | true => a | false => b) | _ => none) := by cases v <;> first | rfl | (rename_i t; cases t <;> rfl)
theorem pWant_eq (v : AV) (w : Bool) (a b : R) : pWant v w a b = (match v with | .bool t => bif t == w then a else b | _ => b) := by cases v <;> first | rfl | (rename_i t; show Bool.rec (motive := fun _ => R) b a (beqF t w) = _; rw [beqF_eq, brec])
theorem pPick_eq (c a b : AV) (k : AV → R) : pPick c a b k = (match c with | .bool t => (match t with | true => k a | false => k b) | _ => none) := by cases c <;> first | rfl | (rename_i t; cases t <;> rfl)
theorem pFieldA_eq (v : AV) (off : Nat) (k : AV → R) : pFieldA v off k = (match v with | .ptr b o => k (.ptr b (o + off)) | _ => none) := by cases v <;> rfl
theorem pPart1_eq (v : AV) (off : Nat) (k : AV → R) : pPart1 v off k = (match v with | .agg cs => ob (lget cs off) k | _ => none) := by cases v <;> first | rfl | exact orec _ _
theorem pIdxS_eq (v i : AV) (sz : Nat) (k : AV → R) : pIdxS v i sz k = (match v, i with | .slice b off len _ _, .int _ (.ofNat a) => bif Nat.ble (a + 1) len then k (.ptr b (off + a * sz)) else none | _, _ => none) := by
  cases v <;> first | rfl | skip
  cases i <;> first | rfl | skip
  rename_i n; cases n <;> first | rfl | exact brec _ _ _
theorem pLoad1_eq (h : AH) (v : AV) (k : AV → R) : pLoad1 h v k = (match v with | .ptr b off => (match h.get b with | some (.cells c _ _) => ob (c.get1 off) k | some (.inp t) => ob (Trie.get t off) k | _ => none) | _ => none) := by
  cases v <;> first | rfl | skip
  rename_i b off
  show Option.rec (motive := fun _ => R) none _ (h.get b) = (match h.get b with | some (.cells c _ _) => ob (c.get1 off) k | some (.inp t) => ob (Trie.get t off) k | _ => none)
  cases h.get b with
  | none => rfl
  | some x => cases x <;> first | rfl | exact orec _ _
theorem pLoadN_eq (h : AH) (v : AV) (n : Nat) (k : AV → R) : pLoadN h v n k = (match v with | .ptr b off => ob (readAt h b off n) fun l => k (.agg l) | _ => none) := by cases v <;> first | rfl | exact orec _ _
theorem pStore_eq (h : AH) (a x : AV) (n : Nat) (k : AH → R) : pStore h a x n k = (match a with | .ptr b off => bif Nat.beq x.cells.length n then ob (writeAt h b off x.cells) k else none | _ => none) := by
  cases a <;> first | rfl | skip
  rename_i b off
  show Bool.rec (motive := fun _ => R) none (Option.rec (motive := fun _ => R) none k (writeAt h b off x.cells)) (Nat.beq x.cells.length n) = _
  rw [brec, orec]
theorem pInt_eq (op : BinOp) (x y : AV) (k : AV → R) : pInt op x y k = (match x, y with | .int k1 a, .int k2 b => bif k1 == k2 then ob (aint op k1 a b) k else none | _, _ => none) := by
  cases x <;> first | rfl | skip
  cases y <;> first | rfl | skip
  rename_i k1 a k2 b
  show Bool.rec (motive := fun _ => R) none (aintK op k1 a b k) (keq k1 k2) = _
  rw [brec, aintK_eq, keq_eq]
theorem pExtract_eq (v : AV) (i : Nat) (k : AV → R) : pExtract v i k = (match v with | .tup l => ob (lget l i) k | _ => none) := by cases v <;> first | rfl | exact orec _ _
theorem pCall_eq (c : CV) (f : AV) (a : List AV) (h : AH) (k : AV → AH → R) : pCall c f a h k = (match c f a h with | some q => k q.1 q.2 | none => none) := by unfold pCall; cases c f a h <;> rfl

/-! ### lists -/
theorem lget_eq {α : Type} (l : List α) (i : Nat) : lget l i = l[i]? := by
  induction l generalizing i with
  | nil => simp [lget_nil]
  | cons a r ih =>
    cases i with
    | zero => simp [lget_cons]
    | succ i => simp only [lget_cons]; rw [show Nat.beq (i + 1) 0 = false from rfl]; simp [ih]
theorem ldrop_eq {α : Type} (n : Nat) (l : List α) : ldrop n l = l.drop n := by
  induction n generalizing l with
  | zero => simp [ldrop_z]
  | succ n ih => cases l <;> simp [ldrop_nil, ldrop_cons, ih]
theorem ltake_some {α : Type} {n : Nat} {l s : List α} (h : ltake n l = some s) : s = l.take n ∧ n ≤ l.length := by
  induction n generalizing l s with
  | zero => simp [ltake_z] at h; simp [h]
  | succ n ih =>
    cases l with
    | nil => simp [ltake_nil] at h
    | cons a r =>
      simp only [ltake_cons, Option.bind_eq_some_iff] at h
      obtain ⟨t, ht, hs⟩ := h
      obtain ⟨e1, e2⟩ := ih ht
      cases hs
      simp [e1]; omega
theorem ltake_len {α : Type} {n : Nat} {l s : List α} (h : ltake n l = some s) : s.length = n := by
  obtain ⟨e, h'⟩ := ltake_some h
  rw [e, List.length_take]; omega
theorem lput_some {α : Type} {l xs r : List α} (h : lput l xs = some r) : r = xs ++ l.drop xs.length ∧ xs.length ≤ l.length := by
  induction xs generalizing l r with
  | nil => cases l <;> (simp [lput_z] at h; simp [h])
  | cons x xs ih =>
    cases l with
    | nil => simp [lput_nil] at h
    | cons a l =>
      simp only [lput_cons, Option.bind_eq_some_iff] at h
      obtain ⟨t, ht, hs⟩ := h
      obtain ⟨e1, e2⟩ := ih ht
      cases hs
      simp [e1]; omega
theorem lputAt_some {α : Type} {l : List α} {off : Nat} {xs r : List α} (h : lputAt l off xs = some r) : r = l.take off ++ xs ++ l.drop (off + xs.length) ∧ off + xs.length ≤ l.length := by
  induction off generalizing l r with
  | zero =>
    have h' : lput l xs = some r := h
    obtain ⟨e1, e2⟩ := lput_some h'
    simp [e1]; omega
  | succ n ih =>
    cases l with
    | nil =>
      simp [lputAt_nil] at h
    | cons a l =>
      simp only [lputAt_cons, Option.bind_eq_some_iff] at h
      obtain ⟨t, ht, hs⟩ := h
      obtain ⟨e1, e2⟩ := ih ht
      cases hs
      refine ⟨?_, by simp; omega⟩
      rw [e1, show n + 1 + xs.length = (n + xs.length) + 1 from by omega]; simp

theorem ltake_of {α : Type} {n : Nat} {l : List α} (h : n ≤ l.length) : ltake n l = some (l.take n) := by
  induction n generalizing l with
  | zero => cases l <;> simp [ltake_z]
  | succ n ih =>
    cases l with
    | nil => simp at h
    | cons a r => simp at h; simp [ltake_cons, ih h]
theorem lput_of {α : Type} {xs l : List α} (h : xs.length ≤ l.length) : lput l xs = some (xs ++ l.drop xs.length) := by
  induction xs generalizing l with
  | nil => cases l <;> simp [lput_z]
  | cons x xs ih =>
    cases l with
    | nil => simp at h
    | cons a r => simp at h; simp [lput_cons, ih h]
theorem lputAt_of {α : Type} {xs : List α} : ∀ {off : Nat} {l : List α}, off + xs.length ≤ l.length → lputAt l off xs = some (l.take off ++ xs ++ l.drop (off + xs.length)) := by
  intro off
  induction off with
  | zero =>
    intro l h
    have : lputAt l 0 xs = lput l xs := rfl
    rw [this, lput_of (by omega)]; simp
  | succ n ih =>
    intro l h
    cases l with
    | nil => simp at h
    | cons a r =>
      simp at h
      simp only [lputAt_cons]
      rw [ih (by omega), show n + 1 + xs.length = (n + xs.length) + 1 from by omega]; simp

theorem setL_get : ∀ (l : List AV) (i : Nat) (t : Trie AV) (j : Nat), Trie.get (setL t i l) j = if i ≤ j ∧ j < i + l.length then l[j - i]? else Trie.get t j := by
  intro l
  induction l with
  | nil => intro i t j; simp only [setL_nil, List.length_nil]; rw [if_neg (by omega)]
  | cons a l ih =>
    intro i t j
    simp only [setL_cons, ih, List.length_cons]
    by_cases h1 : i + 1 ≤ j ∧ j < i + 1 + l.length
    · rw [if_pos h1, if_pos (by omega), show j - i = (j - (i + 1)) + 1 by omega]; simp
    · rw [if_neg h1, Trie.get_set]
      by_cases h2 : i = j
      · subst h2; rw [if_pos rfl, if_pos (by omega)]; simp
      · rw [if_neg h2, if_neg (by omega)]

theorem CT.len_eq (c : CT) : c.len = c.toList.length := by cases c <;> simp [CT.len, CT.toList]
theorem tcellD_of {z : List AV} {t : Trie AV} {i : Nat} {v : AV} (h : tcell z t i = some v) : tcellD z t i = v := by simp only [tcellD, h]
theorem nble_le {a b : Nat} (h : Nat.ble a b = true) : a ≤ b := Nat.le_of_ble_eq_true h
theorem CT.get1_ok {c : CT} {i : Nat} {v : AV} (h : c.get1 i = some v) : lget c.toList i = some v := by
  cases c with
  | lst xs => exact h
  | tree n z t =>
    simp only [CT.get1] at h
    cases hb : Nat.ble (i + 1) n
    · rw [hb] at h; cases h
    · rw [hb] at h
      have := nble_le hb
      rw [lget_eq]
      simp only [CT.toList, List.getElem?_map, List.getElem?_range this, Option.map_some, tcellD_of h]
theorem readT_ok {z : List AV} {t : Trie AV} : ∀ {n i : Nat} {l : List AV}, readT z t i n = some l → l = (List.range' i n).map (tcellD z t) := by
  intro n
  induction n with
  | zero => intro i l h; simp only [readT_z, Option.some.injEq] at h; subst h; rfl
  | succ n ih =>
    intro i l h
    simp only [readT_s, Option.bind_eq_some_iff] at h
    obtain ⟨v, hv, s, hs, h⟩ := h
    cases h
    rw [List.range'_succ, List.map_cons, ← ih hs, tcellD_of hv]
theorem CT.readN_ok {c : CT} {off n : Nat} {l : List AV} (h : c.readN off n = some l) : ltake n (ldrop off c.toList) = some l := by
  cases c with
  | lst xs => exact h
  | tree m z t =>
    simp only [CT.readN] at h
    cases hn : Nat.beq n 0
    · rw [hn] at h
      simp only [cond_false] at h
      cases hb : Nat.ble (off + n) m
      · rw [hb] at h; cases h
      · rw [hb] at h
        have := nble_le hb
        rw [ldrop_eq, ltake_of (by simp [CT.toList]; omega), readT_ok h]
        simp only [CT.toList]
        rw [← List.map_drop, ← List.map_take]
        congr 2
        apply List.ext_getElem?
        intro i
        by_cases hi : i < n
        · rw [List.getElem?_take_of_lt hi, List.getElem?_drop, List.getElem?_range (by omega), List.getElem?_range' hi]; simp
        · rw [List.getElem?_eq_none (by simp; omega), List.getElem?_eq_none (by simp; omega)]
    · have := nbeq_t hn
      subst this
      rw [hn] at h
      simp only [cond_true] at h
      rw [← h]; rfl
theorem CT.write_ok {c c' : CT} {off : Nat} {xs : List AV} (h : c.write off xs = some c') : lputAt c.toList off xs = some c'.toList := by
  cases c with
  | lst ys =>
    simp only [CT.write, Option.bind_eq_some_iff] at h
    obtain ⟨s, hs, h⟩ := h
    cases h; exact hs
  | tree n z t =>
    simp only [CT.write] at h
    cases hb : Nat.ble (off + xs.length) n
    · rw [hb] at h; cases h
    · rw [hb] at h
      have hle := nble_le hb
      cases h
      rw [lputAt_of (by simp [CT.toList]; omega)]
      congr 1
      apply List.ext_getElem?
      intro i
      simp only [CT.toList]
      by_cases hi : i < n
      · rw [List.getElem?_map, List.getElem?_range hi, Option.map_some]
        by_cases h1 : i < off
        · rw [List.getElem?_append_left (by simp; omega), List.getElem?_append_left (by simp; omega), List.getElem?_take_of_lt h1, List.getElem?_map, List.getElem?_range hi]
          simp only [Option.map_some, tcellD, tcell_eq, setL_get]
          rw [if_neg (by omega)]
        · by_cases h2 : i < off + xs.length
          · rw [List.getElem?_append_left (by simp; omega), List.getElem?_append_right (by simp; omega)]
            have hlen : (List.take off ((List.range n).map (tcellD z t))).length = off := by simp; omega
            rw [hlen, List.getElem?_eq_getElem (show i - off < xs.length by omega)]
            simp only [tcellD, tcell_eq, setL_get]
            rw [if_pos (by omega), List.getElem?_eq_getElem (show i - off < xs.length by omega)]
          · rw [List.getElem?_append_right (by simp; omega), List.getElem?_drop]
            have hlen : (List.take off ((List.range n).map (tcellD z t)) ++ xs).length = off + xs.length := by simp; omega
            rw [hlen, show off + xs.length + (i - (off + xs.length)) = i by omega, List.getElem?_map, List.getElem?_range hi]
            simp only [Option.map_some, tcellD, tcell_eq, setL_get]
            rw [if_neg (by omega)]
      · rw [List.getElem?_eq_none (by simp; omega), List.getElem?_eq_none (by simp; omega)]
theorem CT.ofList_ok (xs : List AV) : (CT.ofList xs).toList = xs := by
  unfold CT.ofList
  cases Nat.ble xs.length 16
  · simp only [cond_false, CT.toList]
    apply List.ext_getElem?
    intro i
    by_cases hi : i < xs.length
    · rw [List.getElem?_map, List.getElem?_range hi, List.getElem?_eq_getElem hi]
      simp only [Option.map_some, tcellD, tcell_eq, setL_get]
      rw [if_pos (by omega), Nat.sub_zero, List.getElem?_eq_getElem hi]
    · rw [List.getElem?_eq_none (by simp; omega), List.getElem?_eq_none (by omega)]
  · rfl
theorem replC_get (z : List AV) : ∀ (n i : Nat), i < z.length * n → (repl z n)[i]? = z[i % z.length]? := by
  intro n
  induction n with
  | zero => intro i h; simp at h
  | succ n ih =>
    intro i h
    rw [Nat.mul_succ] at h
    simp only [repl]
    by_cases hi : i < z.length
    · rw [List.getElem?_append_left hi, Nat.mod_eq_of_lt hi]
    · rw [List.getElem?_append_right (by omega), ih _ (by omega), ← Nat.mod_eq_sub_mod (by omega)]
theorem replC_len (z : List AV) : ∀ n, (repl z n).length = z.length * n := by
  intro n
  induction n with
  | zero => rfl
  | succ n ih => simp only [repl, List.length_append, ih, Nat.mul_succ]; omega
theorem CT.rep_ok (z : List AV) (n : Nat) : (CT.rep z n).toList = repl z n := by
  unfold CT.rep
  cases Nat.ble (z.length * n) 16
  · simp only [cond_false, CT.toList]
    apply List.ext_getElem?
    intro i
    by_cases hi : i < z.length * n
    · rw [List.getElem?_map, List.getElem?_range hi, replC_get z n i hi]
      have hz : 0 < z.length := by
        rcases Nat.eq_zero_or_pos z.length with h | h
        · rw [h] at hi; omega
        · exact h
      have hm := Nat.mod_lt i hz
      simp only [Option.map_some, tcellD, tcell_eq, Trie.get_e, lget_eq]
      rw [List.getElem?_eq_getElem hm]
    · rw [List.getElem?_eq_none (by simp; omega), List.getElem?_eq_none (by rw [replC_len]; omega)]
  · rfl
theorem CT.app_ok (c : CT) (xs : List AV) : (c.app xs).toList = c.toList ++ xs := by
  cases c with
  | lst ys => exact CT.ofList_ok _
  | tree n z t =>
    simp only [CT.app, CT.toList]
    apply List.ext_getElem?
    intro i
    by_cases hi : i < n
    · rw [List.getElem?_map, List.getElem?_range (by omega), List.getElem?_append_left (by simp; omega), List.getElem?_map, List.getElem?_range hi]
      simp only [Option.map_some, tcellD, tcell_eq, setL_get]
      rw [if_neg (by omega)]
    · rw [List.getElem?_append_right (by simp; omega)]
      by_cases h2 : i < n + xs.length
      · rw [List.getElem?_map, List.getElem?_range h2]
        have hlen : ((List.range n).map (tcellD z t)).length = n := by simp
        rw [hlen, List.getElem?_eq_getElem (show i - n < xs.length by omega)]
        simp only [Option.map_some, tcellD, tcell_eq, setL_get]
        rw [if_pos (by omega), List.getElem?_eq_getElem (show i - n < xs.length by omega)]
      · rw [List.getElem?_eq_none (by simp; omega), List.getElem?_eq_none (by simp; omega)]
theorem CT.pre_ok {c c' : CT} {n : Nat} (h : c.pre n = some c') : ltake n c.toList = some c'.toList := by
  cases c with
  | lst ys =>
    simp only [CT.pre, Option.bind_eq_some_iff] at h
    obtain ⟨s, hs, h⟩ := h
    cases h; exact hs
  | tree m z t =>
    simp only [CT.pre] at h
    cases hb : Nat.ble n m
    · rw [hb] at h; cases h
    · rw [hb] at h
      have := nble_le hb
      cases h
      rw [ltake_of (by simp [CT.toList]; omega)]
      simp only [CT.toList]
      rw [← List.map_take, List.take_range, show min n m = n by omega]

theorem CT.seg_ok {c c' : CT} {off n : Nat} (h : c.seg off n = some c') : ltake n (ldrop off c.toList) = some c'.toList := by
  unfold CT.seg at h
  cases h0 : Nat.beq off 0
  · rw [h0] at h
    simp only [cond_false, Option.bind_eq_some_iff] at h
    obtain ⟨l, hl, h⟩ := h
    cases h
    rw [CT.ofList_ok]; exact CT.readN_ok hl
  · rw [h0] at h
    have := nbeq_t h0
    subst this
    exact CT.pre_ok h

/-! ### what a value says -/
abbrev Mp := Nat → Nat × Nat
mutual
def cv (m : Mp) : AV → Value
  | .bool b => .bool b
  | .int k n => .int k n
  | .str s => .string ⟨s.toArray⟩
  | .ptr b o => .pointer (some ⟨(m b).1, o, none⟩)
  | .nilp => .pointer none
  | .slice b o l c p => .slice (some ⟨(m b).1, o, none⟩) l (match p with | true => (m b).2 - c | false => c)
  | .nils => .slice none 0 0
  | .fn f a c => .func (.func f) (cvs m a).toArray (cvs m c).toArray
  | .yield l => .func (.yield (m l).1) #[] #[]
  | .nilf => .nilFunc
  | .iface t v => .iface t (cv m v)
  | .nili => .nilIface
  | .agg l => .agg (cvs m l).toArray
  | .tup l => .tuple (cvs m l).toArray
  | .empt a => .slice (some a) 0 0
  | .tail b o o' i => .slice (some ⟨(m b).1, if (m b).2 = i then o else o', none⟩) 0 ((m b).2 - i)
  | .mapv b => .map (some (m b).1)
def cvs (m : Mp) : List AV → List Value
  | [] => []
  | a :: r => cv m a :: cvs m r
end
mutual
def inD (D : Nat → Prop) : AV → Prop
  | .bool _ => True
  | .int _ _ => True
  | .str _ => True
  | .ptr b _ => D b
  | .nilp => True
  | .slice b _ _ _ _ => D b
  | .nils => True
  | .fn _ a c => inDs D a ∧ inDs D c
  | .yield l => D l
  | .nilf => True
  | .iface _ v => inD D v
  | .nili => True
  | .agg l => inDs D l
  | .tup l => inDs D l
  | .empt _ => True
  | .tail b _ _ _ => D b
  | .mapv b => D b
def inDs (D : Nat → Prop) : List AV → Prop
  | [] => True
  | a :: r => inD D a ∧ inDs D r
end

theorem cvs_map (m : Mp) (l : List AV) : cvs m l = l.map (cv m) := by
  induction l with
  | nil => rfl
  | cons a r ih => simp [cvs, ih]
@[simp] theorem cvs_len (m : Mp) (l : List AV) : (cvs m l).length = l.length := by simp [cvs_map]
theorem cvs_app (m : Mp) (l r : List AV) : cvs m (l ++ r) = cvs m l ++ cvs m r := by simp [cvs_map]
theorem inDs_iff (D : Nat → Prop) (l : List AV) : inDs D l ↔ ∀ v ∈ l, inD D v := by
  induction l with
  | nil => simp [inDs]
  | cons a r ih => simp [inDs, ih]
theorem inDs_app {D : Nat → Prop} {l r : List AV} : inDs D (l ++ r) ↔ inDs D l ∧ inDs D r := by
  simp only [inDs_iff, List.mem_append]
  exact ⟨fun h => ⟨fun v hv => h v (.inl hv), fun v hv => h v (.inr hv)⟩, fun h v hv => hv.elim (h.1 v) (h.2 v)⟩
theorem inDs_take {D : Nat → Prop} {l : List AV} (n : Nat) (h : inDs D l) : inDs D (l.take n) := by
  rw [inDs_iff] at *
  exact fun v hv => h v (List.mem_of_mem_take hv)
theorem inDs_drop {D : Nat → Prop} {l : List AV} (n : Nat) (h : inDs D l) : inDs D (l.drop n) := by
  rw [inDs_iff] at *
  exact fun v hv => h v (List.mem_of_mem_drop hv)

mutual
theorem cv_congr {m m' : Mp} {D : Nat → Prop} (hm : ∀ b, D b → m' b = m b) : ∀ v : AV, inD D v → cv m' v = cv m v
  | .bool _, _ => rfl
  | .int _ _, _ => rfl
  | .str _, _ => rfl
  | .ptr b o, h => by simp only [inD] at h; simp only [cv, hm b h]
  | .nilp, _ => rfl
  | .slice b o l c p, h => by simp only [inD] at h; cases p <;> simp only [cv, hm b h]
  | .nils, _ => rfl
  | .fn f a c, h => by simp only [inD] at h; simp only [cv, cvs_congr hm a h.1, cvs_congr hm c h.2]
  | .yield l, h => by simp only [inD] at h; simp only [cv, hm l h]
  | .nilf, _ => rfl
  | .iface t v, h => by simp only [inD] at h; simp only [cv, cv_congr hm v h]
  | .nili, _ => rfl
  | .agg l, h => by simp only [inD] at h; simp only [cv, cvs_congr hm l h]
  | .tup l, h => by simp only [inD] at h; simp only [cv, cvs_congr hm l h]
  | .empt _, _ => rfl
  | .tail b o o' i, h => by simp only [inD] at h; simp only [cv, hm b h]
  | .mapv b, h => by simp only [inD] at h; simp only [cv, hm b h]
theorem cvs_congr {m m' : Mp} {D : Nat → Prop} (hm : ∀ b, D b → m' b = m b) : ∀ l : List AV, inDs D l → cvs m' l = cvs m l
  | [], _ => rfl
  | a :: r, h => by simp only [inDs] at h; simp only [cvs, cv_congr hm a h.1, cvs_congr hm r h.2]
end
mutual
theorem inD_mono {D D' : Nat → Prop} (hd : ∀ b, D b → D' b) : ∀ v : AV, inD D v → inD D' v
  | .bool _, _ => trivial
  | .int _ _, _ => trivial
  | .str _, _ => trivial
  | .ptr b o, h => hd b h
  | .nilp, _ => trivial
  | .slice b o l c p, h => hd b h
  | .nils, _ => trivial
  | .fn f a c, h => by simp only [inD] at *; exact ⟨inDs_mono hd a h.1, inDs_mono hd c h.2⟩
  | .yield l, h => hd l h
  | .nilf, _ => trivial
  | .iface t v, h => by simp only [inD] at *; exact inD_mono hd v h
  | .nili, _ => trivial
  | .agg l, h => by simp only [inD] at *; exact inDs_mono hd l h
  | .tup l, h => by simp only [inD] at *; exact inDs_mono hd l h
  | .empt _, _ => trivial
  | .tail b _ _ _, h => hd b h
  | .mapv b, h => hd b h
theorem inDs_mono {D D' : Nat → Prop} (hd : ∀ b, D b → D' b) : ∀ l : List AV, inDs D l → inDs D' l
  | [], _ => trivial
  | a :: r, h => by simp only [inDs] at *; exact ⟨inD_mono hd a h.1, inDs_mono hd r h.2⟩
end

/-! ### what a heap says -/
def jumpCode : AX → Code
  | .normal => .skip
  | .exit i => .exit i
  | .goto l => .goto l
  | .ret => .ret

def entO (e : Int × Int × Nat) : MapEntry := { key := .int .i64 e.1, val := .int .i64 e.2.1, born := e.2.2 }
def BlkR (P : Program) (m : Mp) (x : Blk) (b : Nat × Nat) (w : World) : Prop :=
  match x with
  | .cells c e o => ∃ (rest : List Value) (fr : Nat × Nat), w.heap[b.1]? = some (.cells (cvs m c.toList ++ rest).toArray e fr) ∧ (o = false → rest = []) ∧
      (∀ i, i < c.toList.length + rest.length → ¬ (fr.1 ≤ i ∧ i < fr.2)) ∧ (o = true → ∀ n, cellsOf? P e = some n → c.toList.length ≤ b.2 * n ∧ b.2 * n ≤ c.toList.length + rest.length)
  | .dead => True
  | .iter s pos => w.heap[b.1]? = some (.stringIter ⟨s.toArray⟩ pos)
  | .loop st pend f pos L vs d => ∃ (f' : FuncId) (tmps : Array Value) (ps : Array Tmp) (g : Operand) (assign body : Code) (fn : Func) (bd : Code),
      w.heap[b.1]? = some (.loop { state := st, pending := pend.map jumpCode, fn := f', tmps, params := ps, assign, body, defers := (m d).1 }) ∧
      P.funcs[f]? = some fn ∧ fn.body = some bd ∧ codeAt bd pos = some (.rangeFunc g ps assign body) ∧ fn.ntmps ≤ tmps.size ∧
      L.length = vs.length ∧ ∀ p ∈ L.zip vs, tmps[p.1]? = some (cv m p.2)
  | .dfd => w.heap[b.1]? = some (.deferred (some []))
  | .took => ∃ o, w.heap[b.1]? = some o
  | .inp t => ∃ C e fr, w.heap[b.1]? = some (.cells (List.toArray C) e fr) ∧ ∀ i v, Trie.get t i = some v → C[i]? = some (cv m v)
  | .mp l c => w.heap[b.1]? = some (.map (l.map entO).toArray c)

def inDB (D : Nat → Prop) : Blk → Prop
  | .cells c _ _ => inDs D c.toList
  | .loop _ _ _ _ _ vs d => inDs D vs ∧ D d
  | .inp t => ∀ i v, Trie.get t i = some v → inD D v
  | _ => True

/-- what the walk may write -/
def Blk.live : Blk → Prop
  | .dead => False
  | .inp _ => False
  | _ => True
def live (h : AH) (b : Nat) : Prop := ∃ x, h.get b = some x ∧ x.live

def own (m : Mp) (D : Nat → Prop) (h : AH) (c : Nat) : Prop := ∃ b, D b ∧ live h b ∧ (m b).1 = c

structure Rel0 (P : Program) (m : Mp) (D : Nat → Prop) (h : AH) (w : World) : Prop where
  blk : ∀ b, D b → ∃ x, h.get b = some x ∧ BlkR P m x (m b) w ∧ inDB D x
  inj : ∀ b b', D b → D b' → live h b → live h b' → (m b).1 = (m b').1 → b = b'
  lt : ∀ b, D b → b < h.nx
  inp : ∀ b t, D b → h.get b = some (.inp t) → ¬ own m D h (m b).1

/-- the tables stand at the world -/
def Gl (P : Program) (w : World) : Prop := ∀ p ∈ gtab, ∃ g, P.globalNamed p.1 = some g ∧ Lib.TabIs P w p.1 p.2.1 p.2.2
/-- and the walk does not own them -/
def GlR (P : Program) (m : Mp) (D : Nat → Prop) (h : AH) (w : World) : Prop := ∀ p ∈ gtab, ∃ g, P.globalNamed p.1 = some g ∧ Lib.TabIs P w p.1 p.2.1 p.2.2 ∧ ¬ own m D h g
structure Rel (P : Program) (m : Mp) (D : Nat → Prop) (h : AH) (w : World) : Prop extends Rel0 P m D h w where
  gl : GlR P m D h w
theorem GlR.gl {P : Program} {m : Mp} {D : Nat → Prop} {h : AH} {w : World} (r : GlR P m D h w) : Gl P w := fun p hp => let ⟨g, h1, h2, _⟩ := r p hp; ⟨g, h1, h2⟩
theorem gl_none {P : Program} {w : World} (e : gtab = []) : Gl P w := fun p hp => by rw [e] at hp; cases hp
theorem tabIs_same {P : Program} {w w' : World} {name : String} {k : IntKind} {zs : List Int} {g : Nat} (hg : P.globalNamed name = some g) (h : Lib.TabIs P w name k zs) : g < w.heap.size ∧ (w'.heap[g]? = w.heap[g]? → Lib.TabIs P w' name k zs) := by
  unfold Lib.TabIs World.var? at *
  simp only [hg, Option.bind_some] at h ⊢
  refine ⟨?_, fun e => by rw [e]; exact h⟩
  rcases Nat.lt_or_ge g w.heap.size with h' | h'
  · exact h'
  · rw [Array.getElem?_eq_none h'] at h; simp at h

structure Ext (m : Mp) (D : Nat → Prop) (h : AH) (w : World) (m' : Mp) (D' : Nat → Prop) (h' : AH) (w' : World) : Prop where
  dom : ∀ b, D b → D' b
  map : ∀ b, D b → m' b = m b
  size : w.heap.size ≤ w'.heap.size
  keep : ∀ c, c < w.heap.size → ¬ own m D h c → w'.heap[c]? = w.heap[c]? ∧ ¬ own m' D' h' c
  nx : h.nx ≤ h'.nx
  un : ∀ b, b < h.nx → ¬ D b → h'.get b = h.get b ∧ ¬ D' b
  os : w'.os = w.os
  tape : w'.tape = w.tape
  output : w'.output = w.output
  dm : ∀ b, D' b ↔ D b ∨ (h.nx ≤ b ∧ b < h'.nx)
  ni : ∀ b t, D' b → h'.get b = some (.inp t) → D b ∧ h.get b = some (.inp t)

theorem GlR.ext {P : Program} {m m' : Mp} {D D' : Nat → Prop} {h h' : AH} {w w' : World} (X : Ext m D h w m' D' h' w') (r : GlR P m D h w) : GlR P m' D' h' w' := fun p hp => by
  obtain ⟨g, h1, h2, h3⟩ := r p hp
  obtain ⟨k1, k2⟩ := tabIs_same (w' := w') h1 h2
  obtain ⟨e1, e2⟩ := X.keep g k1 h3
  exact ⟨g, h1, k2 e1, e2⟩
theorem Ext.rel {P : Program} {m m' : Mp} {D D' : Nat → Prop} {h h' : AH} {w w' : World} (r : Rel P m D h w) (x : Ext m D h w m' D' h' w' ∧ Rel0 P m' D' h' w') : Ext m D h w m' D' h' w' ∧ Rel P m' D' h' w' := ⟨x.1, { toRel0 := x.2, gl := r.gl.ext x.1 }⟩

theorem Ext.refl (m : Mp) (D : Nat → Prop) (h : AH) (w : World) : Ext m D h w m D h w :=
  ⟨fun _ x => x, fun _ _ => rfl, Nat.le_refl _, fun _ _ n => ⟨rfl, n⟩, Nat.le_refl _, fun _ _ n => ⟨rfl, n⟩, rfl, rfl, rfl, fun _ => ⟨.inl, fun x => x.elim id fun y => by omega⟩, fun _ _ x y => ⟨x, y⟩⟩
theorem Ext.trans {m m' m'' : Mp} {D D' D'' : Nat → Prop} {h h' h'' : AH} {w w' w'' : World} (a : Ext m D h w m' D' h' w') (b : Ext m' D' h' w' m'' D'' h'' w'') : Ext m D h w m'' D'' h'' w'' where
  dom := fun x hx => b.dom x (a.dom x hx)
  map := fun x hx => (b.map x (a.dom x hx)).trans (a.map x hx)
  size := Nat.le_trans a.size b.size
  keep := fun c hc hn => by
    obtain ⟨e1, n1⟩ := a.keep c hc hn
    obtain ⟨e2, n2⟩ := b.keep c (Nat.lt_of_lt_of_le hc a.size) n1
    exact ⟨e2.trans e1, n2⟩
  nx := Nat.le_trans a.nx b.nx
  un := fun x hx hn => by
    obtain ⟨e1, n1⟩ := a.un x hx hn
    obtain ⟨e2, n2⟩ := b.un x (Nat.lt_of_lt_of_le hx a.nx) n1
    exact ⟨e2.trans e1, n2⟩
  os := b.os.trans a.os
  tape := b.tape.trans a.tape
  output := b.output.trans a.output
  dm := fun x => by
    have h1 := a.nx; have h2 := b.nx
    rw [b.dm, a.dm]
    constructor
    · rintro ((h | h) | h)
      · exact .inl h
      · exact .inr ⟨h.1, by omega⟩
      · exact .inr ⟨by omega, h.2⟩
    · rintro (h | h)
      · exact .inl (.inl h)
      · by_cases hx : x < h'.nx
        · exact .inl (.inr ⟨h.1, hx⟩)
        · exact .inr ⟨by omega, h.2⟩
  ni := fun x t hx hg => by
    obtain ⟨h1, h2⟩ := b.ni x t hx hg
    exact a.ni x t h1 h2

theorem Ext.cv {m m' : Mp} {D D' : Nat → Prop} {h h' : AH} {w w' : World} (e : Ext m D h w m' D' h' w') {v : AV} (hv : inD D v) : Ae.cv m' v = Ae.cv m v := cv_congr e.map v hv
theorem Ext.cvs {m m' : Mp} {D D' : Nat → Prop} {h h' : AH} {w w' : World} (e : Ext m D h w m' D' h' w') {l : List AV} (hv : inDs D l) : Ae.cvs m' l = Ae.cvs m l := cvs_congr e.map l hv
theorem Ext.inD {m m' : Mp} {D D' : Nat → Prop} {h h' : AH} {w w' : World} (e : Ext m D h w m' D' h' w') {v : AV} (hv : Ae.inD D v) : Ae.inD D' v := inD_mono e.dom v hv
theorem Ext.inDs {m m' : Mp} {D D' : Nat → Prop} {h h' : AH} {w w' : World} (e : Ext m D h w m' D' h' w') {l : List AV} (hv : Ae.inDs D l) : Ae.inDs D' l := inDs_mono e.dom l hv

/-- a block reads the same under a map that agrees, in a world that has its block as it was -/
theorem BlkR.congr {P : Program} {m m' : Mp} {D : Nat → Prop} (hm : ∀ b, D b → m' b = m b) {x : Blk} {b : Nat × Nat} {w w' : World} (hx : inDB D x) (hw : w'.heap[b.1]? = w.heap[b.1]?) (h : BlkR P m x b w) : BlkR P m' x b w' := by
  cases x with
  | cells c e o =>
    simp only [inDB] at hx
    simp only [BlkR] at *
    rw [hw, cvs_congr hm c.toList hx]; exact h
  | dead => trivial
  | iter s pos => simp only [BlkR] at *; rw [hw]; exact h
  | loop st pend f pos L vs d =>
    simp only [inDB] at hx
    simp only [BlkR] at *
    obtain ⟨f', tmps, ps, g, assign, body, fn, bd, h1, h2, h3, h4, h5, h6, h7⟩ := h
    refine ⟨f', tmps, ps, g, assign, body, fn, bd, ?_, h2, h3, h4, h5, h6, ?_⟩
    · rw [hw, hm d hx.2]; exact h1
    · intro p hp
      rw [cv_congr hm p.2 ((inDs_iff D vs).1 hx.1 _ (List.of_mem_zip hp).2)]
      exact h7 p hp
  | dfd => simp only [BlkR] at *; rw [hw]; exact h
  | took => simp only [BlkR] at *; rw [hw]; exact h
  | inp t =>
    simp only [inDB] at hx
    simp only [BlkR] at *
    obtain ⟨C, e, fr, h1, h2⟩ := h
    exact ⟨C, e, fr, by rw [hw]; exact h1, fun i v hv => by rw [cv_congr hm v (hx i v hv)]; exact h2 i v hv⟩
  | mp l c => simp only [BlkR] at *; rw [hw]; exact h

theorem inDB.mono {D D' : Nat → Prop} (hd : ∀ b, D b → D' b) {x : Blk} (h : inDB D x) : inDB D' x := by
  cases x <;> simp only [inDB] at * <;> first | exact inDs_mono hd _ h | exact ⟨inDs_mono hd _ h.1, hd _ h.2⟩ | exact fun i v hv => inD_mono hd v (h i v hv) | trivial

/-- a live block's concrete block lies in the world -/
theorem BlkR.inside {P : Program} {m : Mp} {x : Blk} {b : Nat × Nat} {w : World} (hl : x.live) (h : BlkR P m x b w) : b.1 < w.heap.size := by
  have key : ∀ o, w.heap[b.1]? = some o → b.1 < w.heap.size := fun o e => (Array.getElem?_eq_some_iff.1 e).1
  cases x with
  | cells c e o => obtain ⟨r, fr, h, _⟩ := h; exact key _ h
  | dead => exact hl.elim
  | iter s pos => exact key _ h
  | loop st pend f pos L vs d => obtain ⟨f', tmps, ps, g, assign, body, fn, bd, h1, _⟩ := h; exact key _ h1
  | dfd => exact key _ h
  | took => obtain ⟨o, h⟩ := h; exact key _ h
  | inp t => exact hl.elim
  | mp l c => exact key _ h
theorem BlkR.insideI {P : Program} {m : Mp} {t : Trie AV} {b : Nat × Nat} {w : World} (h : BlkR P m (.inp t) b w) : b.1 < w.heap.size := by
  obtain ⟨C, e, fr, h, _⟩ := h; exact (Array.getElem?_eq_some_iff.1 h).1
theorem Rel.inside {P : Program} {m : Mp} {D : Nat → Prop} {h : AH} {w : World} (r : Rel P m D h w) {b : Nat} (hb : D b) (hl : live h b) : (m b).1 < w.heap.size := by
  obtain ⟨x, hx, hr, _⟩ := r.blk b hb
  obtain ⟨y, hy, hyl⟩ := hl
  rw [hx] at hy; cases hy
  exact hr.inside hyl

/-- A NEW BLOCK. -/
theorem Rel.new {P : Program} {m : Mp} {D : Nat → Prop} {h : AH} {w w0 : World} (r : Rel P m D h w) (x : Blk) (o : Obj) (room : Nat)
    (hw0 : w0.heap = w.heap.push o) (hos : w0.os = w.os) (htape : w0.tape = w.tape) (hout : w0.output = w.output)
    (hx : inDB D x) (hxr : BlkR P m x (w.heap.size, room) w0) (hni : ∀ t, x ≠ .inp t := by intro t hh; cases hh) :
    let m' : Mp := fun b => if b = h.nx then (w.heap.size, room) else m b
    let D' : Nat → Prop := fun b => b = h.nx ∨ D b
    Ext m D h w m' D' (h.new x) w0 ∧ Rel P m' D' (h.new x) w0 := by
  intro m' D'
  refine Ext.rel r ?_
  have hm : ∀ b, D b → m' b = m b := fun b hb => by
    have := r.lt b hb
    simp only [m']; rw [if_neg (by omega)]
  have hold : ∀ c, c < w.heap.size → w0.heap[c]? = w.heap[c]? := fun c hc => by
    rw [hw0, Array.getElem?_push, if_neg (by omega)]
  have hget : ∀ b, D b → (h.new x).get b = h.get b := fun b hb => AH.get_new_ne h x (by have := r.lt b hb; omega)
  have hlive : ∀ b, D b → (live (h.new x) b ↔ live h b) := fun b hb => by unfold live; rw [hget b hb]
  refine ⟨⟨fun b hb => .inr hb, hm, ?_, ?_, Nat.le_succ _, ?_, hos, htape, hout, fun b => ?_, ?_⟩, ⟨?_, ?_, ?_, ?_⟩⟩
  · rw [hw0]; simp
  · intro c hc hn
    refine ⟨hold c hc, ?_⟩
    rintro ⟨b, hb, hl, he⟩
    rcases hb with rfl | hb
    · simp only [m', if_pos] at he; omega
    · exact hn ⟨b, hb, (hlive b hb).1 hl, by rw [← hm b hb]; exact he⟩
  · intro b hb hn
    refine ⟨AH.get_new_ne h x (by omega), ?_⟩
    rintro (rfl | hd)
    · omega
    · exact hn hd
  · show b = h.nx ∨ D b ↔ D b ∨ (h.nx ≤ b ∧ b < h.nx + 1)
    constructor
    · rintro (rfl | hb)
      · exact .inr ⟨Nat.le_refl _, Nat.lt_succ_self _⟩
      · exact .inl hb
    · rintro (hb | hb)
      · exact .inr hb
      · exact .inl (by omega)
  · intro b t hb hg
    rcases hb with rfl | hb
    · rw [AH.get_new_same] at hg; cases hg; exact absurd rfl (hni t)
    · exact ⟨hb, by rw [← hget b hb]; exact hg⟩
  · intro b hb
    rcases hb with rfl | hb
    · refine ⟨x, AH.get_new_same h x, ?_, hx.mono fun b hb => .inr hb⟩
      have e : m' h.nx = (w.heap.size, room) := by simp [m']
      rw [e]
      exact hxr.congr hm hx rfl
    · obtain ⟨y, hy, hyr, hyd⟩ := r.blk b hb
      refine ⟨y, (hget b hb).trans hy, ?_, hyd.mono fun b hb => .inr hb⟩
      rw [hm b hb]
      cases y with
      | dead => trivial
      | inp t => exact hyr.congr hm hyd (hold _ hyr.insideI)
      | _ => exact hyr.congr hm hyd (hold _ (BlkR.inside (by exact True.intro) hyr))
  · intro b b' hb hb' hl hl' he
    rcases hb with rfl | hb <;> rcases hb' with rfl | hb'
    · rfl
    · have h1 := r.inside hb' ((hlive b' hb').1 hl')
      rw [hm b' hb'] at he; simp only [m', if_pos] at he; omega
    · have h1 := r.inside hb ((hlive b hb).1 hl)
      rw [hm b hb] at he; simp only [m', if_pos] at he; omega
    · rw [hm b hb, hm b' hb'] at he
      exact r.inj b b' hb hb' ((hlive b hb).1 hl) ((hlive b' hb').1 hl') he
  · intro b hb
    rcases hb with rfl | hb
    · simp
    · have := r.lt b hb; simp; omega
  · rintro b t hb hg ⟨b', hb', hl', he⟩
    have hne : b ≠ b' := by
      rintro rfl
      obtain ⟨y, hy, hyl⟩ := hl'
      rw [hg] at hy; cases hy; exact hyl
    rcases hb with rfl | hb
    · rcases hb' with rfl | hb'
      · exact hne rfl
      · have h1 := r.inside hb' ((hlive b' hb').1 hl')
        rw [hm b' hb'] at he; simp only [m', if_pos] at he; omega
    · rw [hget b hb] at hg
      rcases hb' with rfl | hb'
      · obtain ⟨y, hy, hyr, _⟩ := r.blk b hb
        rw [hg] at hy; cases hy
        have := hyr.insideI
        rw [hm b hb] at he; simp only [m', if_pos] at he; omega
      · refine r.inp b t hb hg ⟨b', hb', (hlive b' hb').1 hl', ?_⟩
        rw [hm b hb, hm b' hb'] at he; exact he

/-- A BLOCK IS TURNED in place. -/
theorem Rel.put {P : Program} {m : Mp} {D : Nat → Prop} {h : AH} {w w0 : World} (r : Rel P m D h w) (b : Nat) (x : Blk) (hb : D b) (hlb : live h b)
    (hsize : w0.heap.size = w.heap.size) (hother : ∀ c, c ≠ (m b).1 → w0.heap[c]? = w.heap[c]?) (hos : w0.os = w.os) (htape : w0.tape = w.tape) (hout : w0.output = w.output)
    (hx : inDB D x) (hxr : BlkR P m x (m b) w0) (hni : ∀ t, x ≠ .inp t := by intro t hh; cases hh) :
    Ext m D h w m D (h.put b x) w0 ∧ Rel P m D (h.put b x) w0 := by
  refine Ext.rel r ?_
  have hget : ∀ b', b' ≠ b → (h.put b x).get b' = h.get b' := fun b' hn => AH.get_put_ne h x (fun e => hn e.symm)
  have hlive : ∀ b', live (h.put b x) b' → live h b' := fun b' hl => by
    by_cases e : b' = b
    · subst e; exact hlb
    · unfold live at *; rw [hget b' e] at hl; exact hl
  refine ⟨⟨fun _ h => h, fun _ _ => rfl, by omega, ?_, Nat.le_refl _, ?_, hos, htape, hout, fun b => ⟨.inl, fun hb => hb.elim id fun hb => by simp at hb; omega⟩, ?_⟩, ⟨?_, ?_, ?_, ?_⟩⟩
  · intro c hc hn
    refine ⟨hother c fun e => hn ⟨b, hb, hlb, e.symm⟩, ?_⟩
    rintro ⟨b', hb', hl', he⟩
    exact hn ⟨b', hb', hlive b' hl', he⟩
  · intro b' hb' hn
    exact ⟨hget b' (fun e => hn (e ▸ hb)), hn⟩
  · intro b' t hb' hg
    by_cases e : b' = b
    · subst e; rw [AH.get_put_same] at hg; cases hg; exact absurd rfl (hni t)
    · exact ⟨hb', by rw [← hget b' e]; exact hg⟩
  · intro b' hb'
    by_cases e : b' = b
    · subst e; exact ⟨x, AH.get_put_same h b' x, hxr, hx⟩
    · obtain ⟨y, hy, hyr, hyd⟩ := r.blk b' hb'
      refine ⟨y, (hget b' e).trans hy, ?_, hyd⟩
      cases y with
      | dead => trivial
      | inp t => exact hyr.congr (fun _ _ => rfl) hyd (hother _ fun ee => r.inp b' t hb' hy ⟨b, hb, hlb, ee.symm⟩)
      | _ =>
        refine hyr.congr (fun _ _ => rfl) hyd (hother _ fun ee => e ?_)
        exact r.inj b' b hb' hb ⟨_, hy, trivial⟩ hlb ee
  · intro b1 b2 h1 h2 l1 l2 he
    exact r.inj b1 b2 h1 h2 (hlive b1 l1) (hlive b2 l2) he
  · intro b' hb'; exact r.lt b' hb'
  · rintro b' t hb' hg ⟨b2, hb2, hl2, he⟩
    by_cases e : b' = b
    · subst e
      have := r.inj b2 b' hb2 hb' (hlive b2 hl2) hlb he
      subst this
      obtain ⟨y, hy, hyl⟩ := hl2
      rw [hg] at hy; cases hy; exact hyl
    · rw [hget b' e] at hg
      exact r.inp b' t hb' hg ⟨b2, hb2, hlive b2 hl2, he⟩

end Go.Ae

namespace Go.Ae
open Go

def oneV : Value → Bool
  | .agg _ => false
  | .tuple _ => false
  | _ => true

theorem run_bind' {α β : Type} (P : Program) (e : Sem α) (f : α → Sem β) (w : World) :
    (Sem.bind e f).run P w = match e.run P w with | .ok a w' => (f a).run P w' | .halt h w' => .halt h w' := by
  induction e generalizing w with
  | pure a => rfl
  | load m a k ih => simp only [Sem.bind, Sem.run]; split <;> first | exact ih _ _ | (split <;> first | exact ih _ _ | rfl)
  | store m a v k ih =>
    cases v <;> simp only [Sem.bind, Sem.run] <;> (repeat' split) <;> first | exact ih _ | rfl | simp_all
  | new o k ih => exact ih _ _
  | shape r k ih => exact ih _ _
  | freeze a n k ih => exact ih _
  | frozen a k ih => exact ih _ _
  | getObj r k ih => simp only [Sem.bind, Sem.run]; split <;> first | exact ih _ _ | rfl
  | setObj r o k ih => simp only [Sem.bind, Sem.run]; split <;> first | exact ih _ | rfl
  | choose q k ih => simp only [Sem.bind, Sem.run]; split <;> exact ih _ _
  | sys c k ih => exact ih _ _
  | program k ih => exact ih _ _
  | mark m k ih => exact ih _
  | halt h => rfl

theorem run_ok_bind {α β : Type} {P : Program} {e : Sem α} {f : α → Sem β} {w w' : World} {a : α} (h : e.run P w = .ok a w') : (e >>= f).run P w = (f a).run P w' := by
  show (Sem.bind e f).run P w = _
  rw [run_bind', h]
theorem run_pure {α : Type} (P : Program) (a : α) (w : World) : (pure a : Sem α).run P w = .ok a w := rfl

theorem cell_of {w : World} {b : Nat} {C : List Value} {e : TypeId} {fr : Nat × Nat} (h : w.heap[b]? = some (.cells C.toArray e fr)) (o : Nat) : w.cell? ⟨b, o, none⟩ = C[o]? := by
  simp [World.cell?, h]
theorem add_eq (b o n : Nat) : Addr.add ⟨b, o, none⟩ n = ⟨b, o + n, none⟩ := by
  unfold Addr.add
  split
  · subst_vars; simp
  · rfl

theorem run_load {P : Program} {w : World} {b : Nat} {C : List Value} {e : TypeId} {fr : Nat × Nat} (h : w.heap[b]? = some (.cells C.toArray e fr)) {o : Nat} {v : Value} (hv : C[o]? = some v) :
    (load ⟨b, o, none⟩).run P w = .ok v w := by
  simp only [load, Sem.run, cell_of h, hv]

theorem run_loadCellsFrom {P : Program} {w : World} {b : Nat} {C : List Value} {e : TypeId} {fr : Nat × Nat} (h : w.heap[b]? = some (.cells C.toArray e fr)) (o : Nat) :
    ∀ (n i : Nat) (acc : Array Value), o + i + n ≤ C.length → (loadCellsFrom ⟨b, o, none⟩ i n acc).run P w = .ok (acc ++ ((C.drop (o + i)).take n).toArray) w := by
  intro n
  induction n with
  | zero => intro i acc _; simp [loadCellsFrom]
  | succ n ih =>
    intro i acc hl
    unfold loadCellsFrom
    have hg : C[o + i]? = some (C[o + i]'(by omega)) := List.getElem?_eq_getElem (by omega)
    rw [add_eq, run_ok_bind (run_load h hg), ih _ _ (by omega)]
    congr 1
    rw [List.drop_eq_getElem_cons (show o + i < C.length by omega)]
    simp [Nat.add_assoc]
theorem run_loadCells {P : Program} {w : World} {b : Nat} {C : List Value} {e : TypeId} {fr : Nat × Nat} (h : w.heap[b]? = some (.cells C.toArray e fr)) (o n : Nat) (hl : o + n ≤ C.length) :
    (loadCells ⟨b, o, none⟩ n).run P w = .ok ((C.drop o).take n).toArray w := by
  unfold loadCells
  rw [run_loadCellsFrom h o n 0 #[] (by simpa using hl)]
  simp

/-- a store into a cell -/
theorem run_store {P : Program} {w : World} {b : Nat} {C : List Value} {e : TypeId} {fr : Nat × Nat} (h : w.heap[b]? = some (.cells C.toArray e fr)) {o : Nat} (ho : o < C.length) {v : Value} (hv : oneV v = true)
    (hf : ¬ (fr.1 ≤ o ∧ o < fr.2)) : (store ⟨b, o, none⟩ v).run P w = .ok () (w.setCell ⟨b, o, none⟩ v) := by
  have hc : w.cell? ⟨b, o, none⟩ = some (C[o]'ho) := by rw [cell_of h, List.getElem?_eq_getElem ho]
  have hz : w.frozen? ⟨b, o, none⟩ = false := by
    obtain ⟨lo, hi⟩ := fr
    simp only [World.frozen?, h]
    simp only [Bool.and_eq_false_iff, decide_eq_false_iff_not]
    simp only at hf
    omega
  cases v <;> simp [oneV] at hv <;> simp [store, Sem.run, hc, hz]

theorem setCell_heap {w : World} {b : Nat} {C : List Value} {e : TypeId} {fr : Nat × Nat} (h : w.heap[b]? = some (.cells C.toArray e fr)) (o : Nat) (v : Value) :
    (w.setCell ⟨b, o, none⟩ v).heap[b]? = some (.cells (C.set o v).toArray e fr) := by
  simp [World.setCell, Array.getElem?_modify, h]
theorem setCell_other {w : World} {b c : Nat} (o : Nat) (v : Value) (hc : c ≠ b) : (w.setCell ⟨b, o, none⟩ v).heap[c]? = w.heap[c]? := by
  simp only [World.setCell, Array.getElem?_modify]
  rw [if_neg (fun e => hc e.symm)]
@[simp] theorem setCell_size (w : World) (a : Addr) (v : Value) : (w.setCell a v).heap.size = w.heap.size := by simp [World.setCell]

/-- a world that differs in one block alone -/
structure Turned (w w' : World) (b : Nat) (o : Obj) : Prop where
  size : w'.heap.size = w.heap.size
  at_ : w'.heap[b]? = some o
  other : ∀ c, c ≠ b → w'.heap[c]? = w.heap[c]?
  os : w'.os = w.os
  tape : w'.tape = w.tape
  output : w'.output = w.output

theorem run_storeCells {P : Program} {b : Nat} {e : TypeId} {fr : Nat × Nat} (o : Nat) : ∀ (vs : List Value) (i : Nat) (w : World) (C : List Value), w.heap[b]? = some (.cells C.toArray e fr) →
    o + i + vs.length ≤ C.length → (∀ v ∈ vs, oneV v = true) → (∀ k, k < C.length → ¬ (fr.1 ≤ k ∧ k < fr.2)) →
    ∃ w', (storeCells ⟨b, o, none⟩ vs i).run P w = .ok () w' ∧ Turned w w' b (.cells (C.take (o + i) ++ vs ++ C.drop (o + i + vs.length)).toArray e fr) := by
  intro vs
  induction vs with
  | nil =>
    intro i w C h hl _ _
    exact ⟨w, by unfold storeCells; rfl, ⟨rfl, by simp [h], fun _ _ => rfl, rfl, rfl, rfl⟩⟩
  | cons v vs ih =>
    intro i w C h hl ho hf
    simp only [List.length_cons] at hl
    have h1 := run_store (P := P) h (o := o + i) (by omega) (ho v (List.mem_cons_self ..)) (hf _ (by omega))
    obtain ⟨w', hr, ht⟩ := ih (i + 1) (w.setCell ⟨b, o + i, none⟩ v) (C.set (o + i) v) (setCell_heap h _ _) (by simp; omega) (fun x hx => ho x (List.mem_cons_of_mem _ hx)) (by simpa using hf)
    refine ⟨w', ?_, ?_⟩
    · unfold storeCells
      rw [add_eq, run_ok_bind h1]; exact hr
    · refine ⟨by rw [ht.size, setCell_size], ?_, fun c hc => (ht.other c hc).trans (setCell_other _ _ hc), ht.os, ht.tape, ht.output⟩
      rw [ht.at_]
      congr 3
      have e1 : (C.set (o + i) v).take (o + (i + 1)) = C.take (o + i) ++ [v] := by
        rw [show o + (i + 1) = (o + i) + 1 from by omega, List.take_succ_eq_append_getElem (by simp; omega)]
        simp [List.take_set_of_le]
      have e2 : (C.set (o + i) v).drop (o + (i + 1) + vs.length) = C.drop (o + i + (v :: vs).length) := by
        rw [List.drop_set_of_lt (by omega)]
        congr 1
        simp; omega
      rw [e1, e2]
      simp

end Go.Ae

namespace Go.Ae
open Go

variable {P : Program} {m : Mp} {D : Nat → Prop} {h : AH} {w : World}

theorem oneV_cv (m : Mp) (v : AV) (hv : v.one = true) : oneV (cv m v) = true := by
  cases v <;> first | rfl | (simp [AV.one] at hv; done)
theorem oneV_cvs {l : List AV} (m : Mp) (hl : allOne l = true) : ∀ v ∈ cvs m l, oneV v = true := by
  intro v hv
  rw [cvs_map, List.mem_map] at hv
  obtain ⟨a, ha, rfl⟩ := hv
  unfold allOne at hl
  rw [List.all_eq_true] at hl
  exact oneV_cv m a (hl a ha)

theorem cells_cv (m : Mp) (v : AV) : (cv m v).cells = (cvs m v.cells).toArray := by
  cases v <;> simp [cv, AV.cells, Value.cells, cvs]
theorem inD_cells {v : AV} (hv : inD D v) : inDs D v.cells := by
  cases v <;> simp only [AV.cells, inDs, inD] at * <;> first | exact ⟨hv, trivial⟩ | exact hv | trivial | exact ⟨trivial, trivial⟩

/-- what a cells block is in the world -/
theorem Rel.cells (r : Rel P m D h w) {b : Nat} (hb : D b) {c : CT} {e : TypeId} {o : Bool} (hg : h.get b = some (.cells c e o)) :
    ∃ (rest : List Value) (fr : Nat × Nat), w.heap[(m b).1]? = some (.cells (cvs m c.toList ++ rest).toArray e fr) ∧ (o = false → rest = []) ∧
      (∀ i, i < c.toList.length + rest.length → ¬ (fr.1 ≤ i ∧ i < fr.2)) ∧ (o = true → ∀ n, cellsOf? P e = some n → c.toList.length ≤ (m b).2 * n ∧ (m b).2 * n ≤ c.toList.length + rest.length) ∧ inDs D c.toList := by
  obtain ⟨x, hx, hr, hd⟩ := r.blk b hb
  rw [hg] at hx; cases hx
  obtain ⟨rest, fr, h1, h2, h3, h4⟩ := hr
  exact ⟨rest, fr, h1, h2, h3, h4, hd⟩

theorem live_of {b : Nat} {x : Blk} (hg : h.get b = some x) (hl : x.live) : live h b := ⟨x, hg, hl⟩

theorem Rel.readL (r : Rel P m D h w) {b off n : Nat} {c : CT} {t : TypeId} {o : Bool} {l : List AV} (hb : D b) (hg : h.get b = some (.cells c t o)) (e : ltake n (ldrop off c.toList) = some l) :
    (loadCells ⟨(m b).1, off, none⟩ n).run P w = .ok (cvs m l).toArray w ∧ inDs D l ∧ l.length = n := by
  obtain ⟨rest, fr, h1, _, _, _, hd⟩ := r.cells hb hg
  rw [ldrop_eq] at e
  obtain ⟨e1, e2⟩ := ltake_some e
  refine ⟨?_, ?_, ltake_len e⟩
  · by_cases hz : n = 0
    · subst hz; subst e1; simp [cvs, loadCells, loadCellsFrom]
    · simp only [List.length_drop] at e2
      rw [run_loadCells h1 off n (by simp; omega)]
      subst e1
      rw [cvs_map, cvs_map, List.drop_append_of_le_length (by simp; omega), List.take_append_of_le_length (by simp; omega)]
      simp [List.map_take, List.map_drop]
  · subst e1; exact inDs_take _ (inDs_drop _ hd)

theorem readT_inp {t : Trie AV} : ∀ {n i : Nat} {l : List AV}, readT [] t i n = some l → l.length = n ∧ ∀ k, k < n → ∃ v, Trie.get t (i + k) = some v ∧ l[k]? = some v := by
  intro n
  induction n with
  | zero => intro i l e; rw [readT_z] at e; cases e; exact ⟨rfl, fun k hk => by omega⟩
  | succ n ih =>
    intro i l e
    rw [readT_s] at e
    simp only [Option.bind_eq_some_iff] at e
    obtain ⟨v, hv, s, hs, e⟩ := e
    cases e
    obtain ⟨h1, h2⟩ := ih hs
    have hv' : Trie.get t i = some v := by
      rw [tcell_eq] at hv
      split at hv
      · rename_i x hx; cases hv; exact hx
      · rw [lget_nil] at hv; cases hv
    refine ⟨by simp [h1], ?_⟩
    intro k hk
    cases k with
    | zero => exact ⟨v, hv', rfl⟩
    | succ k =>
      obtain ⟨u, hu1, hu2⟩ := h2 k (by omega)
      exact ⟨u, by rw [← hu1]; congr 1; omega, by simpa using hu2⟩
theorem Rel.inpB (r : Rel P m D h w) {b : Nat} {t : Trie AV} (hb : D b) (hg : h.get b = some (.inp t)) :
    ∃ C e fr, w.heap[(m b).1]? = some (.cells (List.toArray C) e fr) ∧ ∀ i v, Trie.get t i = some v → C[i]? = some (cv m v) ∧ inD D v := by
  obtain ⟨x, hx, hr, hd⟩ := r.blk b hb
  rw [hg] at hx; cases hx
  obtain ⟨C, e, fr, h1, h2⟩ := hr
  exact ⟨C, e, fr, h1, fun i v hv => ⟨h2 i v hv, hd i v hv⟩⟩
theorem Rel.readI (r : Rel P m D h w) {b off n : Nat} {t : Trie AV} {l : List AV} (hb : D b) (hg : h.get b = some (.inp t)) (e : readT [] t off n = some l) :
    (loadCells ⟨(m b).1, off, none⟩ n).run P w = .ok (cvs m l).toArray w ∧ inDs D l ∧ l.length = n := by
  obtain ⟨C, el, fr, h1, h2⟩ := r.inpB hb hg
  obtain ⟨e1, e2⟩ := readT_inp e
  have key : ∀ k, k < n → ∃ v, l[k]? = some v ∧ C[off + k]? = some (cv m v) ∧ inD D v := fun k hk => by
    obtain ⟨v, hv, hl⟩ := e2 k hk
    exact ⟨v, hl, h2 _ v hv⟩
  refine ⟨?_, ?_, e1⟩
  · by_cases hz : n = 0
    · subst hz; rw [List.eq_nil_of_length_eq_zero e1]; simp [cvs, loadCells, loadCellsFrom]
    · have hlen : off + n ≤ C.length := by
        obtain ⟨v, _, hc, _⟩ := key (n - 1) (by omega)
        have := (List.getElem?_eq_some_iff.1 hc).1
        omega
      rw [run_loadCells h1 off n hlen]
      congr 2
      apply List.ext_getElem?
      intro k
      rw [cvs_map, List.getElem?_map]
      by_cases hk : k < n
      · obtain ⟨v, hl, hc, _⟩ := key k hk
        rw [List.getElem?_take_of_lt hk, List.getElem?_drop, hc, hl]; rfl
      · rw [List.getElem?_eq_none (by simp; omega), List.getElem?_eq_none (by omega)]; rfl
  · rw [inDs_iff]
    intro v hv
    obtain ⟨k, hk, rfl⟩ := List.mem_iff_getElem.1 hv
    obtain ⟨u, hl, _, hd⟩ := key k (by omega)
    rw [List.getElem?_eq_getElem hk] at hl; cases hl; exact hd
theorem Rel.readI1 (r : Rel P m D h w) {b off : Nat} {t : Trie AV} {v : AV} (hb : D b) (hg : h.get b = some (.inp t)) (e : Trie.get t off = some v) :
    (load ⟨(m b).1, off, none⟩).run P w = .ok (cv m v) w ∧ inD D v := by
  obtain ⟨C, el, fr, h1, h2⟩ := r.inpB hb hg
  obtain ⟨h3, h4⟩ := h2 off v e
  exact ⟨run_load h1 h3, h4⟩

theorem Rel.read (r : Rel P m D h w) {b off n : Nat} {l : List AV} (hb : D b) (e : readAt h b off n = some l) :
    (loadCells ⟨(m b).1, off, none⟩ n).run P w = .ok (cvs m l).toArray w ∧ inDs D l ∧ l.length = n := by
  unfold readAt at e
  split at e
  · rename_i c t o hg
    exact r.readL hb hg (CT.readN_ok e)
  · rename_i t hg
    exact r.readI hb hg e
  · cases e

theorem Rel.read1 (r : Rel P m D h w) {b off : Nat} {c : CT} {t : TypeId} {o : Bool} {v : AV} (hb : D b) (hg : h.get b = some (.cells c t o)) (e : c.get1 off = some v) :
    (load ⟨(m b).1, off, none⟩).run P w = .ok (cv m v) w ∧ inD D v := by
  obtain ⟨rest, fr, h1, _, _, _, hd⟩ := r.cells hb hg
  replace e := CT.get1_ok e
  rw [lget_eq] at e
  have hlt : off < c.toList.length := (List.getElem?_eq_some_iff.1 e).1
  refine ⟨run_load h1 ?_, (inDs_iff D c.toList).1 hd v (List.mem_of_getElem? e)⟩
  rw [List.getElem?_append_left (by simpa using hlt), cvs_map, List.getElem?_map, e]; rfl

theorem Rel.write (r : Rel P m D h w) {b off : Nat} {xs : List AV} {h' : AH} (hb : D b) (hxs : inDs D xs) (e : writeAt h b off xs = some h') :
    ∃ w', (storeCells ⟨(m b).1, off, none⟩ (cvs m xs)).run P w = .ok () w' ∧ Ext m D h w m D h' w' ∧ Rel P m D h' w' := by
  unfold writeAt at e
  split at e
  · rename_i c t o hg
    cases hone : allOne xs
    · rw [hone] at e; cases e
    · rw [hone] at e
      simp only [cond_true, Option.bind_eq_some_iff] at e
      obtain ⟨c', hc', he⟩ := e
      cases he
      obtain ⟨e1, e2⟩ := lputAt_some (CT.write_ok hc')
      obtain ⟨rest, fr, h1, h2, h3, h4, hd⟩ := r.cells hb hg
      obtain ⟨w', hr, ht⟩ := run_storeCells (P := P) off (cvs m xs) 0 w _ h1 (by simp; omega) (oneV_cvs m hone) (by simpa using h3)
      refine ⟨w', hr, ?_⟩
      have hlen : c'.toList.length = c.toList.length := by rw [e1]; simp; omega
      refine r.put b _ hb (live_of hg trivial) ht.size ht.other ht.os ht.tape ht.output ?_ ?_
      · simp only [inDB]; rw [e1]; exact inDs_app.2 ⟨inDs_app.2 ⟨inDs_take _ hd, hxs⟩, inDs_drop _ hd⟩
      · refine ⟨rest, fr, ?_, h2, by rw [hlen]; exact h3, by rw [hlen]; exact h4⟩
        rw [ht.at_, e1]
        congr 3
        simp only [cvs_map, List.length_map, Nat.add_zero, List.map_append, List.map_take, List.map_drop]
        rw [List.take_append_of_le_length (by simp; omega), List.drop_append_of_le_length (by simp; omega)]
        simp
  · cases e

/-! ### constants, types -/
theorem ofVal1_ok {v : Value} {a : AV} (e : ofVal1 v = some a) : cv m a = v ∧ inD D a := by
  unfold ofVal1 at e
  split at e <;> first | (cases e; exact ⟨rfl, trivial⟩) | (cases e; done)
theorem ofVal1s_ok {l : List Value} {s : List AV} (e : mapO ofVal1 l = some s) : cvs m s = l ∧ inDs D s := by
  induction l generalizing s with
  | nil => simp [mapO] at e; subst e; exact ⟨rfl, trivial⟩
  | cons a r ih =>
    simp only [mapO, Option.bind_eq_some_iff] at e
    obtain ⟨b, hb, t, ht, hs⟩ := e
    cases hs
    obtain ⟨h1, h2⟩ := ofVal1_ok (m := m) (D := D) hb
    obtain ⟨h3, h4⟩ := ih ht
    exact ⟨by simp [cvs, h1, h3], h2, h4⟩
theorem ofVal_ok {v : Value} {a : AV} (e : ofVal v = some a) : cv m a = v ∧ inD D a := by
  unfold ofVal at e
  split at e
  · rename_i cs
    simp only [Option.map_eq_some_iff] at e
    obtain ⟨s, hs, rfl⟩ := e
    obtain ⟨h1, h2⟩ := ofVal1s_ok (m := m) (D := D) hs
    exact ⟨by simp [cv, h1], h2⟩
  · rename_i cs
    simp only [Option.map_eq_some_iff] at e
    obtain ⟨s, hs, rfl⟩ := e
    obtain ⟨h1, h2⟩ := ofVal1s_ok (m := m) (D := D) hs
    exact ⟨by simp [cv, h1], h2⟩
  · rename_i f first cap
    cases hc : (first.isEmpty && cap.isEmpty)
    · rw [hc] at e; cases e
    · rw [hc] at e
      cases e
      simp only [Bool.and_eq_true, Array.isEmpty_iff] at hc
      obtain ⟨rfl, rfl⟩ := hc
      exact ⟨by simp [cv, cvs], trivial, trivial⟩
  · exact ofVal1_ok e

theorem run_underlying {t : TypeId} {d : TypeDesc} (e : P.underlying t = some d) : (underlying t).run P w = .ok d w := by
  unfold underlying
  rw [run_ok_bind (show (program).run P w = .ok P w from rfl)]
  rw [e]; rfl
theorem run_typeInfo {t : TypeId} {i : TypeInfo} (e : P.info? t = some i) : (typeInfo t).run P w = .ok i w := by
  unfold typeInfo
  rw [run_ok_bind (show (program).run P w = .ok P w from rfl)]
  rw [e]; rfl
theorem run_sizeOf {t : TypeId} {n : Nat} (e : cellsOf? P t = some n) : (sizeOf t).run P w = .ok n w := by
  simp only [cellsOf?, Option.map_eq_some_iff] at e
  obtain ⟨i, hi, rfl⟩ := e
  unfold sizeOf
  rw [run_ok_bind (run_typeInfo hi)]; rfl
theorem run_isAgg {t : TypeId} {b : Bool} (e : agg? P t = some b) : (isAgg t).run P w = .ok b w := by
  simp only [agg?, Option.map_eq_some_iff] at e
  obtain ⟨d, hd, hb⟩ := e
  unfold isAgg
  rw [run_ok_bind (run_underlying hd)]
  cases d <;> (subst hb; rfl)
theorem run_zeroValue {t : TypeId} {z : AV} (e : zero? P t = some z) : (zeroValue t).run P w = .ok (cv m z) w ∧ inD D z := by
  simp only [zero?, Option.bind_eq_some_iff] at e
  obtain ⟨i, hi, v, hv, hz⟩ := e
  obtain ⟨h1, h2⟩ := ofVal_ok (m := m) (D := D) hz
  refine ⟨?_, h2⟩
  unfold zeroValue
  rw [run_ok_bind (run_typeInfo hi), hv, h1]; rfl

end Go.Ae

namespace Go.Ae
open Go

variable {P : Program} {m : Mp} {D : Nat → Prop} {h : AH} {w : World}

def OpR (P : Program) (m : Mp) (D : Nat → Prop) (h : AH) (w : World) (res : Result Next) (v : AV) (h' : AH) : Prop :=
  ∃ m' D' w', (res = .ok (.value (cv m' v)) w' ∨ (res = .ok .skip w' ∧ v = .undef)) ∧ Ext m D h w m' D' h' w' ∧ Rel P m' D' h' w' ∧ inD D' v

theorem ob_some {α : Type} {x : Option α} {k : α → R} {r : AV × AH} : ob x k = some r ↔ ∃ a, x = some a ∧ k a = some r := by
  cases x <;> simp [ob]
theorem cnd_some {b : Bool} {x : R} {r : AV × AH} : cnd b x none = some r ↔ b = true ∧ x = some r := by
  cases b <;> simp [cnd]
theorem bif_some {α : Type} {b : Bool} {x : Option α} {r : α} : (bif b then x else none) = some r ↔ b = true ∧ x = some r := by
  cases b <;> simp
theorem fin_some {v v' : AV} {h h' : AH} : (some (v, h) : R) = some (v', h') ↔ v = v' ∧ h = h' := by simp

theorem pure_ok (r : Rel P m D h w) {s : Sem Value} {v : AV} (hs : s.run P w = .ok (cv m v) w) (hv : inD D v) :
    OpR P m D h w ((do pure (Next.value (← s)) : Sem Next).run P w) v h :=
  ⟨m, D, w, .inl (by rw [run_ok_bind hs]; rfl), Ext.refl .., r, hv⟩
theorem pureN_ok (r : Rel P m D h w) {s : Sem Next} {v : AV} (hs : s.run P w = .ok (.value (cv m v)) w) (hv : inD D v) : OpR P m D h w (s.run P w) v h :=
  ⟨m, D, w, .inl hs, Ext.refl .., r, hv⟩

/-- the operands' values -/
def OpV (m : Mp) (D : Nat → Prop) (ρ : Operand → Value) (r : Operand → Option AV) : Prop := ∀ x v, r x = some v → ρ x = cv m v ∧ inD D v

/-! ### numbers -/
theorem nble_t {a b : Nat} (h : Nat.ble a b = true) : a ≤ b := Nat.le_of_ble_eq_true h
theorem nble_f {a b : Nat} (h : Nat.ble a b = false) : b < a := by
  rcases Nat.lt_or_ge b a with h' | h'
  · exact h'
  · rw [Nat.ble_eq_true_of_le h'] at h; cases h
theorem ieq_eq (a b : Int) : ieq a b = (a == b) := by
  cases a with
  | ofNat a => cases b with
    | ofNat b =>
      simp only [ieq]
      by_cases e : a = b
      · subst e; simp
      · rw [nbeq_f e]; symm; rw [beq_eq_false_iff_ne]; intro h; exact e (Int.ofNat.inj h)
    | negSucc b => rfl
  | negSucc a => cases b with
    | ofNat b => rfl
    | negSucc b =>
      simp only [ieq]
      by_cases e : a = b
      · subst e; simp
      · rw [nbeq_f e]; symm; rw [beq_eq_false_iff_ne]; intro h; exact e (Int.negSucc.inj h)
theorem ilt_eq (a b : Int) : ilt a b = decide (a < b) := by
  cases a with
  | ofNat a => cases b with
    | ofNat b =>
      simp only [ilt]
      cases e : Nat.ble (a + 1) b
      · have := nble_f e; symm; rw [decide_eq_false_iff_not]; show ¬ ((a : Int) < (b : Int)); omega
      · have := nble_t e; symm; rw [decide_eq_true_eq]; show (a : Int) < (b : Int); omega
    | negSucc b => simp only [ilt]; symm; rw [decide_eq_false_iff_not]; show ¬ ((a : Int) < _); omega
  | negSucc a => cases b with
    | ofNat b => simp only [ilt]; symm; rw [decide_eq_true_eq]; show _ < (b : Int); omega
    | negSucc b =>
      simp only [ilt]
      cases e : Nat.ble (b + 1) a
      · have := nble_f e; symm; rw [decide_eq_false_iff_not]; omega
      · have := nble_t e; symm; rw [decide_eq_true_eq]; omega

theorem wrap_i64 (n : Int) : IntKind.wrap .i64 n = if 9223372036854775808 ≤ n % 18446744073709551616 then n % 18446744073709551616 - 18446744073709551616 else n % 18446744073709551616 := by
  show (if (true && decide (n % 18446744073709551616 ≥ 9223372036854775808)) = true then _ else _) = _
  simp only [Bool.true_and, decide_eq_true_eq, ge_iff_le]
  rfl
theorem wrap_u64 (n : Int) : IntKind.wrap .u64 n = n % 18446744073709551616 := rfl
theorem wrap_u8 (n : Int) : IntKind.wrap .u8 n = n % 256 := rfl
theorem wrap_negSucc (a : Nat) (h : a ≤ 9223372036854775807) : IntKind.wrap .i64 (Int.negSucc a) = Int.negSucc a := by
  have e : Int.negSucc a = -((a : Int) + 1) := Int.negSucc_eq a
  rw [wrap_i64, e]
  generalize hx : -((a : Int) + 1) = x
  rw [if_pos (by omega)]
  omega
theorem awrap_eq (k : IntKind) (n : Int) : awrap k n = k.wrap n := by
  cases k <;> cases n <;> simp only [awrap]
  · rename_i a
    cases hb : Nat.ble a 9223372036854775807
    · rw [cond_false]
    · have := nble_t hb
      rw [wrap_i64]
      show (a : Int) = if 9223372036854775808 ≤ (a : Int) % _ then _ else (a : Int) % _
      split <;> omega
  · rename_i a
    cases hb : Nat.ble a 9223372036854775807
    · rw [cond_false]
    · have := nble_t hb
      rw [cond_true]
      exact (wrap_negSucc a this).symm
  · rename_i a
    rw [wrap_u8]
    show ((a % 256 : Nat) : Int) = (a : Int) % _
    omega
  · rename_i a
    rw [wrap_u64]
    show ((a % 18446744073709551616 : Nat) : Int) = (a : Int) % _
    omega
  · rename_i a
    rw [wrap_u64]
    show ((18446744073709551615 - a % 18446744073709551616 : Nat) : Int) = _
    omega

theorem seq?_eq (a b : List UInt8) : seq? a b = (a == b) := by
  induction a generalizing b with
  | nil => cases b <;> rfl
  | cons x a ih => cases b with
    | nil => rfl
    | cons y b => simp only [seq?, ih]; rfl

def intOp (op : BinOp) (k : IntKind) (x y : Int) : Sem Value :=
  match op with
  | .add | .sub | .mul => Op.intArith op k x y
  | .quo | .rem => Op.intDiv op k x y
  | .and | .or | .xor | .andNot => Op.intBits op k x y
  | _ => Op.intCmp op x y
theorem run_aint {op : BinOp} {k : IntKind} {x y : Int} {v : AV} (e : aint op k x y = some v) :
    (intOp op k x y).run P w = .ok (cv m v) w ∧ inD D v := by
  cases op <;> simp only [aint, awrap_eq, ieq_eq, ilt_eq] at e
  case quo =>
    by_cases hy : y = 0
    · subst hy; cases e
    · rw [beq_eq_false_iff_ne.2 hy] at e; cases e; exact ⟨by simp [intOp, Op.intDiv, hy, cv], trivial⟩
  case rem =>
    by_cases hy : y = 0
    · subst hy; cases e
    · rw [beq_eq_false_iff_ne.2 hy] at e; cases e; exact ⟨by simp [intOp, Op.intDiv, hy, cv], trivial⟩
  case leq =>
    cases e; refine ⟨?_, trivial⟩
    show Result.ok (Value.bool (decide (x ≤ y))) w = .ok (.bool (!decide (y < x))) w
    rw [← decide_not, decide_eq_decide.2 (show x ≤ y ↔ ¬ y < x by omega)]
  case geq =>
    cases e; refine ⟨?_, trivial⟩
    show Result.ok (Value.bool (decide (x ≥ y))) w = .ok (.bool (!decide (x < y))) w
    rw [← decide_not, decide_eq_decide.2 (show x ≥ y ↔ ¬ x < y by omega)]
  all_goals first
    | (cases e; done)
    | (cases e; exact ⟨rfl, trivial⟩)

end Go.Ae

namespace Go.Ae
open Go

variable {P : Program} {m : Mp} {D : Nat → Prop} {h h' : AH} {w : World} {c : CV} {ρ : Operand → Value} {r : Operand → Option AV} {o : Oper} {v : AV}

abbrev fin : AV → AH → R := fun v h => some (v, h)

theorem op_move {x : Operand} (ho : o.op = .move x) (hr : OpV m D ρ r) (R : Rel P m D h w) (e : opK P c o.op r h fin = some (v, h')) : OpR P m D h w ((execOp ρ o).run P w) v h' := by
  rw [ho] at e
  simp only [opK, ob_some, fin_some] at e
  obtain ⟨a, ha, rfl, rfl⟩ := e
  obtain ⟨h1, h2⟩ := hr _ _ ha
  refine pureN_ok R ?_ h2
  simp only [execOp, ho, h1, run_pure]
theorem op_assign {x : Operand} (ho : o.op = .assign x) (hr : OpV m D ρ r) (R : Rel P m D h w) (e : opK P c o.op r h fin = some (v, h')) : OpR P m D h w ((execOp ρ o).run P w) v h' := by
  rw [ho] at e
  simp only [opK, ob_some, fin_some] at e
  obtain ⟨a, ha, rfl, rfl⟩ := e
  obtain ⟨h1, h2⟩ := hr _ _ ha
  refine pureN_ok R ?_ h2
  simp only [execOp, ho, h1, run_pure]
theorem op_pick {x y z : Operand} (ho : o.op = .pick x y z) (hr : OpV m D ρ r) (R : Rel P m D h w) (e : opK P c o.op r h fin = some (v, h')) : OpR P m D h w ((execOp ρ o).run P w) v h' := by
  rw [ho] at e
  simp only [opK, ob_some] at e
  obtain ⟨a, ha, b, hb, d, hd, e⟩ := e
  obtain ⟨a1, a2⟩ := hr _ _ ha
  obtain ⟨b1, b2⟩ := hr _ _ hb
  obtain ⟨d1, d2⟩ := hr _ _ hd
  rw [pPick_eq] at e
  split at e
  · rename_i t
    cases t <;> simp only [fin_some] at e <;> obtain ⟨rfl, rfl⟩ := e
    · refine pureN_ok R ?_ d2
      simp only [execOp, ho, a1, b1, d1, cv, asBool]; rfl
    · refine pureN_ok R ?_ b2
      simp only [execOp, ho, a1, b1, d1, cv, asBool]; rfl
  · cases e
theorem op_nil {x : Operand} (ho : o.op = .nilCheck x) (hr : OpV m D ρ r) (R : Rel P m D h w) (e : opK P c o.op r h fin = some (v, h')) : OpR P m D h w ((execOp ρ o).run P w) v h' := by
  rw [ho] at e
  simp only [opK, ob_some] at e
  obtain ⟨a, ha, e⟩ := e
  obtain ⟨a1, a2⟩ := hr _ _ ha
  unfold pNil at e
  split at e <;> first | (cases e; done) | skip
  all_goals
    simp only [fin_some] at e
    obtain ⟨rfl, rfl⟩ := e
    refine pureN_ok R ?_ a2
    simp only [execOp, ho, a1, cv]; rfl
theorem op_un {op : UnOp} {t : TypeId} {x : Operand} (ho : o.op = .unOp op t x) (hr : OpV m D ρ r) (R : Rel P m D h w) (e : opK P c o.op r h fin = some (v, h')) : OpR P m D h w ((execOp ρ o).run P w) v h' := by
  rw [ho] at e
  simp only [opK, ob_some] at e
  obtain ⟨a, ha, e⟩ := e
  obtain ⟨a1, a2⟩ := hr _ _ ha
  unfold pUn at e
  split at e <;> first | (cases e; done) | skip
  all_goals
    simp only [fin_some] at e
    obtain ⟨rfl, rfl⟩ := e
    simp only [execOp, ho, a1]
    refine pure_ok R ?_ trivial
    first
      | (simp only [cv, awrap_eq]; rfl)
      | rfl
theorem op_iface {t : TypeId} {x : Operand} (ho : o.op = .makeInterface t x) (hr : OpV m D ρ r) (R : Rel P m D h w) (e : opK P c o.op r h fin = some (v, h')) : OpR P m D h w ((execOp ρ o).run P w) v h' := by
  rw [ho] at e
  simp only [opK, ob_some] at e
  obtain ⟨d, hd, e⟩ := e
  have key : ∃ a, r x = some a ∧ fin (.iface t a) h = some (v, h') := by
    split at e
    · cases e
    · exact ob_some.1 e
  obtain ⟨a, ha, e⟩ := key
  obtain ⟨a1, a2⟩ := hr _ _ ha
  simp only [fin_some] at e
  obtain ⟨rfl, rfl⟩ := e
  simp only [execOp, ho, a1]
  refine pure_ok R ?_ a2
  unfold Instr.makeInterface
  rw [run_ok_bind (run_underlying hd)]
  cases d <;> first | rfl | (simp_all; done)
theorem op_field {t : TypeId} {x : Operand} {f : Nat} (ho : o.op = .fieldAddr t x f) (hr : OpV m D ρ r) (R : Rel P m D h w) (e : opK P c o.op r h fin = some (v, h')) : OpR P m D h w ((execOp ρ o).run P w) v h' := by
  rw [ho] at e
  simp only [opK, ob_some] at e
  obtain ⟨a, ha, off, hoff, e⟩ := e
  obtain ⟨a1, a2⟩ := hr _ _ ha
  rw [pFieldA_eq] at e
  split at e
  · rename_i b o'
    simp only [fin_some] at e
    obtain ⟨rfl, rfl⟩ := e
    simp only [execOp, ho, a1]
    refine pure_ok R ?_ a2
    unfold fieldOff at hoff
    simp only [Option.bind_eq_some_iff] at hoff
    obtain ⟨d, hd, hoff⟩ := hoff
    unfold Instr.fieldAt
    rw [run_ok_bind (run_underlying hd)]
    cases d <;> simp only [reduceCtorEq] at hoff
    rename_i fs
    simp only [Option.bind_eq_some_iff] at hoff
    obtain ⟨g, hg, sz, hsz, hoff⟩ := hoff
    cases hz : Nat.beq sz 0 <;> rw [hz] at hoff <;> simp only [cond_true, cond_false, reduceCtorEq, Option.some.injEq] at hoff
    subst hoff
    simp only [hg, cv]
    rw [run_ok_bind (show (Instr.sureAddr (.pointer (some ⟨(m b).1, o', none⟩))).run P w = .ok ⟨(m b).1, o', none⟩ w from rfl)]
    rw [run_ok_bind (show (fieldPlace ⟨(m b).1, o', none⟩ g).run P w = .ok ⟨(m b).1, o' + g.offset, none⟩ w from ?_)]
    · rfl
    · unfold fieldPlace
      rw [run_ok_bind (run_sizeOf hsz), if_neg (nbeq_ne hz), add_eq]; rfl
  · cases e

theorem run_part1 {t : TypeId} {cs : List AV} {off : Nat} {x : AV} (ht : agg? P t = some false) (e : lget cs off = some x) (hd : inDs D cs) : (part t (cvs m cs).toArray off).run P w = .ok (cv m x) w ∧ inD D x := by
  rw [lget_eq] at e
  refine ⟨?_, (inDs_iff D cs).1 hd x (List.mem_of_getElem? e)⟩
  unfold part
  rw [run_ok_bind (run_isAgg ht)]
  simp only [Bool.false_eq_true, if_false, List.getElem?_toArray, cvs_map, List.getElem?_map, e]; rfl
theorem run_partN {t : TypeId} {cs l : List AV} {off n : Nat} (ht : agg? P t = some true) (hn : cellsOf? P t = some n) (e : ltake n (ldrop off cs) = some l) (hd : inDs D cs) : (part t (cvs m cs).toArray off).run P w = .ok (cv m (.agg l)) w ∧ inDs D l := by
  rw [ldrop_eq] at e
  obtain ⟨e1, e2⟩ := ltake_some e
  refine ⟨?_, by subst e1; exact inDs_take _ (inDs_drop _ hd)⟩
  unfold part
  rw [run_ok_bind (run_isAgg ht)]
  simp only [if_true]
  rw [run_ok_bind (run_sizeOf hn)]
  subst e1
  simp only [cv, cvs_map, List.map_take, List.map_drop, run_pure]
  congr 2
  simp [List.take_drop]
theorem partInfo_some {t : TypeId} {i : Option Nat} (e : partInfo P t = some i) : (i = none ∧ agg? P t = some false) ∨ ∃ n, i = some n ∧ agg? P t = some true ∧ cellsOf? P t = some n := by
  unfold partInfo at e
  simp only [Option.bind_eq_some_iff] at e
  obtain ⟨a, ha, e⟩ := e
  cases a
  · simp at e; exact .inl ⟨e.symm, ha⟩
  · simp only [cond_true, Option.map_eq_some_iff] at e
    obtain ⟨n, hn, e⟩ := e
    exact .inr ⟨n, e.symm, ha, hn⟩

theorem op_part {t : TypeId} {x : Operand} {f : Nat} (ho : o.op = .field t x f) (hr : OpV m D ρ r) (R : Rel P m D h w) (e : opK P c o.op r h fin = some (v, h')) : OpR P m D h w ((execOp ρ o).run P w) v h' := by
  rw [ho] at e
  simp only [opK, ob_some] at e
  obtain ⟨a, ha, p, hp, e⟩ := e
  obtain ⟨a1, a2⟩ := hr _ _ ha
  unfold fieldPart at hp
  simp only [Option.bind_eq_some_iff] at hp
  obtain ⟨d, hd, hp⟩ := hp
  cases d <;> simp only [reduceCtorEq] at hp
  rename_i fs
  simp only [Option.bind_eq_some_iff, Option.map_eq_some_iff] at hp
  obtain ⟨g, hg, i, hi, rfl⟩ := hp
  simp only [execOp, ho, a1]
  rcases partInfo_some hi with ⟨rfl, hag⟩ | ⟨n, rfl, hag, hn⟩
  · simp only [pPart1_eq] at e
    split at e
    · rename_i cs
      simp only [ob_some, fin_some] at e
      obtain ⟨z, hz, rfl, rfl⟩ := e
      obtain ⟨z1, z2⟩ := run_part1 (w := w) (m := m) hag hz a2
      refine pure_ok R ?_ z2
      unfold Instr.field
      rw [run_ok_bind (run_underlying hd)]
      simp only [hg, cv]
      rw [run_ok_bind (show (asAgg (.agg (cvs m cs).toArray)).run P w = .ok _ w from rfl)]
      exact z1
    · cases e
  · simp only [pPartN] at e
    split at e
    · rename_i cs
      simp only [ob_some, fin_some] at e
      obtain ⟨z, hz, rfl, rfl⟩ := e
      obtain ⟨z1, z2⟩ := run_partN (w := w) (m := m) hag hn hz a2
      refine pure_ok R ?_ z2
      unfold Instr.field
      rw [run_ok_bind (run_underlying hd)]
      simp only [hg, cv]
      rw [run_ok_bind (show (asAgg (.agg (cvs m cs).toArray)).run P w = .ok _ w from rfl)]
      exact z1
    · cases e

theorem op_indexAddr {t : TypeId} {x i : Operand} (ho : o.op = .indexAddr t x i) (hr : OpV m D ρ r) (R : Rel P m D h w) (e : opK P c o.op r h fin = some (v, h')) : OpR P m D h w ((execOp ρ o).run P w) v h' := by
  rw [ho] at e
  simp only [opK, ob_some] at e
  obtain ⟨a, ha, j, hj, d, hd, e⟩ := e
  obtain ⟨a1, a2⟩ := hr _ _ ha
  obtain ⟨j1, j2⟩ := hr _ _ hj
  simp only [execOp, ho, a1, j1]
  cases d <;> simp only [reduceCtorEq] at e
  case slice el =>
    simp only [ob_some] at e
    obtain ⟨sz, hsz, e⟩ := e
    rw [pIdxS_eq] at e
    split at e
    · rename_i b off len cp opn k q
      simp only [bif_some, fin_some] at e
      obtain ⟨hq, rfl, rfl⟩ := e
      have hq := nble_t hq
      refine pure_ok R ?_ a2
      unfold Instr.indexAt
      simp only [cv]
      rw [run_ok_bind (show (asIntOf (.int k (.ofNat q))).run P w = .ok (k, .ofNat q) w from rfl)]
      rw [run_ok_bind (run_underlying hd)]
      simp only []
      rw [run_ok_bind (show (pure (some (⟨(m b).1, off, none⟩ : Addr), len, el) : Sem (Option Addr × Nat × TypeId)).run P w = .ok _ w from rfl)]
      rw [run_ok_bind (run_underlying hd)]
      have : (0 : Int) ≤ Int.ofNat q ∧ Int.ofNat q < (len : Int) := ⟨Int.natCast_nonneg q, by show (q : Int) < len; omega⟩
      simp only [if_pos this]
      rw [run_ok_bind (run_sizeOf hsz)]
      simp only [add_eq, run_pure]; rfl
    · cases e
  case array n el =>
    simp only [cnd_some, ob_some] at e
    obtain ⟨h2, sz, hsz, e⟩ := e
    have h2 := nble_t h2
    unfold pIdxP at e
    split at e
    · rename_i b off k q
      simp only [bif_some, fin_some] at e
      obtain ⟨hq, rfl, rfl⟩ := e
      have hq := nble_t hq
      refine pure_ok R ?_ a2
      unfold Instr.indexAt
      simp only [cv]
      rw [run_ok_bind (show (asIntOf (.int k (.ofNat q))).run P w = .ok (k, .ofNat q) w from rfl)]
      rw [run_ok_bind (run_underlying hd)]
      simp only []
      rw [run_ok_bind (show (Instr.sureAddr (.pointer (some ⟨(m b).1, off, none⟩))).run P w = .ok ⟨(m b).1, off, none⟩ w from rfl)]
      rw [run_ok_bind (show (pure (some (⟨(m b).1, off, none⟩ : Addr), n, el) : Sem (Option Addr × Nat × TypeId)).run P w = .ok _ w from rfl)]
      rw [run_ok_bind (run_underlying hd)]
      have : (0 : Int) ≤ Int.ofNat q ∧ Int.ofNat q < (n : Int) := ⟨Int.natCast_nonneg q, by show (q : Int) < n; omega⟩
      simp only [if_pos this]
      rw [run_ok_bind (run_sizeOf hsz)]
      simp only [add_eq, run_pure]; rfl
    · cases e

theorem op_extract {x : Operand} {i : Nat} (ho : o.op = .extract x i) (hr : OpV m D ρ r) (R : Rel P m D h w) (e : opK P c o.op r h fin = some (v, h')) : OpR P m D h w ((execOp ρ o).run P w) v h' := by
  rw [ho] at e
  simp only [opK, ob_some] at e
  obtain ⟨a, ha, e⟩ := e
  obtain ⟨a1, a2⟩ := hr _ _ ha
  rw [pExtract_eq] at e
  split at e
  · rename_i l
    simp only [ob_some, fin_some] at e
    obtain ⟨z, hz, rfl, rfl⟩ := e
    rw [lget_eq] at hz
    simp only [execOp, ho, a1]
    refine pure_ok R ?_ ((inDs_iff D l).1 a2 _ (List.mem_of_getElem? hz))
    simp only [Instr.extract, cv, List.getElem?_toArray, cvs_map, List.getElem?_map, hz]; rfl
  · cases e

theorem op_index {t : TypeId} {x i : Operand} (ho : o.op = .index t x i) (hr : OpV m D ρ r) (R : Rel P m D h w) (e : opK P c o.op r h fin = some (v, h')) : OpR P m D h w ((execOp ρ o).run P w) v h' := by
  rw [ho] at e
  simp only [opK, ob_some] at e
  obtain ⟨a, ha, j, hj, d, hd, e⟩ := e
  obtain ⟨a1, a2⟩ := hr _ _ ha
  obtain ⟨j1, j2⟩ := hr _ _ hj
  simp only [execOp, ho, a1, j1]
  cases d <;> simp only [reduceCtorEq] at e
  case string =>
    unfold pIdxStr at e
    split at e
    · rename_i s k q
      simp only [ob_some, fin_some] at e
      obtain ⟨z, hz, rfl, rfl⟩ := e
      rw [lget_eq] at hz
      refine pure_ok R ?_ trivial
      unfold Instr.index
      simp only [cv]
      rw [run_ok_bind (show (asIntOf (.int k (.ofNat q))).run P w = .ok (k, .ofNat q) w from rfl)]
      rw [run_ok_bind (run_underlying hd)]
      have h0 : (0 : Int) ≤ Int.ofNat q := Int.natCast_nonneg q
      have hb : (ByteArray.mk s.toArray)[q]? = some z := by
        have hlt : q < s.length := (List.getElem?_eq_some_iff.1 hz).1
        have hs : (ByteArray.mk s.toArray).size = s.length := by simp [ByteArray.size]
        rw [getElem?_pos _ _ (by rw [hs]; exact hlt)]
        congr 1
        have := (List.getElem?_eq_some_iff.1 hz).2
        rw [← this]; rfl
      simp only [if_pos h0, show (Int.ofNat q).toNat = q from rfl, hb]; rfl
    · cases e
  case array n el =>
    simp only [ob_some] at e
    obtain ⟨sz, hsz, g, hg, e⟩ := e
    cases g
    · simp only [cnd] at e
      unfold pIdxA1 at e
      split at e
      · rename_i cs k q
        simp only [bif_some, ob_some, fin_some] at e
        obtain ⟨hq, z, hz, rfl, rfl⟩ := e
        have hq := nble_t hq
        obtain ⟨z1, z2⟩ := run_part1 (w := w) (m := m) hg hz a2
        refine pure_ok R ?_ z2
        unfold Instr.index
        simp only [cv]
        rw [run_ok_bind (show (asIntOf (.int k (.ofNat q))).run P w = .ok (k, .ofNat q) w from rfl)]
        rw [run_ok_bind (run_underlying hd)]
        have : (0 : Int) ≤ Int.ofNat q ∧ Int.ofNat q < (n : Int) := ⟨Int.natCast_nonneg q, by show (q : Int) < n; omega⟩
        simp only [if_pos this]
        rw [run_ok_bind (run_sizeOf hsz)]
        exact z1
      · cases e
    · simp only [cnd] at e
      unfold pIdxAN at e
      split at e
      · rename_i cs k q
        simp only [bif_some, ob_some, fin_some] at e
        obtain ⟨hq, z, hz, rfl, rfl⟩ := e
        have hq := nble_t hq
        obtain ⟨z1, z2⟩ := run_partN (w := w) (m := m) hg hsz hz a2
        refine pure_ok R ?_ z2
        unfold Instr.index
        simp only [cv]
        rw [run_ok_bind (show (asIntOf (.int k (.ofNat q))).run P w = .ok (k, .ofNat q) w from rfl)]
        rw [run_ok_bind (run_underlying hd)]
        have : (0 : Int) ≤ Int.ofNat q ∧ Int.ofNat q < (n : Int) := ⟨Int.natCast_nonneg q, by show (q : Int) < n; omega⟩
        simp only [if_pos this]
        rw [run_ok_bind (run_sizeOf hsz)]
        exact z1
      · cases e

theorem op_load {t : TypeId} {x : Operand} (ho : o.op = .load t x) (hr : OpV m D ρ r) (R : Rel P m D h w) (e : opK P c o.op r h fin = some (v, h')) : OpR P m D h w ((execOp ρ o).run P w) v h' := by
  rw [ho] at e
  simp only [opK, ob_some] at e
  obtain ⟨a, ha, i, hi, e⟩ := e
  obtain ⟨a1, a2⟩ := hr _ _ ha
  simp only [execOp, ho, a1]
  rcases partInfo_some hi with ⟨rfl, hag⟩ | ⟨n, rfl, hag, hn⟩
  · simp only [pLoad1_eq] at e
    split at e
    · rename_i b off
      split at e
      · rename_i cs t' op' hg
        simp only [ob_some, fin_some] at e
        obtain ⟨z, hz, rfl, rfl⟩ := e
        obtain ⟨z1, z2⟩ := R.read1 a2 hg hz
        refine pure_ok R ?_ z2
        unfold Instr.loadAt
        simp only [cv]
        rw [run_ok_bind (show (Instr.sureAddr (.pointer (some ⟨(m b).1, off, none⟩))).run P w = .ok ⟨(m b).1, off, none⟩ w from rfl)]
        unfold loadVar
        rw [run_ok_bind (run_isAgg hag)]
        exact z1
      · rename_i ti hg
        simp only [ob_some, fin_some] at e
        obtain ⟨z, hz, rfl, rfl⟩ := e
        obtain ⟨z1, z2⟩ := R.readI1 a2 hg hz
        refine pure_ok R ?_ z2
        unfold Instr.loadAt
        simp only [cv]
        rw [run_ok_bind (show (Instr.sureAddr (.pointer (some ⟨(m b).1, off, none⟩))).run P w = .ok ⟨(m b).1, off, none⟩ w from rfl)]
        unfold loadVar
        rw [run_ok_bind (run_isAgg hag)]
        exact z1
      · cases e
    · cases e
  · simp only [pLoadN_eq] at e
    split at e
    · rename_i b off
      simp only [ob_some, fin_some] at e
      obtain ⟨z, hz, rfl, rfl⟩ := e
      obtain ⟨z1, z2, z3⟩ := R.read a2 hz
      refine pure_ok R ?_ z2
      unfold Instr.loadAt
      simp only [cv]
      rw [run_ok_bind (show (Instr.sureAddr (.pointer (some ⟨(m b).1, off, none⟩))).run P w = .ok ⟨(m b).1, off, none⟩ w from rfl)]
      unfold loadVar
      rw [run_ok_bind (run_isAgg hag)]
      simp only [if_true]
      rw [run_ok_bind (run_sizeOf hn), run_ok_bind z1]; rfl
    · cases e

theorem op_store {t : TypeId} {x y : Operand} (ho : o.op = .store t x y) (hr : OpV m D ρ r) (R : Rel P m D h w) (e : opK P c o.op r h fin = some (v, h')) : OpR P m D h w ((execOp ρ o).run P w) v h' := by
  rw [ho] at e
  simp only [opK, ob_some] at e
  obtain ⟨a, ha, b, hb, n, hn, e⟩ := e
  obtain ⟨a1, a2⟩ := hr _ _ ha
  obtain ⟨b1, b2⟩ := hr _ _ hb
  rw [pStore_eq] at e
  split at e
  · rename_i q off
    simp only [bif_some, ob_some, fin_some] at e
    obtain ⟨hl, h1, hw, rfl, rfl⟩ := e
    have hl := nbeq_t hl
    obtain ⟨w', hrun, hext, hrel⟩ := R.write a2 (inD_cells b2) hw
    refine ⟨m, D, w', .inr ⟨?_, rfl⟩, hext, hrel, trivial⟩
    simp only [execOp, ho, a1, b1, cv]
    have hs : (Instr.storeAt t (.pointer (some ⟨(m q).1, off, none⟩)) (cv m b)).run P w = .ok () w' := by
      unfold Instr.storeAt
      rw [run_ok_bind (show (Instr.sureAddr (.pointer (some ⟨(m q).1, off, none⟩))).run P w = .ok ⟨(m q).1, off, none⟩ w from rfl)]
      unfold storeVar
      rw [run_ok_bind (run_sizeOf hn)]
      rw [cells_cv]
      simp only [List.size_toArray, cvs_len, hl, ne_eq, not_true_eq_false, if_false]
      exact hrun
    rw [run_ok_bind hs]; rfl
  · cases e


end Go.Ae

namespace Go.Ae
open Go

variable {P : Program} {m : Mp} {D : Nat → Prop} {h h' : AH} {w : World} {c : CV} {ρ : Operand → Value} {r : Operand → Option AV} {o : Oper} {v : AV}

theorem mapOp_ok (hr : OpV m D ρ r) {l : List Operand} {s : List AV} (e : mapO r l = some s) : l.map ρ = cvs m s ∧ inDs D s := by
  induction l generalizing s with
  | nil => simp [mapO] at e; subst e; exact ⟨rfl, trivial⟩
  | cons a l ih =>
    simp only [mapO, Option.bind_eq_some_iff] at e
    obtain ⟨b, hb, t, ht, hs⟩ := e
    cases hs
    obtain ⟨h1, h2⟩ := hr _ _ hb
    obtain ⟨h3, h4⟩ := ih ht
    exact ⟨by simp [cvs, h1, h3], h2, h4⟩

theorem arr_map {α β : Type} (f : α → β) (x : Array α) : x.map f = (x.toList.map f).toArray := by cases x; simp
theorem op_makeFunc {fn : Fn} {x y : Array Operand} (ho : o.op = .makeFunc fn x y) (hr : OpV m D ρ r) (R : Rel P m D h w) (e : opK P c o.op r h fin = some (v, h')) : OpR P m D h w ((execOp ρ o).run P w) v h' := by
  rw [ho] at e
  cases fn <;> simp only [opK, reduceCtorEq] at e
  rename_i f
  simp only [ob_some, fin_some] at e
  obtain ⟨a, ha, b, hb, rfl, rfl⟩ := e
  obtain ⟨a1, a2⟩ := mapOp_ok hr ha
  obtain ⟨b1, b2⟩ := mapOp_ok hr hb
  simp only [execOp, ho]
  refine pure_ok R ?_ ⟨a2, b2⟩
  simp only [Instr.makeFunc, cv, ← a1, ← b1, run_pure]
  rw [arr_map, arr_map]

theorem op_assert {x : Operand} {xt t : TypeId} {ok : Bool} (ho : o.op = .typeAssert x xt t ok) (hr : OpV m D ρ r) (R : Rel P m D h w) (e : opK P c o.op r h fin = some (v, h')) : OpR P m D h w ((execOp ρ o).run P w) v h' := by
  rw [ho] at e
  simp only [opK, ob_some] at e
  obtain ⟨a, ha, d, hd, e⟩ := e
  obtain ⟨a1, a2⟩ := hr _ _ ha
  simp only [execOp, ho, a1]
  have hni : (∀ ms, d ≠ .interface ms) ∧ (cnd ok (ob (zero? P t) fun z => pAssertOk t z a fun y => fin y h) (pAssert t a fun y => fin y h)) = some (v, h') := by
    split at e
    · cases e
    · rename_i hn; exact ⟨fun ms hms => hn ms hms, e⟩
  obtain ⟨hni, e⟩ := hni
  cases ok
  · simp only [cnd] at e
    unfold pAssert at e
    split at e
    · rename_i u z
      simp only [bif_some, fin_some] at e
      obtain ⟨hu, rfl, rfl⟩ := e
      have hu := nbeq_t hu
      subst hu
      refine pure_ok R ?_ a2
      unfold Instr.typeAssert
      simp only [cv]
      rw [run_ok_bind (run_underlying hd)]
      cases d <;> first | (exact absurd rfl (hni _)) | simp
    · cases e
  · simp only [cnd, ob_some] at e
    obtain ⟨z, hz, e⟩ := e
    obtain ⟨z1, z2⟩ := run_zeroValue (w := w) (m := m) (D := D) hz
    unfold pAssertOk at e
    split at e
    · rename_i u y _
      cases hu : Nat.beq u t
      · rw [hu] at e
        simp only [cond_false, fin_some] at e
        obtain ⟨rfl, rfl⟩ := e
        refine pure_ok R ?_ ⟨z2, trivial, trivial⟩
        unfold Instr.typeAssert
        simp only [cv, cvs]
        rw [run_ok_bind (run_underlying hd)]
        have hne : ¬ u = t := nbeq_ne hu
        cases d <;> first | (exact absurd rfl (hni _)) | (simp only [hne, if_false, if_true]; rw [run_ok_bind z1]; rfl)
      · rw [hu] at e
        simp only [cond_true, fin_some] at e
        obtain ⟨rfl, rfl⟩ := e
        have hu := nbeq_t hu
        subst hu
        refine pure_ok R ?_ ⟨a2, trivial, trivial⟩
        unfold Instr.typeAssert
        simp only [cv, cvs]
        rw [run_ok_bind (run_underlying hd)]
        cases d <;> first | (exact absurd rfl (hni _)) | simp
    · simp only [fin_some] at e
      obtain ⟨rfl, rfl⟩ := e
      refine pure_ok R ?_ ⟨z2, trivial, trivial⟩
      unfold Instr.typeAssert
      simp only [cv, cvs]
      rw [run_ok_bind (run_underlying hd)]
      cases d <;> first | (exact absurd rfl (hni _)) | (simp only [if_true]; rw [run_ok_bind z1]; rfl)
    · cases e

/-! ### binary operations -/
theorem run_ashift {op : BinOp} {k : IntKind} {x y : Int} {z : AV} (e : ashift op k x y = some z) (yk : IntKind) : (Op.shift op k x yk y).run P w = .ok (cv m z) w ∧ inD D z := by
  unfold ashift at e
  rw [ilt_eq] at e
  by_cases hy : y < 0
  · simp [hy] at e
  · simp only [decide_eq_false hy, cond_false] at e
    cases op <;> simp only [reduceCtorEq, Option.some.injEq] at e <;> subst e <;> refine ⟨?_, trivial⟩
    · simp only [Op.shift, hy, if_false, cv, awrap_eq]; rfl
    · simp only [Op.shift, hy, if_false, cv]; rfl

theorem toList_mk (l : List UInt8) : (ByteArray.mk l.toArray).toList = l := by rw [ByteArray.toList_eq]
theorem run_astr {op : BinOp} {x y : List UInt8} {z : AV} (e : astr op x y = some z) : (Op.stringOp op ⟨x.toArray⟩ ⟨y.toArray⟩).run P w = .ok (cv m z) w ∧ inD D z := by
  cases op <;> simp only [astr, reduceCtorEq, Option.some.injEq, seq?_eq] at e
  case add =>
    rw [bif_some] at e
    obtain ⟨hl, e⟩ := e
    have hl := nble_t hl
    cases e
    refine ⟨?_, trivial⟩
    have h1 : (ByteArray.mk x.toArray).size = x.length := by simp [ByteArray.size]
    have h2 : (ByteArray.mk y.toArray).size = y.length := by simp [ByteArray.size]
    have h3 : ¬ (((x.length + y.length : Nat) : Int) > IntKind.i64.max) := by
      show ¬ (_ > (9223372036854775807 : Int)); omega
    simp only [Op.stringOp, h1, h2, h3, if_false, cv]
    show Result.ok (Value.string (ByteArray.mk x.toArray ++ ByteArray.mk y.toArray)) w = _
    congr 2
  all_goals
    subst e
    refine ⟨?_, trivial⟩
    simp only [Op.stringOp, toList_mk, cv]; rfl

theorem guard_other {op : BinOp} {t : TypeId} {x y : Operand} {a b : Value} (h1 : op ≠ .eql) (h2 : op ≠ .neq) : (eqGuard op t x y a b).run P w = .ok () w := by
  unfold eqGuard
  cases op <;> first | (exact absurd rfl h1) | (exact absurd rfl h2) | rfl
theorem guard_plain {op : BinOp} {t : TypeId} {x y : Operand} {a b : AV} (ha : ∀ l, a ≠ .agg l) (hb : a ≠ .nili ∨ b ≠ .nili) : (eqGuard op t x y (cv m a) (cv m b)).run P w = .ok () w := by
  unfold eqGuard
  cases op <;> first | rfl | skip
  all_goals
    cases a <;> first | (exact absurd rfl (ha _)) | (cases b <;> first | rfl | (rcases hb with hb | hb <;> exact absurd rfl hb))

theorem equal_run {t : TypeId} {x y : Value} {b : Bool} (h : ∀ d, (Op.equalIn (d + 1) t x y).run P w = .ok b w) : (Op.equal t x y).run P w = .ok b w := h 9999

theorem basic_run {t : TypeId} {d : TypeDesc} {k : EK} {a b : AV} {q : Bool} (hd : P.underlying t = some d) (hk : ekOf d = some k) (e : basicEq k a b = some q) (n : Nat) :
    (Op.equalIn (n + 1) t (cv m a) (cv m b)).run P w = .ok q w := by
  cases d <;> simp only [ekOf, reduceCtorEq, Option.some.injEq] at hk <;> subst hk <;> unfold basicEq at e <;> split at e <;>
    first
      | (cases e; done)
      | skip
  all_goals try contradiction
  all_goals try (simp only [Option.some.injEq] at e; subst e)
  all_goals
    unfold Op.equalIn
    rw [run_ok_bind (Ae.run_underlying hd)]
    simp only [cv]
  all_goals first
    | rfl
    | skip
  · rename_i k1 x1 k2 y1 _
    rw [bif_some] at e
    obtain ⟨hk, e⟩ := e
    simp only [Option.some.injEq] at e
    subst e
    have hk : k1 = k2 := by simpa using hk
    simp only [if_pos hk, ieq_eq]; rfl
  · rename_i s1 s2 _
    show Result.ok ((ByteArray.mk s1.toArray) == (ByteArray.mk s2.toArray)) w = _
    rw [beq_toListBytes, toList_mk, toList_mk, seq?_eq]

mutual
theorem inD_true : ∀ v : AV, inD (fun _ => True) v
  | .bool _ => trivial
  | .int _ _ => trivial
  | .str _ => trivial
  | .ptr _ _ => trivial
  | .nilp => trivial
  | .slice _ _ _ _ _ => trivial
  | .nils => trivial
  | .fn _ a c => ⟨inDs_true a, inDs_true c⟩
  | .yield _ => trivial
  | .nilf => trivial
  | .iface _ v => inD_true v
  | .nili => trivial
  | .agg l => inDs_true l
  | .tup l => inDs_true l
  | .empt _ => trivial
  | .tail _ _ _ _ => trivial
  | .mapv _ => trivial
theorem inDs_true : ∀ l : List AV, inDs (fun _ => True) l
  | [] => trivial
  | a :: r => ⟨inD_true a, inDs_true r⟩
end
theorem agg_of_ek {t : TypeId} {d : TypeDesc} {k : EK} (hd : P.underlying t = some d) (hk : ekOf d = some k) : agg? P t = some false := by
  unfold agg?; rw [hd]
  cases d <;> simp only [ekOf, reduceCtorEq] at hk <;> rfl

theorem partsEq_app {l1 l2 : List ES} {xs ys : List AV} {q : Bool} (e : partsEq (l1 ++ l2) xs ys = some q) : (partsEq l1 xs ys = some false ∧ q = false) ∨ (partsEq l1 xs ys = some true ∧ partsEq l2 xs ys = some q) := by
  induction l1 with
  | nil => exact .inr ⟨rfl, e⟩
  | cons a l1 ih =>
    cases a with
    | bas k o =>
      simp only [List.cons_append, partsEq, Option.bind_eq_some_iff] at e ⊢
      obtain ⟨x, hx, y, hy, b, hb, e⟩ := e
      cases b
      · simp only [cond_false, Option.some.injEq] at e
        subst e
        exact .inl ⟨⟨x, hx, y, hy, false, hb, rfl⟩, rfl⟩
      · simp only [cond_true] at e
        rcases ih e with ⟨h1, h2⟩ | ⟨h1, h2⟩
        · exact .inl ⟨⟨x, hx, y, hy, true, hb, h1⟩, h2⟩
        · exact .inr ⟨⟨x, hx, y, hy, true, hb, h1⟩, h2⟩
    | len n =>
      simp only [List.cons_append, partsEq] at e ⊢
      cases hb : Nat.ble n xs.length && Nat.ble n ys.length
      · rw [hb] at e; cases e
      · rw [hb] at e
        exact ih e

theorem partsEq_shift {c n : Nat} {xs ys : List AV} (hx : c + n ≤ xs.length) (hy : c + n ≤ ys.length) : ∀ {l : List ES}, insideE n l = true →
    partsEq (shiftE c l) xs ys = partsEq l ((xs.drop c).take n) ((ys.drop c).take n) := by
  intro l
  induction l with
  | nil => intro _; rfl
  | cons a l ih =>
    intro h
    cases a with
    | bas k o =>
      simp only [insideE, Bool.and_eq_true] at h
      have ho := nble_t h.1
      have gx : lget xs (c + o) = lget ((xs.drop c).take n) o := by rw [lget_eq, lget_eq, List.getElem?_take_of_lt (by omega), List.getElem?_drop]
      have gy : lget ys (c + o) = lget ((ys.drop c).take n) o := by rw [lget_eq, lget_eq, List.getElem?_take_of_lt (by omega), List.getElem?_drop]
      simp only [shiftE, partsEq, gx, gy, ih h.2]
    | len m =>
      simp only [insideE, Bool.and_eq_true] at h
      have hm := nble_t h.1
      have h1 : (Nat.ble (c + m) xs.length && Nat.ble (c + m) ys.length) = true := by
        rw [Nat.ble_eq_true_of_le (by omega), Nat.ble_eq_true_of_le (by omega)]; rfl
      have h2 : (Nat.ble m ((xs.drop c).take n).length && Nat.ble m ((ys.drop c).take n).length) = true := by
        rw [Nat.ble_eq_true_of_le (by simp; omega), Nat.ble_eq_true_of_le (by simp; omega)]; rfl
      simp only [shiftE, partsEq, h1, h2, cond_true, ih h.2]

theorem struct_run : ∀ (d : Nat) {fs : List Field} {l : List ES} {xs ys : List AV} {q : Bool} (n : Nat) (_ : structInfo P d fs = some l) (_ : partsEq l xs ys = some q),
    (Op.eqFields (n + d) (cvs m xs).toArray (cvs m ys).toArray fs).run P w = .ok q w := by
  intro d
  induction d with
  | zero => intro fs l xs ys q n hl; cases hl
  | succ d ihd =>
    intro fs l xs ys q n hl e
    simp only [structInfo] at hl
    induction fs generalizing l q with
    | nil => simp [structL] at hl; subst hl; simp [partsEq] at e; subst e; rfl
    | cons f fs ih =>
      unfold structL at hl
      cases hn : f.name == "_"
      · rw [hn] at hl
        simp only [cond_false, Option.bind_eq_some_iff] at hl
        obtain ⟨u, hu, hl⟩ := hl
        have hne : f.name ≠ "_" := by simpa using hn
        by_cases hst : ∃ gs, u = .struct gs
        · obtain ⟨gs, rfl⟩ := hst
          simp only [Option.bind_eq_some_iff] at hl
          obtain ⟨sz, hsz, hl⟩ := hl
          cases hsh : P.stoodInHeld f.type
          · rw [hsh] at hl
            simp only [cond_false, Option.bind_eq_some_iff] at hl
            obtain ⟨l1, hl1, hl⟩ := hl
            cases hin : insideE sz l1
            · rw [hin] at hl; cases hl
            · rw [hin] at hl
              simp only [cond_true, Option.map_eq_some_iff] at hl
              obtain ⟨l2, hl2, rfl⟩ := hl
              simp only [partsEq] at e
              cases hb : Nat.ble (f.offset + sz) xs.length && Nat.ble (f.offset + sz) ys.length
              · rw [hb] at e; cases e
              · rw [hb] at e
                simp only [cond_true] at e
                simp only [Bool.and_eq_true] at hb
                have hx := nble_t hb.1
                have hy := nble_t hb.2
                have hag : agg? P f.type = some true := by unfold agg?; rw [hu]; rfl
                have px := run_partN (P := P) (m := m) (w := w) (t := f.type) (off := f.offset) hag hsz (show ltake sz (ldrop f.offset xs) = some ((xs.drop f.offset).take sz) by rw [ldrop_eq, ltake_of (by simp; omega)]) (inDs_true xs)
                have py := run_partN (P := P) (m := m) (w := w) (t := f.type) (off := f.offset) hag hsz (show ltake sz (ldrop f.offset ys) = some ((ys.drop f.offset).take sz) by rw [ldrop_eq, ltake_of (by simp; omega)]) (inDs_true ys)
                have hsub : ∀ b, partsEq (shiftE f.offset l1) xs ys = some b →
                    (Op.equalIn (n + (d + 1)) f.type (cv m (.agg ((xs.drop f.offset).take sz))) (cv m (.agg ((ys.drop f.offset).take sz)))).run P w = .ok b w := by
                  intro b hbb
                  rw [partsEq_shift hx hy hin] at hbb
                  have hf : P.fieldsOf f.type = gs := by unfold Program.fieldsOf; rw [hu]
                  rw [show cv m (.agg ((xs.drop f.offset).take sz)) = .agg (cvs m ((xs.drop f.offset).take sz)).toArray from rfl, show cv m (.agg ((ys.drop f.offset).take sz)) = .agg (cvs m ((ys.drop f.offset).take sz)).toArray from rfl]
                  rw [show n + (d + 1) = (n + d) + 1 from rfl, run_equalIn_struct w (n + d) f.type _ _ (by rw [hf]; exact hu) hsh, hf]
                  exact ihd n hl1 hbb
                unfold Op.eqFields
                rw [if_pos hne, run_ok_bind px.1, run_ok_bind py.1]
                rcases partsEq_app e with ⟨h1, rfl⟩ | ⟨h1, h2⟩
                · rw [run_ok_bind (hsub false h1)]; rfl
                · rw [run_ok_bind (hsub true h1)]
                  simp only [Bool.not_true, Bool.false_eq_true, if_false]
                  exact ih hl2 h2
          · rw [hsh] at hl; cases hl
        · have hl : ∃ k s, ekOf u = some k ∧ structL P (structInfo P d) fs = some s ∧ ES.bas k f.offset :: s = l := by
            cases u <;> first | (exact absurd ⟨_, rfl⟩ hst) | skip
            all_goals
              simp only [Option.bind_eq_some_iff] at hl
              obtain ⟨k, hk, hl⟩ := hl
              refine ⟨k, ?_⟩
              cases k <;> simp only [reduceCtorEq, Option.map_eq_some_iff] at hl <;>
                (obtain ⟨s, hs, rfl⟩ := hl; exact ⟨s, hk, hs, rfl⟩)
          obtain ⟨k, s, hk, hs, rfl⟩ := hl
          simp only [partsEq, Option.bind_eq_some_iff] at e
          obtain ⟨x, hx, y, hy, b, hb, e⟩ := e
          unfold Op.eqFields
          rw [if_pos hne]
          rw [run_ok_bind (run_part1 (m := m) (w := w) (agg_of_ek hu hk) hx (inDs_true xs)).1]
          rw [run_ok_bind (run_part1 (m := m) (w := w) (agg_of_ek hu hk) hy (inDs_true ys)).1]
          rw [show n + (d + 1) = (n + d) + 1 from rfl, run_ok_bind (basic_run hu hk hb (n + d))]
          cases b
          · simp only [cond_false, Option.some.injEq] at e
            subst e; rfl
          · simp only [cond_true] at e
            simp only [Bool.not_true, Bool.false_eq_true, if_false]
            exact ih hs e
      · rw [hn] at hl; cases hl

theorem eqs_run {t : TypeId} {fs : Array Field} {l : List ES} {xs ys : List AV} {q : Bool} (hd : P.underlying t = some (.struct fs)) (hg : (P.eqGuardType P.depth t || P.stoodInHeld t) = false)
    (hl : structInfo P 8 fs.toList = some l) (e : partsEq l xs ys = some q) : (Op.equal t (cv m (.agg xs)) (cv m (.agg ys))).run P w = .ok q w := by
  simp only [Bool.or_eq_false_iff] at hg
  have hf : P.fieldsOf t = fs := by unfold Program.fieldsOf; rw [hd]
  have : (Op.equalIn (9991 + 8 + 1) t (cv m (.agg xs)) (cv m (.agg ys))).run P w = .ok q w := by
    rw [show cv m (.agg xs) = .agg (cvs m xs).toArray from rfl, show cv m (.agg ys) = .agg (cvs m ys).toArray from rfl]
    rw [run_equalIn_struct w (9991 + 8) t _ _ (by rw [hf]; exact hd) hg.2, hf]
    exact struct_run 8 9991 hl e
  exact this

theorem bne_false' (b : Bool) : (b != false) = b := by cases b <;> rfl
theorem bne_true' (b : Bool) : (b != true) = !b := by cases b <;> rfl

theorem op_bin {op : BinOp} {t t2 : TypeId} {x y : Operand} (ho : o.op = .binOp op t x y t2) (hr : OpV m D ρ r) (R : Rel P m D h w) (e : opK P c o.op r h fin = some (v, h')) : OpR P m D h w ((execOp ρ o).run P w) v h' := by
  rw [ho] at e
  simp only [opK, ob_some] at e
  obtain ⟨a, ha, b, hb, e⟩ := e
  obtain ⟨a1, a2⟩ := hr _ _ ha
  obtain ⟨b1, b2⟩ := hr _ _ hb
  simp only [execOp, ho, a1, b1]
  suffices hs : h = h' ∧ inD D v ∧ (eqGuard op t x y (cv m a) (cv m b)).run P w = .ok () w ∧ (binOp op t (cv m a) (cv m b)).run P w = .ok (cv m v) w by
    obtain ⟨rfl, hv, h1, h2⟩ := hs
    refine pure_ok R ?_ hv
    rw [run_ok_bind h1]; exact h2
  have shift : ∀ op, (op = .shl ∨ op = .shr) → pShift op a b (fun z => fin z h) = some (v, h') → h = h' ∧ inD D v ∧ (eqGuard op t x y (cv m a) (cv m b)).run P w = .ok () w ∧ (binOp op t (cv m a) (cv m b)).run P w = .ok (cv m v) w := by
    intro op hop e
    unfold pShift at e
    split at e
    · rename_i k1 p k2 q _
      simp only [ob_some, fin_some] at e
      obtain ⟨z, hz, rfl, rfl⟩ := e
      obtain ⟨z1, z2⟩ := run_ashift (P := P) (m := m) (D := D) (w := w) hz k2
      refine ⟨rfl, z2, guard_other (by rcases hop with rfl | rfl <;> simp) (by rcases hop with rfl | rfl <;> simp), ?_⟩
      rcases hop with rfl | rfl <;> exact z1
    · cases e
  unfold binK at e
  split at e
  · exact shift .shl (.inl rfl) e
  · exact shift .shr (.inr rfl) e
  · rename_i hn1 hn2
    simp only [ob_some] at e
    obtain ⟨d, hd, e⟩ := e
    have hn1 : op ≠ .shl := fun hh => hn1 hh
    have hn2 : op ≠ .shr := fun hh => hn2 hh
    have gen : ∀ (k : EK), ekOf d = some k → (∀ kk, d ≠ .int kk) → d ≠ .string → ∀ q, basicEq k a b = some q →
        (∀ x y, (eqGuard .eql t x y (cv m a) (cv m b)).run P w = .ok () w) ∧ (∀ x y, (eqGuard .neq t x y (cv m a) (cv m b)).run P w = .ok () w) ∧
        (binOp .eql t (cv m a) (cv m b)).run P w = .ok (.bool q) w ∧ (binOp .neq t (cv m a) (cv m b)).run P w = .ok (.bool !q) w := by
      intro k hk hi hs q hq
      have hrun := equal_run (fun n => basic_run (m := m) (w := w) hd hk hq n)
      have hag : (∀ l, a ≠ .agg l) ∧ (a ≠ .nili ∨ b ≠ .nili) ∧ (∀ kk n, a ≠ .int kk n) ∧ (∀ s, a ≠ .str s) := by
        cases d <;> simp only [ekOf, reduceCtorEq, Option.some.injEq] at hk <;> first | (exact absurd rfl (hi _)) | (exact absurd rfl hs) | skip
        all_goals
          subst hk
          unfold basicEq at hq
          split at hq
          all_goals try contradiction
          all_goals simp
      obtain ⟨g1, g2, g3, g4⟩ := hag
      refine ⟨fun x y => guard_plain g1 g2, fun x y => guard_plain g1 g2, ?_, ?_⟩
      · have : binOp .eql t (cv m a) (cv m b) = (do pure (Value.bool (← Op.equal t (cv m a) (cv m b)))) := by
          cases a <;> first | rfl | (exact absurd rfl (g3 _ _)) | (exact absurd rfl (g4 _))
        rw [this, run_ok_bind hrun]; rfl
      · have : binOp .neq t (cv m a) (cv m b) = (do pure (Value.bool (!(← Op.equal t (cv m a) (cv m b))))) := by
          cases a <;> first | rfl | (exact absurd rfl (g3 _ _)) | (exact absurd rfl (g4 _))
        rw [this, run_ok_bind hrun]; rfl
    have pe : (∀ kk, d ≠ .int kk) → d ≠ .string → ∀ (k : EK), ekOf d = some k → ∀ neg, (neg = false → op = .eql) → (neg = true → op = .neq) → pEq k neg a b (fun z => fin z h) = some (v, h') →
        h = h' ∧ inD D v ∧ (eqGuard op t x y (cv m a) (cv m b)).run P w = .ok () w ∧ (binOp op t (cv m a) (cv m b)).run P w = .ok (cv m v) w := by
      intro hi hs k hk neg e0 e1 e
      unfold pEq at e
      simp only [ob_some, fin_some] at e
      obtain ⟨q, hq, rfl, rfl⟩ := e
      obtain ⟨q1, q2, q3, q4⟩ := gen k hk hi hs q hq
      cases neg
      · obtain rfl := e0 rfl
        exact ⟨rfl, trivial, q1 x y, by rw [q3, bne_false']; rfl⟩
      · obtain rfl := e1 rfl
        exact ⟨rfl, trivial, q2 x y, by rw [q4, bne_true']; rfl⟩
    have ps : ∀ fs l, d = .struct fs → (P.eqGuardType P.depth t || P.stoodInHeld t) = false → structInfo P 8 fs.toList = some l → ∀ neg, (neg = false → op = .eql) → (neg = true → op = .neq) → pEqS l neg a b (fun z => fin z h) = some (v, h') →
        h = h' ∧ inD D v ∧ (eqGuard op t x y (cv m a) (cv m b)).run P w = .ok () w ∧ (binOp op t (cv m a) (cv m b)).run P w = .ok (cv m v) w := by
      intro fs l hdf hg hl neg e0 e1 ee
      subst hdf
      unfold pEqS at ee
      split at ee
      · rename_i xs ys
        simp only [ob_some, fin_some] at ee
        obtain ⟨q, hq, rfl, rfl⟩ := ee
        have hrun := eqs_run (m := m) (w := w) hd hg hl hq
        simp only [Bool.or_eq_false_iff] at hg
        cases neg
        · obtain rfl := e0 rfl
          refine ⟨rfl, trivial, run_eqGuard_agg w _ _ _ _ _ _ hg.1, ?_⟩
          have : binOp .eql t (cv m (.agg xs)) (cv m (.agg ys)) = (do pure (Value.bool (← Op.equal t (cv m (.agg xs)) (cv m (.agg ys))))) := rfl
          rw [this, run_ok_bind hrun, bne_false']; rfl
        · obtain rfl := e1 rfl
          refine ⟨rfl, trivial, run_eqGuard_agg w _ _ _ _ _ _ hg.1, ?_⟩
          have : binOp .neq t (cv m (.agg xs)) (cv m (.agg ys)) = (do pure (Value.bool (!(← Op.equal t (cv m (.agg xs)) (cv m (.agg ys)))))) := rfl
          rw [this, run_ok_bind hrun, bne_true']; rfl
      · cases ee
    split at e
    · -- numbers
      rw [pInt_eq] at e
      split at e
      · rename_i k1 p k2 q
        simp only [bif_some, ob_some, fin_some] at e
        obtain ⟨hk, z, hz, rfl, rfl⟩ := e
        have hk : k1 = k2 := by simpa using hk
        subst hk
        obtain ⟨z1, z2⟩ := run_aint (P := P) (m := m) (D := D) (w := w) hz
        refine ⟨rfl, z2, guard_plain (by simp) (by simp), ?_⟩
        have : binOp op t (cv m (.int k1 p)) (cv m (.int k1 q)) = intOp op k1 p q := by
          cases op <;> first | (exact absurd rfl hn1) | (exact absurd rfl hn2) | simp [binOp, cv, intOp]
        rw [this]; exact z1
      · cases e
    · unfold pStr at e
      split at e
      · rename_i s1 s2
        simp only [ob_some, fin_some] at e
        obtain ⟨z, hz, rfl, rfl⟩ := e
        obtain ⟨z1, z2⟩ := run_astr (P := P) (m := m) (D := D) (w := w) hz
        refine ⟨rfl, z2, guard_plain (by simp) (by simp), ?_⟩
        have : binOp op t (cv m (.str s1)) (cv m (.str s2)) = Op.stringOp op ⟨s1.toArray⟩ ⟨s2.toArray⟩ := by
          cases op <;> first | (exact absurd rfl hn1) | (exact absurd rfl hn2) | rfl
        rw [this]; exact z1
      · cases e
    · rename_i fs
      split at e
      · cases hg : (P.eqGuardType P.depth t || P.stoodInHeld t) <;> simp only [hg, cnd, reduceCtorEq] at e
        simp only [ob_some] at e
        obtain ⟨l, hl, e⟩ := e
        exact ps fs l rfl hg hl false (fun _ => rfl) (by simp) e
      · cases hg : (P.eqGuardType P.depth t || P.stoodInHeld t) <;> simp only [hg, cnd, reduceCtorEq] at e
        simp only [ob_some] at e
        obtain ⟨l, hl, e⟩ := e
        exact ps fs l rfl hg hl true (by simp) (fun _ => rfl) e
      · cases e
    · rename_i hi hs _
      split at e
      · simp only [ob_some] at e
        obtain ⟨k, hk, e⟩ := e
        exact pe (fun kk hh => hi kk hh) (fun hh => hs hh) k hk false (fun _ => rfl) (by simp) e
      · simp only [ob_some] at e
        obtain ⟨k, hk, e⟩ := e
        exact pe (fun kk hh => hi kk hh) (fun hh => hs hh) k hk true (by simp) (fun _ => rfl) e
      · cases e

end Go.Ae
