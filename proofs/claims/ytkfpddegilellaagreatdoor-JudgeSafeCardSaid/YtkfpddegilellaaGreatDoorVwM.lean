/- What a transaction knows and writes, as plain data: cells, levels, views. -/
import Derived.Test.YtkfpddegilellaaGreatDoorAe7
namespace Go.Proofs.YtkfpddegilellaaGreatDoor
open Go Go.Ae

abbrev Cl : Type := Int × Int
def encC (c : Int × Int) : List AV := [.int .i64 c.1, .int .u64 c.2]

/-- a place's cell among cells -/
def idxC (p : Int) : List Cl → Option Nat
  | [] => none
  | c :: l => if c.1 = p then some 0 else (idxC p l).map (· + 1)
def getC (p : Int) : List Cl → Option Int
  | [] => none
  | c :: l => if c.1 = p then some c.2 else getC p l
def putC (p v : Int) : List Cl → List Cl
  | [] => [(p, v)]
  | c :: l => if c.1 = p then (p, v) :: l else c :: putC p v l
def putsC (l cs : List Cl) : List Cl := cs.foldl (fun l c => putC c.1 c.2 l) l

theorem idxC_none {p : Int} {l : List Cl} : idxC p l = none ↔ getC p l = none := by
  induction l with
  | nil => simp [idxC, getC]
  | cons c l ih =>
    unfold idxC getC
    split
    · simp
    · simp [ih]
theorem idxC_some {p : Int} : ∀ {l : List Cl} {i : Nat}, idxC p l = some i → i < l.length ∧ (∃ x, l[i]? = some (p, x) ∧ getC p l = some x) ∧ ∀ v, putC p v l = l.set i (p, v) := by
  intro l
  induction l with
  | nil => intro i h; cases h
  | cons c l ih =>
    intro i h
    unfold idxC at h
    unfold getC
    split at h
    · rename_i hc
      cases h
      rw [if_pos hc]
      refine ⟨by simp, ⟨c.2, by rw [← hc]; rfl, rfl⟩, fun v => ?_⟩
      unfold putC
      rw [if_pos hc]; rfl
    · rename_i hc
      rw [if_neg hc]
      cases hi : idxC p l with
      | none => rw [hi] at h; cases h
      | some j =>
        rw [hi] at h
        cases h
        obtain ⟨h1, ⟨x, h2, h2'⟩, h3⟩ := ih hi
        refine ⟨by simp; omega, ⟨x, by simpa using h2, h2'⟩, fun v => ?_⟩
        unfold putC
        rw [if_neg hc, h3]; rfl
theorem putC_none {p v : Int} {l : List Cl} (h : getC p l = none) : putC p v l = l ++ [(p, v)] := by
  induction l with
  | nil => rfl
  | cons c l ih =>
    unfold getC at h
    split at h
    · cases h
    · rename_i hc
      unfold putC
      rw [if_neg hc, ih h]; rfl
theorem idxC_first {p : Int} : ∀ {l : List Cl} {i : Nat}, i < l.length → (∀ j, j < i → ∀ c, l[j]? = some c → c.1 ≠ p) → (∃ x, l[i]? = some (p, x)) → idxC p l = some i := by
  intro l
  induction l with
  | nil => intro i h; simp at h
  | cons c l ih =>
    intro i hi h1 ⟨x, h2⟩
    unfold idxC
    cases i with
    | zero =>
      simp at h2
      rw [if_pos (by rw [h2])]
    | succ i =>
      rw [if_neg (h1 0 (by omega) c rfl), ih (by simpa using hi) (fun j hj c' hc' => h1 (j + 1) (by omega) c' (by simpa using hc')) ⟨x, by simpa using h2⟩]; rfl
theorem idxC_all {p : Int} : ∀ {l : List Cl}, (∀ c ∈ l, c.1 ≠ p) → idxC p l = none := by
  intro l
  induction l with
  | nil => intro _; rfl
  | cons c l ih =>
    intro h
    unfold idxC
    rw [if_neg (h c (List.mem_cons_self ..)), ih fun c' hc' => h c' (List.mem_cons_of_mem _ hc')]; rfl

theorem putC_len {p v : Int} {l : List Cl} : (putC p v l).length = if getC p l = none then l.length + 1 else l.length := by
  induction l with
  | nil => simp [putC, getC]
  | cons c l ih =>
    unfold putC getC
    split
    · simp
    · rw [List.length_cons, ih]
      split <;> simp
theorem getC_put {p q v : Int} {l : List Cl} : getC q (putC p v l) = if q = p then some v else getC q l := by
  induction l with
  | nil =>
    simp only [putC, getC]
    by_cases h : p = q
    · simp [h]
    · rw [if_neg h, if_neg (fun h' => h h'.symm)]
  | cons c l ih =>
    unfold putC
    split
    · rename_i hc
      simp only [getC]
      by_cases h : p = q
      · simp [h]
      · rw [if_neg h, if_neg (fun h' => h h'.symm), if_neg (by rw [hc]; exact h)]
    · rename_i hc
      simp only [getC, ih]
      by_cases h : c.1 = q
      · rw [if_pos h, if_pos h, if_neg (by rintro rfl; exact hc h)]
      · rw [if_neg h, if_neg h]

/-- all places inside -/
def InC (l : List Cl) : Prop := ∀ c ∈ l, 1 ≤ c.1 ∧ c.1 < 256
theorem InC.put {l : List Cl} {p v : Int} (h : InC l) (hp : 1 ≤ p ∧ p < 256) : InC (putC p v l) := by
  induction l with
  | nil => intro c hc; simp [putC] at hc; subst hc; exact hp
  | cons a l ih =>
    unfold putC
    split
    · intro c hc
      rcases List.mem_cons.1 hc with rfl | hc
      · exact hp
      · exact h c (List.mem_cons_of_mem _ hc)
    · intro c hc
      rcases List.mem_cons.1 hc with rfl | hc
      · exact h _ (List.mem_cons_self ..)
      · exact ih (fun c hc => h c (List.mem_cons_of_mem _ hc)) c hc
/-- no place twice -/
def UnC (l : List Cl) : Prop := (l.map (·.1)).Nodup
theorem getC_mem {p : Int} {l : List Cl} : getC p l = none ↔ p ∉ l.map (·.1) := by
  induction l with
  | nil => simp [getC]
  | cons c l ih =>
    unfold getC
    split
    · rename_i h; simp [h]
    · rename_i h
      rw [ih, List.map_cons, List.mem_cons, not_or]
      exact ⟨fun h' => ⟨fun h2 => h h2.symm, h'⟩, fun h' => h'.2⟩
theorem putC_keys {p v : Int} {l : List Cl} : (putC p v l).map (·.1) = if getC p l = none then l.map (·.1) ++ [p] else l.map (·.1) := by
  induction l with
  | nil => simp [putC, getC]
  | cons c l ih =>
    unfold putC getC
    split
    · rename_i h; simp [h]
    · rw [List.map_cons, ih]
      split <;> simp
theorem UnC.put {l : List Cl} {p v : Int} (h : UnC l) : UnC (putC p v l) := by
  unfold UnC
  rw [putC_keys]
  split
  · rename_i hp
    rw [getC_mem] at hp
    rw [List.nodup_append]
    exact ⟨h, by simp, fun a ha b hb => by rw [List.mem_singleton] at hb; subst hb; rintro rfl; exact hp ha⟩
  · exact h
theorem puts_new {l : List Cl} : ∀ {cs : List Cl}, UnC cs → (∀ c ∈ cs, getC c.1 l = none) → putsC l cs = l ++ cs := by
  intro cs
  induction cs generalizing l with
  | nil => intro _ _; simp [putsC]
  | cons c cs ih =>
    intro hu hn
    have hu' : UnC cs := (List.nodup_cons.1 hu).2
    have hc : c.1 ∉ cs.map (·.1) := (List.nodup_cons.1 hu).1
    show putsC (putC c.1 c.2 l) cs = _
    rw [ih hu' (fun d hd => by
      rw [getC_put, if_neg (by rintro h; exact hc (by rw [← h]; exact List.mem_map_of_mem hd))]
      exact hn d (List.mem_cons_of_mem _ hd)), putC_none (hn c (List.mem_cons_self ..)), List.append_assoc]
    rfl
theorem puts_self {cs : List Cl} (h : UnC cs) : putsC [] cs = cs := by rw [puts_new h (fun _ _ => rfl), List.nil_append]

/-! ### a write set -/
/-- an error's number, and the cells then -/
def putW (m : Nat) (l : List Cl) (p v : Int) : Int × List Cl :=
  if p < 1 ∨ 256 ≤ p then (2, l) else if getC p l = none ∧ m ≤ l.length then (5, l) else (0, putC p v l)
def takeW (m : Nat) (l : List Cl) : List Cl → Int × List Cl
  | [] => (0, l)
  | c :: cs => if (putW m l c.1 c.2).1 = 0 then takeW m (putW m l c.1 c.2).2 cs else putW m l c.1 c.2
theorem takeW_cons {m : Nat} {l : List Cl} {c : Cl} {cs : List Cl} : takeW m l (c :: cs) = if (putW m l c.1 c.2).1 = 0 then takeW m (putW m l c.1 c.2).2 cs else putW m l c.1 c.2 := rfl
theorem putW_le {m : Nat} {l : List Cl} {p v : Int} (h : l.length ≤ m) : (putW m l p v).2.length ≤ m := by
  unfold putW
  split
  · exact h
  · split
    · exact h
    · rename_i h1
      dsimp only
      rw [putC_len]
      split
      · rename_i h2
        have : ¬ m ≤ l.length := fun h3 => h1 ⟨h2, h3⟩
        omega
      · exact h
/-- room enough: all are put -/
theorem takeW_ok {m : Nat} : ∀ {cs l : List Cl}, InC cs → l.length + cs.length ≤ m → takeW m l cs = (0, putsC l cs) := by
  intro cs
  induction cs with
  | nil => intro l _ _; rfl
  | cons c cs ih =>
    intro l hi hl
    have hc := hi c (List.mem_cons_self ..)
    have hp : putW m l c.1 c.2 = (0, putC c.1 c.2 l) := by
      unfold putW
      rw [if_neg (by omega), if_neg (by simp at hl; omega)]
    unfold takeW
    rw [hp, if_pos rfl, ih (fun d hd => hi d (List.mem_cons_of_mem _ hd)) (by
      have := putC_len (p := c.1) (v := c.2) (l := l)
      simp at hl
      show (putC c.1 c.2 l).length + cs.length ≤ m
      split at this <;> omega)]
    rfl

/-! ### levels, the inmost first: cells, frees -/
abbrev LvM : Type := List Cl × List Int
def getL (p : Int) : List LvM → Option Int
  | [] => none
  | x :: r => match getC p x.1 with | some v => some v | none => getL p r
def heldL (lv : List LvM) : Nat := (lv.map fun x => x.1.length).sum
def mergeL (lv : List LvM) : List Cl := lv.foldl (fun out x => putsC x.1 out) []
def freesL (lv : List LvM) : List Int := lv.reverse.flatMap (·.2)
structure OkL (most : Nat) (lv : List LvM) : Prop where
  held : heldL lv ≤ most
  le : most ≤ 96
  ins : ∀ x ∈ lv, InC x.1
  un : ∀ x ∈ lv, UnC x.1
  one : 1 ≤ lv.length
  deep : lv.length ≤ 6
def putL (most : Nat) (lv : List LvM) (p v : Int) : Int × List LvM :=
  match lv with
  | [] => (0, [])
  | x :: r => if p < 1 ∨ 256 ≤ p then (2, lv) else if getC p x.1 = none ∧ most ≤ heldL lv then (5, lv) else (0, (putC p v x.1, x.2) :: r)
def takeL (most : Nat) (was lv : List LvM) : List Cl → Int × List LvM
  | [] => (0, lv)
  | c :: cs => if (putL most lv c.1 c.2).1 = 0 then takeL most was (putL most lv c.1 c.2).2 cs else ((putL most lv c.1 c.2).1, was)
def openL (lv : List LvM) : Int × List LvM := if 6 ≤ lv.length then (9, lv) else (0, ([], []) :: lv)
def dropL (lv : List LvM) : Int × List LvM := if lv.length = 1 then (10, lv) else (0, lv.tail)
def keepL (lv : List LvM) : Int × List LvM := match lv with
  | x :: y :: r => (0, (putsC y.1 x.1, y.2 ++ x.2) :: r)
  | _ => (10, lv)
def freeL (lv : List LvM) (b : Int) : List LvM := match lv with
  | x :: r => (x.1, x.2 ++ [b]) :: r
  | [] => []

theorem takeL_cons {most : Nat} {was lv : List LvM} {c : Cl} {cs : List Cl} : takeL most was lv (c :: cs) = if (putL most lv c.1 c.2).1 = 0 then takeL most was (putL most lv c.1 c.2).2 cs else ((putL most lv c.1 c.2).1, was) := rfl
theorem heldL_cons {x : LvM} {r : List LvM} : heldL (x :: r) = x.1.length + heldL r := by simp [heldL]
theorem putL_ok {most : Nat} {lv : List LvM} {p v : Int} (O : OkL most lv) : OkL most (putL most lv p v).2 ∧ (putL most lv p v).2.length = lv.length := by
  cases lv with
  | nil => have := O.one; simp at this
  | cons x r =>
    unfold putL
    dsimp only
    split
    · exact ⟨O, rfl⟩
    · rename_i hp
      split
      · exact ⟨O, rfl⟩
      · rename_i h1
        have hh := O.held
        rw [heldL_cons] at hh
        refine ⟨⟨?_, O.le, ?_, ?_, by simp, O.deep⟩, rfl⟩
        · show heldL ((putC p v x.1, x.2) :: r) ≤ most
          rw [heldL_cons, putC_len]
          split
          · rename_i h2
            rw [heldL_cons] at h1
            have : ¬ most ≤ x.1.length + heldL r := fun h3 => h1 ⟨h2, h3⟩
            omega
          · exact hh
        · intro y hy
          rcases List.mem_cons.1 hy with rfl | hy
          · exact (O.ins x (List.mem_cons_self ..)).put (by omega)
          · exact O.ins y (List.mem_cons_of_mem _ hy)
        · intro y hy
          rcases List.mem_cons.1 hy with rfl | hy
          · exact (O.un x (List.mem_cons_self ..)).put
          · exact O.un y (List.mem_cons_of_mem _ hy)
theorem takeL_ok {most : Nat} {was : List LvM} (W : OkL most was) : ∀ {cs : List Cl} {lv : List LvM}, OkL most lv → lv.length = was.length → OkL most (takeL most was lv cs).2 ∧ (takeL most was lv cs).2.length = was.length := by
  intro cs
  induction cs with
  | nil => intro lv O hl; exact ⟨O, hl⟩
  | cons c cs ih =>
    intro lv O hl
    unfold takeL
    split
    · exact ih (putL_ok O).1 ((putL_ok O).2.trans hl)
    · exact ⟨W, rfl⟩
theorem openL_ok {most : Nat} {lv : List LvM} (O : OkL most lv) : OkL most (openL lv).2 := by
  unfold openL
  split
  · exact O
  · refine ⟨by rw [heldL_cons]; have := O.held; simpa using this, O.le, ?_, ?_, by simp, by simp; omega⟩
    · intro y hy
      rcases List.mem_cons.1 hy with rfl | hy
      · intro c hc; cases hc
      · exact O.ins y hy
    · intro y hy
      rcases List.mem_cons.1 hy with rfl | hy
      · exact List.nodup_nil
      · exact O.un y hy
theorem dropL_ok {most : Nat} {lv : List LvM} (O : OkL most lv) : OkL most (dropL lv).2 := by
  unfold dropL
  split
  · exact O
  · rename_i h1
    cases lv with
    | nil => have := O.one; simp at this
    | cons x r =>
      have hh := O.held
      have h2 := O.deep
      rw [heldL_cons] at hh
      simp at h1 h2
      refine ⟨by show heldL r ≤ most; omega, O.le, fun y hy => O.ins y (List.mem_cons_of_mem _ hy), fun y hy => O.un y (List.mem_cons_of_mem _ hy), ?_, by show r.length ≤ 6; omega⟩
      show 1 ≤ r.length
      cases r with
      | nil => simp at h1
      | cons _ _ => simp
theorem puts_len : ∀ {cs l : List Cl}, (putsC l cs).length ≤ l.length + cs.length := by
  intro cs
  induction cs with
  | nil => intro l; exact Nat.le_refl _
  | cons c cs ih =>
    intro l
    have := ih (l := putC c.1 c.2 l)
    have h2 := putC_len (p := c.1) (v := c.2) (l := l)
    show (putsC (putC c.1 c.2 l) cs).length ≤ _
    rw [List.length_cons]
    split at h2 <;> omega
theorem InC.puts : ∀ {cs l : List Cl}, InC l → InC cs → InC (putsC l cs) := by
  intro cs
  induction cs with
  | nil => intro l h _; exact h
  | cons c cs ih => intro l h hc; exact ih (h.put (hc c (List.mem_cons_self ..))) fun d hd => hc d (List.mem_cons_of_mem _ hd)
theorem UnC.puts : ∀ {cs l : List Cl}, UnC l → UnC (putsC l cs) := by
  intro cs
  induction cs with
  | nil => intro l h; exact h
  | cons c cs ih => intro l h; exact ih h.put
theorem keepL_ok {most : Nat} {lv : List LvM} (O : OkL most lv) : OkL most (keepL lv).2 := by
  match lv, O with
  | [], O => exact O
  | [x], O => exact O
  | x :: y :: r, O =>
    have hh := O.held
    have h2 := O.deep
    rw [heldL_cons, heldL_cons] at hh
    have := puts_len (cs := x.1) (l := y.1)
    refine ⟨by show heldL ((putsC y.1 x.1, y.2 ++ x.2) :: r) ≤ most; rw [heldL_cons]; dsimp only; omega, O.le, ?_, ?_, by simp [keepL], by simp [keepL] at h2 ⊢; omega⟩
    · intro z hz
      rcases List.mem_cons.1 hz with rfl | hz
      · exact (O.ins y (by simp)).puts (O.ins x (by simp))
      · exact O.ins z (by simp [hz])
    · intro z hz
      rcases List.mem_cons.1 hz with rfl | hz
      · exact (O.un y (by simp)).puts
      · exact O.un z (by simp [hz])
theorem freeL_ok {most : Nat} {lv : List LvM} {b : Int} (O : OkL most lv) : OkL most (freeL lv b) := by
  cases lv with
  | nil => exact O
  | cons x r =>
    refine ⟨O.held, O.le, ?_, ?_, by simp [freeL], O.deep⟩
    · intro z hz
      rcases List.mem_cons.1 hz with rfl | hz
      · exact O.ins x (by simp)
      · exact O.ins z (by simp [hz])
    · intro z hz
      rcases List.mem_cons.1 hz with rfl | hz
      · exact O.un x (by simp)
      · exact O.un z (by simp [hz])
end Go.Proofs.YtkfpddegilellaaGreatDoor
