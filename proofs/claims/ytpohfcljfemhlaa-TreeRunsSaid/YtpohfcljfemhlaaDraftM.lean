/- What a container's call does on a draft of a view: the plain law. -/
import Derived.Test.YtpohfcljfemhlaaArenaDo
namespace Go.Proofs.Ytpohfcljfemhlaa
open Go Go.Ae

/-- a draft: its view, the first error, the steps -/
structure DM where
  M : VM
  err : Int
  stp : Int
/-- what a call does, one thing behind the other -/
inductive Act (α : Type) where
  | ret (a : α)
  | fail (e : Int)
  | read (p : Int) (k : Int → Act α)
  | take (cs : List Cl) (k : Act α)
  | note (b : Int) (k : Act α)
  | step (k : Act α)
variable {α : Type}
def runA : Act α → DM → Option α × DM
  | .ret a, D => (if D.err = 0 then some a else none, D)
  | .fail e, D => (none, if D.err = 0 then { D with err := e } else D)
  | .read p k, D => if D.err ≠ 0 then (none, D) else
      if (readV D.M p).1.2 = 0 then runA (k (readV D.M p).1.1) { D with M := (readV D.M p).2 } else (none, { D with M := (readV D.M p).2, err := (readV D.M p).1.2 })
  | .take cs k, D => if D.err ≠ 0 then (none, D) else
      if (takeV D.M cs).1 = 0 then runA k { D with M := (takeV D.M cs).2 } else (none, { D with M := (takeV D.M cs).2, err := (takeV D.M cs).1 })
  | .note b k, D => if D.err ≠ 0 then (none, D) else runA k { D with M := freeV D.M b }
  | .step k, D => if D.err ≠ 0 then (none, { D with stp := D.stp + 1 }) else if 2048 < D.stp + 1 then (none, { D with stp := D.stp + 1, err := 2 }) else runA k { D with stp := D.stp + 1 }
/-- two drafts that an error has ended differ in their steps at most -/
def DM.eqv (D E : DM) : Prop := D.M = E.M ∧ D.err = E.err
theorem run_err : ∀ {a : Act α} {D : DM}, D.err ≠ 0 → (runA a D).1 = none ∧ DM.eqv (runA a D).2 D := by
  intro a D h
  cases a with
  | ret a => unfold runA; rw [if_neg h]; exact ⟨rfl, rfl, rfl⟩
  | fail e => unfold runA; rw [if_neg h]; exact ⟨rfl, rfl, rfl⟩
  | read p k => unfold runA; rw [if_pos h]; exact ⟨rfl, rfl, rfl⟩
  | take cs k => unfold runA; rw [if_pos h]; exact ⟨rfl, rfl, rfl⟩
  | note b k => unfold runA; rw [if_pos h]; exact ⟨rfl, rfl, rfl⟩
  | step k => unfold runA; rw [if_pos h]; exact ⟨rfl, rfl, rfl⟩
/-- the same end, but for the steps -/
def EqR (x y : Option α × DM) : Prop := x.1 = y.1 ∧ DM.eqv x.2 y.2
theorem EqR.refl (x : Option α × DM) : EqR x x := ⟨rfl, rfl, rfl⟩
theorem EqR.trans {x y z : Option α × DM} (h1 : EqR x y) (h2 : EqR y z) : EqR x z := ⟨h1.1.trans h2.1, h1.2.1.trans h2.2.1, h1.2.2.trans h2.2.2⟩
theorem EqR.symm {x y : Option α × DM} (h : EqR x y) : EqR y x := ⟨h.1.symm, h.2.1.symm, h.2.2.symm⟩
theorem EqR.errs {a b : Act α} {D E : DM} (h : D.err ≠ 0) (e : DM.eqv D E) : EqR (runA a D) (runA b E) := by
  have h2 : E.err ≠ 0 := by rw [← e.2]; exact h
  obtain ⟨q1, q2⟩ := run_err (a := a) h
  obtain ⟨q3, q4⟩ := run_err (a := b) h2
  exact ⟨q1.trans q3.symm, (q2.1.trans e.1).trans q4.1.symm, (q2.2.trans e.2).trans q4.2.symm⟩
theorem EqR.err1 {a : Act α} {D E : DM} {o : Option α} (ho : o = none) (h : D.err ≠ 0) (e : DM.eqv D E) : EqR (runA a D) (o, E) := by
  obtain ⟨q1, q2⟩ := run_err (a := a) h
  exact ⟨by rw [ho]; exact q1, q2.1.trans e.1, q2.2.trans e.2⟩

/-! ### what the draft's own calls do -/
def failD (D : DM) (e : Int) : DM := if D.err = 0 then { D with err := e } else D
def readD (D : DM) (p : Int) : Int × DM := if D.err = 0 then ((readV D.M p).1.1, { D with M := (readV D.M p).2, err := (readV D.M p).1.2 }) else (0, D)
def nameD (D : DM) (w : Int) : Int × DM := if 2147483648 ≤ w then (0, failD D 2) else (w, D)
def placeD (D : DM) (p : Int) : Int × DM := nameD (readD D p).2 (readD D p).1
def takeD (D : DM) (cs : List Cl) : DM := if D.err = 0 then { D with M := (takeV D.M cs).2, err := (takeV D.M cs).1 } else D
def allocD (D : DM) (n : Int) : Int × DM := if D.err = 0 then ((allocV D.M n).1.1, { D with M := (allocV D.M n).2, err := (allocV D.M n).1.2 }) else (0, D)
def freeD (D : DM) (b : Int) : DM := if D.err = 0 then { D with M := (freeA D.M b).2, err := (freeA D.M b).1 } else D
def stepD (D : DM) : DM := if 2048 < D.stp + 1 then failD { D with stp := D.stp + 1 } 2 else { D with stp := D.stp + 1 }

def placeA (p : Int) (k : Int → Act α) : Act α := .read p fun w => if 2147483648 ≤ w then .fail 2 else k w
def allocA (sz : Nat) (n : Int) (k : Int → Act α) : Act α :=
  if classA n = 0 then .fail 3 else .read (classA n) fun w =>
    if w = 0 then .read 5 fun e => if e < 14 ∨ 2147483648 ≤ e ∨ (sz : Int) < e + 1 + sizeA (classA n) then .fail 4 else .take [(5, e + 1 + sizeA (classA n)), (e, classA n + 8)] (k (e + 1))
    else if 2147483648 ≤ w then .fail 2 else .read w fun l => .take [(classA n, l), (w - 1, classA n + 8)] (k w)
def freeAc (sz : Nat) (b : Int) (k : Act α) : Act α :=
  if b ≤ 14 ∨ (sz : Int) ≤ b then .fail 2 else .read (b - 1) fun w => if (headA w).1 = 0 then .fail 2 else if (headA w).2 = true then .take [(b - 1, (headA w).1)] (.note b k) else .fail 2

theorem readV_err {M : VM} {p : Int} (h : (readV M p).1.2 ≠ 0) : (readV M p).1.1 = 0 := by
  unfold readV at h ⊢
  repeat' split at h
  all_goals first | exact absurd rfl h | skip
  all_goals repeat' split
  all_goals first | rfl | skip
  all_goals simp_all
theorem run_read {p : Int} {k : Int → Act α} {D : DM} : EqR (runA (.read p k) D) (runA (k (readD D p).1) (readD D p).2) := by
  unfold readD
  by_cases h : D.err = 0
  · rw [if_pos h]
    dsimp only
    rw [runA, if_neg (by simpa using h)]
    split
    · rename_i h2
      have e : ({ D with M := (readV D.M p).2 } : DM) = { D with M := (readV D.M p).2, err := (readV D.M p).1.2 } := by rw [h2]; cases D; dsimp only at h; rw [h]
      rw [e]; exact EqR.refl _
    · rename_i h2
      exact (EqR.err1 rfl h2 ⟨rfl, rfl⟩).symm
  · rw [if_neg h]
    exact EqR.errs h ⟨rfl, rfl⟩
theorem run_take {cs : List Cl} {k : Act α} {D : DM} : EqR (runA (.take cs k) D) (runA k (takeD D cs)) := by
  unfold takeD
  by_cases h : D.err = 0
  · rw [if_pos h]
    rw [runA, if_neg (by simpa using h)]
    split
    · rename_i h2
      have e : ({ D with M := (takeV D.M cs).2 } : DM) = { D with M := (takeV D.M cs).2, err := (takeV D.M cs).1 } := by rw [h2]; cases D; dsimp only at h; rw [h]
      rw [e]; exact EqR.refl _
    · rename_i h2
      exact (EqR.err1 rfl h2 ⟨rfl, rfl⟩).symm
  · rw [if_neg h]
    exact EqR.errs h ⟨rfl, rfl⟩
theorem run_step {k : Act α} {D : DM} : EqR (runA (.step k) D) (runA k (stepD D)) := by
  unfold stepD failD
  by_cases h : D.err = 0
  · rw [runA, if_neg (by simpa using h)]
    split
    · exact (EqR.err1 rfl (by show (2 : Int) ≠ 0; omega) ⟨rfl, rfl⟩).symm
    · exact EqR.refl _
  · rw [if_neg h]
    split
    · exact EqR.errs h ⟨rfl, rfl⟩
    · exact EqR.errs h ⟨rfl, rfl⟩
theorem run_fail {e : Int} (he : e ≠ 0) {D : DM} {a : Act α} : EqR (runA (.fail e) D) (runA a (failD D e)) := by
  unfold failD
  by_cases h : D.err = 0
  · rw [if_pos h, runA, if_pos h]
    exact (EqR.err1 rfl he ⟨rfl, rfl⟩).symm
  · rw [if_neg h]
    exact EqR.errs h ⟨rfl, rfl⟩
theorem run_place {p : Int} {k : Int → Act α} {D : DM} : EqR (runA (placeA p k) D) (runA (k (placeD D p).1) (placeD D p).2) := by
  unfold placeA placeD nameD
  refine run_read.trans ?_
  split
  · exact run_fail (by omega)
  · exact EqR.refl _
theorem run_alloc {n : Int} {k : Int → Act α} {D : DM} : EqR (runA (allocA D.M.sz n k) D) (runA (k (allocD D n).1) (allocD D n).2) := by
  by_cases h : D.err = 0
  rotate_left
  · unfold allocD
    rw [if_neg h]
    exact EqR.errs h ⟨rfl, rfl⟩
  unfold allocA allocD
  rw [if_pos h]
  unfold allocV
  split
  · dsimp only
    rw [runA, if_pos h]
    exact (EqR.err1 rfl (by show (3 : Int) ≠ 0; omega) ⟨rfl, rfl⟩).symm
  have hf : ∀ {e : Int} {M : VM} {a : Act α}, e ≠ 0 → EqR (runA (Act.fail e) ({ D with M := M } : DM)) (runA a ({ D with M := M, err := e } : DM)) := by
    intro e M a he
    have h0 : ({ D with M := M } : DM).err = 0 := h
    rw [runA, if_pos h0]
    exact (EqR.err1 rfl he ⟨rfl, rfl⟩).symm
  rw [runA, if_neg (by simpa using h)]
  by_cases h1 : (readV D.M (classA n)).1.2 = 0
  rotate_left
  · rw [if_neg h1, if_neg h1]
    exact (EqR.err1 rfl h1 ⟨rfl, rfl⟩).symm
  rw [if_pos h1, if_pos h1]
  have hsz : (readV D.M (classA n)).2.sz = D.M.sz := readV_sz
  generalize readV D.M (classA n) = r1 at *
  obtain ⟨⟨w, e1⟩, M1⟩ := r1
  dsimp only at *
  have ht : ∀ {M : VM} {cs : List Cl} {a : Act α} {b : Int} {e : Int} {M' : VM} {c : Int}, (takeV M cs).1 = e → (takeV M cs).2 = M' → (e = 0 → c = b) → EqR (runA (.take cs (k b)) ({ D with M := M } : DM)) (runA (k c) ({ D with M := M', err := e } : DM)) := by
    intro M cs a b e M' c q1 q2 q3
    refine run_take.trans ?_
    unfold takeD
    rw [if_pos (show ({ D with M := M } : DM).err = 0 from h)]
    dsimp only
    rw [q1, q2]
    by_cases he : e = 0
    · rw [q3 he]; exact EqR.refl _
    · exact EqR.errs he ⟨rfl, rfl⟩
  by_cases hw : w = 0
  · rw [if_pos hw, if_pos hw]
    unfold grownV
    rw [runA, if_neg (by simpa using h)]
    dsimp only
    by_cases h2 : (readV M1 5).1.2 = 0
    rotate_left
    · rw [if_neg h2, if_neg h2]
      exact (EqR.err1 rfl h2 ⟨rfl, rfl⟩).symm
    rw [if_pos h2, if_pos h2]
    generalize readV M1 5 = r2 at *
    obtain ⟨⟨e5, e2⟩, M2⟩ := r2
    dsimp only at *
    rw [hsz]
    by_cases h3 : e5 < 14 ∨ 2147483648 ≤ e5 ∨ (D.M.sz : Int) < e5 + 1 + sizeA (classA n)
    · rw [if_pos h3, if_pos h3]
      exact hf (by omega)
    · rw [if_neg h3, if_neg h3]
      by_cases h4 : (takeV M2 [(5, e5 + 1 + sizeA (classA n)), (e5, classA n + 8)]).1 = 0
      · rw [if_pos h4]
        exact ht (a := .fail 0) h4 rfl (fun _ => rfl)
      · rw [if_neg h4]
        exact ht (a := .fail 0) rfl rfl (fun h => absurd h h4)
  · rw [if_neg hw, if_neg hw]
    unfold againV
    by_cases h5 : 2147483648 ≤ w
    · rw [if_pos h5, if_pos h5]
      exact hf (by omega)
    · rw [if_neg h5, if_neg h5]
      rw [runA, if_neg (by simpa using h)]
      dsimp only
      by_cases h2 : (readV M1 w).1.2 = 0
      rotate_left
      · rw [if_neg h2, if_neg h2]
        exact (EqR.err1 rfl h2 ⟨rfl, rfl⟩).symm
      rw [if_pos h2, if_pos h2]
      generalize readV M1 w = r2 at *
      obtain ⟨⟨l, e2⟩, M2⟩ := r2
      dsimp only at *
      by_cases h4 : (takeV M2 [(classA n, l), (w - 1, classA n + 8)]).1 = 0
      · rw [if_pos h4]
        exact ht (a := .fail 0) h4 rfl (fun _ => rfl)
      · rw [if_neg h4]
        exact ht (a := .fail 0) rfl rfl (fun h => absurd h h4)
theorem run_free {b : Int} {k : Act α} {D : DM} : EqR (runA (freeAc D.M.sz b k) D) (runA k (freeD D b)) := by
  by_cases h : D.err = 0
  rotate_left
  · unfold freeD
    rw [if_neg h]
    exact EqR.errs h ⟨rfl, rfl⟩
  have hf : ∀ {e : Int} {M : VM} {a : Act α}, e ≠ 0 → EqR (runA (Act.fail e) ({ D with M := M } : DM)) (runA a ({ D with M := M, err := e } : DM)) := by
    intro e M a he
    have h0 : ({ D with M := M } : DM).err = 0 := h
    rw [runA, if_pos h0]
    exact (EqR.err1 rfl he ⟨rfl, rfl⟩).symm
  unfold freeAc freeD
  rw [if_pos h]
  unfold freeA askV
  by_cases h1 : b ≤ 14 ∨ (D.M.sz : Int) ≤ b
  · rw [if_pos h1, if_pos h1]
    dsimp only
    rw [if_neg (by omega)]
    exact hf (M := D.M) (by omega)
  rw [if_neg h1, if_neg h1, runA, if_neg (by simpa using h)]
  by_cases h2 : (readV D.M (b - 1)).1.2 = 0
  rotate_left
  · rw [if_neg h2, if_neg h2]
    dsimp only
    rw [if_neg h2]
    exact (EqR.err1 rfl h2 ⟨rfl, rfl⟩).symm
  rw [if_pos h2, if_pos h2]
  generalize readV D.M (b - 1) = r at *
  obtain ⟨⟨w, e1⟩, M1⟩ := r
  dsimp only at *
  by_cases h3 : (headA w).1 = 0
  · rw [if_pos h3, if_pos h3]
    dsimp only
    rw [if_neg (by omega)]
    exact hf (by omega)
  rw [if_neg h3, if_neg h3]
  dsimp only
  rw [if_pos rfl]
  by_cases h4 : (headA w).2 = true
  · rw [if_pos h4, if_pos h4, runA, if_neg (by simpa using h)]
    dsimp only
    by_cases h5 : (takeV M1 [(b - 1, (headA w).1)]).1 = 0
    · rw [if_pos h5, if_pos h5, runA, if_neg (by simpa using h)]
      dsimp only
      have e : ({ D with M := freeV (takeV M1 [(b - 1, (headA w).1)]).2 b } : DM) = { D with M := freeV (takeV M1 [(b - 1, (headA w).1)]).2 b, err := 0 } := by cases D; dsimp only at h; rw [h]
      rw [e]; exact EqR.refl _
    · rw [if_neg h5, if_neg h5]
      exact (EqR.err1 rfl h5 ⟨rfl, rfl⟩).symm
  · rw [if_neg h4, if_neg h4]
    exact hf (by omega)
end Go.Proofs.Ytpohfcljfemhlaa
