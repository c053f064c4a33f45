/- May a program run? The plain law. -/
import Derived.Test.YtpnlmmecgkjehaaGreatDoorVwV
import Derived.Test.YtpnlmmecgkjehaaGreatDoorT
import Derived.KernelRfl
namespace Go.Proofs.YtpnlmmecgkjehaaGreatDoor
open Go Go.Ae

abbrev InsT : Type := Int × Int × Int × Int × Int
def encI (x : InsT) : List AV := [.int .i64 x.1, .int .i64 x.2.1, .int .i64 x.2.2.1, .int .i64 x.2.2.2.1, .int .u64 x.2.2.2.2]
theorem allOne_encI (l : List InsT) : allOne (l.flatMap encI) = true := by
  unfold allOne
  rw [List.all_eq_true]
  intro v hv
  obtain ⟨c, _, hc⟩ := List.mem_flatMap.1 hv
  simp [encI] at hc
  rcases hc with rfl | rfl | rfl | rfl | rfl <;> rfl

def fieldsM (op : Int) : (Int × Int) × (Int × Int) × (Int × Int) :=
  if op = 1 ∨ op = 11 ∨ op = 21 then ((0, 7), (0, 0), (0, 0))
  else if op = 2 ∨ op = 10 then ((0, 7), (0, 7), (0, 0))
  else if op = 3 ∨ op = 4 ∨ op = 5 ∨ op = 6 ∨ op = 7 then ((0, 7), (0, 7), (0, 7))
  else if op = 8 ∨ op = 9 then ((0, 7), (0, 7), (0, 15))
  else if op = 12 then ((0, 0), (0, 0), (0, 40))
  else if op = 13 then ((0, 7), (0, 0), (0, 40))
  else if op = 23 then ((1, 12), (0, 7), (0, 6))
  else ((0, 0), (0, 0), (0, 0))
def fitsM (f : Int × Int) (n : Int) : Bool := decide (f.1 ≤ n ∧ n ≤ f.2)
def mayM (x : InsT) : Bool := decide (1 ≤ x.1 ∧ x.1 ≤ 23) && fitsM (fieldsM x.1).1 x.2.1 && fitsM (fieldsM x.1).2.1 x.2.2.1 && fitsM (fieldsM x.1).2.2 x.2.2.2.1 && decide (x.2.2.2.2 = 0 ∨ x.1 = 1)
def beginsM (op : Int) : Bool := decide (op = 14 ∨ op = 17)
def endsM (op : Int) : Int := if op = 15 then 14 else if op = 18 then 17 else if op = 19 then 18 else 0
def inmostM (st : List Int) : Int := st.getLast?.getD (-1)
def insAt (l : List InsT) (i : Int) : InsT := (l[i.toNat]?).getD (0, 0, 0, 0, 0)
def opM (l : List InsT) (st : List Int) : Int := if st = [] then 0 else (insAt l (inmostM st)).1
def wrongM (l : List InsT) (st : List Int) (x : InsT) : Int :=
  if mayM x = false then 8
  else if 0 < endsM x.1 ∧ opM l st ≠ endsM x.1 then 12
  else if x.1 = 16 ∧ opM l st ≠ 14 then 12
  else if beginsM x.1 = true ∧ 5 ≤ st.length then 9
  else 0
def behindM (st : List Int) (i op : Int) : List Int :=
  if beginsM op = true ∨ op = 18 then (if 0 < endsM op then st.dropLast else st) ++ [i] else (if 0 < endsM op then st.dropLast else st)
/-- along the program: where it is wrong, or what is open behind it -/
def goM (l : List InsT) : List InsT → Nat → List Int → (Int × Int) ⊕ List Int
  | [], _, st => .inr st
  | x :: r, i, st => if wrongM l st x = 0 then goM l r (i + 1) (behindM st i x.1) else .inl (i, wrongM l st x)
def regM : List InsT → Nat → List Int → List Int
  | [], _, _ => []
  | x :: r, i, st => inmostM st :: regM r (i + 1) (behindM st i x.1)
def numAt (a : List Int) (i : Int) : Int := (a[i.toNat]?).getD 0
def leaves (l : List InsT) (a : List Int) (i : Nat) (x : InsT) : Prop :=
  (x.1 = 12 ∨ x.1 = 13) ∧ ((l.length : Int) < x.2.2.2.1 ∨ (x.2.2.2.1 = l.length ∧ numAt a i ≠ -1) ∨ (x.2.2.2.1 < l.length ∧ numAt a x.2.2.2.1 ≠ numAt a i))
instance {l : List InsT} {a : List Int} {i : Nat} {x : InsT} : Decidable (leaves l a i x) := by unfold leaves; infer_instance
def jumpM (l : List InsT) (a : List Int) : List InsT → Nat → Int × Int
  | [], _ => (0, 0)
  | x :: r, i => if leaves l a i x then ((i : Int), 2) else jumpM l a r (i + 1)
def checkM (l : List InsT) : Int × Int :=
  if l.length = 0 ∨ 40 < l.length then (0, 4)
  else match goM l l 0 [] with
    | .inl r => r
    | .inr st => if st = [] then jumpM l (regM l 0 []) l 0 else (inmostM st, 12)

/-! ### what stands on the stack -/
def StOk (i : Nat) (st : List Int) : Prop := ∀ y ∈ st, 0 ≤ y ∧ y < (i : Int)
theorem StOk.nil {i : Nat} : StOk i [] := fun _ h => by cases h
theorem StOk.dropLast {i : Nat} {st : List Int} (h : StOk i st) : StOk i st.dropLast := fun y hy => h y ((List.dropLast_sublist st).subset hy)
theorem StOk.behind {i : Nat} {st : List Int} {op : Int} (h : StOk i st) : StOk (i + 1) (behindM st i op) := by
  have h1 : ∀ s, StOk i s → StOk (i + 1) s := fun s hs y hy => by have := hs y hy; omega
  have h2 : ∀ s, StOk i s → StOk (i + 1) (s ++ [(i : Int)]) := by
    intro s hs y hy
    rcases List.mem_append.1 hy with hy | hy
    · exact h1 s hs y hy
    · rw [List.mem_singleton] at hy; omega
  unfold behindM
  repeat' split
  · exact h2 _ h.dropLast
  · exact h2 _ h
  · exact h1 _ h.dropLast
  · exact h1 _ h
theorem StOk.inmost {i : Nat} {st : List Int} (h : StOk i st) (hn : st ≠ []) : 0 ≤ inmostM st ∧ inmostM st < (i : Int) := by
  refine h _ ?_
  unfold inmostM
  rw [List.getLast?_eq_some_getLast hn]
  exact List.getLast_mem hn
theorem behind_len (st : List Int) (i op : Int) : (behindM st i op).length ≤ st.length + 1 := by
  unfold behindM
  repeat' split
  all_goals simp
  all_goals omega
theorem inmost_nil : inmostM [] = -1 := rfl
theorem wrong_open {l : List InsT} {st : List Int} {x : InsT} (h : wrongM l st x = 0) : mayM x = true ∧ (0 < endsM x.1 ∨ x.1 = 16 → st ≠ []) ∧ (beginsM x.1 = true → st.length < 5) := by
  unfold wrongM at h
  split at h
  · cases h
  · rename_i h1
    split at h
    · cases h
    · rename_i h2
      split at h
      · cases h
      · rename_i h3
        split at h
        · cases h
        · rename_i h4
          refine ⟨by simpa using h1, ?_, fun hb => by
            by_cases h5 : 5 ≤ st.length
            · exact absurd ⟨hb, h5⟩ h4
            · omega⟩
          rintro ho rfl
          have h0 : opM l [] = 0 := rfl
          rw [h0] at h2 h3
          rcases ho with ho | ho
          · exact h2 ⟨ho, by omega⟩
          · exact h3 ⟨ho, by omega⟩
theorem goM_cons {l r : List InsT} {x : InsT} {i : Nat} {st : List Int} : goM l (x :: r) i st = if wrongM l st x = 0 then goM l r (i + 1) (behindM st i x.1) else .inl (i, wrongM l st x) := rfl
theorem regM_len : ∀ {r : List InsT} {i : Nat} {st : List Int}, (regM r i st).length = r.length := by
  intro r
  induction r with
  | nil => intro i st; rfl
  | cons x r ih => intro i st; show (regM r (i + 1) _).length + 1 = _; rw [ih]; rfl
theorem regM_get : ∀ {r : List InsT} {i j : Nat} {st : List Int}, j < r.length → ∃ s, (regM r i st)[j]? = some (inmostM s) ∧ (∀ {l : List InsT} {st' : List Int}, goM l r i st = .inr st' → StOk i st → StOk (i + j) s ∧ ∀ x, r[j]? = some x → wrongM l s x = 0) := by
  intro r
  induction r with
  | nil => intro i j st h; simp at h
  | cons x r ih =>
    intro i j st h
    cases j with
    | zero =>
      refine ⟨st, rfl, fun {l st'} hg hs => ⟨hs, ?_⟩⟩
      intro y hy
      simp at hy
      subst hy
      rw [goM_cons] at hg
      split at hg
      · assumption
      · cases hg
    | succ j =>
      obtain ⟨s, h1, h2⟩ := ih (i := i + 1) (j := j) (st := behindM st i x.1) (by simp at h; omega)
      refine ⟨s, h1, fun {l st'} hg hs => ?_⟩
      rw [goM_cons] at hg
      split at hg
      · have := h2 hg hs.behind
        rw [show i + 1 + j = i + (j + 1) by omega] at this
        exact this
      · cases hg
end Go.Proofs.YtpnlmmecgkjehaaGreatDoor
