/- Blocks, lists, blocks at rest: each somewhere once: the plain law. -/
import Derived.Test.YtkfpddegilellaaGreatDoorArenaLs
namespace Go.Proofs.YtkfpddegilellaaGreatDoor
open Go Go.Ae

/-- blocks stand one behind the other -/
def Up (bs : List BlkT) : Prop := bs.Pairwise fun a b => a.1 < b.1
theorem parseM_up {ws : List Int} {e : Int} : ∀ m a acc bs, Up acc → (∀ b ∈ acc, b.1 ≤ a) → parseM ws e m a acc = some bs → Up bs := by
  intro m
  induction m with
  | zero => intro a acc bs _ _ h; cases h
  | succ m ih =>
    intro a acc bs hu ha h
    rw [parseM_s] at h
    split at h
    · cases h; exact hu
    · split at h
      · cases h
      · rename_i h2
        have hb := headA_b (wordAt ws a.toNat)
        have hp : ¬ (hd ws a).1 = 0 := fun hh => h2 (.inl hh)
        have hs := sizeA_pos (x := (hd ws a).1) (by unfold hd at *; omega)
        refine ih _ _ _ ?_ ?_ h
        · refine List.pairwise_append.2 ⟨hu, List.pairwise_singleton .., fun x hx y hy => ?_⟩
          rw [List.mem_singleton.1 hy]
          have := ha x hx
          dsimp only; omega
        · intro b hb
          rcases List.mem_append.1 hb with hb | hb
          · have := ha b hb; omega
          · rw [List.mem_singleton.1 hb]; dsimp only; omega
theorem blocksM_up {ws : List Int} {bs : List BlkT} (h : blocksM ws = some bs) : Up bs := by
  unfold blocksM at h
  split at h
  · cases h
  · exact parseM_up _ _ _ _ List.Pairwise.nil (fun b hb => by cases hb) h
theorem Up.nodup {bs : List BlkT} (h : Up bs) : (bs.map (·.1)).Nodup := by
  unfold Up at h
  refine List.pairwise_map.2 (h.imp ?_)
  intro a b hab
  omega
theorem rowM_in {ws : List Int} {bs : List BlkT} {c : Int} : ∀ {m : Nat} {w : Int} {acc r : List Int}, rowM ws bs c m w acc = some r → (∀ x ∈ acc, (x, c, false) ∈ bs) → ∀ x ∈ r, (x, c, false) ∈ bs := by
  intro m
  induction m with
  | zero => intro w acc r h; cases h
  | succ m ih =>
    intro w acc r h ha
    rw [rowM_s] at h
    split at h
    · cases h; exact ha
    · split at h
      · rename_i h2
        refine ih h fun x hx => ?_
        rcases List.mem_append.1 hx with hx | hx
        · exact ha x hx
        · rw [List.mem_singleton.1 hx]; exact h2.1
      · cases h
theorem rowsM_in {ws : List Int} {bs : List BlkT} : ∀ {k : Nat} {c : Int} {ls r : List (List Int)}, rowsM ws bs k c ls = some r → (∀ l ∈ ls, ∀ x ∈ l, ∃ b ∈ bs, b.1 = x ∧ b.2.2 = false) → ∀ l ∈ r, ∀ x ∈ l, ∃ b ∈ bs, b.1 = x ∧ b.2.2 = false := by
  intro k
  induction k with
  | zero => intro c ls r h; cases h; exact fun h => h
  | succ k ih =>
    intro c ls r h hl
    unfold rowsM at h
    obtain ⟨row, hr, h⟩ := Option.bind_eq_some_iff.1 h
    refine ih h fun l hl2 => ?_
    rcases List.mem_append.1 hl2 with h2 | h2
    · exact hl l h2
    · rw [List.mem_singleton.1 h2]
      intro x hx
      exact ⟨_, rowM_in hr (fun x hx => by cases hx) x hx, rfl, rfl⟩
theorem lists_in {ws : List Int} {ls : List (List Int)} (h : listsM ws = some ls) : ∃ bs, blocksM ws = some bs ∧ ∀ l ∈ ls, ∀ x ∈ l, ∃ b ∈ bs, b.1 = x ∧ b.2.2 = false := by
  obtain ⟨bs, hb, h⟩ := Option.bind_eq_some_iff.1 h
  exact ⟨bs, hb, rowsM_in h fun l hl => by cases hl⟩

/-- is each block somewhere, once? the lists' blocks and those at rest -/
def partsB (bs : List BlkT) (fs rs : List Int) : Bool :=
  bs.all (fun b => decide (b.2.2 = true ↔ (fs ++ rs).count b.1 = 0) && decide ((fs ++ rs).count b.1 ≤ 1)) && (fs ++ rs).all fun x => bs.any fun b => decide (b.1 = x)
/-- as the document counts -/
def countB (b : BlkT) (fs rs : List Int) : Nat := (if b.2.2 = true then 1 else 0) + fs.count b.1 + rs.count b.1
def partsD (bs : List BlkT) (fs rs : List Int) : Bool := bs.all (fun b => decide (countB b fs rs = 1)) && decide ((bs.map fun b => rs.count b.1).sum = rs.length)
theorem sum_all : ∀ {bs : List BlkT} {rs : List Int}, (bs.map (·.1)).Nodup → (bs.map fun b => rs.count b.1).sum = (rs.filter fun x => bs.any fun b => decide (b.1 = x)).length := by
  intro bs rs hn
  induction rs with
  | nil =>
    induction bs with
    | nil => rfl
    | cons b bs ih => rw [List.map_cons, List.nodup_cons] at hn; rw [List.map_cons, List.sum_cons, ih hn.2]; simp
  | cons x rs ih =>
    have e : (bs.map fun b => (x :: rs).count b.1).sum = (bs.map fun b => rs.count b.1).sum + (bs.map fun b => (decide (b.1 = x)).toNat).sum := by
      clear ih hn
      induction bs with
      | nil => rfl
      | cons b bs ih =>
        simp only [List.map_cons, List.sum_cons]
        rw [ih, List.count_cons]
        by_cases h : b.1 = x
        · have h2 : (x == b.1) = true := by simp [h]
          rw [h2, decide_eq_true h, if_pos rfl]
          show _ = _ + (1 + _); omega
        · have h2 : (x == b.1) = false := by simpa using fun h' : x = b.1 => h h'.symm
          rw [h2, decide_eq_false h, if_neg (by simp)]
          show _ = _ + (0 + _); omega
    have e2 : (bs.map fun b => (decide (b.1 = x)).toNat).sum = (bs.any fun b => decide (b.1 = x)).toNat := by
      clear ih e
      induction bs with
      | nil => rfl
      | cons b bs ih =>
        rw [List.map_cons, List.nodup_cons] at hn
        rw [List.map_cons, List.sum_cons, List.any_cons, ih hn.2]
        by_cases h : b.1 = x
        · have hno : (bs.any fun b => decide (b.1 = x)) = false := by
            refine List.any_eq_false.2 fun d hd => ?_
            simp only [decide_eq_true_eq]
            intro hh
            exact hn.1 (List.mem_map.2 ⟨d, hd, hh.trans h.symm⟩)
          rw [hno, decide_eq_true h]; rfl
        · rw [decide_eq_false h, Bool.false_or]; show 0 + _ = _; omega
    rw [e, e2, ih, List.filter_cons]
    cases hb : (bs.any fun b => decide (b.1 = x))
    · rw [if_neg (by simp)]; rfl
    · rw [if_pos rfl]; rfl
theorem parts_same {bs : List BlkT} {fs rs : List Int} (hu : Up bs) (hf : ∀ x ∈ fs, ∃ b ∈ bs, b.1 = x) : partsB bs fs rs = partsD bs fs rs := by
  unfold partsB partsD
  congr 1
  · congr 1
    funext b
    rw [← Bool.decide_and]
    refine decide_eq_decide.2 ?_
    unfold countB
    rw [List.count_append]
    cases b.2.2 <;> simp <;> omega
  · rw [sum_all hu.nodup]
    have h1 : ((rs.filter fun x => bs.any fun b => decide (b.1 = x)).length = rs.length) ↔ ∀ x ∈ rs, (bs.any fun b => decide (b.1 = x)) = true := List.length_filter_eq_length_iff
    rw [Bool.eq_iff_iff, decide_eq_true_iff, h1, List.all_eq_true]
    constructor
    · intro h x hx; exact h x (List.mem_append.2 (.inr hx))
    · intro h x hx
      rcases List.mem_append.1 hx with hx | hx
      · obtain ⟨b, hb, e⟩ := hf x hx
        exact List.any_eq_true.2 ⟨b, hb, by simpa using e⟩
      · exact h x hx
/-- does an operation let the words of the listed blocks alone? -/
def hitL (at_ : Int) (c : Nat) (l : List Int) : Bool := l.any fun b => decide (b < at_ ∧ at_ < b + sizeA (c : Int))
def hitLs (at_ : Int) : Nat → List (List Int) → Bool
  | _, [] => false
  | c, l :: r => hitL at_ c l || hitLs at_ (c + 1) r
def safeM (zs : List Int) (kind at_ : Int) : Bool := if kind ≠ 1 ∧ kind ≠ 2 then true else match listsM zs with
  | none => true
  | some ls => !hitLs at_ 1 ls
end Go.Proofs.YtkfpddegilellaaGreatDoor
