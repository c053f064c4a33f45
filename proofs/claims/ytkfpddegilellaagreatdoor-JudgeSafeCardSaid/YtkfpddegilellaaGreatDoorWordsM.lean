/- Blocks and lists of words: the plain law. -/
import Derived.Test.YtkfpddegilellaaGreatDoorArenaA
namespace Go.Proofs.YtkfpddegilellaaGreatDoor
open Go Go.Ae

abbrev BlkT : Type := Int × Int × Bool
def encB (b : BlkT) : List AV := [.int .i64 b.1, .int .i64 b.2.1, .bool b.2.2]
theorem allOne_encB (l : List BlkT) : allOne (l.flatMap encB) = true := by
  unfold allOne
  rw [List.all_eq_true]
  intro v hv
  obtain ⟨c, _, hc⟩ := List.mem_flatMap.1 hv
  simp [encB] at hc
  rcases hc with rfl | rfl | rfl <;> rfl
theorem sizeA_pos {x : Int} (h : 1 ≤ x ∧ x ≤ 4) : 2 ≤ sizeA x := by unfold sizeA; repeat' split <;> omega
theorem sizeA_zero {x : Int} (h : ¬ (1 ≤ x ∧ x ≤ 4)) : sizeA x = 0 := by unfold sizeA; repeat' split <;> omega

def hd (ws : List Int) (a : Int) : Int × Bool := headA (wordAt ws a.toNat)
def parseM (ws : List Int) (e : Int) : Nat → Int → List BlkT → Option (List BlkT)
  | 0, _, _ => none
  | m + 1, a, acc => if e ≤ a then some acc else
      if (hd ws a).1 = 0 ∨ e < a + 1 + sizeA (hd ws a).1 then none
      else parseM ws e m (a + 1 + sizeA (hd ws a).1) (acc ++ [(a + 1, (hd ws a).1, (hd ws a).2)])
theorem parseM_s {ws : List Int} {e : Int} {m : Nat} {a : Int} {acc : List BlkT} : parseM ws e (m + 1) a acc = if e ≤ a then some acc else
      if (hd ws a).1 = 0 ∨ e < a + 1 + sizeA (hd ws a).1 then none
      else parseM ws e m (a + 1 + sizeA (hd ws a).1) (acc ++ [(a + 1, (hd ws a).1, (hd ws a).2)]) := rfl
def blocksM (ws : List Int) : Option (List BlkT) :=
  if ws.length < 32 ∨ 256 < ws.length ∨ wordAt ws 5 < 14 ∨ (ws.length : Int) < wordAt ws 5 then none else parseM ws (wordAt ws 5) 301 14 []

/-- what stands at each one's place -/
def BlkOk (n : Nat) (bs : List BlkT) : Prop := ∀ b ∈ bs, 15 ≤ b.1 ∧ b.1 < n
theorem parseM_ok {ws : List Int} {e : Int} {n : Nat} (he : e ≤ n) : ∀ m a acc bs, 14 ≤ a → BlkOk n acc → parseM ws e m a acc = some bs → BlkOk n bs := by
  intro m
  induction m with
  | zero => intro a acc bs _ _ h; cases h
  | succ m ih =>
    intro a acc bs ha hk h
    rw [parseM_s] at h
    split at h
    · cases h; exact hk
    · rename_i h1
      split at h
      · cases h
      · rename_i h2
        have hb := headA_b (wordAt ws a.toNat)
        have hp : ¬ (hd ws a).1 = 0 := fun hh => h2 (.inl hh)
        have hs := sizeA_pos (x := (hd ws a).1) (by unfold hd at *; omega)
        refine ih _ _ _ (by omega) ?_ h
        intro b hb
        rcases List.mem_append.1 hb with hb | hb
        · exact hk b hb
        · rw [List.mem_singleton] at hb
          subst hb
          dsimp only
          omega
theorem blocksM_ok {ws : List Int} {bs : List BlkT} (h : blocksM ws = some bs) : BlkOk ws.length bs ∧ 32 ≤ ws.length ∧ ws.length ≤ 256 := by
  unfold blocksM at h
  split at h
  · cases h
  · rename_i h1
    exact ⟨parseM_ok (by omega) _ _ _ _ (by omega) (fun b hb => by cases hb) h, by omega, by omega⟩

def rowM (ws : List Int) (bs : List BlkT) (c : Int) : Nat → Int → List Int → Option (List Int)
  | 0, _, _ => none
  | m + 1, w, acc => if w = 0 then some acc else if (w, c, false) ∈ bs ∧ w ∉ acc then rowM ws bs c m (wordAt ws w.toNat) (acc ++ [w]) else none
theorem rowM_s {ws : List Int} {bs : List BlkT} {c : Int} {m : Nat} {w : Int} {acc : List Int} : rowM ws bs c (m + 1) w acc = if w = 0 then some acc else if (w, c, false) ∈ bs ∧ w ∉ acc then rowM ws bs c m (wordAt ws w.toNat) (acc ++ [w]) else none := rfl
def rowsM (ws : List Int) (bs : List BlkT) : Nat → Int → List (List Int) → Option (List (List Int))
  | 0, _, ls => some ls
  | k + 1, c, ls => (rowM ws bs c 301 (wordAt ws c.toNat) []).bind fun r => rowsM ws bs k (c + 1) (ls ++ [r])
def listsM (ws : List Int) : Option (List (List Int)) := (blocksM ws).bind fun bs => rowsM ws bs 4 1 []
end Go.Proofs.YtkfpddegilellaaGreatDoor
