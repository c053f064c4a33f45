/- Views: by the document's own text: copies, kept levels, the views. -/
import Derived.Test.YtkfpddegilellaaGreatDoorVwR
namespace Go.Proofs.YtkfpddegilellaaGreatDoor
open Go Go.Ae
set_option maxRecDepth 100000

variable {g h : AH} {L R : List SP}

def frS (lv : List LvM) : Nat := (lv.map fun x => x.2.length).sum
theorem frS_cons (x : LvM) (r : List LvM) : frS (x :: r) = x.2.length + frS r := by simp [frS]
theorem cells_row (l : List AV) (n : Nat) (a b : AV) (tl : List AV) (hl : l.length = n * 2) : ((l ++ [a, b] ++ tl).drop (n * 2)).take 2 = [a, b] := by
  rw [List.append_assoc, ← hl, List.drop_left]; rfl
theorem cells_put (l : List AV) (n : Nat) (a b c d : AV) (hl : l.length = n * 2) : lset (l ++ [a, b]) (n * 2) [c, d] = l ++ [c, d] := by
  unfold lset
  rw [← hl, List.take_left, List.drop_of_length_le (by simp)]; simp

theorem mergeL_keep {x y : LvM} {r : List LvM} : mergeL (keepL (x :: y :: r)).2 = mergeL (x :: y :: r) := by
  unfold mergeL keepL
  simp only [List.foldl_cons]
  rfl
theorem frS_keep {x y : LvM} {r : List LvM} : frS (keepL (x :: y :: r)).2 = frS (x :: y :: r) := by
  unfold frS keepL
  simp
  omega
theorem freesL_frS (lv : List LvM) : (freesL lv).length = frS lv := by
  unfold freesL frS
  rw [List.length_flatMap, List.map_reverse, rsum]

/-! ### views -/
end Go.Proofs.YtkfpddegilellaaGreatDoor
