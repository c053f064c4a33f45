/- 'TreeRuns': what its calls come to: plain. -/
import Derived.KernelRfl
import Derived.Test.YtpohfcljfemhlaaTreeH
namespace Go.Proofs.Ytpohfcljfemhlaa.arenaParts
open Go Go.Ae arenaPlays
set_option maxRecDepth 100000
/-- the view behind so many puts -/
def Ms : Nat → VM
  | 0 => wholeV (freshA ((200 : Nat) : Int)) ((96 : Nat) : Int)
  | i + 1 => (doG (Ms i) (putA (Ms i).sz ((6 : Nat) : Int) ((i + 1 : Nat) : Int) (((i + 1 : Nat) : Int) + ((10 : Nat) : Int)))).2
def putB (i : Nat) : Bool :=
  decide ((doG (Ms i) (putA (Ms i).sz ((6 : Nat) : Int) ((i + 1 : Nat) : Int) (((i + 1 : Nat) : Int) + ((10 : Nat) : Int)))).1 = 0) &&
  decide ((runA (putA (Ms i).sz ((6 : Nat) : Int) ((i + 1 : Nat) : Int) (((i + 1 : Nat) : Int) + ((10 : Nat) : Int))) ⟨ofV (Ms i), 0, 0⟩).1 = some true)
theorem puts_true : (putB 0 && putB 1 && putB 2 && putB 3 && putB 4 && putB 5 && putB 6) = true := by kernel_rfl
def Ms8 : VM := (doG (Ms 7) (deepT ((6 : Nat) : Int))).2
def Ms9 : VM := (doG Ms8 (rangeA ((6 : Nat) : Int) ((3 : Nat) : Int) ((5 : Nat) : Int))).2
def restB : Bool :=
  decide ((doG (Ms 7) (deepT ((6 : Nat) : Int))).1 = 0) && decide ((runA (deepT ((6 : Nat) : Int)) ⟨ofV (Ms 7), 0, 0⟩).1 = some 4) &&
  (decide ((doG Ms8 (rangeA ((6 : Nat) : Int) ((3 : Nat) : Int) ((5 : Nat) : Int))).1 = 0) && decide ((runA (rangeA ((6 : Nat) : Int) ((3 : Nat) : Int) ((5 : Nat) : Int)) ⟨ofV Ms8, 0, 0⟩).1 = some [(3, 13), (4, 14), (5, 15)])) &&
  (decide ((doG Ms9 (getA ((6 : Nat) : Int) ((6 : Nat) : Int))).1 = 0) && decide ((runA (getA ((6 : Nat) : Int) ((6 : Nat) : Int)) ⟨ofV Ms9, 0, 0⟩).1 = some (16, true)))
theorem rest_true : restB = true := by kernel_rfl
end Go.Proofs.Ytpohfcljfemhlaa.arenaParts
