/-
  No cell of these rows narrows 'for every input' (looked for: loops, veiled, ifaces, maps, wideKeys, modest, calm, conditions, laid).
  DERIVED. THE GIVEN ROWS OF THIS SEAT. 4 by the template 'for every input the law returns true; each argument reads behind the call as it read before'; 0 by the template 'total and deterministic' (their statements: YthajhlachmgdoaaTotals.lean).
  GIVEN WITH THE SEED: the statements are not yours to turn. If you find one false, say at which input.
  Laid BY PROGRAM, IN A SANDBOX (cutbox-rows.mjs): the forced cells as the released guide's own fill.sh prints them over the translation e0218b1ddd02ee92… (all of the seat's roots in one cut). By AI agents, Wed Nov 11 2026. No macro, syntax, notation, axiom, sorry.
-/
import Derived.Test.YthajhlachmgdoaaChecked
import GoSem.Claim
import GoSem.ClaimJoined
import GoSem.ClaimMapViews
import Derived.JoinedTies
import Derived.KernelRfl
namespace Go.Proofs.Ythajhlachmgdoaa
/- THE CELL 'sum', in the pinned program and in every row, IS THE sha256 OF THE DUMP (.gsa) THAT YthajhlachmgdoaaProg.lean LOADS. Nothing in Lean hashes anything: it is a label: what it is worth is what the hold of that sum in a sandbox is worth. -/
noncomputable def Try.pinned : Pinned := { name := "ythajhlachmgdoaa", sum := "e0218b1ddd02ee9250e5fc5a3b853db9e9af937f5c8784a16bb8fe9feebf1fc8", checked := Try.checked }
namespace Rows
def none {H : Type} : Left H := { results := [], args := [] }

/-- 'quietuslaw19.QueueRuns': WHATEVER THE INPUT: true; the input reads as it did. -/
def queueRunsSpec : ChangeSpec := { name := "queueRuns", fn := fun _ => fun
  | [] => { results := [.lit (.bool true)], args := [] }
  | _ => none }
def queueRunsRow : OpenClaim := { program := "ythajhlachmgdoaa", sum := "e0218b1ddd02ee9250e5fc5a3b853db9e9af937f5c8784a16bb8fe9feebf1fc8", func := "quietus/quietuslaw19.QueueRuns", spec := "queueRuns", unfollowed := true, recurses := true, apart := false }
def QueueRunsSaid : Prop := queueRunsRow.holds Try.pinned (OpenSpec.ofChange queueRunsSpec)

/-- ITS FALSE NEIGHBOUR: 'it returns false'. Refute it at one input. -/
def queueRunsWrong : ChangeSpec := { name := "queueRuns", fn := fun _ => fun
  | [] => { results := [.lit (.bool false)], args := [] }
  | _ => none }
def QueueRunsWrongFalsely : Prop := queueRunsRow.holds Try.pinned (OpenSpec.ofChange queueRunsWrong)

/-- 'quietuslaw19.QueueNeeds': WHATEVER THE INPUT: true; the input reads as it did. -/
def queueNeedsSpec : ChangeSpec := { name := "queueNeeds", fn := fun _ => fun
  | [d1, d2] => { results := [.lit (.bool true)], args := [d1, d2] }
  | _ => none }
def queueNeedsRow : OpenClaim := { program := "ythajhlachmgdoaa", sum := "e0218b1ddd02ee9250e5fc5a3b853db9e9af937f5c8784a16bb8fe9feebf1fc8", func := "quietus/quietuslaw19.QueueNeeds", spec := "queueNeeds", unfollowed := true, recurses := true, apart := false }
def QueueNeedsSaid : Prop := queueNeedsRow.holds Try.pinned (OpenSpec.ofChange queueNeedsSpec)

/-- ITS FALSE NEIGHBOUR: 'it returns false'. Refute it at one input. -/
def queueNeedsWrong : ChangeSpec := { name := "queueNeeds", fn := fun _ => fun
  | [d1, d2] => { results := [.lit (.bool false)], args := [d1, d2] }
  | _ => none }
def QueueNeedsWrongFalsely : Prop := queueNeedsRow.holds Try.pinned (OpenSpec.ofChange queueNeedsWrong)

/-- 'quietuslaw19.QueueApart': WHATEVER THE INPUT: true; the input reads as it did. -/
def queueApartSpec : ChangeSpec := { name := "queueApart", fn := fun _ => fun
  | [d1, d2, d3] => { results := [.lit (.bool true)], args := [d1, d2, d3] }
  | _ => none }
def queueApartRow : OpenClaim := { program := "ythajhlachmgdoaa", sum := "e0218b1ddd02ee9250e5fc5a3b853db9e9af937f5c8784a16bb8fe9feebf1fc8", func := "quietus/quietuslaw19.QueueApart", spec := "queueApart", unfollowed := true, recurses := true, apart := false }
def QueueApartSaid : Prop := queueApartRow.holds Try.pinned (OpenSpec.ofChange queueApartSpec)

/-- ITS FALSE NEIGHBOUR: 'it returns false'. Refute it at one input. -/
def queueApartWrong : ChangeSpec := { name := "queueApart", fn := fun _ => fun
  | [d1, d2, d3] => { results := [.lit (.bool false)], args := [d1, d2, d3] }
  | _ => none }
def QueueApartWrongFalsely : Prop := queueApartRow.holds Try.pinned (OpenSpec.ofChange queueApartWrong)

/-- 'quietuslaw19.QueueBlocks': WHATEVER THE INPUT: true; the input reads as it did. -/
def queueBlocksSpec : ChangeSpec := { name := "queueBlocks", fn := fun _ => fun
  | [d1, d2] => { results := [.lit (.bool true)], args := [d1, d2] }
  | _ => none }
def queueBlocksRow : OpenClaim := { program := "ythajhlachmgdoaa", sum := "e0218b1ddd02ee9250e5fc5a3b853db9e9af937f5c8784a16bb8fe9feebf1fc8", func := "quietus/quietuslaw19.QueueBlocks", spec := "queueBlocks", unfollowed := true, recurses := true, apart := false }
def QueueBlocksSaid : Prop := queueBlocksRow.holds Try.pinned (OpenSpec.ofChange queueBlocksSpec)

/-- ITS FALSE NEIGHBOUR: 'it returns false'. Refute it at one input. -/
def queueBlocksWrong : ChangeSpec := { name := "queueBlocks", fn := fun _ => fun
  | [d1, d2] => { results := [.lit (.bool false)], args := [d1, d2] }
  | _ => none }
def QueueBlocksWrongFalsely : Prop := queueBlocksRow.holds Try.pinned (OpenSpec.ofChange queueBlocksWrong)

/- THE SECOND FORM. 'bulk': how many values and letters a reading holds, each counted each time it is reached (what is shared counts as often as it is met; a slice's spare places count too). A statement '..UptoSaid' is the law's where the arguments, and the package variables that the reading takes, are together of bulk at most 1048576: NARROWER than '..Said'. Prove '..Said' where nothing that the law and all that it calls make is longer than what came in: it says more and counts as full. Else prove '..UptoSaid'. A law counts once. -/
mutual
def uptoBulk {H : Type} : DataW H → Nat
  | .lit (.string bytes) => bytes.length + 1
  | .lit _ => 1
  | .nil => 1
  | .ptr d => uptoBulk d + 1
  | .slice elems spare => uptoBulkAll elems + uptoBulkAll spare + 1
  | .agg parts => uptoBulkAll parts + 1
  | .iface _ d => uptoBulk d + 1
  | .map entries => uptoBulkEntries entries + 1
  | .held _ => 1
def uptoBulkAll {H : Type} : List (DataW H) → Nat
  | [] => 0
  | d :: r => uptoBulk d + uptoBulkAll r
def uptoBulkEntries {H : Type} : List (Lit × DataW H) → Nat
  | [] => 0
  | x :: r => uptoBulkEntry x + uptoBulkEntries r
def uptoBulkEntry {H : Type} : Lit × DataW H → Nat
  | (.string bytes, d) => bytes.length + uptoBulk d + 1
  | (_, d) => uptoBulk d + 1
 end
def uptoSmall : (H : Type) → List (DataW H) → Bool := fun _ ds => decide (uptoBulkAll ds ≤ 1048576)
def OpenSpec.upto (s : _root_.Go.ChangeSpec) : _root_.Go.OpenSpec := { _root_.Go.OpenSpec.ofChange s with cond := some uptoSmall }

/-- 'quietuslaw19.QueueRuns', WHERE WHAT IT READS IS OF BULK AT MOST 1048576: true; the input reads as it did. -/
def queueRunsUptoRow : OpenClaim := { program := "ythajhlachmgdoaa", sum := "e0218b1ddd02ee9250e5fc5a3b853db9e9af937f5c8784a16bb8fe9feebf1fc8", func := "quietus/quietuslaw19.QueueRuns", spec := "queueRuns", unfollowed := true, recurses := true, apart := false, narrowed := true }
def QueueRunsUptoSaid : Prop := queueRunsUptoRow.holds Try.pinned (OpenSpec.upto queueRunsSpec)

/-- 'quietuslaw19.QueueNeeds', WHERE WHAT IT READS IS OF BULK AT MOST 1048576: true; the input reads as it did. -/
def queueNeedsUptoRow : OpenClaim := { program := "ythajhlachmgdoaa", sum := "e0218b1ddd02ee9250e5fc5a3b853db9e9af937f5c8784a16bb8fe9feebf1fc8", func := "quietus/quietuslaw19.QueueNeeds", spec := "queueNeeds", unfollowed := true, recurses := true, apart := false, narrowed := true }
def QueueNeedsUptoSaid : Prop := queueNeedsUptoRow.holds Try.pinned (OpenSpec.upto queueNeedsSpec)

/-- 'quietuslaw19.QueueApart', WHERE WHAT IT READS IS OF BULK AT MOST 1048576: true; the input reads as it did. -/
def queueApartUptoRow : OpenClaim := { program := "ythajhlachmgdoaa", sum := "e0218b1ddd02ee9250e5fc5a3b853db9e9af937f5c8784a16bb8fe9feebf1fc8", func := "quietus/quietuslaw19.QueueApart", spec := "queueApart", unfollowed := true, recurses := true, apart := false, narrowed := true }
def QueueApartUptoSaid : Prop := queueApartUptoRow.holds Try.pinned (OpenSpec.upto queueApartSpec)

/-- 'quietuslaw19.QueueBlocks', WHERE WHAT IT READS IS OF BULK AT MOST 1048576: true; the input reads as it did. -/
def queueBlocksUptoRow : OpenClaim := { program := "ythajhlachmgdoaa", sum := "e0218b1ddd02ee9250e5fc5a3b853db9e9af937f5c8784a16bb8fe9feebf1fc8", func := "quietus/quietuslaw19.QueueBlocks", spec := "queueBlocks", unfollowed := true, recurses := true, apart := false, narrowed := true }
def QueueBlocksUptoSaid : Prop := queueBlocksUptoRow.holds Try.pinned (OpenSpec.upto queueBlocksSpec)

end Rows
end Go.Proofs.Ythajhlachmgdoaa
