/-
  NARROWER THAN 'FOR EVERY INPUT', by the rows' own cells (each row's printed sentence says how): InterpRuns: laid · InterpPlays: laid · InterpUndo: laid · InterpWays: laid · InterpFuel: laid · ModelRuns: laid · ModelTells: laid · ModelFails: laid.
  DERIVED. THE GIVEN ROWS OF THIS SEAT. 8 by the template 'for every input the law returns true; each argument reads behind the call as it read before'; 0 by the template 'total and deterministic' (their statements: YtdlfmpmpmkffjaaGreatDoorTotals.lean).
  GIVEN WITH THE SEED: the statements are not yours to turn. If you find one false, say at which input.
  Laid BY PROGRAM, IN A SANDBOX (cutbox-rows.mjs): the forced cells as the released guide's own fill.sh prints them over the translation 33ab0ffcc79eda7a… (all of the seat's roots in one cut). By AI agents, Wed Nov 11 2026. No macro, syntax, notation, axiom, sorry.
-/
import Derived.Test.YtdlfmpmpmkffjaaGreatDoorChecked
import GoSem.Claim
import GoSem.ClaimJoined
import GoSem.ClaimMapViews
import Derived.JoinedTies
import Derived.KernelRfl
namespace Go.Proofs.YtdlfmpmpmkffjaaGreatDoor
/- THE CELL 'sum', in the pinned program and in every row, IS THE sha256 OF THE DUMP (.gsa) THAT YtdlfmpmpmkffjaaGreatDoorProg.lean LOADS. Nothing in Lean hashes anything: it is a label: what it is worth is what the hold of that sum in a sandbox is worth. -/
noncomputable def Tryz.pinned : Pinned := { name := "ytdlfmpmpmkffjaagreatdoor", sum := "33ab0ffcc79eda7ae4c57389117f757270e1cb5e331af604f5b76b5ba713037e", checked := Tryz.checked }
namespace Rows
def none {H : Type} : Left H := { results := [], args := [] }

/- WHAT THE LISTED PACKAGE-LEVEL VARIABLES READ AS WHEN THE CALL BEGINS. Each datum BY PROGRAM (the guide's laid-datum.mjs) off the statement by which the dump's own 'gosem.cut.vars' lays the variable. In a bare row this is a premise. The card (YtdlfmpmpmkffjaaGreatDoorCards.lean) ties it to the program's text. -/
def laid_math_bits_deBruijn32tab {H : Type} : DataW H := .agg [.lit (.int .u8 0), .lit (.int .u8 1), .lit (.int .u8 28), .lit (.int .u8 2), .lit (.int .u8 29), .lit (.int .u8 14), .lit (.int .u8 24), .lit (.int .u8 3), .lit (.int .u8 30), .lit (.int .u8 22), .lit (.int .u8 20), .lit (.int .u8 15), .lit (.int .u8 25), .lit (.int .u8 17), .lit (.int .u8 4), .lit (.int .u8 8), .lit (.int .u8 31), .lit (.int .u8 27), .lit (.int .u8 13), .lit (.int .u8 23), .lit (.int .u8 21), .lit (.int .u8 19), .lit (.int .u8 16), .lit (.int .u8 7), .lit (.int .u8 26), .lit (.int .u8 12), .lit (.int .u8 18), .lit (.int .u8 6), .lit (.int .u8 11), .lit (.int .u8 5), .lit (.int .u8 10), .lit (.int .u8 9)]
def laid_math_bits_deBruijn64tab {H : Type} : DataW H := .agg [.lit (.int .u8 0), .lit (.int .u8 1), .lit (.int .u8 56), .lit (.int .u8 2), .lit (.int .u8 57), .lit (.int .u8 49), .lit (.int .u8 28), .lit (.int .u8 3), .lit (.int .u8 61), .lit (.int .u8 58), .lit (.int .u8 42), .lit (.int .u8 50), .lit (.int .u8 38), .lit (.int .u8 29), .lit (.int .u8 17), .lit (.int .u8 4), .lit (.int .u8 62), .lit (.int .u8 47), .lit (.int .u8 59), .lit (.int .u8 36), .lit (.int .u8 45), .lit (.int .u8 43), .lit (.int .u8 51), .lit (.int .u8 22), .lit (.int .u8 53), .lit (.int .u8 39), .lit (.int .u8 33), .lit (.int .u8 30), .lit (.int .u8 24), .lit (.int .u8 18), .lit (.int .u8 12), .lit (.int .u8 5), .lit (.int .u8 63), .lit (.int .u8 55), .lit (.int .u8 48), .lit (.int .u8 27), .lit (.int .u8 60), .lit (.int .u8 41), .lit (.int .u8 37), .lit (.int .u8 16), .lit (.int .u8 46), .lit (.int .u8 35), .lit (.int .u8 44), .lit (.int .u8 21), .lit (.int .u8 52), .lit (.int .u8 32), .lit (.int .u8 23), .lit (.int .u8 11), .lit (.int .u8 54), .lit (.int .u8 26), .lit (.int .u8 40), .lit (.int .u8 15), .lit (.int .u8 34), .lit (.int .u8 20), .lit (.int .u8 31), .lit (.int .u8 10), .lit (.int .u8 25), .lit (.int .u8 14), .lit (.int .u8 19), .lit (.int .u8 9), .lit (.int .u8 13), .lit (.int .u8 8), .lit (.int .u8 7), .lit (.int .u8 6)]
def laid_internal_strconv_uint64pow10 {H : Type} : DataW H := .agg [.lit (.int .u64 1), .lit (.int .u64 10), .lit (.int .u64 100), .lit (.int .u64 1000), .lit (.int .u64 10000), .lit (.int .u64 100000), .lit (.int .u64 1000000), .lit (.int .u64 10000000), .lit (.int .u64 100000000), .lit (.int .u64 1000000000), .lit (.int .u64 10000000000), .lit (.int .u64 100000000000), .lit (.int .u64 1000000000000), .lit (.int .u64 10000000000000), .lit (.int .u64 100000000000000), .lit (.int .u64 1000000000000000), .lit (.int .u64 10000000000000000), .lit (.int .u64 100000000000000000), .lit (.int .u64 1000000000000000000), .lit (.int .u64 10000000000000000000)]

/-- 'quietuslaw21.InterpRuns': WHATEVER THE INPUT: true; the input reads as it did. -/
def interpRunsSpec : ChangeSpec := { name := "interpRuns", fn := fun _ => fun
  | [] => { results := [.lit (.bool true)], args := [] }
  | _ => none }
def interpRunsRow : OpenClaim := { program := "ytdlfmpmpmkffjaagreatdoor", sum := "33ab0ffcc79eda7ae4c57389117f757270e1cb5e331af604f5b76b5ba713037e", func := "quietus/quietuslaw21.InterpRuns", spec := "interpRuns", inPlace := ["internal/abi.NoEscape", "internal/bytealg.MakeNoZero"], unfollowed := true, recurses := true, named := ["internal/strconv.uint64pow10", "math/bits.deBruijn32tab", "math/bits.deBruijn64tab"], apart := false, laid := [("math/bits.deBruijn32tab", laid_math_bits_deBruijn32tab), ("math/bits.deBruijn64tab", laid_math_bits_deBruijn64tab), ("internal/strconv.uint64pow10", laid_internal_strconv_uint64pow10)] }
def InterpRunsSaid : Prop := interpRunsRow.holds Tryz.pinned (OpenSpec.ofChange interpRunsSpec)

/-- ITS FALSE NEIGHBOUR: 'it returns false'. Refute it at one input. -/
def interpRunsWrong : ChangeSpec := { name := "interpRuns", fn := fun _ => fun
  | [] => { results := [.lit (.bool false)], args := [] }
  | _ => none }
def InterpRunsWrongFalsely : Prop := interpRunsRow.holds Tryz.pinned (OpenSpec.ofChange interpRunsWrong)

/-- 'quietuslaw21.InterpPlays': WHATEVER THE INPUT: true; the input reads as it did. -/
def interpPlaysSpec : ChangeSpec := { name := "interpPlays", fn := fun _ => fun
  | [d1, d2, d3, d4, d5, d6] => { results := [.lit (.bool true)], args := [d1, d2, d3, d4, d5, d6] }
  | _ => none }
def interpPlaysRow : OpenClaim := { program := "ytdlfmpmpmkffjaagreatdoor", sum := "33ab0ffcc79eda7ae4c57389117f757270e1cb5e331af604f5b76b5ba713037e", func := "quietus/quietuslaw21.InterpPlays", spec := "interpPlays", inPlace := ["internal/abi.NoEscape", "internal/bytealg.MakeNoZero"], unfollowed := true, recurses := true, named := ["internal/strconv.uint64pow10", "math/bits.deBruijn32tab", "math/bits.deBruijn64tab"], apart := false, laid := [("math/bits.deBruijn32tab", laid_math_bits_deBruijn32tab), ("math/bits.deBruijn64tab", laid_math_bits_deBruijn64tab), ("internal/strconv.uint64pow10", laid_internal_strconv_uint64pow10)] }
def InterpPlaysSaid : Prop := interpPlaysRow.holds Tryz.pinned (OpenSpec.ofChange interpPlaysSpec)

/-- ITS FALSE NEIGHBOUR: 'it returns false'. Refute it at one input. -/
def interpPlaysWrong : ChangeSpec := { name := "interpPlays", fn := fun _ => fun
  | [d1, d2, d3, d4, d5, d6] => { results := [.lit (.bool false)], args := [d1, d2, d3, d4, d5, d6] }
  | _ => none }
def InterpPlaysWrongFalsely : Prop := interpPlaysRow.holds Tryz.pinned (OpenSpec.ofChange interpPlaysWrong)

/-- 'quietuslaw21.InterpUndo': WHATEVER THE INPUT: true; the input reads as it did. -/
def interpUndoSpec : ChangeSpec := { name := "interpUndo", fn := fun _ => fun
  | [d1, d2, d3, d4, d5, d6] => { results := [.lit (.bool true)], args := [d1, d2, d3, d4, d5, d6] }
  | _ => none }
def interpUndoRow : OpenClaim := { program := "ytdlfmpmpmkffjaagreatdoor", sum := "33ab0ffcc79eda7ae4c57389117f757270e1cb5e331af604f5b76b5ba713037e", func := "quietus/quietuslaw21.InterpUndo", spec := "interpUndo", inPlace := ["internal/abi.NoEscape", "internal/bytealg.MakeNoZero"], unfollowed := true, recurses := true, named := ["internal/strconv.uint64pow10", "math/bits.deBruijn32tab", "math/bits.deBruijn64tab"], apart := false, laid := [("math/bits.deBruijn32tab", laid_math_bits_deBruijn32tab), ("math/bits.deBruijn64tab", laid_math_bits_deBruijn64tab), ("internal/strconv.uint64pow10", laid_internal_strconv_uint64pow10)] }
def InterpUndoSaid : Prop := interpUndoRow.holds Tryz.pinned (OpenSpec.ofChange interpUndoSpec)

/-- ITS FALSE NEIGHBOUR: 'it returns false'. Refute it at one input. -/
def interpUndoWrong : ChangeSpec := { name := "interpUndo", fn := fun _ => fun
  | [d1, d2, d3, d4, d5, d6] => { results := [.lit (.bool false)], args := [d1, d2, d3, d4, d5, d6] }
  | _ => none }
def InterpUndoWrongFalsely : Prop := interpUndoRow.holds Tryz.pinned (OpenSpec.ofChange interpUndoWrong)

/-- 'quietuslaw21.InterpWays': WHATEVER THE INPUT: true; the input reads as it did. -/
def interpWaysSpec : ChangeSpec := { name := "interpWays", fn := fun _ => fun
  | [d1, d2, d3, d4, d5, d6, d7] => { results := [.lit (.bool true)], args := [d1, d2, d3, d4, d5, d6, d7] }
  | _ => none }
def interpWaysRow : OpenClaim := { program := "ytdlfmpmpmkffjaagreatdoor", sum := "33ab0ffcc79eda7ae4c57389117f757270e1cb5e331af604f5b76b5ba713037e", func := "quietus/quietuslaw21.InterpWays", spec := "interpWays", inPlace := ["internal/abi.NoEscape", "internal/bytealg.MakeNoZero"], unfollowed := true, recurses := true, named := ["internal/strconv.uint64pow10", "math/bits.deBruijn32tab", "math/bits.deBruijn64tab"], apart := false, laid := [("math/bits.deBruijn32tab", laid_math_bits_deBruijn32tab), ("math/bits.deBruijn64tab", laid_math_bits_deBruijn64tab), ("internal/strconv.uint64pow10", laid_internal_strconv_uint64pow10)] }
def InterpWaysSaid : Prop := interpWaysRow.holds Tryz.pinned (OpenSpec.ofChange interpWaysSpec)

/-- ITS FALSE NEIGHBOUR: 'it returns false'. Refute it at one input. -/
def interpWaysWrong : ChangeSpec := { name := "interpWays", fn := fun _ => fun
  | [d1, d2, d3, d4, d5, d6, d7] => { results := [.lit (.bool false)], args := [d1, d2, d3, d4, d5, d6, d7] }
  | _ => none }
def InterpWaysWrongFalsely : Prop := interpWaysRow.holds Tryz.pinned (OpenSpec.ofChange interpWaysWrong)

/-- 'quietuslaw21.InterpFuel': WHATEVER THE INPUT: true; the input reads as it did. -/
def interpFuelSpec : ChangeSpec := { name := "interpFuel", fn := fun _ => fun
  | [d1, d2, d3, d4, d5] => { results := [.lit (.bool true)], args := [d1, d2, d3, d4, d5] }
  | _ => none }
def interpFuelRow : OpenClaim := { program := "ytdlfmpmpmkffjaagreatdoor", sum := "33ab0ffcc79eda7ae4c57389117f757270e1cb5e331af604f5b76b5ba713037e", func := "quietus/quietuslaw21.InterpFuel", spec := "interpFuel", inPlace := ["internal/abi.NoEscape", "internal/bytealg.MakeNoZero"], unfollowed := true, recurses := true, named := ["internal/strconv.uint64pow10", "math/bits.deBruijn32tab", "math/bits.deBruijn64tab"], apart := false, laid := [("math/bits.deBruijn32tab", laid_math_bits_deBruijn32tab), ("math/bits.deBruijn64tab", laid_math_bits_deBruijn64tab), ("internal/strconv.uint64pow10", laid_internal_strconv_uint64pow10)] }
def InterpFuelSaid : Prop := interpFuelRow.holds Tryz.pinned (OpenSpec.ofChange interpFuelSpec)

/-- ITS FALSE NEIGHBOUR: 'it returns false'. Refute it at one input. -/
def interpFuelWrong : ChangeSpec := { name := "interpFuel", fn := fun _ => fun
  | [d1, d2, d3, d4, d5] => { results := [.lit (.bool false)], args := [d1, d2, d3, d4, d5] }
  | _ => none }
def InterpFuelWrongFalsely : Prop := interpFuelRow.holds Tryz.pinned (OpenSpec.ofChange interpFuelWrong)

/-- 'quietuslaw22.ModelRuns': WHATEVER THE INPUT: true; the input reads as it did. -/
def modelRunsSpec : ChangeSpec := { name := "modelRuns", fn := fun _ => fun
  | [] => { results := [.lit (.bool true)], args := [] }
  | _ => none }
def modelRunsRow : OpenClaim := { program := "ytdlfmpmpmkffjaagreatdoor", sum := "33ab0ffcc79eda7ae4c57389117f757270e1cb5e331af604f5b76b5ba713037e", func := "quietus/quietuslaw22.ModelRuns", spec := "modelRuns", inPlace := ["internal/abi.NoEscape", "internal/bytealg.MakeNoZero"], unfollowed := true, recurses := true, named := ["internal/strconv.uint64pow10", "math/bits.deBruijn32tab", "math/bits.deBruijn64tab"], apart := false, laid := [("math/bits.deBruijn32tab", laid_math_bits_deBruijn32tab), ("math/bits.deBruijn64tab", laid_math_bits_deBruijn64tab), ("internal/strconv.uint64pow10", laid_internal_strconv_uint64pow10)] }
def ModelRunsSaid : Prop := modelRunsRow.holds Tryz.pinned (OpenSpec.ofChange modelRunsSpec)

/-- ITS FALSE NEIGHBOUR: 'it returns false'. Refute it at one input. -/
def modelRunsWrong : ChangeSpec := { name := "modelRuns", fn := fun _ => fun
  | [] => { results := [.lit (.bool false)], args := [] }
  | _ => none }
def ModelRunsWrongFalsely : Prop := modelRunsRow.holds Tryz.pinned (OpenSpec.ofChange modelRunsWrong)

/-- 'quietuslaw22.ModelTells': WHATEVER THE INPUT: true; the input reads as it did. -/
def modelTellsSpec : ChangeSpec := { name := "modelTells", fn := fun _ => fun
  | [d1, d2, d3, d4, d5, d6] => { results := [.lit (.bool true)], args := [d1, d2, d3, d4, d5, d6] }
  | _ => none }
def modelTellsRow : OpenClaim := { program := "ytdlfmpmpmkffjaagreatdoor", sum := "33ab0ffcc79eda7ae4c57389117f757270e1cb5e331af604f5b76b5ba713037e", func := "quietus/quietuslaw22.ModelTells", spec := "modelTells", inPlace := ["internal/abi.NoEscape", "internal/bytealg.MakeNoZero"], unfollowed := true, recurses := true, named := ["internal/strconv.uint64pow10", "math/bits.deBruijn32tab", "math/bits.deBruijn64tab"], apart := false, laid := [("math/bits.deBruijn32tab", laid_math_bits_deBruijn32tab), ("math/bits.deBruijn64tab", laid_math_bits_deBruijn64tab), ("internal/strconv.uint64pow10", laid_internal_strconv_uint64pow10)] }
def ModelTellsSaid : Prop := modelTellsRow.holds Tryz.pinned (OpenSpec.ofChange modelTellsSpec)

/-- ITS FALSE NEIGHBOUR: 'it returns false'. Refute it at one input. -/
def modelTellsWrong : ChangeSpec := { name := "modelTells", fn := fun _ => fun
  | [d1, d2, d3, d4, d5, d6] => { results := [.lit (.bool false)], args := [d1, d2, d3, d4, d5, d6] }
  | _ => none }
def ModelTellsWrongFalsely : Prop := modelTellsRow.holds Tryz.pinned (OpenSpec.ofChange modelTellsWrong)

/-- 'quietuslaw22.ModelFails': WHATEVER THE INPUT: true; the input reads as it did. -/
def modelFailsSpec : ChangeSpec := { name := "modelFails", fn := fun _ => fun
  | [d1, d2, d3, d4, d5] => { results := [.lit (.bool true)], args := [d1, d2, d3, d4, d5] }
  | _ => none }
def modelFailsRow : OpenClaim := { program := "ytdlfmpmpmkffjaagreatdoor", sum := "33ab0ffcc79eda7ae4c57389117f757270e1cb5e331af604f5b76b5ba713037e", func := "quietus/quietuslaw22.ModelFails", spec := "modelFails", inPlace := ["internal/abi.NoEscape", "internal/bytealg.MakeNoZero"], unfollowed := true, recurses := true, named := ["internal/strconv.uint64pow10", "math/bits.deBruijn32tab", "math/bits.deBruijn64tab"], apart := false, laid := [("math/bits.deBruijn32tab", laid_math_bits_deBruijn32tab), ("math/bits.deBruijn64tab", laid_math_bits_deBruijn64tab), ("internal/strconv.uint64pow10", laid_internal_strconv_uint64pow10)] }
def ModelFailsSaid : Prop := modelFailsRow.holds Tryz.pinned (OpenSpec.ofChange modelFailsSpec)

/-- ITS FALSE NEIGHBOUR: 'it returns false'. Refute it at one input. -/
def modelFailsWrong : ChangeSpec := { name := "modelFails", fn := fun _ => fun
  | [d1, d2, d3, d4, d5] => { results := [.lit (.bool false)], args := [d1, d2, d3, d4, d5] }
  | _ => none }
def ModelFailsWrongFalsely : Prop := modelFailsRow.holds Tryz.pinned (OpenSpec.ofChange modelFailsWrong)

/- THE SECOND FORM. 'bulk': how many values and letters a reading holds, each counted each time it is reached (what is shared counts as often as it is met; a slice's spare places count too). A statement '..UptoSaid' is the law's where the arguments, and the package variables that the reading takes, are together of bulk at most 1048576: NARROWER than '..Said'. Prove '..Said' where nothing that the law and all that it calls make is longer than what came in: it says more and counts as full. Else prove '..UptoSaid'. A law counts once. -/
mutual
def uptoBulk {H : Type} : DataW H → Nat
  | .lit (.string bytes) => bytes.length + 1
  | .lit _ => 1
  | .nil => 1
  | .ptr d => uptoBulk d + 1
  | .slice elems spare => uptoBulkAll elems + uptoBulkAll spare + 1
  | .agg parts => uptoBulkAll parts + 1
  | .iface _ d => uptoBulk d + 1
  | .map entries => uptoBulkEntries entries + 1
  | .held _ => 1
def uptoBulkAll {H : Type} : List (DataW H) → Nat
  | [] => 0
  | d :: r => uptoBulk d + uptoBulkAll r
def uptoBulkEntries {H : Type} : List (Lit × DataW H) → Nat
  | [] => 0
  | x :: r => uptoBulkEntry x + uptoBulkEntries r
def uptoBulkEntry {H : Type} : Lit × DataW H → Nat
  | (.string bytes, d) => bytes.length + uptoBulk d + 1
  | (_, d) => uptoBulk d + 1
 end
def uptoSmall : (H : Type) → List (DataW H) → Bool := fun _ ds => decide (uptoBulkAll ds ≤ 1048576)
def OpenSpec.upto (s : _root_.Go.ChangeSpec) : _root_.Go.OpenSpec := { _root_.Go.OpenSpec.ofChange s with cond := some uptoSmall }

/-- 'quietuslaw21.InterpRuns', WHERE WHAT IT READS IS OF BULK AT MOST 1048576: true; the input reads as it did. -/
def interpRunsUptoRow : OpenClaim := { program := "ytdlfmpmpmkffjaagreatdoor", sum := "33ab0ffcc79eda7ae4c57389117f757270e1cb5e331af604f5b76b5ba713037e", func := "quietus/quietuslaw21.InterpRuns", spec := "interpRuns", inPlace := ["internal/abi.NoEscape", "internal/bytealg.MakeNoZero"], unfollowed := true, recurses := true, named := ["internal/strconv.uint64pow10", "math/bits.deBruijn32tab", "math/bits.deBruijn64tab"], apart := false, laid := [("math/bits.deBruijn32tab", laid_math_bits_deBruijn32tab), ("math/bits.deBruijn64tab", laid_math_bits_deBruijn64tab), ("internal/strconv.uint64pow10", laid_internal_strconv_uint64pow10)], narrowed := true }
def InterpRunsUptoSaid : Prop := interpRunsUptoRow.holds Tryz.pinned (OpenSpec.upto interpRunsSpec)

/-- 'quietuslaw21.InterpPlays', WHERE WHAT IT READS IS OF BULK AT MOST 1048576: true; the input reads as it did. -/
def interpPlaysUptoRow : OpenClaim := { program := "ytdlfmpmpmkffjaagreatdoor", sum := "33ab0ffcc79eda7ae4c57389117f757270e1cb5e331af604f5b76b5ba713037e", func := "quietus/quietuslaw21.InterpPlays", spec := "interpPlays", inPlace := ["internal/abi.NoEscape", "internal/bytealg.MakeNoZero"], unfollowed := true, recurses := true, named := ["internal/strconv.uint64pow10", "math/bits.deBruijn32tab", "math/bits.deBruijn64tab"], apart := false, laid := [("math/bits.deBruijn32tab", laid_math_bits_deBruijn32tab), ("math/bits.deBruijn64tab", laid_math_bits_deBruijn64tab), ("internal/strconv.uint64pow10", laid_internal_strconv_uint64pow10)], narrowed := true }
def InterpPlaysUptoSaid : Prop := interpPlaysUptoRow.holds Tryz.pinned (OpenSpec.upto interpPlaysSpec)

/-- 'quietuslaw21.InterpUndo', WHERE WHAT IT READS IS OF BULK AT MOST 1048576: true; the input reads as it did. -/
def interpUndoUptoRow : OpenClaim := { program := "ytdlfmpmpmkffjaagreatdoor", sum := "33ab0ffcc79eda7ae4c57389117f757270e1cb5e331af604f5b76b5ba713037e", func := "quietus/quietuslaw21.InterpUndo", spec := "interpUndo", inPlace := ["internal/abi.NoEscape", "internal/bytealg.MakeNoZero"], unfollowed := true, recurses := true, named := ["internal/strconv.uint64pow10", "math/bits.deBruijn32tab", "math/bits.deBruijn64tab"], apart := false, laid := [("math/bits.deBruijn32tab", laid_math_bits_deBruijn32tab), ("math/bits.deBruijn64tab", laid_math_bits_deBruijn64tab), ("internal/strconv.uint64pow10", laid_internal_strconv_uint64pow10)], narrowed := true }
def InterpUndoUptoSaid : Prop := interpUndoUptoRow.holds Tryz.pinned (OpenSpec.upto interpUndoSpec)

/-- 'quietuslaw21.InterpWays', WHERE WHAT IT READS IS OF BULK AT MOST 1048576: true; the input reads as it did. -/
def interpWaysUptoRow : OpenClaim := { program := "ytdlfmpmpmkffjaagreatdoor", sum := "33ab0ffcc79eda7ae4c57389117f757270e1cb5e331af604f5b76b5ba713037e", func := "quietus/quietuslaw21.InterpWays", spec := "interpWays", inPlace := ["internal/abi.NoEscape", "internal/bytealg.MakeNoZero"], unfollowed := true, recurses := true, named := ["internal/strconv.uint64pow10", "math/bits.deBruijn32tab", "math/bits.deBruijn64tab"], apart := false, laid := [("math/bits.deBruijn32tab", laid_math_bits_deBruijn32tab), ("math/bits.deBruijn64tab", laid_math_bits_deBruijn64tab), ("internal/strconv.uint64pow10", laid_internal_strconv_uint64pow10)], narrowed := true }
def InterpWaysUptoSaid : Prop := interpWaysUptoRow.holds Tryz.pinned (OpenSpec.upto interpWaysSpec)

/-- 'quietuslaw21.InterpFuel', WHERE WHAT IT READS IS OF BULK AT MOST 1048576: true; the input reads as it did. -/
def interpFuelUptoRow : OpenClaim := { program := "ytdlfmpmpmkffjaagreatdoor", sum := "33ab0ffcc79eda7ae4c57389117f757270e1cb5e331af604f5b76b5ba713037e", func := "quietus/quietuslaw21.InterpFuel", spec := "interpFuel", inPlace := ["internal/abi.NoEscape", "internal/bytealg.MakeNoZero"], unfollowed := true, recurses := true, named := ["internal/strconv.uint64pow10", "math/bits.deBruijn32tab", "math/bits.deBruijn64tab"], apart := false, laid := [("math/bits.deBruijn32tab", laid_math_bits_deBruijn32tab), ("math/bits.deBruijn64tab", laid_math_bits_deBruijn64tab), ("internal/strconv.uint64pow10", laid_internal_strconv_uint64pow10)], narrowed := true }
def InterpFuelUptoSaid : Prop := interpFuelUptoRow.holds Tryz.pinned (OpenSpec.upto interpFuelSpec)

/-- 'quietuslaw22.ModelRuns', WHERE WHAT IT READS IS OF BULK AT MOST 1048576: true; the input reads as it did. -/
def modelRunsUptoRow : OpenClaim := { program := "ytdlfmpmpmkffjaagreatdoor", sum := "33ab0ffcc79eda7ae4c57389117f757270e1cb5e331af604f5b76b5ba713037e", func := "quietus/quietuslaw22.ModelRuns", spec := "modelRuns", inPlace := ["internal/abi.NoEscape", "internal/bytealg.MakeNoZero"], unfollowed := true, recurses := true, named := ["internal/strconv.uint64pow10", "math/bits.deBruijn32tab", "math/bits.deBruijn64tab"], apart := false, laid := [("math/bits.deBruijn32tab", laid_math_bits_deBruijn32tab), ("math/bits.deBruijn64tab", laid_math_bits_deBruijn64tab), ("internal/strconv.uint64pow10", laid_internal_strconv_uint64pow10)], narrowed := true }
def ModelRunsUptoSaid : Prop := modelRunsUptoRow.holds Tryz.pinned (OpenSpec.upto modelRunsSpec)

/-- 'quietuslaw22.ModelTells', WHERE WHAT IT READS IS OF BULK AT MOST 1048576: true; the input reads as it did. -/
def modelTellsUptoRow : OpenClaim := { program := "ytdlfmpmpmkffjaagreatdoor", sum := "33ab0ffcc79eda7ae4c57389117f757270e1cb5e331af604f5b76b5ba713037e", func := "quietus/quietuslaw22.ModelTells", spec := "modelTells", inPlace := ["internal/abi.NoEscape", "internal/bytealg.MakeNoZero"], unfollowed := true, recurses := true, named := ["internal/strconv.uint64pow10", "math/bits.deBruijn32tab", "math/bits.deBruijn64tab"], apart := false, laid := [("math/bits.deBruijn32tab", laid_math_bits_deBruijn32tab), ("math/bits.deBruijn64tab", laid_math_bits_deBruijn64tab), ("internal/strconv.uint64pow10", laid_internal_strconv_uint64pow10)], narrowed := true }
def ModelTellsUptoSaid : Prop := modelTellsUptoRow.holds Tryz.pinned (OpenSpec.upto modelTellsSpec)

/-- 'quietuslaw22.ModelFails', WHERE WHAT IT READS IS OF BULK AT MOST 1048576: true; the input reads as it did. -/
def modelFailsUptoRow : OpenClaim := { program := "ytdlfmpmpmkffjaagreatdoor", sum := "33ab0ffcc79eda7ae4c57389117f757270e1cb5e331af604f5b76b5ba713037e", func := "quietus/quietuslaw22.ModelFails", spec := "modelFails", inPlace := ["internal/abi.NoEscape", "internal/bytealg.MakeNoZero"], unfollowed := true, recurses := true, named := ["internal/strconv.uint64pow10", "math/bits.deBruijn32tab", "math/bits.deBruijn64tab"], apart := false, laid := [("math/bits.deBruijn32tab", laid_math_bits_deBruijn32tab), ("math/bits.deBruijn64tab", laid_math_bits_deBruijn64tab), ("internal/strconv.uint64pow10", laid_internal_strconv_uint64pow10)], narrowed := true }
def ModelFailsUptoSaid : Prop := modelFailsUptoRow.holds Tryz.pinned (OpenSpec.upto modelFailsSpec)

end Rows
end Go.Proofs.YtdlfmpmpmkffjaaGreatDoor
