/-
  NARROWER THAN 'FOR EVERY INPUT', by the rows' own cells (each row's printed sentence says how): StateTells: laid · StatePuts: laid · StateBytes: laid · StateParses: laid · StateBack: laid · StateKeeps: laid · StateSets: laid · StateOrder: laid.
  DERIVED. THE GIVEN ROWS OF THIS SEAT. 8 by the template 'for every input the law returns true; each argument reads behind the call as it read before'; 0 by the template 'total and deterministic' (their statements: YteceenlfegnigaaGreatDoorTotals.lean).
  GIVEN WITH THE SEED: the statements are not yours to turn. If you find one false, say at which input.
  Laid BY PROGRAM, IN A SANDBOX (cutbox-rows.mjs): the forced cells as the released guide's own fill.sh prints them over the translation b521fa946db69889… (all of the seat's roots in one cut). By AI agents, Wed Nov 11 2026. No macro, syntax, notation, axiom, sorry.
-/
import Derived.Test.YteceenlfegnigaaGreatDoorChecked
import GoSem.PinnedTables
import GoSem.Claim
import GoSem.ClaimJoined
import GoSem.ClaimMapViews
import Derived.JoinedTies
import Derived.KernelRfl
namespace Go.Proofs.YteceenlfegnigaaGreatDoor
/- THE CELL 'sum', in the pinned program and in every row, IS THE sha256 OF THE DUMP (.gsa) THAT YteceenlfegnigaaGreatDoorProg.lean LOADS. Nothing in Lean hashes anything: it is a label: what it is worth is what the hold of that sum in a sandbox is worth. -/
noncomputable def Tryz.pinned : Pinned := { name := "yteceenlfegnigaagreatdoor", sum := "b521fa946db6988975c27a90b9bf27782313d4746e7a67e000a1fc3abf23d66f", checked := Tryz.checked }
namespace Rows
def none {H : Type} : Left H := { results := [], args := [] }

/- WHAT THE LISTED PACKAGE-LEVEL VARIABLES READ AS WHEN THE CALL BEGINS. Each datum BY PROGRAM (the guide's laid-datum.mjs) off the statement by which the dump's own 'gosem.cut.vars' lays the variable. In a bare row this is a premise. The card (YteceenlfegnigaaGreatDoorCards.lean) ties it to the program's text. -/
def laid_unicode_utf8_acceptRanges {H : Type} : DataW H := .agg [.agg [.lit (.int .u8 128), .lit (.int .u8 191)], .agg [.lit (.int .u8 160), .lit (.int .u8 191)], .agg [.lit (.int .u8 128), .lit (.int .u8 159)], .agg [.lit (.int .u8 144), .lit (.int .u8 191)], .agg [.lit (.int .u8 128), .lit (.int .u8 143)], .agg [.lit (.int .u8 0), .lit (.int .u8 0)], .agg [.lit (.int .u8 0), .lit (.int .u8 0)], .agg [.lit (.int .u8 0), .lit (.int .u8 0)], .agg [.lit (.int .u8 0), .lit (.int .u8 0)], .agg [.lit (.int .u8 0), .lit (.int .u8 0)], .agg [.lit (.int .u8 0), .lit (.int .u8 0)], .agg [.lit (.int .u8 0), .lit (.int .u8 0)], .agg [.lit (.int .u8 0), .lit (.int .u8 0)], .agg [.lit (.int .u8 0), .lit (.int .u8 0)], .agg [.lit (.int .u8 0), .lit (.int .u8 0)], .agg [.lit (.int .u8 0), .lit (.int .u8 0)]]
/-- One of Go's own tables, pinned by name: the form's constant. -/
def laid_unicode_utf8_first : DataW Unit := Go.Pinned.utf8First

/-- 'rescriptlaw22.StateTells': WHATEVER THE INPUT: true; the input reads as it did. -/
def stateTellsSpec : ChangeSpec := { name := "stateTells", fn := fun _ => fun
  | [d1, d2, d3, d4] => { results := [.lit (.bool true)], args := [d1, d2, d3, d4] }
  | _ => none }
def stateTellsRow : OpenClaim := { program := "yteceenlfegnigaagreatdoor", sum := "b521fa946db6988975c27a90b9bf27782313d4746e7a67e000a1fc3abf23d66f", func := "rescript/rescriptlaw22.StateTells", spec := "stateTells", inPlace := ["internal/abi.NoEscape", "internal/bytealg.MakeNoZero", "slices.overlaps[rescript/api.Slot]", "slices.overlaps[rescript/api.Acct]", "internal/bytealg.IndexByteString", "internal/bytealg.IndexString", "math/bits.Sub64"], unfollowed := true, recurses := true, named := ["unicode/utf8.first", "unicode/utf8.acceptRanges", "internal/bytealg.MaxLen"], apart := false, laid := [("unicode/utf8.acceptRanges", laid_unicode_utf8_acceptRanges), ("unicode/utf8.first", laid_unicode_utf8_first)] }
def StateTellsSaid : Prop := stateTellsRow.holds Tryz.pinned (OpenSpec.ofChange stateTellsSpec)

/-- ITS FALSE NEIGHBOUR: 'it returns false'. Refute it at one input. -/
def stateTellsWrong : ChangeSpec := { name := "stateTells", fn := fun _ => fun
  | [d1, d2, d3, d4] => { results := [.lit (.bool false)], args := [d1, d2, d3, d4] }
  | _ => none }
def StateTellsWrongFalsely : Prop := stateTellsRow.holds Tryz.pinned (OpenSpec.ofChange stateTellsWrong)

/-- 'rescriptlaw22.StatePuts': WHATEVER THE INPUT: true; the input reads as it did. -/
def statePutsSpec : ChangeSpec := { name := "statePuts", fn := fun _ => fun
  | [d1, d2, d3, d4] => { results := [.lit (.bool true)], args := [d1, d2, d3, d4] }
  | _ => none }
def statePutsRow : OpenClaim := { program := "yteceenlfegnigaagreatdoor", sum := "b521fa946db6988975c27a90b9bf27782313d4746e7a67e000a1fc3abf23d66f", func := "rescript/rescriptlaw22.StatePuts", spec := "statePuts", inPlace := ["internal/abi.NoEscape", "internal/bytealg.MakeNoZero", "slices.overlaps[rescript/api.Slot]", "slices.overlaps[rescript/api.Acct]", "internal/bytealg.IndexByteString", "internal/bytealg.IndexString", "math/bits.Sub64"], unfollowed := true, recurses := true, named := ["unicode/utf8.first", "unicode/utf8.acceptRanges", "internal/bytealg.MaxLen"], apart := false, laid := [("unicode/utf8.acceptRanges", laid_unicode_utf8_acceptRanges), ("unicode/utf8.first", laid_unicode_utf8_first)] }
def StatePutsSaid : Prop := statePutsRow.holds Tryz.pinned (OpenSpec.ofChange statePutsSpec)

/-- ITS FALSE NEIGHBOUR: 'it returns false'. Refute it at one input. -/
def statePutsWrong : ChangeSpec := { name := "statePuts", fn := fun _ => fun
  | [d1, d2, d3, d4] => { results := [.lit (.bool false)], args := [d1, d2, d3, d4] }
  | _ => none }
def StatePutsWrongFalsely : Prop := statePutsRow.holds Tryz.pinned (OpenSpec.ofChange statePutsWrong)

/-- 'rescriptlaw22.StateBytes': WHATEVER THE INPUT: true; the input reads as it did. -/
def stateBytesSpec : ChangeSpec := { name := "stateBytes", fn := fun _ => fun
  | [d] => { results := [.lit (.bool true)], args := [d] }
  | _ => none }
def stateBytesRow : OpenClaim := { program := "yteceenlfegnigaagreatdoor", sum := "b521fa946db6988975c27a90b9bf27782313d4746e7a67e000a1fc3abf23d66f", func := "rescript/rescriptlaw22.StateBytes", spec := "stateBytes", inPlace := ["internal/abi.NoEscape", "internal/bytealg.MakeNoZero", "slices.overlaps[rescript/api.Slot]", "slices.overlaps[rescript/api.Acct]", "internal/bytealg.IndexByteString", "internal/bytealg.IndexString", "math/bits.Sub64"], unfollowed := true, recurses := true, named := ["unicode/utf8.first", "unicode/utf8.acceptRanges", "internal/bytealg.MaxLen"], apart := false, laid := [("unicode/utf8.acceptRanges", laid_unicode_utf8_acceptRanges), ("unicode/utf8.first", laid_unicode_utf8_first)] }
def StateBytesSaid : Prop := stateBytesRow.holds Tryz.pinned (OpenSpec.ofChange stateBytesSpec)

/-- ITS FALSE NEIGHBOUR: 'it returns false'. Refute it at one input. -/
def stateBytesWrong : ChangeSpec := { name := "stateBytes", fn := fun _ => fun
  | [d] => { results := [.lit (.bool false)], args := [d] }
  | _ => none }
def StateBytesWrongFalsely : Prop := stateBytesRow.holds Tryz.pinned (OpenSpec.ofChange stateBytesWrong)

/-- 'rescriptlaw22.StateParses': WHATEVER THE INPUT: true; the input reads as it did. -/
def stateParsesSpec : ChangeSpec := { name := "stateParses", fn := fun _ => fun
  | [d] => { results := [.lit (.bool true)], args := [d] }
  | _ => none }
def stateParsesRow : OpenClaim := { program := "yteceenlfegnigaagreatdoor", sum := "b521fa946db6988975c27a90b9bf27782313d4746e7a67e000a1fc3abf23d66f", func := "rescript/rescriptlaw22.StateParses", spec := "stateParses", inPlace := ["internal/abi.NoEscape", "internal/bytealg.MakeNoZero", "slices.overlaps[rescript/api.Slot]", "slices.overlaps[rescript/api.Acct]", "internal/bytealg.IndexByteString", "internal/bytealg.IndexString", "math/bits.Sub64"], unfollowed := true, recurses := true, named := ["unicode/utf8.first", "unicode/utf8.acceptRanges", "internal/bytealg.MaxLen"], apart := false, laid := [("unicode/utf8.acceptRanges", laid_unicode_utf8_acceptRanges), ("unicode/utf8.first", laid_unicode_utf8_first)] }
def StateParsesSaid : Prop := stateParsesRow.holds Tryz.pinned (OpenSpec.ofChange stateParsesSpec)

/-- ITS FALSE NEIGHBOUR: 'it returns false'. Refute it at one input. -/
def stateParsesWrong : ChangeSpec := { name := "stateParses", fn := fun _ => fun
  | [d] => { results := [.lit (.bool false)], args := [d] }
  | _ => none }
def StateParsesWrongFalsely : Prop := stateParsesRow.holds Tryz.pinned (OpenSpec.ofChange stateParsesWrong)

/-- 'rescriptlaw22.StateBack': WHATEVER THE INPUT: true; the input reads as it did. -/
def stateBackSpec : ChangeSpec := { name := "stateBack", fn := fun _ => fun
  | [d1, d2] => { results := [.lit (.bool true)], args := [d1, d2] }
  | _ => none }
def stateBackRow : OpenClaim := { program := "yteceenlfegnigaagreatdoor", sum := "b521fa946db6988975c27a90b9bf27782313d4746e7a67e000a1fc3abf23d66f", func := "rescript/rescriptlaw22.StateBack", spec := "stateBack", inPlace := ["internal/abi.NoEscape", "internal/bytealg.MakeNoZero", "slices.overlaps[rescript/api.Slot]", "slices.overlaps[rescript/api.Acct]", "internal/bytealg.IndexByteString", "internal/bytealg.IndexString", "math/bits.Sub64"], unfollowed := true, recurses := true, named := ["unicode/utf8.first", "unicode/utf8.acceptRanges", "internal/bytealg.MaxLen"], apart := false, laid := [("unicode/utf8.acceptRanges", laid_unicode_utf8_acceptRanges), ("unicode/utf8.first", laid_unicode_utf8_first)] }
def StateBackSaid : Prop := stateBackRow.holds Tryz.pinned (OpenSpec.ofChange stateBackSpec)

/-- ITS FALSE NEIGHBOUR: 'it returns false'. Refute it at one input. -/
def stateBackWrong : ChangeSpec := { name := "stateBack", fn := fun _ => fun
  | [d1, d2] => { results := [.lit (.bool false)], args := [d1, d2] }
  | _ => none }
def StateBackWrongFalsely : Prop := stateBackRow.holds Tryz.pinned (OpenSpec.ofChange stateBackWrong)

/-- 'rescriptlaw22.StateKeeps': WHATEVER THE INPUT: true; the input reads as it did. -/
def stateKeepsSpec : ChangeSpec := { name := "stateKeeps", fn := fun _ => fun
  | [d1, d2, d3] => { results := [.lit (.bool true)], args := [d1, d2, d3] }
  | _ => none }
def stateKeepsRow : OpenClaim := { program := "yteceenlfegnigaagreatdoor", sum := "b521fa946db6988975c27a90b9bf27782313d4746e7a67e000a1fc3abf23d66f", func := "rescript/rescriptlaw22.StateKeeps", spec := "stateKeeps", inPlace := ["internal/abi.NoEscape", "internal/bytealg.MakeNoZero", "slices.overlaps[rescript/api.Slot]", "slices.overlaps[rescript/api.Acct]", "internal/bytealg.IndexByteString", "internal/bytealg.IndexString", "math/bits.Sub64"], unfollowed := true, recurses := true, named := ["unicode/utf8.first", "unicode/utf8.acceptRanges", "internal/bytealg.MaxLen"], apart := false, laid := [("unicode/utf8.acceptRanges", laid_unicode_utf8_acceptRanges), ("unicode/utf8.first", laid_unicode_utf8_first)] }
def StateKeepsSaid : Prop := stateKeepsRow.holds Tryz.pinned (OpenSpec.ofChange stateKeepsSpec)

/-- ITS FALSE NEIGHBOUR: 'it returns false'. Refute it at one input. -/
def stateKeepsWrong : ChangeSpec := { name := "stateKeeps", fn := fun _ => fun
  | [d1, d2, d3] => { results := [.lit (.bool false)], args := [d1, d2, d3] }
  | _ => none }
def StateKeepsWrongFalsely : Prop := stateKeepsRow.holds Tryz.pinned (OpenSpec.ofChange stateKeepsWrong)

/-- 'rescriptlaw22.StateSets': WHATEVER THE INPUT: true; the input reads as it did. -/
def stateSetsSpec : ChangeSpec := { name := "stateSets", fn := fun _ => fun
  | [d1, d2, d3, d4] => { results := [.lit (.bool true)], args := [d1, d2, d3, d4] }
  | _ => none }
def stateSetsRow : OpenClaim := { program := "yteceenlfegnigaagreatdoor", sum := "b521fa946db6988975c27a90b9bf27782313d4746e7a67e000a1fc3abf23d66f", func := "rescript/rescriptlaw22.StateSets", spec := "stateSets", inPlace := ["internal/abi.NoEscape", "internal/bytealg.MakeNoZero", "slices.overlaps[rescript/api.Slot]", "slices.overlaps[rescript/api.Acct]", "internal/bytealg.IndexByteString", "internal/bytealg.IndexString", "math/bits.Sub64"], unfollowed := true, recurses := true, named := ["unicode/utf8.first", "unicode/utf8.acceptRanges", "internal/bytealg.MaxLen"], apart := false, laid := [("unicode/utf8.acceptRanges", laid_unicode_utf8_acceptRanges), ("unicode/utf8.first", laid_unicode_utf8_first)] }
def StateSetsSaid : Prop := stateSetsRow.holds Tryz.pinned (OpenSpec.ofChange stateSetsSpec)

/-- ITS FALSE NEIGHBOUR: 'it returns false'. Refute it at one input. -/
def stateSetsWrong : ChangeSpec := { name := "stateSets", fn := fun _ => fun
  | [d1, d2, d3, d4] => { results := [.lit (.bool false)], args := [d1, d2, d3, d4] }
  | _ => none }
def StateSetsWrongFalsely : Prop := stateSetsRow.holds Tryz.pinned (OpenSpec.ofChange stateSetsWrong)

/-- 'rescriptlaw22.StateOrder': WHATEVER THE INPUT: true; the input reads as it did. -/
def stateOrderSpec : ChangeSpec := { name := "stateOrder", fn := fun _ => fun
  | [d1, d2, d3] => { results := [.lit (.bool true)], args := [d1, d2, d3] }
  | _ => none }
def stateOrderRow : OpenClaim := { program := "yteceenlfegnigaagreatdoor", sum := "b521fa946db6988975c27a90b9bf27782313d4746e7a67e000a1fc3abf23d66f", func := "rescript/rescriptlaw22.StateOrder", spec := "stateOrder", inPlace := ["internal/abi.NoEscape", "internal/bytealg.MakeNoZero", "slices.overlaps[rescript/api.Slot]", "slices.overlaps[rescript/api.Acct]", "internal/bytealg.IndexByteString", "internal/bytealg.IndexString", "math/bits.Sub64"], unfollowed := true, recurses := true, named := ["unicode/utf8.first", "unicode/utf8.acceptRanges", "internal/bytealg.MaxLen"], apart := false, laid := [("unicode/utf8.acceptRanges", laid_unicode_utf8_acceptRanges), ("unicode/utf8.first", laid_unicode_utf8_first)] }
def StateOrderSaid : Prop := stateOrderRow.holds Tryz.pinned (OpenSpec.ofChange stateOrderSpec)

/-- ITS FALSE NEIGHBOUR: 'it returns false'. Refute it at one input. -/
def stateOrderWrong : ChangeSpec := { name := "stateOrder", fn := fun _ => fun
  | [d1, d2, d3] => { results := [.lit (.bool false)], args := [d1, d2, d3] }
  | _ => none }
def StateOrderWrongFalsely : Prop := stateOrderRow.holds Tryz.pinned (OpenSpec.ofChange stateOrderWrong)

/- THE SECOND FORM. 'bulk': how many values and letters a reading holds, each counted each time it is reached (what is shared counts as often as it is met; a slice's spare places count too). A statement '..UptoSaid' is the law's where the arguments, and the package variables that the reading takes, are together of bulk at most 1048576: NARROWER than '..Said'. Prove '..Said' where nothing that the law and all that it calls make is longer than what came in: it says more and counts as full. Else prove '..UptoSaid'. A law counts once. -/
mutual
def uptoBulk {H : Type} : DataW H → Nat
  | .lit (.string bytes) => bytes.length + 1
  | .lit _ => 1
  | .nil => 1
  | .ptr d => uptoBulk d + 1
  | .slice elems spare => uptoBulkAll elems + uptoBulkAll spare + 1
  | .agg parts => uptoBulkAll parts + 1
  | .iface _ d => uptoBulk d + 1
  | .map entries => uptoBulkEntries entries + 1
  | .held _ => 1
def uptoBulkAll {H : Type} : List (DataW H) → Nat
  | [] => 0
  | d :: r => uptoBulk d + uptoBulkAll r
def uptoBulkEntries {H : Type} : List (Lit × DataW H) → Nat
  | [] => 0
  | x :: r => uptoBulkEntry x + uptoBulkEntries r
def uptoBulkEntry {H : Type} : Lit × DataW H → Nat
  | (.string bytes, d) => bytes.length + uptoBulk d + 1
  | (_, d) => uptoBulk d + 1
 end
def uptoSmall : (H : Type) → List (DataW H) → Bool := fun _ ds => decide (uptoBulkAll ds ≤ 1048576)
def OpenSpec.upto (s : _root_.Go.ChangeSpec) : _root_.Go.OpenSpec := { _root_.Go.OpenSpec.ofChange s with cond := some uptoSmall }

/-- 'rescriptlaw22.StateTells', WHERE WHAT IT READS IS OF BULK AT MOST 1048576: true; the input reads as it did. -/
def stateTellsUptoRow : OpenClaim := { program := "yteceenlfegnigaagreatdoor", sum := "b521fa946db6988975c27a90b9bf27782313d4746e7a67e000a1fc3abf23d66f", func := "rescript/rescriptlaw22.StateTells", spec := "stateTells", inPlace := ["internal/abi.NoEscape", "internal/bytealg.MakeNoZero", "slices.overlaps[rescript/api.Slot]", "slices.overlaps[rescript/api.Acct]", "internal/bytealg.IndexByteString", "internal/bytealg.IndexString", "math/bits.Sub64"], unfollowed := true, recurses := true, named := ["unicode/utf8.first", "unicode/utf8.acceptRanges", "internal/bytealg.MaxLen"], apart := false, laid := [("unicode/utf8.acceptRanges", laid_unicode_utf8_acceptRanges), ("unicode/utf8.first", laid_unicode_utf8_first)], narrowed := true }
def StateTellsUptoSaid : Prop := stateTellsUptoRow.holds Tryz.pinned (OpenSpec.upto stateTellsSpec)

/-- 'rescriptlaw22.StatePuts', WHERE WHAT IT READS IS OF BULK AT MOST 1048576: true; the input reads as it did. -/
def statePutsUptoRow : OpenClaim := { program := "yteceenlfegnigaagreatdoor", sum := "b521fa946db6988975c27a90b9bf27782313d4746e7a67e000a1fc3abf23d66f", func := "rescript/rescriptlaw22.StatePuts", spec := "statePuts", inPlace := ["internal/abi.NoEscape", "internal/bytealg.MakeNoZero", "slices.overlaps[rescript/api.Slot]", "slices.overlaps[rescript/api.Acct]", "internal/bytealg.IndexByteString", "internal/bytealg.IndexString", "math/bits.Sub64"], unfollowed := true, recurses := true, named := ["unicode/utf8.first", "unicode/utf8.acceptRanges", "internal/bytealg.MaxLen"], apart := false, laid := [("unicode/utf8.acceptRanges", laid_unicode_utf8_acceptRanges), ("unicode/utf8.first", laid_unicode_utf8_first)], narrowed := true }
def StatePutsUptoSaid : Prop := statePutsUptoRow.holds Tryz.pinned (OpenSpec.upto statePutsSpec)

/-- 'rescriptlaw22.StateBytes', WHERE WHAT IT READS IS OF BULK AT MOST 1048576: true; the input reads as it did. -/
def stateBytesUptoRow : OpenClaim := { program := "yteceenlfegnigaagreatdoor", sum := "b521fa946db6988975c27a90b9bf27782313d4746e7a67e000a1fc3abf23d66f", func := "rescript/rescriptlaw22.StateBytes", spec := "stateBytes", inPlace := ["internal/abi.NoEscape", "internal/bytealg.MakeNoZero", "slices.overlaps[rescript/api.Slot]", "slices.overlaps[rescript/api.Acct]", "internal/bytealg.IndexByteString", "internal/bytealg.IndexString", "math/bits.Sub64"], unfollowed := true, recurses := true, named := ["unicode/utf8.first", "unicode/utf8.acceptRanges", "internal/bytealg.MaxLen"], apart := false, laid := [("unicode/utf8.acceptRanges", laid_unicode_utf8_acceptRanges), ("unicode/utf8.first", laid_unicode_utf8_first)], narrowed := true }
def StateBytesUptoSaid : Prop := stateBytesUptoRow.holds Tryz.pinned (OpenSpec.upto stateBytesSpec)

/-- 'rescriptlaw22.StateParses', WHERE WHAT IT READS IS OF BULK AT MOST 1048576: true; the input reads as it did. -/
def stateParsesUptoRow : OpenClaim := { program := "yteceenlfegnigaagreatdoor", sum := "b521fa946db6988975c27a90b9bf27782313d4746e7a67e000a1fc3abf23d66f", func := "rescript/rescriptlaw22.StateParses", spec := "stateParses", inPlace := ["internal/abi.NoEscape", "internal/bytealg.MakeNoZero", "slices.overlaps[rescript/api.Slot]", "slices.overlaps[rescript/api.Acct]", "internal/bytealg.IndexByteString", "internal/bytealg.IndexString", "math/bits.Sub64"], unfollowed := true, recurses := true, named := ["unicode/utf8.first", "unicode/utf8.acceptRanges", "internal/bytealg.MaxLen"], apart := false, laid := [("unicode/utf8.acceptRanges", laid_unicode_utf8_acceptRanges), ("unicode/utf8.first", laid_unicode_utf8_first)], narrowed := true }
def StateParsesUptoSaid : Prop := stateParsesUptoRow.holds Tryz.pinned (OpenSpec.upto stateParsesSpec)

/-- 'rescriptlaw22.StateBack', WHERE WHAT IT READS IS OF BULK AT MOST 1048576: true; the input reads as it did. -/
def stateBackUptoRow : OpenClaim := { program := "yteceenlfegnigaagreatdoor", sum := "b521fa946db6988975c27a90b9bf27782313d4746e7a67e000a1fc3abf23d66f", func := "rescript/rescriptlaw22.StateBack", spec := "stateBack", inPlace := ["internal/abi.NoEscape", "internal/bytealg.MakeNoZero", "slices.overlaps[rescript/api.Slot]", "slices.overlaps[rescript/api.Acct]", "internal/bytealg.IndexByteString", "internal/bytealg.IndexString", "math/bits.Sub64"], unfollowed := true, recurses := true, named := ["unicode/utf8.first", "unicode/utf8.acceptRanges", "internal/bytealg.MaxLen"], apart := false, laid := [("unicode/utf8.acceptRanges", laid_unicode_utf8_acceptRanges), ("unicode/utf8.first", laid_unicode_utf8_first)], narrowed := true }
def StateBackUptoSaid : Prop := stateBackUptoRow.holds Tryz.pinned (OpenSpec.upto stateBackSpec)

/-- 'rescriptlaw22.StateKeeps', WHERE WHAT IT READS IS OF BULK AT MOST 1048576: true; the input reads as it did. -/
def stateKeepsUptoRow : OpenClaim := { program := "yteceenlfegnigaagreatdoor", sum := "b521fa946db6988975c27a90b9bf27782313d4746e7a67e000a1fc3abf23d66f", func := "rescript/rescriptlaw22.StateKeeps", spec := "stateKeeps", inPlace := ["internal/abi.NoEscape", "internal/bytealg.MakeNoZero", "slices.overlaps[rescript/api.Slot]", "slices.overlaps[rescript/api.Acct]", "internal/bytealg.IndexByteString", "internal/bytealg.IndexString", "math/bits.Sub64"], unfollowed := true, recurses := true, named := ["unicode/utf8.first", "unicode/utf8.acceptRanges", "internal/bytealg.MaxLen"], apart := false, laid := [("unicode/utf8.acceptRanges", laid_unicode_utf8_acceptRanges), ("unicode/utf8.first", laid_unicode_utf8_first)], narrowed := true }
def StateKeepsUptoSaid : Prop := stateKeepsUptoRow.holds Tryz.pinned (OpenSpec.upto stateKeepsSpec)

/-- 'rescriptlaw22.StateSets', WHERE WHAT IT READS IS OF BULK AT MOST 1048576: true; the input reads as it did. -/
def stateSetsUptoRow : OpenClaim := { program := "yteceenlfegnigaagreatdoor", sum := "b521fa946db6988975c27a90b9bf27782313d4746e7a67e000a1fc3abf23d66f", func := "rescript/rescriptlaw22.StateSets", spec := "stateSets", inPlace := ["internal/abi.NoEscape", "internal/bytealg.MakeNoZero", "slices.overlaps[rescript/api.Slot]", "slices.overlaps[rescript/api.Acct]", "internal/bytealg.IndexByteString", "internal/bytealg.IndexString", "math/bits.Sub64"], unfollowed := true, recurses := true, named := ["unicode/utf8.first", "unicode/utf8.acceptRanges", "internal/bytealg.MaxLen"], apart := false, laid := [("unicode/utf8.acceptRanges", laid_unicode_utf8_acceptRanges), ("unicode/utf8.first", laid_unicode_utf8_first)], narrowed := true }
def StateSetsUptoSaid : Prop := stateSetsUptoRow.holds Tryz.pinned (OpenSpec.upto stateSetsSpec)

/-- 'rescriptlaw22.StateOrder', WHERE WHAT IT READS IS OF BULK AT MOST 1048576: true; the input reads as it did. -/
def stateOrderUptoRow : OpenClaim := { program := "yteceenlfegnigaagreatdoor", sum := "b521fa946db6988975c27a90b9bf27782313d4746e7a67e000a1fc3abf23d66f", func := "rescript/rescriptlaw22.StateOrder", spec := "stateOrder", inPlace := ["internal/abi.NoEscape", "internal/bytealg.MakeNoZero", "slices.overlaps[rescript/api.Slot]", "slices.overlaps[rescript/api.Acct]", "internal/bytealg.IndexByteString", "internal/bytealg.IndexString", "math/bits.Sub64"], unfollowed := true, recurses := true, named := ["unicode/utf8.first", "unicode/utf8.acceptRanges", "internal/bytealg.MaxLen"], apart := false, laid := [("unicode/utf8.acceptRanges", laid_unicode_utf8_acceptRanges), ("unicode/utf8.first", laid_unicode_utf8_first)], narrowed := true }
def StateOrderUptoSaid : Prop := stateOrderUptoRow.holds Tryz.pinned (OpenSpec.upto stateOrderSpec)

end Rows
end Go.Proofs.YteceenlfegnigaaGreatDoor
