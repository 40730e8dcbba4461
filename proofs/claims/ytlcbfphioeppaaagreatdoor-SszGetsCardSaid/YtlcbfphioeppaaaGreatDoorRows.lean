/-
  NARROWER THAN 'FOR EVERY INPUT', by the rows' own cells (each row's printed sentence says how): SszPuts: loops, laid · SszGets: loops, laid · SszBack: loops, laid · SszOnly: loops, laid · SszApart: loops, laid · SszLists: loops, laid · MerkleTrees: laid · MerkleRoots: loops, laid · MerkleHalves: laid · MerkleZeros: laid · MerkleBytes: loops, laid · MerkleLists: loops, laid.
  DERIVED. THE GIVEN ROWS OF THIS SEAT. 12 by the template 'for every input the law returns true; each argument reads behind the call as it read before'; 0 by the template 'total and deterministic' (their statements: YtlcbfphioeppaaaGreatDoorTotals.lean).
  GIVEN WITH THE SEED: the statements are not yours to turn. If you find one false, say at which input.
  Laid BY PROGRAM, IN A SANDBOX (cutbox-rows.mjs): the forced cells as the released guide's own fill.sh prints them over the translation 129083fc73715f6c… (all of the seat's roots in one cut). By AI agents, Wed Nov 11 2026. No macro, syntax, notation, axiom, sorry.
-/
import Derived.Test.YtlcbfphioeppaaaGreatDoorChecked
import GoSem.PinnedTables
import GoSem.Claim
import GoSem.ClaimJoined
import GoSem.ClaimMapViews
import Derived.JoinedTies
import Derived.KernelRfl
namespace Go.Proofs.YtlcbfphioeppaaaGreatDoor
/- THE CELL 'sum', in the pinned program and in every row, IS THE sha256 OF THE DUMP (.gsa) THAT YtlcbfphioeppaaaGreatDoorProg.lean LOADS. Nothing in Lean hashes anything: it is a label: what it is worth is what the hold of that sum in a sandbox is worth. -/
noncomputable def Tryz.pinned : Pinned := { name := "ytlcbfphioeppaaagreatdoor", sum := "129083fc73715f6cc4946bdb727d41517fdd57a0076483c89f1f17036e41fd11", checked := Tryz.checked }
namespace Rows
def none {H : Type} : Left H := { results := [], args := [] }

/- WHAT THE LISTED PACKAGE-LEVEL VARIABLES READ AS WHEN THE CALL BEGINS. Each datum BY PROGRAM (the guide's laid-datum.mjs) off the statement by which the dump's own 'gosem.cut.vars' lays the variable. In a bare row this is a premise. The card (YtlcbfphioeppaaaGreatDoorCards.lean) ties it to the program's text. -/
def laid_unicode_utf8_acceptRanges {H : Type} : DataW H := .agg [.agg [.lit (.int .u8 128), .lit (.int .u8 191)], .agg [.lit (.int .u8 160), .lit (.int .u8 191)], .agg [.lit (.int .u8 128), .lit (.int .u8 159)], .agg [.lit (.int .u8 144), .lit (.int .u8 191)], .agg [.lit (.int .u8 128), .lit (.int .u8 143)], .agg [.lit (.int .u8 0), .lit (.int .u8 0)], .agg [.lit (.int .u8 0), .lit (.int .u8 0)], .agg [.lit (.int .u8 0), .lit (.int .u8 0)], .agg [.lit (.int .u8 0), .lit (.int .u8 0)], .agg [.lit (.int .u8 0), .lit (.int .u8 0)], .agg [.lit (.int .u8 0), .lit (.int .u8 0)], .agg [.lit (.int .u8 0), .lit (.int .u8 0)], .agg [.lit (.int .u8 0), .lit (.int .u8 0)], .agg [.lit (.int .u8 0), .lit (.int .u8 0)], .agg [.lit (.int .u8 0), .lit (.int .u8 0)], .agg [.lit (.int .u8 0), .lit (.int .u8 0)]]
/-- One of Go's own tables, pinned by name: the form's constant. -/
def laid_unicode_utf8_first : DataW Unit := Go.Pinned.utf8First

/-- 'rescriptlaw08.SszPuts': WHATEVER THE INPUT: true; the input reads as it did. -/
def sszPutsSpec : ChangeSpec := { name := "sszPuts", fn := fun _ => fun
  | [d1, d2] => { results := [.lit (.bool true)], args := [d1, d2] }
  | _ => none }
def sszPutsRow : OpenClaim := { program := "ytlcbfphioeppaaagreatdoor", sum := "129083fc73715f6cc4946bdb727d41517fdd57a0076483c89f1f17036e41fd11", func := "rescript/rescriptlaw08.SszPuts", spec := "sszPuts", inPlace := ["internal/bytealg.IndexByteString", "internal/bytealg.IndexString", "math/bits.Sub64", "internal/abi.NoEscape", "internal/bytealg.MakeNoZero"], unfollowed := true, recurses := true, named := ["unicode/utf8.first", "unicode/utf8.acceptRanges", "internal/bytealg.MaxLen"], loops := true, apart := false, laid := [("unicode/utf8.acceptRanges", laid_unicode_utf8_acceptRanges), ("unicode/utf8.first", laid_unicode_utf8_first)] }
def SszPutsSaid : Prop := sszPutsRow.holds Tryz.pinned (OpenSpec.ofChange sszPutsSpec)

/-- ITS FALSE NEIGHBOUR: 'it returns false'. Refute it at one input. -/
def sszPutsWrong : ChangeSpec := { name := "sszPuts", fn := fun _ => fun
  | [d1, d2] => { results := [.lit (.bool false)], args := [d1, d2] }
  | _ => none }
def SszPutsWrongFalsely : Prop := sszPutsRow.holds Tryz.pinned (OpenSpec.ofChange sszPutsWrong)

/-- 'rescriptlaw08.SszGets': WHATEVER THE INPUT: true; the input reads as it did. -/
def sszGetsSpec : ChangeSpec := { name := "sszGets", fn := fun _ => fun
  | [d1, d2] => { results := [.lit (.bool true)], args := [d1, d2] }
  | _ => none }
def sszGetsRow : OpenClaim := { program := "ytlcbfphioeppaaagreatdoor", sum := "129083fc73715f6cc4946bdb727d41517fdd57a0076483c89f1f17036e41fd11", func := "rescript/rescriptlaw08.SszGets", spec := "sszGets", inPlace := ["internal/bytealg.IndexByteString", "internal/bytealg.IndexString", "math/bits.Sub64", "internal/abi.NoEscape", "internal/bytealg.MakeNoZero"], unfollowed := true, recurses := true, named := ["unicode/utf8.first", "unicode/utf8.acceptRanges", "internal/bytealg.MaxLen"], loops := true, apart := false, laid := [("unicode/utf8.acceptRanges", laid_unicode_utf8_acceptRanges), ("unicode/utf8.first", laid_unicode_utf8_first)] }
def SszGetsSaid : Prop := sszGetsRow.holds Tryz.pinned (OpenSpec.ofChange sszGetsSpec)

/-- ITS FALSE NEIGHBOUR: 'it returns false'. Refute it at one input. -/
def sszGetsWrong : ChangeSpec := { name := "sszGets", fn := fun _ => fun
  | [d1, d2] => { results := [.lit (.bool false)], args := [d1, d2] }
  | _ => none }
def SszGetsWrongFalsely : Prop := sszGetsRow.holds Tryz.pinned (OpenSpec.ofChange sszGetsWrong)

/-- 'rescriptlaw08.SszBack': WHATEVER THE INPUT: true; the input reads as it did. -/
def sszBackSpec : ChangeSpec := { name := "sszBack", fn := fun _ => fun
  | [d1, d2] => { results := [.lit (.bool true)], args := [d1, d2] }
  | _ => none }
def sszBackRow : OpenClaim := { program := "ytlcbfphioeppaaagreatdoor", sum := "129083fc73715f6cc4946bdb727d41517fdd57a0076483c89f1f17036e41fd11", func := "rescript/rescriptlaw08.SszBack", spec := "sszBack", inPlace := ["internal/bytealg.IndexByteString", "internal/bytealg.IndexString", "math/bits.Sub64", "internal/abi.NoEscape", "internal/bytealg.MakeNoZero"], unfollowed := true, recurses := true, named := ["unicode/utf8.first", "unicode/utf8.acceptRanges", "internal/bytealg.MaxLen"], loops := true, apart := false, laid := [("unicode/utf8.acceptRanges", laid_unicode_utf8_acceptRanges), ("unicode/utf8.first", laid_unicode_utf8_first)] }
def SszBackSaid : Prop := sszBackRow.holds Tryz.pinned (OpenSpec.ofChange sszBackSpec)

/-- ITS FALSE NEIGHBOUR: 'it returns false'. Refute it at one input. -/
def sszBackWrong : ChangeSpec := { name := "sszBack", fn := fun _ => fun
  | [d1, d2] => { results := [.lit (.bool false)], args := [d1, d2] }
  | _ => none }
def SszBackWrongFalsely : Prop := sszBackRow.holds Tryz.pinned (OpenSpec.ofChange sszBackWrong)

/-- 'rescriptlaw08.SszOnly': WHATEVER THE INPUT: true; the input reads as it did. -/
def sszOnlySpec : ChangeSpec := { name := "sszOnly", fn := fun _ => fun
  | [d1, d2] => { results := [.lit (.bool true)], args := [d1, d2] }
  | _ => none }
def sszOnlyRow : OpenClaim := { program := "ytlcbfphioeppaaagreatdoor", sum := "129083fc73715f6cc4946bdb727d41517fdd57a0076483c89f1f17036e41fd11", func := "rescript/rescriptlaw08.SszOnly", spec := "sszOnly", inPlace := ["internal/bytealg.IndexByteString", "internal/bytealg.IndexString", "math/bits.Sub64", "internal/abi.NoEscape", "internal/bytealg.MakeNoZero"], unfollowed := true, recurses := true, named := ["unicode/utf8.first", "unicode/utf8.acceptRanges", "internal/bytealg.MaxLen"], loops := true, apart := false, laid := [("unicode/utf8.acceptRanges", laid_unicode_utf8_acceptRanges), ("unicode/utf8.first", laid_unicode_utf8_first)] }
def SszOnlySaid : Prop := sszOnlyRow.holds Tryz.pinned (OpenSpec.ofChange sszOnlySpec)

/-- ITS FALSE NEIGHBOUR: 'it returns false'. Refute it at one input. -/
def sszOnlyWrong : ChangeSpec := { name := "sszOnly", fn := fun _ => fun
  | [d1, d2] => { results := [.lit (.bool false)], args := [d1, d2] }
  | _ => none }
def SszOnlyWrongFalsely : Prop := sszOnlyRow.holds Tryz.pinned (OpenSpec.ofChange sszOnlyWrong)

/-- 'rescriptlaw08.SszApart': WHATEVER THE INPUT: true; the input reads as it did. -/
def sszApartSpec : ChangeSpec := { name := "sszApart", fn := fun _ => fun
  | [d1, d2, d3] => { results := [.lit (.bool true)], args := [d1, d2, d3] }
  | _ => none }
def sszApartRow : OpenClaim := { program := "ytlcbfphioeppaaagreatdoor", sum := "129083fc73715f6cc4946bdb727d41517fdd57a0076483c89f1f17036e41fd11", func := "rescript/rescriptlaw08.SszApart", spec := "sszApart", inPlace := ["internal/bytealg.IndexByteString", "internal/bytealg.IndexString", "math/bits.Sub64", "internal/abi.NoEscape", "internal/bytealg.MakeNoZero"], unfollowed := true, recurses := true, named := ["unicode/utf8.first", "unicode/utf8.acceptRanges", "internal/bytealg.MaxLen"], loops := true, apart := false, laid := [("unicode/utf8.acceptRanges", laid_unicode_utf8_acceptRanges), ("unicode/utf8.first", laid_unicode_utf8_first)] }
def SszApartSaid : Prop := sszApartRow.holds Tryz.pinned (OpenSpec.ofChange sszApartSpec)

/-- ITS FALSE NEIGHBOUR: 'it returns false'. Refute it at one input. -/
def sszApartWrong : ChangeSpec := { name := "sszApart", fn := fun _ => fun
  | [d1, d2, d3] => { results := [.lit (.bool false)], args := [d1, d2, d3] }
  | _ => none }
def SszApartWrongFalsely : Prop := sszApartRow.holds Tryz.pinned (OpenSpec.ofChange sszApartWrong)

/-- 'rescriptlaw08.SszLists': WHATEVER THE INPUT: true; the input reads as it did. -/
def sszListsSpec : ChangeSpec := { name := "sszLists", fn := fun _ => fun
  | [d1, d2] => { results := [.lit (.bool true)], args := [d1, d2] }
  | _ => none }
def sszListsRow : OpenClaim := { program := "ytlcbfphioeppaaagreatdoor", sum := "129083fc73715f6cc4946bdb727d41517fdd57a0076483c89f1f17036e41fd11", func := "rescript/rescriptlaw08.SszLists", spec := "sszLists", inPlace := ["internal/bytealg.IndexByteString", "internal/bytealg.IndexString", "math/bits.Sub64", "internal/abi.NoEscape", "internal/bytealg.MakeNoZero"], unfollowed := true, recurses := true, named := ["unicode/utf8.first", "unicode/utf8.acceptRanges", "internal/bytealg.MaxLen"], loops := true, apart := false, laid := [("unicode/utf8.acceptRanges", laid_unicode_utf8_acceptRanges), ("unicode/utf8.first", laid_unicode_utf8_first)] }
def SszListsSaid : Prop := sszListsRow.holds Tryz.pinned (OpenSpec.ofChange sszListsSpec)

/-- ITS FALSE NEIGHBOUR: 'it returns false'. Refute it at one input. -/
def sszListsWrong : ChangeSpec := { name := "sszLists", fn := fun _ => fun
  | [d1, d2] => { results := [.lit (.bool false)], args := [d1, d2] }
  | _ => none }
def SszListsWrongFalsely : Prop := sszListsRow.holds Tryz.pinned (OpenSpec.ofChange sszListsWrong)

/-- 'rescriptlaw09.MerkleTrees': WHATEVER THE INPUT: true; the input reads as it did. -/
def merkleTreesSpec : ChangeSpec := { name := "merkleTrees", fn := fun _ => fun
  | [d1, d2, d3, d4] => { results := [.lit (.bool true)], args := [d1, d2, d3, d4] }
  | _ => none }
def merkleTreesRow : OpenClaim := { program := "ytlcbfphioeppaaagreatdoor", sum := "129083fc73715f6cc4946bdb727d41517fdd57a0076483c89f1f17036e41fd11", func := "rescript/rescriptlaw09.MerkleTrees", spec := "merkleTrees", inPlace := ["internal/bytealg.IndexByteString", "internal/bytealg.IndexString", "math/bits.Sub64", "internal/abi.NoEscape", "internal/bytealg.MakeNoZero"], unfollowed := true, recurses := true, named := ["unicode/utf8.first", "unicode/utf8.acceptRanges", "internal/bytealg.MaxLen"], apart := false, laid := [("unicode/utf8.acceptRanges", laid_unicode_utf8_acceptRanges), ("unicode/utf8.first", laid_unicode_utf8_first)] }
def MerkleTreesSaid : Prop := merkleTreesRow.holds Tryz.pinned (OpenSpec.ofChange merkleTreesSpec)

/-- ITS FALSE NEIGHBOUR: 'it returns false'. Refute it at one input. -/
def merkleTreesWrong : ChangeSpec := { name := "merkleTrees", fn := fun _ => fun
  | [d1, d2, d3, d4] => { results := [.lit (.bool false)], args := [d1, d2, d3, d4] }
  | _ => none }
def MerkleTreesWrongFalsely : Prop := merkleTreesRow.holds Tryz.pinned (OpenSpec.ofChange merkleTreesWrong)

/-- 'rescriptlaw09.MerkleRoots': WHATEVER THE INPUT: true; the input reads as it did. -/
def merkleRootsSpec : ChangeSpec := { name := "merkleRoots", fn := fun _ => fun
  | [d1, d2] => { results := [.lit (.bool true)], args := [d1, d2] }
  | _ => none }
def merkleRootsRow : OpenClaim := { program := "ytlcbfphioeppaaagreatdoor", sum := "129083fc73715f6cc4946bdb727d41517fdd57a0076483c89f1f17036e41fd11", func := "rescript/rescriptlaw09.MerkleRoots", spec := "merkleRoots", inPlace := ["internal/bytealg.IndexByteString", "internal/bytealg.IndexString", "math/bits.Sub64", "internal/abi.NoEscape", "internal/bytealg.MakeNoZero"], unfollowed := true, recurses := true, named := ["unicode/utf8.first", "unicode/utf8.acceptRanges", "internal/bytealg.MaxLen"], loops := true, apart := false, laid := [("unicode/utf8.acceptRanges", laid_unicode_utf8_acceptRanges), ("unicode/utf8.first", laid_unicode_utf8_first)] }
def MerkleRootsSaid : Prop := merkleRootsRow.holds Tryz.pinned (OpenSpec.ofChange merkleRootsSpec)

/-- ITS FALSE NEIGHBOUR: 'it returns false'. Refute it at one input. -/
def merkleRootsWrong : ChangeSpec := { name := "merkleRoots", fn := fun _ => fun
  | [d1, d2] => { results := [.lit (.bool false)], args := [d1, d2] }
  | _ => none }
def MerkleRootsWrongFalsely : Prop := merkleRootsRow.holds Tryz.pinned (OpenSpec.ofChange merkleRootsWrong)

/-- 'rescriptlaw09.MerkleHalves': WHATEVER THE INPUT: true; the input reads as it did. -/
def merkleHalvesSpec : ChangeSpec := { name := "merkleHalves", fn := fun _ => fun
  | [d1, d2] => { results := [.lit (.bool true)], args := [d1, d2] }
  | _ => none }
def merkleHalvesRow : OpenClaim := { program := "ytlcbfphioeppaaagreatdoor", sum := "129083fc73715f6cc4946bdb727d41517fdd57a0076483c89f1f17036e41fd11", func := "rescript/rescriptlaw09.MerkleHalves", spec := "merkleHalves", inPlace := ["internal/bytealg.IndexByteString", "internal/bytealg.IndexString", "math/bits.Sub64", "internal/abi.NoEscape", "internal/bytealg.MakeNoZero"], unfollowed := true, recurses := true, named := ["unicode/utf8.first", "unicode/utf8.acceptRanges", "internal/bytealg.MaxLen"], apart := false, laid := [("unicode/utf8.acceptRanges", laid_unicode_utf8_acceptRanges), ("unicode/utf8.first", laid_unicode_utf8_first)] }
def MerkleHalvesSaid : Prop := merkleHalvesRow.holds Tryz.pinned (OpenSpec.ofChange merkleHalvesSpec)

/-- ITS FALSE NEIGHBOUR: 'it returns false'. Refute it at one input. -/
def merkleHalvesWrong : ChangeSpec := { name := "merkleHalves", fn := fun _ => fun
  | [d1, d2] => { results := [.lit (.bool false)], args := [d1, d2] }
  | _ => none }
def MerkleHalvesWrongFalsely : Prop := merkleHalvesRow.holds Tryz.pinned (OpenSpec.ofChange merkleHalvesWrong)

/-- 'rescriptlaw09.MerkleZeros': WHATEVER THE INPUT: true; the input reads as it did. -/
def merkleZerosSpec : ChangeSpec := { name := "merkleZeros", fn := fun _ => fun
  | [d1, d2] => { results := [.lit (.bool true)], args := [d1, d2] }
  | _ => none }
def merkleZerosRow : OpenClaim := { program := "ytlcbfphioeppaaagreatdoor", sum := "129083fc73715f6cc4946bdb727d41517fdd57a0076483c89f1f17036e41fd11", func := "rescript/rescriptlaw09.MerkleZeros", spec := "merkleZeros", inPlace := ["internal/bytealg.IndexByteString", "internal/bytealg.IndexString", "math/bits.Sub64", "internal/abi.NoEscape", "internal/bytealg.MakeNoZero"], unfollowed := true, recurses := true, named := ["unicode/utf8.first", "unicode/utf8.acceptRanges", "internal/bytealg.MaxLen"], apart := false, laid := [("unicode/utf8.acceptRanges", laid_unicode_utf8_acceptRanges), ("unicode/utf8.first", laid_unicode_utf8_first)] }
def MerkleZerosSaid : Prop := merkleZerosRow.holds Tryz.pinned (OpenSpec.ofChange merkleZerosSpec)

/-- ITS FALSE NEIGHBOUR: 'it returns false'. Refute it at one input. -/
def merkleZerosWrong : ChangeSpec := { name := "merkleZeros", fn := fun _ => fun
  | [d1, d2] => { results := [.lit (.bool false)], args := [d1, d2] }
  | _ => none }
def MerkleZerosWrongFalsely : Prop := merkleZerosRow.holds Tryz.pinned (OpenSpec.ofChange merkleZerosWrong)

/-- 'rescriptlaw09.MerkleBytes': WHATEVER THE INPUT: true; the input reads as it did. -/
def merkleBytesSpec : ChangeSpec := { name := "merkleBytes", fn := fun _ => fun
  | [d1, d2, d3] => { results := [.lit (.bool true)], args := [d1, d2, d3] }
  | _ => none }
def merkleBytesRow : OpenClaim := { program := "ytlcbfphioeppaaagreatdoor", sum := "129083fc73715f6cc4946bdb727d41517fdd57a0076483c89f1f17036e41fd11", func := "rescript/rescriptlaw09.MerkleBytes", spec := "merkleBytes", inPlace := ["internal/bytealg.IndexByteString", "internal/bytealg.IndexString", "math/bits.Sub64", "internal/abi.NoEscape", "internal/bytealg.MakeNoZero"], unfollowed := true, recurses := true, named := ["unicode/utf8.first", "unicode/utf8.acceptRanges", "internal/bytealg.MaxLen"], loops := true, apart := false, laid := [("unicode/utf8.acceptRanges", laid_unicode_utf8_acceptRanges), ("unicode/utf8.first", laid_unicode_utf8_first)] }
def MerkleBytesSaid : Prop := merkleBytesRow.holds Tryz.pinned (OpenSpec.ofChange merkleBytesSpec)

/-- ITS FALSE NEIGHBOUR: 'it returns false'. Refute it at one input. -/
def merkleBytesWrong : ChangeSpec := { name := "merkleBytes", fn := fun _ => fun
  | [d1, d2, d3] => { results := [.lit (.bool false)], args := [d1, d2, d3] }
  | _ => none }
def MerkleBytesWrongFalsely : Prop := merkleBytesRow.holds Tryz.pinned (OpenSpec.ofChange merkleBytesWrong)

/-- 'rescriptlaw09.MerkleLists': WHATEVER THE INPUT: true; the input reads as it did. -/
def merkleListsSpec : ChangeSpec := { name := "merkleLists", fn := fun _ => fun
  | [d1, d2] => { results := [.lit (.bool true)], args := [d1, d2] }
  | _ => none }
def merkleListsRow : OpenClaim := { program := "ytlcbfphioeppaaagreatdoor", sum := "129083fc73715f6cc4946bdb727d41517fdd57a0076483c89f1f17036e41fd11", func := "rescript/rescriptlaw09.MerkleLists", spec := "merkleLists", inPlace := ["internal/bytealg.IndexByteString", "internal/bytealg.IndexString", "math/bits.Sub64", "internal/abi.NoEscape", "internal/bytealg.MakeNoZero"], unfollowed := true, recurses := true, named := ["unicode/utf8.first", "unicode/utf8.acceptRanges", "internal/bytealg.MaxLen"], loops := true, apart := false, laid := [("unicode/utf8.acceptRanges", laid_unicode_utf8_acceptRanges), ("unicode/utf8.first", laid_unicode_utf8_first)] }
def MerkleListsSaid : Prop := merkleListsRow.holds Tryz.pinned (OpenSpec.ofChange merkleListsSpec)

/-- ITS FALSE NEIGHBOUR: 'it returns false'. Refute it at one input. -/
def merkleListsWrong : ChangeSpec := { name := "merkleLists", fn := fun _ => fun
  | [d1, d2] => { results := [.lit (.bool false)], args := [d1, d2] }
  | _ => none }
def MerkleListsWrongFalsely : Prop := merkleListsRow.holds Tryz.pinned (OpenSpec.ofChange merkleListsWrong)

/- THE SECOND FORM. 'bulk': how many values and letters a reading holds, each counted each time it is reached (what is shared counts as often as it is met; a slice's spare places count too). A statement '..UptoSaid' is the law's where the arguments, and the package variables that the reading takes, are together of bulk at most 1048576: NARROWER than '..Said'. Prove '..Said' where nothing that the law and all that it calls make is longer than what came in: it says more and counts as full. Else prove '..UptoSaid'. A law counts once. -/
mutual
def uptoBulk {H : Type} : DataW H → Nat
  | .lit (.string bytes) => bytes.length + 1
  | .lit _ => 1
  | .nil => 1
  | .ptr d => uptoBulk d + 1
  | .slice elems spare => uptoBulkAll elems + uptoBulkAll spare + 1
  | .agg parts => uptoBulkAll parts + 1
  | .iface _ d => uptoBulk d + 1
  | .map entries => uptoBulkEntries entries + 1
  | .held _ => 1
def uptoBulkAll {H : Type} : List (DataW H) → Nat
  | [] => 0
  | d :: r => uptoBulk d + uptoBulkAll r
def uptoBulkEntries {H : Type} : List (Lit × DataW H) → Nat
  | [] => 0
  | x :: r => uptoBulkEntry x + uptoBulkEntries r
def uptoBulkEntry {H : Type} : Lit × DataW H → Nat
  | (.string bytes, d) => bytes.length + uptoBulk d + 1
  | (_, d) => uptoBulk d + 1
 end
def uptoSmall : (H : Type) → List (DataW H) → Bool := fun _ ds => decide (uptoBulkAll ds ≤ 1048576)
def OpenSpec.upto (s : _root_.Go.ChangeSpec) : _root_.Go.OpenSpec := { _root_.Go.OpenSpec.ofChange s with cond := some uptoSmall }

/-- 'rescriptlaw08.SszPuts', WHERE WHAT IT READS IS OF BULK AT MOST 1048576: true; the input reads as it did. -/
def sszPutsUptoRow : OpenClaim := { program := "ytlcbfphioeppaaagreatdoor", sum := "129083fc73715f6cc4946bdb727d41517fdd57a0076483c89f1f17036e41fd11", func := "rescript/rescriptlaw08.SszPuts", spec := "sszPuts", inPlace := ["internal/bytealg.IndexByteString", "internal/bytealg.IndexString", "math/bits.Sub64", "internal/abi.NoEscape", "internal/bytealg.MakeNoZero"], unfollowed := true, recurses := true, named := ["unicode/utf8.first", "unicode/utf8.acceptRanges", "internal/bytealg.MaxLen"], loops := true, apart := false, laid := [("unicode/utf8.acceptRanges", laid_unicode_utf8_acceptRanges), ("unicode/utf8.first", laid_unicode_utf8_first)], narrowed := true }
def SszPutsUptoSaid : Prop := sszPutsUptoRow.holds Tryz.pinned (OpenSpec.upto sszPutsSpec)

/-- 'rescriptlaw08.SszGets', WHERE WHAT IT READS IS OF BULK AT MOST 1048576: true; the input reads as it did. -/
def sszGetsUptoRow : OpenClaim := { program := "ytlcbfphioeppaaagreatdoor", sum := "129083fc73715f6cc4946bdb727d41517fdd57a0076483c89f1f17036e41fd11", func := "rescript/rescriptlaw08.SszGets", spec := "sszGets", inPlace := ["internal/bytealg.IndexByteString", "internal/bytealg.IndexString", "math/bits.Sub64", "internal/abi.NoEscape", "internal/bytealg.MakeNoZero"], unfollowed := true, recurses := true, named := ["unicode/utf8.first", "unicode/utf8.acceptRanges", "internal/bytealg.MaxLen"], loops := true, apart := false, laid := [("unicode/utf8.acceptRanges", laid_unicode_utf8_acceptRanges), ("unicode/utf8.first", laid_unicode_utf8_first)], narrowed := true }
def SszGetsUptoSaid : Prop := sszGetsUptoRow.holds Tryz.pinned (OpenSpec.upto sszGetsSpec)

/-- 'rescriptlaw08.SszBack', WHERE WHAT IT READS IS OF BULK AT MOST 1048576: true; the input reads as it did. -/
def sszBackUptoRow : OpenClaim := { program := "ytlcbfphioeppaaagreatdoor", sum := "129083fc73715f6cc4946bdb727d41517fdd57a0076483c89f1f17036e41fd11", func := "rescript/rescriptlaw08.SszBack", spec := "sszBack", inPlace := ["internal/bytealg.IndexByteString", "internal/bytealg.IndexString", "math/bits.Sub64", "internal/abi.NoEscape", "internal/bytealg.MakeNoZero"], unfollowed := true, recurses := true, named := ["unicode/utf8.first", "unicode/utf8.acceptRanges", "internal/bytealg.MaxLen"], loops := true, apart := false, laid := [("unicode/utf8.acceptRanges", laid_unicode_utf8_acceptRanges), ("unicode/utf8.first", laid_unicode_utf8_first)], narrowed := true }
def SszBackUptoSaid : Prop := sszBackUptoRow.holds Tryz.pinned (OpenSpec.upto sszBackSpec)

/-- 'rescriptlaw08.SszOnly', WHERE WHAT IT READS IS OF BULK AT MOST 1048576: true; the input reads as it did. -/
def sszOnlyUptoRow : OpenClaim := { program := "ytlcbfphioeppaaagreatdoor", sum := "129083fc73715f6cc4946bdb727d41517fdd57a0076483c89f1f17036e41fd11", func := "rescript/rescriptlaw08.SszOnly", spec := "sszOnly", inPlace := ["internal/bytealg.IndexByteString", "internal/bytealg.IndexString", "math/bits.Sub64", "internal/abi.NoEscape", "internal/bytealg.MakeNoZero"], unfollowed := true, recurses := true, named := ["unicode/utf8.first", "unicode/utf8.acceptRanges", "internal/bytealg.MaxLen"], loops := true, apart := false, laid := [("unicode/utf8.acceptRanges", laid_unicode_utf8_acceptRanges), ("unicode/utf8.first", laid_unicode_utf8_first)], narrowed := true }
def SszOnlyUptoSaid : Prop := sszOnlyUptoRow.holds Tryz.pinned (OpenSpec.upto sszOnlySpec)

/-- 'rescriptlaw08.SszApart', WHERE WHAT IT READS IS OF BULK AT MOST 1048576: true; the input reads as it did. -/
def sszApartUptoRow : OpenClaim := { program := "ytlcbfphioeppaaagreatdoor", sum := "129083fc73715f6cc4946bdb727d41517fdd57a0076483c89f1f17036e41fd11", func := "rescript/rescriptlaw08.SszApart", spec := "sszApart", inPlace := ["internal/bytealg.IndexByteString", "internal/bytealg.IndexString", "math/bits.Sub64", "internal/abi.NoEscape", "internal/bytealg.MakeNoZero"], unfollowed := true, recurses := true, named := ["unicode/utf8.first", "unicode/utf8.acceptRanges", "internal/bytealg.MaxLen"], loops := true, apart := false, laid := [("unicode/utf8.acceptRanges", laid_unicode_utf8_acceptRanges), ("unicode/utf8.first", laid_unicode_utf8_first)], narrowed := true }
def SszApartUptoSaid : Prop := sszApartUptoRow.holds Tryz.pinned (OpenSpec.upto sszApartSpec)

/-- 'rescriptlaw08.SszLists', WHERE WHAT IT READS IS OF BULK AT MOST 1048576: true; the input reads as it did. -/
def sszListsUptoRow : OpenClaim := { program := "ytlcbfphioeppaaagreatdoor", sum := "129083fc73715f6cc4946bdb727d41517fdd57a0076483c89f1f17036e41fd11", func := "rescript/rescriptlaw08.SszLists", spec := "sszLists", inPlace := ["internal/bytealg.IndexByteString", "internal/bytealg.IndexString", "math/bits.Sub64", "internal/abi.NoEscape", "internal/bytealg.MakeNoZero"], unfollowed := true, recurses := true, named := ["unicode/utf8.first", "unicode/utf8.acceptRanges", "internal/bytealg.MaxLen"], loops := true, apart := false, laid := [("unicode/utf8.acceptRanges", laid_unicode_utf8_acceptRanges), ("unicode/utf8.first", laid_unicode_utf8_first)], narrowed := true }
def SszListsUptoSaid : Prop := sszListsUptoRow.holds Tryz.pinned (OpenSpec.upto sszListsSpec)

/-- 'rescriptlaw09.MerkleTrees', WHERE WHAT IT READS IS OF BULK AT MOST 1048576: true; the input reads as it did. -/
def merkleTreesUptoRow : OpenClaim := { program := "ytlcbfphioeppaaagreatdoor", sum := "129083fc73715f6cc4946bdb727d41517fdd57a0076483c89f1f17036e41fd11", func := "rescript/rescriptlaw09.MerkleTrees", spec := "merkleTrees", inPlace := ["internal/bytealg.IndexByteString", "internal/bytealg.IndexString", "math/bits.Sub64", "internal/abi.NoEscape", "internal/bytealg.MakeNoZero"], unfollowed := true, recurses := true, named := ["unicode/utf8.first", "unicode/utf8.acceptRanges", "internal/bytealg.MaxLen"], apart := false, laid := [("unicode/utf8.acceptRanges", laid_unicode_utf8_acceptRanges), ("unicode/utf8.first", laid_unicode_utf8_first)], narrowed := true }
def MerkleTreesUptoSaid : Prop := merkleTreesUptoRow.holds Tryz.pinned (OpenSpec.upto merkleTreesSpec)

/-- 'rescriptlaw09.MerkleRoots', WHERE WHAT IT READS IS OF BULK AT MOST 1048576: true; the input reads as it did. -/
def merkleRootsUptoRow : OpenClaim := { program := "ytlcbfphioeppaaagreatdoor", sum := "129083fc73715f6cc4946bdb727d41517fdd57a0076483c89f1f17036e41fd11", func := "rescript/rescriptlaw09.MerkleRoots", spec := "merkleRoots", inPlace := ["internal/bytealg.IndexByteString", "internal/bytealg.IndexString", "math/bits.Sub64", "internal/abi.NoEscape", "internal/bytealg.MakeNoZero"], unfollowed := true, recurses := true, named := ["unicode/utf8.first", "unicode/utf8.acceptRanges", "internal/bytealg.MaxLen"], loops := true, apart := false, laid := [("unicode/utf8.acceptRanges", laid_unicode_utf8_acceptRanges), ("unicode/utf8.first", laid_unicode_utf8_first)], narrowed := true }
def MerkleRootsUptoSaid : Prop := merkleRootsUptoRow.holds Tryz.pinned (OpenSpec.upto merkleRootsSpec)

/-- 'rescriptlaw09.MerkleHalves', WHERE WHAT IT READS IS OF BULK AT MOST 1048576: true; the input reads as it did. -/
def merkleHalvesUptoRow : OpenClaim := { program := "ytlcbfphioeppaaagreatdoor", sum := "129083fc73715f6cc4946bdb727d41517fdd57a0076483c89f1f17036e41fd11", func := "rescript/rescriptlaw09.MerkleHalves", spec := "merkleHalves", inPlace := ["internal/bytealg.IndexByteString", "internal/bytealg.IndexString", "math/bits.Sub64", "internal/abi.NoEscape", "internal/bytealg.MakeNoZero"], unfollowed := true, recurses := true, named := ["unicode/utf8.first", "unicode/utf8.acceptRanges", "internal/bytealg.MaxLen"], apart := false, laid := [("unicode/utf8.acceptRanges", laid_unicode_utf8_acceptRanges), ("unicode/utf8.first", laid_unicode_utf8_first)], narrowed := true }
def MerkleHalvesUptoSaid : Prop := merkleHalvesUptoRow.holds Tryz.pinned (OpenSpec.upto merkleHalvesSpec)

/-- 'rescriptlaw09.MerkleZeros', WHERE WHAT IT READS IS OF BULK AT MOST 1048576: true; the input reads as it did. -/
def merkleZerosUptoRow : OpenClaim := { program := "ytlcbfphioeppaaagreatdoor", sum := "129083fc73715f6cc4946bdb727d41517fdd57a0076483c89f1f17036e41fd11", func := "rescript/rescriptlaw09.MerkleZeros", spec := "merkleZeros", inPlace := ["internal/bytealg.IndexByteString", "internal/bytealg.IndexString", "math/bits.Sub64", "internal/abi.NoEscape", "internal/bytealg.MakeNoZero"], unfollowed := true, recurses := true, named := ["unicode/utf8.first", "unicode/utf8.acceptRanges", "internal/bytealg.MaxLen"], apart := false, laid := [("unicode/utf8.acceptRanges", laid_unicode_utf8_acceptRanges), ("unicode/utf8.first", laid_unicode_utf8_first)], narrowed := true }
def MerkleZerosUptoSaid : Prop := merkleZerosUptoRow.holds Tryz.pinned (OpenSpec.upto merkleZerosSpec)

/-- 'rescriptlaw09.MerkleBytes', WHERE WHAT IT READS IS OF BULK AT MOST 1048576: true; the input reads as it did. -/
def merkleBytesUptoRow : OpenClaim := { program := "ytlcbfphioeppaaagreatdoor", sum := "129083fc73715f6cc4946bdb727d41517fdd57a0076483c89f1f17036e41fd11", func := "rescript/rescriptlaw09.MerkleBytes", spec := "merkleBytes", inPlace := ["internal/bytealg.IndexByteString", "internal/bytealg.IndexString", "math/bits.Sub64", "internal/abi.NoEscape", "internal/bytealg.MakeNoZero"], unfollowed := true, recurses := true, named := ["unicode/utf8.first", "unicode/utf8.acceptRanges", "internal/bytealg.MaxLen"], loops := true, apart := false, laid := [("unicode/utf8.acceptRanges", laid_unicode_utf8_acceptRanges), ("unicode/utf8.first", laid_unicode_utf8_first)], narrowed := true }
def MerkleBytesUptoSaid : Prop := merkleBytesUptoRow.holds Tryz.pinned (OpenSpec.upto merkleBytesSpec)

/-- 'rescriptlaw09.MerkleLists', WHERE WHAT IT READS IS OF BULK AT MOST 1048576: true; the input reads as it did. -/
def merkleListsUptoRow : OpenClaim := { program := "ytlcbfphioeppaaagreatdoor", sum := "129083fc73715f6cc4946bdb727d41517fdd57a0076483c89f1f17036e41fd11", func := "rescript/rescriptlaw09.MerkleLists", spec := "merkleLists", inPlace := ["internal/bytealg.IndexByteString", "internal/bytealg.IndexString", "math/bits.Sub64", "internal/abi.NoEscape", "internal/bytealg.MakeNoZero"], unfollowed := true, recurses := true, named := ["unicode/utf8.first", "unicode/utf8.acceptRanges", "internal/bytealg.MaxLen"], loops := true, apart := false, laid := [("unicode/utf8.acceptRanges", laid_unicode_utf8_acceptRanges), ("unicode/utf8.first", laid_unicode_utf8_first)], narrowed := true }
def MerkleListsUptoSaid : Prop := merkleListsUptoRow.holds Tryz.pinned (OpenSpec.upto merkleListsSpec)

end Rows
end Go.Proofs.YtlcbfphioeppaaaGreatDoor
