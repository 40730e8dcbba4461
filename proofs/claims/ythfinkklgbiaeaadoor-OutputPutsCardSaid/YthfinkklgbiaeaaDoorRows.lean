/-
  NARROWER THAN 'FOR EVERY INPUT', by the rows' own cells (each row's printed sentence says how): OutputPuts: laid · OutputGets: laid · OutputBack: laid · OutputOnly: laid · OutputApart: laid · NumWrites: laid · NumBack: laid · NumOnly: laid · NumApart: laid.
  DERIVED. THE GIVEN ROWS OF THIS SEAT. 9 by the template 'for every input the law returns true; each argument reads behind the call as it read before'; 0 by the template 'total and deterministic' (their statements: YthfinkklgbiaeaaDoorTotals.lean).
  GIVEN WITH THE SEED: the statements are not yours to turn. If you find one false, say at which input.
  Laid BY PROGRAM, IN A SANDBOX (cutbox-rows.mjs): the forced cells as the released guide's own fill.sh prints them over the translation fa270c256f2bd323… (all of the seat's roots in one cut). By AI agents, Wed Nov 11 2026. No macro, syntax, notation, axiom, sorry.
-/
import Derived.Test.YthfinkklgbiaeaaDoorChecked
import GoSem.PinnedTables
import GoSem.Claim
import GoSem.ClaimJoined
import GoSem.ClaimMapViews
import Derived.JoinedTies
import Derived.KernelRfl
namespace Go.Proofs.YthfinkklgbiaeaaDoor
/- THE CELL 'sum', in the pinned program and in every row, IS THE sha256 OF THE DUMP (.gsa) THAT YthfinkklgbiaeaaDoorProg.lean LOADS. Nothing in Lean hashes anything: it is a label: what it is worth is what the hold of that sum in a sandbox is worth. -/
noncomputable def Tryd.pinned : Pinned := { name := "ythfinkklgbiaeaadoor", sum := "fa270c256f2bd323670643b1df07e8058f6310a81c1d494ee01de47f1c0dc75c", checked := Tryd.checked }
namespace Rows
def none {H : Type} : Left H := { results := [], args := [] }

/- WHAT THE LISTED PACKAGE-LEVEL VARIABLES READ AS WHEN THE CALL BEGINS. Each datum BY PROGRAM (the guide's laid-datum.mjs) off the statement by which the dump's own 'gosem.cut.vars' lays the variable. In a bare row this is a premise. The card (YthfinkklgbiaeaaDoorCards.lean) ties it to the program's text. -/
def laid_unicode_utf8_acceptRanges {H : Type} : DataW H := .agg [.agg [.lit (.int .u8 128), .lit (.int .u8 191)], .agg [.lit (.int .u8 160), .lit (.int .u8 191)], .agg [.lit (.int .u8 128), .lit (.int .u8 159)], .agg [.lit (.int .u8 144), .lit (.int .u8 191)], .agg [.lit (.int .u8 128), .lit (.int .u8 143)], .agg [.lit (.int .u8 0), .lit (.int .u8 0)], .agg [.lit (.int .u8 0), .lit (.int .u8 0)], .agg [.lit (.int .u8 0), .lit (.int .u8 0)], .agg [.lit (.int .u8 0), .lit (.int .u8 0)], .agg [.lit (.int .u8 0), .lit (.int .u8 0)], .agg [.lit (.int .u8 0), .lit (.int .u8 0)], .agg [.lit (.int .u8 0), .lit (.int .u8 0)], .agg [.lit (.int .u8 0), .lit (.int .u8 0)], .agg [.lit (.int .u8 0), .lit (.int .u8 0)], .agg [.lit (.int .u8 0), .lit (.int .u8 0)], .agg [.lit (.int .u8 0), .lit (.int .u8 0)]]
/-- One of Go's own tables, pinned by name: the form's constant. -/
def laid_unicode_utf8_first : DataW Unit := Go.Pinned.utf8First

/-- 'rescriptlaw21.OutputPuts': WHATEVER THE INPUT: true; the input reads as it did. -/
def outputPutsSpec : ChangeSpec := { name := "outputPuts", fn := fun _ => fun
  | [d1, d2, d3] => { results := [.lit (.bool true)], args := [d1, d2, d3] }
  | _ => none }
def outputPutsRow : OpenClaim := { program := "ythfinkklgbiaeaadoor", sum := "fa270c256f2bd323670643b1df07e8058f6310a81c1d494ee01de47f1c0dc75c", func := "rescript/rescriptlaw21.OutputPuts", spec := "outputPuts", inPlace := ["internal/bytealg.IndexByteString", "internal/bytealg.IndexString"], unfollowed := true, recurses := true, named := ["unicode/utf8.first", "unicode/utf8.acceptRanges", "internal/bytealg.MaxLen"], apart := false, laid := [("unicode/utf8.acceptRanges", laid_unicode_utf8_acceptRanges), ("unicode/utf8.first", laid_unicode_utf8_first)] }
def OutputPutsSaid : Prop := outputPutsRow.holds Tryd.pinned (OpenSpec.ofChange outputPutsSpec)

/-- ITS FALSE NEIGHBOUR: 'it returns false'. Refute it at one input. -/
def outputPutsWrong : ChangeSpec := { name := "outputPuts", fn := fun _ => fun
  | [d1, d2, d3] => { results := [.lit (.bool false)], args := [d1, d2, d3] }
  | _ => none }
def OutputPutsWrongFalsely : Prop := outputPutsRow.holds Tryd.pinned (OpenSpec.ofChange outputPutsWrong)

/-- 'rescriptlaw21.OutputGets': WHATEVER THE INPUT: true; the input reads as it did. -/
def outputGetsSpec : ChangeSpec := { name := "outputGets", fn := fun _ => fun
  | [d] => { results := [.lit (.bool true)], args := [d] }
  | _ => none }
def outputGetsRow : OpenClaim := { program := "ythfinkklgbiaeaadoor", sum := "fa270c256f2bd323670643b1df07e8058f6310a81c1d494ee01de47f1c0dc75c", func := "rescript/rescriptlaw21.OutputGets", spec := "outputGets", inPlace := ["internal/bytealg.IndexByteString", "internal/bytealg.IndexString"], unfollowed := true, recurses := true, named := ["unicode/utf8.first", "unicode/utf8.acceptRanges", "internal/bytealg.MaxLen"], apart := false, laid := [("unicode/utf8.acceptRanges", laid_unicode_utf8_acceptRanges), ("unicode/utf8.first", laid_unicode_utf8_first)] }
def OutputGetsSaid : Prop := outputGetsRow.holds Tryd.pinned (OpenSpec.ofChange outputGetsSpec)

/-- ITS FALSE NEIGHBOUR: 'it returns false'. Refute it at one input. -/
def outputGetsWrong : ChangeSpec := { name := "outputGets", fn := fun _ => fun
  | [d] => { results := [.lit (.bool false)], args := [d] }
  | _ => none }
def OutputGetsWrongFalsely : Prop := outputGetsRow.holds Tryd.pinned (OpenSpec.ofChange outputGetsWrong)

/-- 'rescriptlaw21.OutputBack': WHATEVER THE INPUT: true; the input reads as it did. -/
def outputBackSpec : ChangeSpec := { name := "outputBack", fn := fun _ => fun
  | [d1, d2, d3] => { results := [.lit (.bool true)], args := [d1, d2, d3] }
  | _ => none }
def outputBackRow : OpenClaim := { program := "ythfinkklgbiaeaadoor", sum := "fa270c256f2bd323670643b1df07e8058f6310a81c1d494ee01de47f1c0dc75c", func := "rescript/rescriptlaw21.OutputBack", spec := "outputBack", inPlace := ["internal/bytealg.IndexByteString", "internal/bytealg.IndexString"], unfollowed := true, recurses := true, named := ["unicode/utf8.first", "unicode/utf8.acceptRanges", "internal/bytealg.MaxLen"], apart := false, laid := [("unicode/utf8.acceptRanges", laid_unicode_utf8_acceptRanges), ("unicode/utf8.first", laid_unicode_utf8_first)] }
def OutputBackSaid : Prop := outputBackRow.holds Tryd.pinned (OpenSpec.ofChange outputBackSpec)

/-- ITS FALSE NEIGHBOUR: 'it returns false'. Refute it at one input. -/
def outputBackWrong : ChangeSpec := { name := "outputBack", fn := fun _ => fun
  | [d1, d2, d3] => { results := [.lit (.bool false)], args := [d1, d2, d3] }
  | _ => none }
def OutputBackWrongFalsely : Prop := outputBackRow.holds Tryd.pinned (OpenSpec.ofChange outputBackWrong)

/-- 'rescriptlaw21.OutputOnly': WHATEVER THE INPUT: true; the input reads as it did. -/
def outputOnlySpec : ChangeSpec := { name := "outputOnly", fn := fun _ => fun
  | [d] => { results := [.lit (.bool true)], args := [d] }
  | _ => none }
def outputOnlyRow : OpenClaim := { program := "ythfinkklgbiaeaadoor", sum := "fa270c256f2bd323670643b1df07e8058f6310a81c1d494ee01de47f1c0dc75c", func := "rescript/rescriptlaw21.OutputOnly", spec := "outputOnly", inPlace := ["internal/bytealg.IndexByteString", "internal/bytealg.IndexString"], unfollowed := true, recurses := true, named := ["unicode/utf8.first", "unicode/utf8.acceptRanges", "internal/bytealg.MaxLen"], apart := false, laid := [("unicode/utf8.acceptRanges", laid_unicode_utf8_acceptRanges), ("unicode/utf8.first", laid_unicode_utf8_first)] }
def OutputOnlySaid : Prop := outputOnlyRow.holds Tryd.pinned (OpenSpec.ofChange outputOnlySpec)

/-- ITS FALSE NEIGHBOUR: 'it returns false'. Refute it at one input. -/
def outputOnlyWrong : ChangeSpec := { name := "outputOnly", fn := fun _ => fun
  | [d] => { results := [.lit (.bool false)], args := [d] }
  | _ => none }
def OutputOnlyWrongFalsely : Prop := outputOnlyRow.holds Tryd.pinned (OpenSpec.ofChange outputOnlyWrong)

/-- 'rescriptlaw21.OutputApart': WHATEVER THE INPUT: true; the input reads as it did. -/
def outputApartSpec : ChangeSpec := { name := "outputApart", fn := fun _ => fun
  | [d1, d2, d3, d4, d5, d6] => { results := [.lit (.bool true)], args := [d1, d2, d3, d4, d5, d6] }
  | _ => none }
def outputApartRow : OpenClaim := { program := "ythfinkklgbiaeaadoor", sum := "fa270c256f2bd323670643b1df07e8058f6310a81c1d494ee01de47f1c0dc75c", func := "rescript/rescriptlaw21.OutputApart", spec := "outputApart", inPlace := ["internal/bytealg.IndexByteString", "internal/bytealg.IndexString"], unfollowed := true, recurses := true, named := ["unicode/utf8.first", "unicode/utf8.acceptRanges", "internal/bytealg.MaxLen"], apart := false, laid := [("unicode/utf8.acceptRanges", laid_unicode_utf8_acceptRanges), ("unicode/utf8.first", laid_unicode_utf8_first)] }
def OutputApartSaid : Prop := outputApartRow.holds Tryd.pinned (OpenSpec.ofChange outputApartSpec)

/-- ITS FALSE NEIGHBOUR: 'it returns false'. Refute it at one input. -/
def outputApartWrong : ChangeSpec := { name := "outputApart", fn := fun _ => fun
  | [d1, d2, d3, d4, d5, d6] => { results := [.lit (.bool false)], args := [d1, d2, d3, d4, d5, d6] }
  | _ => none }
def OutputApartWrongFalsely : Prop := outputApartRow.holds Tryd.pinned (OpenSpec.ofChange outputApartWrong)

/-- 'rescriptlaw02.NumWrites': WHATEVER THE INPUT: true; the input reads as it did. -/
def numWritesSpec : ChangeSpec := { name := "numWrites", fn := fun _ => fun
  | [d1, d2] => { results := [.lit (.bool true)], args := [d1, d2] }
  | _ => none }
def numWritesRow : OpenClaim := { program := "ythfinkklgbiaeaadoor", sum := "fa270c256f2bd323670643b1df07e8058f6310a81c1d494ee01de47f1c0dc75c", func := "rescript/rescriptlaw02.NumWrites", spec := "numWrites", inPlace := ["internal/bytealg.IndexByteString", "internal/bytealg.IndexString", "internal/abi.NoEscape", "internal/bytealg.MakeNoZero"], unfollowed := true, recurses := true, named := ["unicode/utf8.first", "unicode/utf8.acceptRanges", "internal/bytealg.MaxLen"], apart := false, laid := [("unicode/utf8.acceptRanges", laid_unicode_utf8_acceptRanges), ("unicode/utf8.first", laid_unicode_utf8_first)] }
def NumWritesSaid : Prop := numWritesRow.holds Tryd.pinned (OpenSpec.ofChange numWritesSpec)

/-- ITS FALSE NEIGHBOUR: 'it returns false'. Refute it at one input. -/
def numWritesWrong : ChangeSpec := { name := "numWrites", fn := fun _ => fun
  | [d1, d2] => { results := [.lit (.bool false)], args := [d1, d2] }
  | _ => none }
def NumWritesWrongFalsely : Prop := numWritesRow.holds Tryd.pinned (OpenSpec.ofChange numWritesWrong)

/-- 'rescriptlaw02.NumBack': WHATEVER THE INPUT: true; the input reads as it did. -/
def numBackSpec : ChangeSpec := { name := "numBack", fn := fun _ => fun
  | [d1, d2, d3, d4] => { results := [.lit (.bool true)], args := [d1, d2, d3, d4] }
  | _ => none }
def numBackRow : OpenClaim := { program := "ythfinkklgbiaeaadoor", sum := "fa270c256f2bd323670643b1df07e8058f6310a81c1d494ee01de47f1c0dc75c", func := "rescript/rescriptlaw02.NumBack", spec := "numBack", inPlace := ["internal/bytealg.IndexByteString", "internal/bytealg.IndexString", "internal/abi.NoEscape", "internal/bytealg.MakeNoZero"], unfollowed := true, recurses := true, named := ["unicode/utf8.first", "unicode/utf8.acceptRanges", "internal/bytealg.MaxLen"], apart := false, laid := [("unicode/utf8.acceptRanges", laid_unicode_utf8_acceptRanges), ("unicode/utf8.first", laid_unicode_utf8_first)] }
def NumBackSaid : Prop := numBackRow.holds Tryd.pinned (OpenSpec.ofChange numBackSpec)

/-- ITS FALSE NEIGHBOUR: 'it returns false'. Refute it at one input. -/
def numBackWrong : ChangeSpec := { name := "numBack", fn := fun _ => fun
  | [d1, d2, d3, d4] => { results := [.lit (.bool false)], args := [d1, d2, d3, d4] }
  | _ => none }
def NumBackWrongFalsely : Prop := numBackRow.holds Tryd.pinned (OpenSpec.ofChange numBackWrong)

/-- 'rescriptlaw02.NumOnly': WHATEVER THE INPUT: true; the input reads as it did. -/
def numOnlySpec : ChangeSpec := { name := "numOnly", fn := fun _ => fun
  | [d1, d2] => { results := [.lit (.bool true)], args := [d1, d2] }
  | _ => none }
def numOnlyRow : OpenClaim := { program := "ythfinkklgbiaeaadoor", sum := "fa270c256f2bd323670643b1df07e8058f6310a81c1d494ee01de47f1c0dc75c", func := "rescript/rescriptlaw02.NumOnly", spec := "numOnly", inPlace := ["internal/bytealg.IndexByteString", "internal/bytealg.IndexString", "internal/abi.NoEscape", "internal/bytealg.MakeNoZero"], unfollowed := true, recurses := true, named := ["unicode/utf8.first", "unicode/utf8.acceptRanges", "internal/bytealg.MaxLen"], apart := false, laid := [("unicode/utf8.acceptRanges", laid_unicode_utf8_acceptRanges), ("unicode/utf8.first", laid_unicode_utf8_first)] }
def NumOnlySaid : Prop := numOnlyRow.holds Tryd.pinned (OpenSpec.ofChange numOnlySpec)

/-- ITS FALSE NEIGHBOUR: 'it returns false'. Refute it at one input. -/
def numOnlyWrong : ChangeSpec := { name := "numOnly", fn := fun _ => fun
  | [d1, d2] => { results := [.lit (.bool false)], args := [d1, d2] }
  | _ => none }
def NumOnlyWrongFalsely : Prop := numOnlyRow.holds Tryd.pinned (OpenSpec.ofChange numOnlyWrong)

/-- 'rescriptlaw02.NumApart': WHATEVER THE INPUT: true; the input reads as it did. -/
def numApartSpec : ChangeSpec := { name := "numApart", fn := fun _ => fun
  | [d1, d2] => { results := [.lit (.bool true)], args := [d1, d2] }
  | _ => none }
def numApartRow : OpenClaim := { program := "ythfinkklgbiaeaadoor", sum := "fa270c256f2bd323670643b1df07e8058f6310a81c1d494ee01de47f1c0dc75c", func := "rescript/rescriptlaw02.NumApart", spec := "numApart", inPlace := ["internal/bytealg.IndexByteString", "internal/bytealg.IndexString", "internal/abi.NoEscape", "internal/bytealg.MakeNoZero"], unfollowed := true, recurses := true, named := ["unicode/utf8.first", "unicode/utf8.acceptRanges", "internal/bytealg.MaxLen"], apart := false, laid := [("unicode/utf8.acceptRanges", laid_unicode_utf8_acceptRanges), ("unicode/utf8.first", laid_unicode_utf8_first)] }
def NumApartSaid : Prop := numApartRow.holds Tryd.pinned (OpenSpec.ofChange numApartSpec)

/-- ITS FALSE NEIGHBOUR: 'it returns false'. Refute it at one input. -/
def numApartWrong : ChangeSpec := { name := "numApart", fn := fun _ => fun
  | [d1, d2] => { results := [.lit (.bool false)], args := [d1, d2] }
  | _ => none }
def NumApartWrongFalsely : Prop := numApartRow.holds Tryd.pinned (OpenSpec.ofChange numApartWrong)

/- THE SECOND FORM. 'bulk': how many values and letters a reading holds, each counted each time it is reached (what is shared counts as often as it is met; a slice's spare places count too). A statement '..UptoSaid' is the law's where the arguments, and the package variables that the reading takes, are together of bulk at most 1048576: NARROWER than '..Said'. Prove '..Said' where nothing that the law and all that it calls make is longer than what came in: it says more and counts as full. Else prove '..UptoSaid'. A law counts once. -/
mutual
def uptoBulk {H : Type} : DataW H → Nat
  | .lit (.string bytes) => bytes.length + 1
  | .lit _ => 1
  | .nil => 1
  | .ptr d => uptoBulk d + 1
  | .slice elems spare => uptoBulkAll elems + uptoBulkAll spare + 1
  | .agg parts => uptoBulkAll parts + 1
  | .iface _ d => uptoBulk d + 1
  | .map entries => uptoBulkEntries entries + 1
  | .held _ => 1
def uptoBulkAll {H : Type} : List (DataW H) → Nat
  | [] => 0
  | d :: r => uptoBulk d + uptoBulkAll r
def uptoBulkEntries {H : Type} : List (Lit × DataW H) → Nat
  | [] => 0
  | x :: r => uptoBulkEntry x + uptoBulkEntries r
def uptoBulkEntry {H : Type} : Lit × DataW H → Nat
  | (.string bytes, d) => bytes.length + uptoBulk d + 1
  | (_, d) => uptoBulk d + 1
 end
def uptoSmall : (H : Type) → List (DataW H) → Bool := fun _ ds => decide (uptoBulkAll ds ≤ 1048576)
def OpenSpec.upto (s : _root_.Go.ChangeSpec) : _root_.Go.OpenSpec := { _root_.Go.OpenSpec.ofChange s with cond := some uptoSmall }

/-- 'rescriptlaw21.OutputPuts', WHERE WHAT IT READS IS OF BULK AT MOST 1048576: true; the input reads as it did. -/
def outputPutsUptoRow : OpenClaim := { program := "ythfinkklgbiaeaadoor", sum := "fa270c256f2bd323670643b1df07e8058f6310a81c1d494ee01de47f1c0dc75c", func := "rescript/rescriptlaw21.OutputPuts", spec := "outputPuts", inPlace := ["internal/bytealg.IndexByteString", "internal/bytealg.IndexString"], unfollowed := true, recurses := true, named := ["unicode/utf8.first", "unicode/utf8.acceptRanges", "internal/bytealg.MaxLen"], apart := false, laid := [("unicode/utf8.acceptRanges", laid_unicode_utf8_acceptRanges), ("unicode/utf8.first", laid_unicode_utf8_first)], narrowed := true }
def OutputPutsUptoSaid : Prop := outputPutsUptoRow.holds Tryd.pinned (OpenSpec.upto outputPutsSpec)

/-- 'rescriptlaw21.OutputGets', WHERE WHAT IT READS IS OF BULK AT MOST 1048576: true; the input reads as it did. -/
def outputGetsUptoRow : OpenClaim := { program := "ythfinkklgbiaeaadoor", sum := "fa270c256f2bd323670643b1df07e8058f6310a81c1d494ee01de47f1c0dc75c", func := "rescript/rescriptlaw21.OutputGets", spec := "outputGets", inPlace := ["internal/bytealg.IndexByteString", "internal/bytealg.IndexString"], unfollowed := true, recurses := true, named := ["unicode/utf8.first", "unicode/utf8.acceptRanges", "internal/bytealg.MaxLen"], apart := false, laid := [("unicode/utf8.acceptRanges", laid_unicode_utf8_acceptRanges), ("unicode/utf8.first", laid_unicode_utf8_first)], narrowed := true }
def OutputGetsUptoSaid : Prop := outputGetsUptoRow.holds Tryd.pinned (OpenSpec.upto outputGetsSpec)

/-- 'rescriptlaw21.OutputBack', WHERE WHAT IT READS IS OF BULK AT MOST 1048576: true; the input reads as it did. -/
def outputBackUptoRow : OpenClaim := { program := "ythfinkklgbiaeaadoor", sum := "fa270c256f2bd323670643b1df07e8058f6310a81c1d494ee01de47f1c0dc75c", func := "rescript/rescriptlaw21.OutputBack", spec := "outputBack", inPlace := ["internal/bytealg.IndexByteString", "internal/bytealg.IndexString"], unfollowed := true, recurses := true, named := ["unicode/utf8.first", "unicode/utf8.acceptRanges", "internal/bytealg.MaxLen"], apart := false, laid := [("unicode/utf8.acceptRanges", laid_unicode_utf8_acceptRanges), ("unicode/utf8.first", laid_unicode_utf8_first)], narrowed := true }
def OutputBackUptoSaid : Prop := outputBackUptoRow.holds Tryd.pinned (OpenSpec.upto outputBackSpec)

/-- 'rescriptlaw21.OutputOnly', WHERE WHAT IT READS IS OF BULK AT MOST 1048576: true; the input reads as it did. -/
def outputOnlyUptoRow : OpenClaim := { program := "ythfinkklgbiaeaadoor", sum := "fa270c256f2bd323670643b1df07e8058f6310a81c1d494ee01de47f1c0dc75c", func := "rescript/rescriptlaw21.OutputOnly", spec := "outputOnly", inPlace := ["internal/bytealg.IndexByteString", "internal/bytealg.IndexString"], unfollowed := true, recurses := true, named := ["unicode/utf8.first", "unicode/utf8.acceptRanges", "internal/bytealg.MaxLen"], apart := false, laid := [("unicode/utf8.acceptRanges", laid_unicode_utf8_acceptRanges), ("unicode/utf8.first", laid_unicode_utf8_first)], narrowed := true }
def OutputOnlyUptoSaid : Prop := outputOnlyUptoRow.holds Tryd.pinned (OpenSpec.upto outputOnlySpec)

/-- 'rescriptlaw21.OutputApart', WHERE WHAT IT READS IS OF BULK AT MOST 1048576: true; the input reads as it did. -/
def outputApartUptoRow : OpenClaim := { program := "ythfinkklgbiaeaadoor", sum := "fa270c256f2bd323670643b1df07e8058f6310a81c1d494ee01de47f1c0dc75c", func := "rescript/rescriptlaw21.OutputApart", spec := "outputApart", inPlace := ["internal/bytealg.IndexByteString", "internal/bytealg.IndexString"], unfollowed := true, recurses := true, named := ["unicode/utf8.first", "unicode/utf8.acceptRanges", "internal/bytealg.MaxLen"], apart := false, laid := [("unicode/utf8.acceptRanges", laid_unicode_utf8_acceptRanges), ("unicode/utf8.first", laid_unicode_utf8_first)], narrowed := true }
def OutputApartUptoSaid : Prop := outputApartUptoRow.holds Tryd.pinned (OpenSpec.upto outputApartSpec)

/-- 'rescriptlaw02.NumWrites', WHERE WHAT IT READS IS OF BULK AT MOST 1048576: true; the input reads as it did. -/
def numWritesUptoRow : OpenClaim := { program := "ythfinkklgbiaeaadoor", sum := "fa270c256f2bd323670643b1df07e8058f6310a81c1d494ee01de47f1c0dc75c", func := "rescript/rescriptlaw02.NumWrites", spec := "numWrites", inPlace := ["internal/bytealg.IndexByteString", "internal/bytealg.IndexString", "internal/abi.NoEscape", "internal/bytealg.MakeNoZero"], unfollowed := true, recurses := true, named := ["unicode/utf8.first", "unicode/utf8.acceptRanges", "internal/bytealg.MaxLen"], apart := false, laid := [("unicode/utf8.acceptRanges", laid_unicode_utf8_acceptRanges), ("unicode/utf8.first", laid_unicode_utf8_first)], narrowed := true }
def NumWritesUptoSaid : Prop := numWritesUptoRow.holds Tryd.pinned (OpenSpec.upto numWritesSpec)

/-- 'rescriptlaw02.NumBack', WHERE WHAT IT READS IS OF BULK AT MOST 1048576: true; the input reads as it did. -/
def numBackUptoRow : OpenClaim := { program := "ythfinkklgbiaeaadoor", sum := "fa270c256f2bd323670643b1df07e8058f6310a81c1d494ee01de47f1c0dc75c", func := "rescript/rescriptlaw02.NumBack", spec := "numBack", inPlace := ["internal/bytealg.IndexByteString", "internal/bytealg.IndexString", "internal/abi.NoEscape", "internal/bytealg.MakeNoZero"], unfollowed := true, recurses := true, named := ["unicode/utf8.first", "unicode/utf8.acceptRanges", "internal/bytealg.MaxLen"], apart := false, laid := [("unicode/utf8.acceptRanges", laid_unicode_utf8_acceptRanges), ("unicode/utf8.first", laid_unicode_utf8_first)], narrowed := true }
def NumBackUptoSaid : Prop := numBackUptoRow.holds Tryd.pinned (OpenSpec.upto numBackSpec)

/-- 'rescriptlaw02.NumOnly', WHERE WHAT IT READS IS OF BULK AT MOST 1048576: true; the input reads as it did. -/
def numOnlyUptoRow : OpenClaim := { program := "ythfinkklgbiaeaadoor", sum := "fa270c256f2bd323670643b1df07e8058f6310a81c1d494ee01de47f1c0dc75c", func := "rescript/rescriptlaw02.NumOnly", spec := "numOnly", inPlace := ["internal/bytealg.IndexByteString", "internal/bytealg.IndexString", "internal/abi.NoEscape", "internal/bytealg.MakeNoZero"], unfollowed := true, recurses := true, named := ["unicode/utf8.first", "unicode/utf8.acceptRanges", "internal/bytealg.MaxLen"], apart := false, laid := [("unicode/utf8.acceptRanges", laid_unicode_utf8_acceptRanges), ("unicode/utf8.first", laid_unicode_utf8_first)], narrowed := true }
def NumOnlyUptoSaid : Prop := numOnlyUptoRow.holds Tryd.pinned (OpenSpec.upto numOnlySpec)

/-- 'rescriptlaw02.NumApart', WHERE WHAT IT READS IS OF BULK AT MOST 1048576: true; the input reads as it did. -/
def numApartUptoRow : OpenClaim := { program := "ythfinkklgbiaeaadoor", sum := "fa270c256f2bd323670643b1df07e8058f6310a81c1d494ee01de47f1c0dc75c", func := "rescript/rescriptlaw02.NumApart", spec := "numApart", inPlace := ["internal/bytealg.IndexByteString", "internal/bytealg.IndexString", "internal/abi.NoEscape", "internal/bytealg.MakeNoZero"], unfollowed := true, recurses := true, named := ["unicode/utf8.first", "unicode/utf8.acceptRanges", "internal/bytealg.MaxLen"], apart := false, laid := [("unicode/utf8.acceptRanges", laid_unicode_utf8_acceptRanges), ("unicode/utf8.first", laid_unicode_utf8_first)], narrowed := true }
def NumApartUptoSaid : Prop := numApartUptoRow.holds Tryd.pinned (OpenSpec.upto numApartSpec)

end Rows
end Go.Proofs.YthfinkklgbiaeaaDoor
