/-
  NARROWER THAN 'FOR EVERY INPUT', by the rows' own cells (each row's printed sentence says how): GenesisBuilds: laid · GenesisClaims: laid · GenesisSealed: laid · GenesisOrder: laid · GenesisFits: laid · GenesisLater: laid.
  DERIVED. THE GIVEN ROWS OF THIS SEAT. 6 by the template 'for every input the law returns true; each argument reads behind the call as it read before'; 0 by the template 'total and deterministic' (their statements: YtfaagelglpgpkaaGreatDoorTotals.lean).
  GIVEN WITH THE SEED: the statements are not yours to turn. If you find one false, say at which input.
  Laid BY PROGRAM, IN A SANDBOX (cutbox-rows.mjs): the forced cells as the released guide's own fill.sh prints them over the translation c0a3885b706cacbb… (all of the seat's roots in one cut). By AI agents, Wed Nov 11 2026. No macro, syntax, notation, axiom, sorry.
-/
import Derived.Test.YtfaagelglpgpkaaGreatDoorChecked
import GoSem.PinnedTables
import GoSem.Claim
import GoSem.ClaimJoined
import GoSem.ClaimMapViews
import Derived.JoinedTies
import Derived.KernelRfl
namespace Go.Proofs.YtfaagelglpgpkaaGreatDoor
/- THE CELL 'sum', in the pinned program and in every row, IS THE sha256 OF THE DUMP (.gsa) THAT YtfaagelglpgpkaaGreatDoorProg.lean LOADS. Nothing in Lean hashes anything: it is a label: what it is worth is what the hold of that sum in a sandbox is worth. -/
noncomputable def Tryz.pinned : Pinned := { name := "ytfaagelglpgpkaagreatdoor", sum := "c0a3885b706cacbbda1ede1a7463b545e0250ffdee8c02d11df1aeeb9e11495c", checked := Tryz.checked }
namespace Rows
def none {H : Type} : Left H := { results := [], args := [] }

/- WHAT THE LISTED PACKAGE-LEVEL VARIABLES READ AS WHEN THE CALL BEGINS. Each datum BY PROGRAM (the guide's laid-datum.mjs) off the statement by which the dump's own 'gosem.cut.vars' lays the variable. In a bare row this is a premise. The card (YtfaagelglpgpkaaGreatDoorCards.lean) ties it to the program's text. -/
def laid_unicode_utf8_acceptRanges {H : Type} : DataW H := .agg [.agg [.lit (.int .u8 128), .lit (.int .u8 191)], .agg [.lit (.int .u8 160), .lit (.int .u8 191)], .agg [.lit (.int .u8 128), .lit (.int .u8 159)], .agg [.lit (.int .u8 144), .lit (.int .u8 191)], .agg [.lit (.int .u8 128), .lit (.int .u8 143)], .agg [.lit (.int .u8 0), .lit (.int .u8 0)], .agg [.lit (.int .u8 0), .lit (.int .u8 0)], .agg [.lit (.int .u8 0), .lit (.int .u8 0)], .agg [.lit (.int .u8 0), .lit (.int .u8 0)], .agg [.lit (.int .u8 0), .lit (.int .u8 0)], .agg [.lit (.int .u8 0), .lit (.int .u8 0)], .agg [.lit (.int .u8 0), .lit (.int .u8 0)], .agg [.lit (.int .u8 0), .lit (.int .u8 0)], .agg [.lit (.int .u8 0), .lit (.int .u8 0)], .agg [.lit (.int .u8 0), .lit (.int .u8 0)], .agg [.lit (.int .u8 0), .lit (.int .u8 0)]]
/-- One of Go's own tables, pinned by name: the form's constant. -/
def laid_unicode_utf8_first : DataW Unit := Go.Pinned.utf8First

/-- 'rescriptlaw25.GenesisBuilds': WHATEVER THE INPUT: true; the input reads as it did. -/
def genesisBuildsSpec : ChangeSpec := { name := "genesisBuilds", fn := fun _ => fun
  | [d] => { results := [.lit (.bool true)], args := [d] }
  | _ => none }
def genesisBuildsRow : OpenClaim := { program := "ytfaagelglpgpkaagreatdoor", sum := "c0a3885b706cacbbda1ede1a7463b545e0250ffdee8c02d11df1aeeb9e11495c", func := "rescript/rescriptlaw25.GenesisBuilds", spec := "genesisBuilds", inPlace := ["internal/abi.NoEscape", "internal/bytealg.MakeNoZero", "slices.overlaps[rescript/api.Slot]", "slices.overlaps[rescript/api.Acct]", "internal/bytealg.IndexByteString", "internal/bytealg.IndexString", "math/bits.Sub64"], unfollowed := true, recurses := true, named := ["unicode/utf8.first", "unicode/utf8.acceptRanges", "internal/bytealg.MaxLen"], plainKeys := false, apart := false, laid := [("unicode/utf8.acceptRanges", laid_unicode_utf8_acceptRanges), ("unicode/utf8.first", laid_unicode_utf8_first)] }
def GenesisBuildsSaid : Prop := genesisBuildsRow.holds Tryz.pinned (OpenSpec.ofChange genesisBuildsSpec)

/-- ITS FALSE NEIGHBOUR: 'it returns false'. Refute it at one input. -/
def genesisBuildsWrong : ChangeSpec := { name := "genesisBuilds", fn := fun _ => fun
  | [d] => { results := [.lit (.bool false)], args := [d] }
  | _ => none }
def GenesisBuildsWrongFalsely : Prop := genesisBuildsRow.holds Tryz.pinned (OpenSpec.ofChange genesisBuildsWrong)

/-- 'rescriptlaw25.GenesisClaims': WHATEVER THE INPUT: true; the input reads as it did. -/
def genesisClaimsSpec : ChangeSpec := { name := "genesisClaims", fn := fun _ => fun
  | [d] => { results := [.lit (.bool true)], args := [d] }
  | _ => none }
def genesisClaimsRow : OpenClaim := { program := "ytfaagelglpgpkaagreatdoor", sum := "c0a3885b706cacbbda1ede1a7463b545e0250ffdee8c02d11df1aeeb9e11495c", func := "rescript/rescriptlaw25.GenesisClaims", spec := "genesisClaims", inPlace := ["internal/abi.NoEscape", "internal/bytealg.MakeNoZero", "slices.overlaps[rescript/api.Slot]", "slices.overlaps[rescript/api.Acct]", "internal/bytealg.IndexByteString", "internal/bytealg.IndexString", "math/bits.Sub64"], unfollowed := true, recurses := true, named := ["unicode/utf8.first", "unicode/utf8.acceptRanges", "internal/bytealg.MaxLen"], plainKeys := false, apart := false, laid := [("unicode/utf8.acceptRanges", laid_unicode_utf8_acceptRanges), ("unicode/utf8.first", laid_unicode_utf8_first)] }
def GenesisClaimsSaid : Prop := genesisClaimsRow.holds Tryz.pinned (OpenSpec.ofChange genesisClaimsSpec)

/-- ITS FALSE NEIGHBOUR: 'it returns false'. Refute it at one input. -/
def genesisClaimsWrong : ChangeSpec := { name := "genesisClaims", fn := fun _ => fun
  | [d] => { results := [.lit (.bool false)], args := [d] }
  | _ => none }
def GenesisClaimsWrongFalsely : Prop := genesisClaimsRow.holds Tryz.pinned (OpenSpec.ofChange genesisClaimsWrong)

/-- 'rescriptlaw25.GenesisSealed': WHATEVER THE INPUT: true; the input reads as it did. -/
def genesisSealedSpec : ChangeSpec := { name := "genesisSealed", fn := fun _ => fun
  | [d] => { results := [.lit (.bool true)], args := [d] }
  | _ => none }
def genesisSealedRow : OpenClaim := { program := "ytfaagelglpgpkaagreatdoor", sum := "c0a3885b706cacbbda1ede1a7463b545e0250ffdee8c02d11df1aeeb9e11495c", func := "rescript/rescriptlaw25.GenesisSealed", spec := "genesisSealed", inPlace := ["internal/abi.NoEscape", "internal/bytealg.MakeNoZero", "slices.overlaps[rescript/api.Slot]", "slices.overlaps[rescript/api.Acct]", "internal/bytealg.IndexByteString", "internal/bytealg.IndexString", "math/bits.Sub64"], unfollowed := true, recurses := true, named := ["unicode/utf8.first", "unicode/utf8.acceptRanges", "internal/bytealg.MaxLen"], plainKeys := false, apart := false, laid := [("unicode/utf8.acceptRanges", laid_unicode_utf8_acceptRanges), ("unicode/utf8.first", laid_unicode_utf8_first)] }
def GenesisSealedSaid : Prop := genesisSealedRow.holds Tryz.pinned (OpenSpec.ofChange genesisSealedSpec)

/-- ITS FALSE NEIGHBOUR: 'it returns false'. Refute it at one input. -/
def genesisSealedWrong : ChangeSpec := { name := "genesisSealed", fn := fun _ => fun
  | [d] => { results := [.lit (.bool false)], args := [d] }
  | _ => none }
def GenesisSealedWrongFalsely : Prop := genesisSealedRow.holds Tryz.pinned (OpenSpec.ofChange genesisSealedWrong)

/-- 'rescriptlaw25.GenesisOrder': WHATEVER THE INPUT: true; the input reads as it did. -/
def genesisOrderSpec : ChangeSpec := { name := "genesisOrder", fn := fun _ => fun
  | [d1, d2] => { results := [.lit (.bool true)], args := [d1, d2] }
  | _ => none }
def genesisOrderRow : OpenClaim := { program := "ytfaagelglpgpkaagreatdoor", sum := "c0a3885b706cacbbda1ede1a7463b545e0250ffdee8c02d11df1aeeb9e11495c", func := "rescript/rescriptlaw25.GenesisOrder", spec := "genesisOrder", inPlace := ["internal/abi.NoEscape", "internal/bytealg.MakeNoZero", "slices.overlaps[rescript/api.Slot]", "slices.overlaps[rescript/api.Acct]", "internal/bytealg.IndexByteString", "internal/bytealg.IndexString", "math/bits.Sub64"], unfollowed := true, recurses := true, named := ["unicode/utf8.first", "unicode/utf8.acceptRanges", "internal/bytealg.MaxLen"], plainKeys := false, apart := false, laid := [("unicode/utf8.acceptRanges", laid_unicode_utf8_acceptRanges), ("unicode/utf8.first", laid_unicode_utf8_first)] }
def GenesisOrderSaid : Prop := genesisOrderRow.holds Tryz.pinned (OpenSpec.ofChange genesisOrderSpec)

/-- ITS FALSE NEIGHBOUR: 'it returns false'. Refute it at one input. -/
def genesisOrderWrong : ChangeSpec := { name := "genesisOrder", fn := fun _ => fun
  | [d1, d2] => { results := [.lit (.bool false)], args := [d1, d2] }
  | _ => none }
def GenesisOrderWrongFalsely : Prop := genesisOrderRow.holds Tryz.pinned (OpenSpec.ofChange genesisOrderWrong)

/-- 'rescriptlaw25.GenesisFits': WHATEVER THE INPUT: true; the input reads as it did. -/
def genesisFitsSpec : ChangeSpec := { name := "genesisFits", fn := fun _ => fun
  | [d] => { results := [.lit (.bool true)], args := [d] }
  | _ => none }
def genesisFitsRow : OpenClaim := { program := "ytfaagelglpgpkaagreatdoor", sum := "c0a3885b706cacbbda1ede1a7463b545e0250ffdee8c02d11df1aeeb9e11495c", func := "rescript/rescriptlaw25.GenesisFits", spec := "genesisFits", inPlace := ["internal/abi.NoEscape", "internal/bytealg.MakeNoZero", "slices.overlaps[rescript/api.Slot]", "slices.overlaps[rescript/api.Acct]", "internal/bytealg.IndexByteString", "internal/bytealg.IndexString", "math/bits.Sub64"], unfollowed := true, recurses := true, named := ["unicode/utf8.first", "unicode/utf8.acceptRanges", "internal/bytealg.MaxLen"], plainKeys := false, apart := false, laid := [("unicode/utf8.acceptRanges", laid_unicode_utf8_acceptRanges), ("unicode/utf8.first", laid_unicode_utf8_first)] }
def GenesisFitsSaid : Prop := genesisFitsRow.holds Tryz.pinned (OpenSpec.ofChange genesisFitsSpec)

/-- ITS FALSE NEIGHBOUR: 'it returns false'. Refute it at one input. -/
def genesisFitsWrong : ChangeSpec := { name := "genesisFits", fn := fun _ => fun
  | [d] => { results := [.lit (.bool false)], args := [d] }
  | _ => none }
def GenesisFitsWrongFalsely : Prop := genesisFitsRow.holds Tryz.pinned (OpenSpec.ofChange genesisFitsWrong)

/-- 'rescriptlaw25.GenesisLater': WHATEVER THE INPUT: true; the input reads as it did. -/
def genesisLaterSpec : ChangeSpec := { name := "genesisLater", fn := fun _ => fun
  | [d1, d2] => { results := [.lit (.bool true)], args := [d1, d2] }
  | _ => none }
def genesisLaterRow : OpenClaim := { program := "ytfaagelglpgpkaagreatdoor", sum := "c0a3885b706cacbbda1ede1a7463b545e0250ffdee8c02d11df1aeeb9e11495c", func := "rescript/rescriptlaw25.GenesisLater", spec := "genesisLater", inPlace := ["internal/abi.NoEscape", "internal/bytealg.MakeNoZero", "slices.overlaps[rescript/api.Slot]", "slices.overlaps[rescript/api.Acct]", "internal/bytealg.IndexByteString", "internal/bytealg.IndexString", "math/bits.Sub64"], unfollowed := true, recurses := true, named := ["unicode/utf8.first", "unicode/utf8.acceptRanges", "internal/bytealg.MaxLen"], plainKeys := false, apart := false, laid := [("unicode/utf8.acceptRanges", laid_unicode_utf8_acceptRanges), ("unicode/utf8.first", laid_unicode_utf8_first)] }
def GenesisLaterSaid : Prop := genesisLaterRow.holds Tryz.pinned (OpenSpec.ofChange genesisLaterSpec)

/-- ITS FALSE NEIGHBOUR: 'it returns false'. Refute it at one input. -/
def genesisLaterWrong : ChangeSpec := { name := "genesisLater", fn := fun _ => fun
  | [d1, d2] => { results := [.lit (.bool false)], args := [d1, d2] }
  | _ => none }
def GenesisLaterWrongFalsely : Prop := genesisLaterRow.holds Tryz.pinned (OpenSpec.ofChange genesisLaterWrong)

/- THE SECOND FORM. 'bulk': how many values and letters a reading holds, each counted each time it is reached (what is shared counts as often as it is met; a slice's spare places count too). A statement '..UptoSaid' is the law's where the arguments, and the package variables that the reading takes, are together of bulk at most 1048576: NARROWER than '..Said'. Prove '..Said' where nothing that the law and all that it calls make is longer than what came in: it says more and counts as full. Else prove '..UptoSaid'. A law counts once. -/
mutual
def uptoBulk {H : Type} : DataW H → Nat
  | .lit (.string bytes) => bytes.length + 1
  | .lit _ => 1
  | .nil => 1
  | .ptr d => uptoBulk d + 1
  | .slice elems spare => uptoBulkAll elems + uptoBulkAll spare + 1
  | .agg parts => uptoBulkAll parts + 1
  | .iface _ d => uptoBulk d + 1
  | .map entries => uptoBulkEntries entries + 1
  | .held _ => 1
def uptoBulkAll {H : Type} : List (DataW H) → Nat
  | [] => 0
  | d :: r => uptoBulk d + uptoBulkAll r
def uptoBulkEntries {H : Type} : List (Lit × DataW H) → Nat
  | [] => 0
  | x :: r => uptoBulkEntry x + uptoBulkEntries r
def uptoBulkEntry {H : Type} : Lit × DataW H → Nat
  | (.string bytes, d) => bytes.length + uptoBulk d + 1
  | (_, d) => uptoBulk d + 1
 end
def uptoSmall : (H : Type) → List (DataW H) → Bool := fun _ ds => decide (uptoBulkAll ds ≤ 1048576)
def OpenSpec.upto (s : _root_.Go.ChangeSpec) : _root_.Go.OpenSpec := { _root_.Go.OpenSpec.ofChange s with cond := some uptoSmall }

/-- 'rescriptlaw25.GenesisBuilds', WHERE WHAT IT READS IS OF BULK AT MOST 1048576: true; the input reads as it did. -/
def genesisBuildsUptoRow : OpenClaim := { program := "ytfaagelglpgpkaagreatdoor", sum := "c0a3885b706cacbbda1ede1a7463b545e0250ffdee8c02d11df1aeeb9e11495c", func := "rescript/rescriptlaw25.GenesisBuilds", spec := "genesisBuilds", inPlace := ["internal/abi.NoEscape", "internal/bytealg.MakeNoZero", "slices.overlaps[rescript/api.Slot]", "slices.overlaps[rescript/api.Acct]", "internal/bytealg.IndexByteString", "internal/bytealg.IndexString", "math/bits.Sub64"], unfollowed := true, recurses := true, named := ["unicode/utf8.first", "unicode/utf8.acceptRanges", "internal/bytealg.MaxLen"], plainKeys := false, apart := false, laid := [("unicode/utf8.acceptRanges", laid_unicode_utf8_acceptRanges), ("unicode/utf8.first", laid_unicode_utf8_first)], narrowed := true }
def GenesisBuildsUptoSaid : Prop := genesisBuildsUptoRow.holds Tryz.pinned (OpenSpec.upto genesisBuildsSpec)

/-- 'rescriptlaw25.GenesisClaims', WHERE WHAT IT READS IS OF BULK AT MOST 1048576: true; the input reads as it did. -/
def genesisClaimsUptoRow : OpenClaim := { program := "ytfaagelglpgpkaagreatdoor", sum := "c0a3885b706cacbbda1ede1a7463b545e0250ffdee8c02d11df1aeeb9e11495c", func := "rescript/rescriptlaw25.GenesisClaims", spec := "genesisClaims", inPlace := ["internal/abi.NoEscape", "internal/bytealg.MakeNoZero", "slices.overlaps[rescript/api.Slot]", "slices.overlaps[rescript/api.Acct]", "internal/bytealg.IndexByteString", "internal/bytealg.IndexString", "math/bits.Sub64"], unfollowed := true, recurses := true, named := ["unicode/utf8.first", "unicode/utf8.acceptRanges", "internal/bytealg.MaxLen"], plainKeys := false, apart := false, laid := [("unicode/utf8.acceptRanges", laid_unicode_utf8_acceptRanges), ("unicode/utf8.first", laid_unicode_utf8_first)], narrowed := true }
def GenesisClaimsUptoSaid : Prop := genesisClaimsUptoRow.holds Tryz.pinned (OpenSpec.upto genesisClaimsSpec)

/-- 'rescriptlaw25.GenesisSealed', WHERE WHAT IT READS IS OF BULK AT MOST 1048576: true; the input reads as it did. -/
def genesisSealedUptoRow : OpenClaim := { program := "ytfaagelglpgpkaagreatdoor", sum := "c0a3885b706cacbbda1ede1a7463b545e0250ffdee8c02d11df1aeeb9e11495c", func := "rescript/rescriptlaw25.GenesisSealed", spec := "genesisSealed", inPlace := ["internal/abi.NoEscape", "internal/bytealg.MakeNoZero", "slices.overlaps[rescript/api.Slot]", "slices.overlaps[rescript/api.Acct]", "internal/bytealg.IndexByteString", "internal/bytealg.IndexString", "math/bits.Sub64"], unfollowed := true, recurses := true, named := ["unicode/utf8.first", "unicode/utf8.acceptRanges", "internal/bytealg.MaxLen"], plainKeys := false, apart := false, laid := [("unicode/utf8.acceptRanges", laid_unicode_utf8_acceptRanges), ("unicode/utf8.first", laid_unicode_utf8_first)], narrowed := true }
def GenesisSealedUptoSaid : Prop := genesisSealedUptoRow.holds Tryz.pinned (OpenSpec.upto genesisSealedSpec)

/-- 'rescriptlaw25.GenesisOrder', WHERE WHAT IT READS IS OF BULK AT MOST 1048576: true; the input reads as it did. -/
def genesisOrderUptoRow : OpenClaim := { program := "ytfaagelglpgpkaagreatdoor", sum := "c0a3885b706cacbbda1ede1a7463b545e0250ffdee8c02d11df1aeeb9e11495c", func := "rescript/rescriptlaw25.GenesisOrder", spec := "genesisOrder", inPlace := ["internal/abi.NoEscape", "internal/bytealg.MakeNoZero", "slices.overlaps[rescript/api.Slot]", "slices.overlaps[rescript/api.Acct]", "internal/bytealg.IndexByteString", "internal/bytealg.IndexString", "math/bits.Sub64"], unfollowed := true, recurses := true, named := ["unicode/utf8.first", "unicode/utf8.acceptRanges", "internal/bytealg.MaxLen"], plainKeys := false, apart := false, laid := [("unicode/utf8.acceptRanges", laid_unicode_utf8_acceptRanges), ("unicode/utf8.first", laid_unicode_utf8_first)], narrowed := true }
def GenesisOrderUptoSaid : Prop := genesisOrderUptoRow.holds Tryz.pinned (OpenSpec.upto genesisOrderSpec)

/-- 'rescriptlaw25.GenesisFits', WHERE WHAT IT READS IS OF BULK AT MOST 1048576: true; the input reads as it did. -/
def genesisFitsUptoRow : OpenClaim := { program := "ytfaagelglpgpkaagreatdoor", sum := "c0a3885b706cacbbda1ede1a7463b545e0250ffdee8c02d11df1aeeb9e11495c", func := "rescript/rescriptlaw25.GenesisFits", spec := "genesisFits", inPlace := ["internal/abi.NoEscape", "internal/bytealg.MakeNoZero", "slices.overlaps[rescript/api.Slot]", "slices.overlaps[rescript/api.Acct]", "internal/bytealg.IndexByteString", "internal/bytealg.IndexString", "math/bits.Sub64"], unfollowed := true, recurses := true, named := ["unicode/utf8.first", "unicode/utf8.acceptRanges", "internal/bytealg.MaxLen"], plainKeys := false, apart := false, laid := [("unicode/utf8.acceptRanges", laid_unicode_utf8_acceptRanges), ("unicode/utf8.first", laid_unicode_utf8_first)], narrowed := true }
def GenesisFitsUptoSaid : Prop := genesisFitsUptoRow.holds Tryz.pinned (OpenSpec.upto genesisFitsSpec)

/-- 'rescriptlaw25.GenesisLater', WHERE WHAT IT READS IS OF BULK AT MOST 1048576: true; the input reads as it did. -/
def genesisLaterUptoRow : OpenClaim := { program := "ytfaagelglpgpkaagreatdoor", sum := "c0a3885b706cacbbda1ede1a7463b545e0250ffdee8c02d11df1aeeb9e11495c", func := "rescript/rescriptlaw25.GenesisLater", spec := "genesisLater", inPlace := ["internal/abi.NoEscape", "internal/bytealg.MakeNoZero", "slices.overlaps[rescript/api.Slot]", "slices.overlaps[rescript/api.Acct]", "internal/bytealg.IndexByteString", "internal/bytealg.IndexString", "math/bits.Sub64"], unfollowed := true, recurses := true, named := ["unicode/utf8.first", "unicode/utf8.acceptRanges", "internal/bytealg.MaxLen"], plainKeys := false, apart := false, laid := [("unicode/utf8.acceptRanges", laid_unicode_utf8_acceptRanges), ("unicode/utf8.first", laid_unicode_utf8_first)], narrowed := true }
def GenesisLaterUptoSaid : Prop := genesisLaterUptoRow.holds Tryz.pinned (OpenSpec.upto genesisLaterSpec)

end Rows
end Go.Proofs.YtfaagelglpgpkaaGreatDoor
