/-
  No cell of these rows narrows 'for every input' (looked for: loops, veiled, ifaces, maps, wideKeys, modest, calm, conditions, laid).
  DERIVED. THE GIVEN ROWS OF THIS SEAT. 10 by the template 'for every input the law returns true; each argument reads behind the call as it read before'; 0 by the template 'total and deterministic' (their statements: YtnkmbkndpoghdaaGreatTotals.lean).
  GIVEN WITH THE SEED: the statements are not yours to turn. If you find one false, say at which input.
  Laid BY PROGRAM, IN A SANDBOX (cutbox-rows.mjs): the forced cells as the released guide's own fill.sh prints them over the translation a6efc0f8eaee3e5d… (all of the seat's roots in one cut). By AI agents, Wed Nov 11 2026. No macro, syntax, notation, axiom, sorry.
-/
import Derived.Test.YtnkmbkndpoghdaaGreatChecked
import GoSem.Claim
import GoSem.ClaimJoined
import GoSem.ClaimMapViews
import Derived.JoinedTies
import Derived.KernelRfl
namespace Go.Proofs.YtnkmbkndpoghdaaGreat
/- THE CELL 'sum', in the pinned program and in every row, IS THE sha256 OF THE DUMP (.gsa) THAT YtnkmbkndpoghdaaGreatProg.lean LOADS. Nothing in Lean hashes anything: it is a label: what it is worth is what the hold of that sum in a sandbox is worth. -/
noncomputable def Tryz.pinned : Pinned := { name := "ytnkmbkndpoghdaagreat", sum := "a6efc0f8eaee3e5dda18d88363de0137016b7759cb4f4c1f50225154740ba4d2", checked := Tryz.checked }
namespace Rows
def none {H : Type} : Left H := { results := [], args := [] }

/-- 'rescriptlaw23.LayoutWrites': WHATEVER THE INPUT: true; the input reads as it did. -/
def layoutWritesSpec : ChangeSpec := { name := "layoutWrites", fn := fun _ => fun
  | [d1, d2, d3] => { results := [.lit (.bool true)], args := [d1, d2, d3] }
  | _ => none }
def layoutWritesRow : OpenClaim := { program := "ytnkmbkndpoghdaagreat", sum := "a6efc0f8eaee3e5dda18d88363de0137016b7759cb4f4c1f50225154740ba4d2", func := "rescript/rescriptlaw23.LayoutWrites", spec := "layoutWrites", inPlace := ["internal/abi.NoEscape", "internal/bytealg.MakeNoZero", "slices.overlaps[rescript/api.Slot]", "slices.overlaps[rescript/api.Acct]"], unfollowed := true, recurses := true, apart := false }
def LayoutWritesSaid : Prop := layoutWritesRow.holds Tryz.pinned (OpenSpec.ofChange layoutWritesSpec)

/-- ITS FALSE NEIGHBOUR: 'it returns false'. Refute it at one input. -/
def layoutWritesWrong : ChangeSpec := { name := "layoutWrites", fn := fun _ => fun
  | [d1, d2, d3] => { results := [.lit (.bool false)], args := [d1, d2, d3] }
  | _ => none }
def LayoutWritesWrongFalsely : Prop := layoutWritesRow.holds Tryz.pinned (OpenSpec.ofChange layoutWritesWrong)

/-- 'rescriptlaw23.LayoutTells': WHATEVER THE INPUT: true; the input reads as it did. -/
def layoutTellsSpec : ChangeSpec := { name := "layoutTells", fn := fun _ => fun
  | [d1, d2, d3, d4] => { results := [.lit (.bool true)], args := [d1, d2, d3, d4] }
  | _ => none }
def layoutTellsRow : OpenClaim := { program := "ytnkmbkndpoghdaagreat", sum := "a6efc0f8eaee3e5dda18d88363de0137016b7759cb4f4c1f50225154740ba4d2", func := "rescript/rescriptlaw23.LayoutTells", spec := "layoutTells", inPlace := ["internal/abi.NoEscape", "internal/bytealg.MakeNoZero", "slices.overlaps[rescript/api.Slot]", "slices.overlaps[rescript/api.Acct]"], unfollowed := true, recurses := true, apart := false }
def LayoutTellsSaid : Prop := layoutTellsRow.holds Tryz.pinned (OpenSpec.ofChange layoutTellsSpec)

/-- ITS FALSE NEIGHBOUR: 'it returns false'. Refute it at one input. -/
def layoutTellsWrong : ChangeSpec := { name := "layoutTells", fn := fun _ => fun
  | [d1, d2, d3, d4] => { results := [.lit (.bool false)], args := [d1, d2, d3, d4] }
  | _ => none }
def LayoutTellsWrongFalsely : Prop := layoutTellsRow.holds Tryz.pinned (OpenSpec.ofChange layoutTellsWrong)

/-- 'rescriptlaw23.LayoutBack': WHATEVER THE INPUT: true; the input reads as it did. -/
def layoutBackSpec : ChangeSpec := { name := "layoutBack", fn := fun _ => fun
  | [d1, d2, d3] => { results := [.lit (.bool true)], args := [d1, d2, d3] }
  | _ => none }
def layoutBackRow : OpenClaim := { program := "ytnkmbkndpoghdaagreat", sum := "a6efc0f8eaee3e5dda18d88363de0137016b7759cb4f4c1f50225154740ba4d2", func := "rescript/rescriptlaw23.LayoutBack", spec := "layoutBack", inPlace := ["internal/abi.NoEscape", "internal/bytealg.MakeNoZero", "slices.overlaps[rescript/api.Slot]", "slices.overlaps[rescript/api.Acct]"], unfollowed := true, recurses := true, apart := false }
def LayoutBackSaid : Prop := layoutBackRow.holds Tryz.pinned (OpenSpec.ofChange layoutBackSpec)

/-- ITS FALSE NEIGHBOUR: 'it returns false'. Refute it at one input. -/
def layoutBackWrong : ChangeSpec := { name := "layoutBack", fn := fun _ => fun
  | [d1, d2, d3] => { results := [.lit (.bool false)], args := [d1, d2, d3] }
  | _ => none }
def LayoutBackWrongFalsely : Prop := layoutBackRow.holds Tryz.pinned (OpenSpec.ofChange layoutBackWrong)

/-- 'rescriptlaw23.LayoutOver': WHATEVER THE INPUT: true; the input reads as it did. -/
def layoutOverSpec : ChangeSpec := { name := "layoutOver", fn := fun _ => fun
  | [d1, d2, d3, d4, d5] => { results := [.lit (.bool true)], args := [d1, d2, d3, d4, d5] }
  | _ => none }
def layoutOverRow : OpenClaim := { program := "ytnkmbkndpoghdaagreat", sum := "a6efc0f8eaee3e5dda18d88363de0137016b7759cb4f4c1f50225154740ba4d2", func := "rescript/rescriptlaw23.LayoutOver", spec := "layoutOver", inPlace := ["internal/abi.NoEscape", "internal/bytealg.MakeNoZero", "slices.overlaps[rescript/api.Slot]", "slices.overlaps[rescript/api.Acct]"], unfollowed := true, recurses := true, apart := false }
def LayoutOverSaid : Prop := layoutOverRow.holds Tryz.pinned (OpenSpec.ofChange layoutOverSpec)

/-- ITS FALSE NEIGHBOUR: 'it returns false'. Refute it at one input. -/
def layoutOverWrong : ChangeSpec := { name := "layoutOver", fn := fun _ => fun
  | [d1, d2, d3, d4, d5] => { results := [.lit (.bool false)], args := [d1, d2, d3, d4, d5] }
  | _ => none }
def LayoutOverWrongFalsely : Prop := layoutOverRow.holds Tryz.pinned (OpenSpec.ofChange layoutOverWrong)

/-- 'rescriptlaw23.LayoutAgain': WHATEVER THE INPUT: true; the input reads as it did. -/
def layoutAgainSpec : ChangeSpec := { name := "layoutAgain", fn := fun _ => fun
  | [d1, d2] => { results := [.lit (.bool true)], args := [d1, d2] }
  | _ => none }
def layoutAgainRow : OpenClaim := { program := "ytnkmbkndpoghdaagreat", sum := "a6efc0f8eaee3e5dda18d88363de0137016b7759cb4f4c1f50225154740ba4d2", func := "rescript/rescriptlaw23.LayoutAgain", spec := "layoutAgain", inPlace := ["internal/abi.NoEscape", "internal/bytealg.MakeNoZero", "slices.overlaps[rescript/api.Slot]", "slices.overlaps[rescript/api.Acct]"], unfollowed := true, recurses := true, apart := false }
def LayoutAgainSaid : Prop := layoutAgainRow.holds Tryz.pinned (OpenSpec.ofChange layoutAgainSpec)

/-- ITS FALSE NEIGHBOUR: 'it returns false'. Refute it at one input. -/
def layoutAgainWrong : ChangeSpec := { name := "layoutAgain", fn := fun _ => fun
  | [d1, d2] => { results := [.lit (.bool false)], args := [d1, d2] }
  | _ => none }
def LayoutAgainWrongFalsely : Prop := layoutAgainRow.holds Tryz.pinned (OpenSpec.ofChange layoutAgainWrong)

/-- 'rescriptlaw24.MigrateTurns': WHATEVER THE INPUT: true; the input reads as it did. -/
def migrateTurnsSpec : ChangeSpec := { name := "migrateTurns", fn := fun _ => fun
  | [d1, d2, d3] => { results := [.lit (.bool true)], args := [d1, d2, d3] }
  | _ => none }
def migrateTurnsRow : OpenClaim := { program := "ytnkmbkndpoghdaagreat", sum := "a6efc0f8eaee3e5dda18d88363de0137016b7759cb4f4c1f50225154740ba4d2", func := "rescript/rescriptlaw24.MigrateTurns", spec := "migrateTurns", inPlace := ["internal/abi.NoEscape", "internal/bytealg.MakeNoZero", "slices.overlaps[rescript/api.Slot]", "slices.overlaps[rescript/api.Acct]"], unfollowed := true, recurses := true, apart := false }
def MigrateTurnsSaid : Prop := migrateTurnsRow.holds Tryz.pinned (OpenSpec.ofChange migrateTurnsSpec)

/-- ITS FALSE NEIGHBOUR: 'it returns false'. Refute it at one input. -/
def migrateTurnsWrong : ChangeSpec := { name := "migrateTurns", fn := fun _ => fun
  | [d1, d2, d3] => { results := [.lit (.bool false)], args := [d1, d2, d3] }
  | _ => none }
def MigrateTurnsWrongFalsely : Prop := migrateTurnsRow.holds Tryz.pinned (OpenSpec.ofChange migrateTurnsWrong)

/-- 'rescriptlaw24.MigrateSteps': WHATEVER THE INPUT: true; the input reads as it did. -/
def migrateStepsSpec : ChangeSpec := { name := "migrateSteps", fn := fun _ => fun
  | [d1, d2, d3] => { results := [.lit (.bool true)], args := [d1, d2, d3] }
  | _ => none }
def migrateStepsRow : OpenClaim := { program := "ytnkmbkndpoghdaagreat", sum := "a6efc0f8eaee3e5dda18d88363de0137016b7759cb4f4c1f50225154740ba4d2", func := "rescript/rescriptlaw24.MigrateSteps", spec := "migrateSteps", inPlace := ["internal/abi.NoEscape", "internal/bytealg.MakeNoZero", "slices.overlaps[rescript/api.Slot]", "slices.overlaps[rescript/api.Acct]"], unfollowed := true, recurses := true, apart := false }
def MigrateStepsSaid : Prop := migrateStepsRow.holds Tryz.pinned (OpenSpec.ofChange migrateStepsSpec)

/-- ITS FALSE NEIGHBOUR: 'it returns false'. Refute it at one input. -/
def migrateStepsWrong : ChangeSpec := { name := "migrateSteps", fn := fun _ => fun
  | [d1, d2, d3] => { results := [.lit (.bool false)], args := [d1, d2, d3] }
  | _ => none }
def MigrateStepsWrongFalsely : Prop := migrateStepsRow.holds Tryz.pinned (OpenSpec.ofChange migrateStepsWrong)

/-- 'rescriptlaw24.MigrateKeeps': WHATEVER THE INPUT: true; the input reads as it did. -/
def migrateKeepsSpec : ChangeSpec := { name := "migrateKeeps", fn := fun _ => fun
  | [d1, d2, d3, d4, d5] => { results := [.lit (.bool true)], args := [d1, d2, d3, d4, d5] }
  | _ => none }
def migrateKeepsRow : OpenClaim := { program := "ytnkmbkndpoghdaagreat", sum := "a6efc0f8eaee3e5dda18d88363de0137016b7759cb4f4c1f50225154740ba4d2", func := "rescript/rescriptlaw24.MigrateKeeps", spec := "migrateKeeps", inPlace := ["internal/abi.NoEscape", "internal/bytealg.MakeNoZero", "slices.overlaps[rescript/api.Slot]", "slices.overlaps[rescript/api.Acct]"], unfollowed := true, recurses := true, apart := false }
def MigrateKeepsSaid : Prop := migrateKeepsRow.holds Tryz.pinned (OpenSpec.ofChange migrateKeepsSpec)

/-- ITS FALSE NEIGHBOUR: 'it returns false'. Refute it at one input. -/
def migrateKeepsWrong : ChangeSpec := { name := "migrateKeeps", fn := fun _ => fun
  | [d1, d2, d3, d4, d5] => { results := [.lit (.bool false)], args := [d1, d2, d3, d4, d5] }
  | _ => none }
def MigrateKeepsWrongFalsely : Prop := migrateKeepsRow.holds Tryz.pinned (OpenSpec.ofChange migrateKeepsWrong)

/-- 'rescriptlaw24.MigrateFits': WHATEVER THE INPUT: true; the input reads as it did. -/
def migrateFitsSpec : ChangeSpec := { name := "migrateFits", fn := fun _ => fun
  | [d1, d2, d3] => { results := [.lit (.bool true)], args := [d1, d2, d3] }
  | _ => none }
def migrateFitsRow : OpenClaim := { program := "ytnkmbkndpoghdaagreat", sum := "a6efc0f8eaee3e5dda18d88363de0137016b7759cb4f4c1f50225154740ba4d2", func := "rescript/rescriptlaw24.MigrateFits", spec := "migrateFits", inPlace := ["internal/abi.NoEscape", "internal/bytealg.MakeNoZero", "slices.overlaps[rescript/api.Slot]", "slices.overlaps[rescript/api.Acct]"], unfollowed := true, recurses := true, apart := false }
def MigrateFitsSaid : Prop := migrateFitsRow.holds Tryz.pinned (OpenSpec.ofChange migrateFitsSpec)

/-- ITS FALSE NEIGHBOUR: 'it returns false'. Refute it at one input. -/
def migrateFitsWrong : ChangeSpec := { name := "migrateFits", fn := fun _ => fun
  | [d1, d2, d3] => { results := [.lit (.bool false)], args := [d1, d2, d3] }
  | _ => none }
def MigrateFitsWrongFalsely : Prop := migrateFitsRow.holds Tryz.pinned (OpenSpec.ofChange migrateFitsWrong)

/-- 'rescriptlaw24.MigrateParts': WHATEVER THE INPUT: true; the input reads as it did. -/
def migratePartsSpec : ChangeSpec := { name := "migrateParts", fn := fun _ => fun
  | [d1, d2, d3, d4] => { results := [.lit (.bool true)], args := [d1, d2, d3, d4] }
  | _ => none }
def migratePartsRow : OpenClaim := { program := "ytnkmbkndpoghdaagreat", sum := "a6efc0f8eaee3e5dda18d88363de0137016b7759cb4f4c1f50225154740ba4d2", func := "rescript/rescriptlaw24.MigrateParts", spec := "migrateParts", inPlace := ["internal/abi.NoEscape", "internal/bytealg.MakeNoZero", "slices.overlaps[rescript/api.Slot]", "slices.overlaps[rescript/api.Acct]"], unfollowed := true, recurses := true, apart := false }
def MigratePartsSaid : Prop := migratePartsRow.holds Tryz.pinned (OpenSpec.ofChange migratePartsSpec)

/-- ITS FALSE NEIGHBOUR: 'it returns false'. Refute it at one input. -/
def migratePartsWrong : ChangeSpec := { name := "migrateParts", fn := fun _ => fun
  | [d1, d2, d3, d4] => { results := [.lit (.bool false)], args := [d1, d2, d3, d4] }
  | _ => none }
def MigratePartsWrongFalsely : Prop := migratePartsRow.holds Tryz.pinned (OpenSpec.ofChange migratePartsWrong)

/- THE SECOND FORM. 'bulk': how many values and letters a reading holds, each counted each time it is reached (what is shared counts as often as it is met; a slice's spare places count too). A statement '..UptoSaid' is the law's where the arguments, and the package variables that the reading takes, are together of bulk at most 1048576: NARROWER than '..Said'. Prove '..Said' where nothing that the law and all that it calls make is longer than what came in: it says more and counts as full. Else prove '..UptoSaid'. A law counts once. -/
mutual
def uptoBulk {H : Type} : DataW H → Nat
  | .lit (.string bytes) => bytes.length + 1
  | .lit _ => 1
  | .nil => 1
  | .ptr d => uptoBulk d + 1
  | .slice elems spare => uptoBulkAll elems + uptoBulkAll spare + 1
  | .agg parts => uptoBulkAll parts + 1
  | .iface _ d => uptoBulk d + 1
  | .map entries => uptoBulkEntries entries + 1
  | .held _ => 1
def uptoBulkAll {H : Type} : List (DataW H) → Nat
  | [] => 0
  | d :: r => uptoBulk d + uptoBulkAll r
def uptoBulkEntries {H : Type} : List (Lit × DataW H) → Nat
  | [] => 0
  | x :: r => uptoBulkEntry x + uptoBulkEntries r
def uptoBulkEntry {H : Type} : Lit × DataW H → Nat
  | (.string bytes, d) => bytes.length + uptoBulk d + 1
  | (_, d) => uptoBulk d + 1
 end
def uptoSmall : (H : Type) → List (DataW H) → Bool := fun _ ds => decide (uptoBulkAll ds ≤ 1048576)
def OpenSpec.upto (s : _root_.Go.ChangeSpec) : _root_.Go.OpenSpec := { _root_.Go.OpenSpec.ofChange s with cond := some uptoSmall }

/-- 'rescriptlaw23.LayoutWrites', WHERE WHAT IT READS IS OF BULK AT MOST 1048576: true; the input reads as it did. -/
def layoutWritesUptoRow : OpenClaim := { program := "ytnkmbkndpoghdaagreat", sum := "a6efc0f8eaee3e5dda18d88363de0137016b7759cb4f4c1f50225154740ba4d2", func := "rescript/rescriptlaw23.LayoutWrites", spec := "layoutWrites", inPlace := ["internal/abi.NoEscape", "internal/bytealg.MakeNoZero", "slices.overlaps[rescript/api.Slot]", "slices.overlaps[rescript/api.Acct]"], unfollowed := true, recurses := true, apart := false, narrowed := true }
def LayoutWritesUptoSaid : Prop := layoutWritesUptoRow.holds Tryz.pinned (OpenSpec.upto layoutWritesSpec)

/-- 'rescriptlaw23.LayoutTells', WHERE WHAT IT READS IS OF BULK AT MOST 1048576: true; the input reads as it did. -/
def layoutTellsUptoRow : OpenClaim := { program := "ytnkmbkndpoghdaagreat", sum := "a6efc0f8eaee3e5dda18d88363de0137016b7759cb4f4c1f50225154740ba4d2", func := "rescript/rescriptlaw23.LayoutTells", spec := "layoutTells", inPlace := ["internal/abi.NoEscape", "internal/bytealg.MakeNoZero", "slices.overlaps[rescript/api.Slot]", "slices.overlaps[rescript/api.Acct]"], unfollowed := true, recurses := true, apart := false, narrowed := true }
def LayoutTellsUptoSaid : Prop := layoutTellsUptoRow.holds Tryz.pinned (OpenSpec.upto layoutTellsSpec)

/-- 'rescriptlaw23.LayoutBack', WHERE WHAT IT READS IS OF BULK AT MOST 1048576: true; the input reads as it did. -/
def layoutBackUptoRow : OpenClaim := { program := "ytnkmbkndpoghdaagreat", sum := "a6efc0f8eaee3e5dda18d88363de0137016b7759cb4f4c1f50225154740ba4d2", func := "rescript/rescriptlaw23.LayoutBack", spec := "layoutBack", inPlace := ["internal/abi.NoEscape", "internal/bytealg.MakeNoZero", "slices.overlaps[rescript/api.Slot]", "slices.overlaps[rescript/api.Acct]"], unfollowed := true, recurses := true, apart := false, narrowed := true }
def LayoutBackUptoSaid : Prop := layoutBackUptoRow.holds Tryz.pinned (OpenSpec.upto layoutBackSpec)

/-- 'rescriptlaw23.LayoutOver', WHERE WHAT IT READS IS OF BULK AT MOST 1048576: true; the input reads as it did. -/
def layoutOverUptoRow : OpenClaim := { program := "ytnkmbkndpoghdaagreat", sum := "a6efc0f8eaee3e5dda18d88363de0137016b7759cb4f4c1f50225154740ba4d2", func := "rescript/rescriptlaw23.LayoutOver", spec := "layoutOver", inPlace := ["internal/abi.NoEscape", "internal/bytealg.MakeNoZero", "slices.overlaps[rescript/api.Slot]", "slices.overlaps[rescript/api.Acct]"], unfollowed := true, recurses := true, apart := false, narrowed := true }
def LayoutOverUptoSaid : Prop := layoutOverUptoRow.holds Tryz.pinned (OpenSpec.upto layoutOverSpec)

/-- 'rescriptlaw23.LayoutAgain', WHERE WHAT IT READS IS OF BULK AT MOST 1048576: true; the input reads as it did. -/
def layoutAgainUptoRow : OpenClaim := { program := "ytnkmbkndpoghdaagreat", sum := "a6efc0f8eaee3e5dda18d88363de0137016b7759cb4f4c1f50225154740ba4d2", func := "rescript/rescriptlaw23.LayoutAgain", spec := "layoutAgain", inPlace := ["internal/abi.NoEscape", "internal/bytealg.MakeNoZero", "slices.overlaps[rescript/api.Slot]", "slices.overlaps[rescript/api.Acct]"], unfollowed := true, recurses := true, apart := false, narrowed := true }
def LayoutAgainUptoSaid : Prop := layoutAgainUptoRow.holds Tryz.pinned (OpenSpec.upto layoutAgainSpec)

/-- 'rescriptlaw24.MigrateTurns', WHERE WHAT IT READS IS OF BULK AT MOST 1048576: true; the input reads as it did. -/
def migrateTurnsUptoRow : OpenClaim := { program := "ytnkmbkndpoghdaagreat", sum := "a6efc0f8eaee3e5dda18d88363de0137016b7759cb4f4c1f50225154740ba4d2", func := "rescript/rescriptlaw24.MigrateTurns", spec := "migrateTurns", inPlace := ["internal/abi.NoEscape", "internal/bytealg.MakeNoZero", "slices.overlaps[rescript/api.Slot]", "slices.overlaps[rescript/api.Acct]"], unfollowed := true, recurses := true, apart := false, narrowed := true }
def MigrateTurnsUptoSaid : Prop := migrateTurnsUptoRow.holds Tryz.pinned (OpenSpec.upto migrateTurnsSpec)

/-- 'rescriptlaw24.MigrateSteps', WHERE WHAT IT READS IS OF BULK AT MOST 1048576: true; the input reads as it did. -/
def migrateStepsUptoRow : OpenClaim := { program := "ytnkmbkndpoghdaagreat", sum := "a6efc0f8eaee3e5dda18d88363de0137016b7759cb4f4c1f50225154740ba4d2", func := "rescript/rescriptlaw24.MigrateSteps", spec := "migrateSteps", inPlace := ["internal/abi.NoEscape", "internal/bytealg.MakeNoZero", "slices.overlaps[rescript/api.Slot]", "slices.overlaps[rescript/api.Acct]"], unfollowed := true, recurses := true, apart := false, narrowed := true }
def MigrateStepsUptoSaid : Prop := migrateStepsUptoRow.holds Tryz.pinned (OpenSpec.upto migrateStepsSpec)

/-- 'rescriptlaw24.MigrateKeeps', WHERE WHAT IT READS IS OF BULK AT MOST 1048576: true; the input reads as it did. -/
def migrateKeepsUptoRow : OpenClaim := { program := "ytnkmbkndpoghdaagreat", sum := "a6efc0f8eaee3e5dda18d88363de0137016b7759cb4f4c1f50225154740ba4d2", func := "rescript/rescriptlaw24.MigrateKeeps", spec := "migrateKeeps", inPlace := ["internal/abi.NoEscape", "internal/bytealg.MakeNoZero", "slices.overlaps[rescript/api.Slot]", "slices.overlaps[rescript/api.Acct]"], unfollowed := true, recurses := true, apart := false, narrowed := true }
def MigrateKeepsUptoSaid : Prop := migrateKeepsUptoRow.holds Tryz.pinned (OpenSpec.upto migrateKeepsSpec)

/-- 'rescriptlaw24.MigrateFits', WHERE WHAT IT READS IS OF BULK AT MOST 1048576: true; the input reads as it did. -/
def migrateFitsUptoRow : OpenClaim := { program := "ytnkmbkndpoghdaagreat", sum := "a6efc0f8eaee3e5dda18d88363de0137016b7759cb4f4c1f50225154740ba4d2", func := "rescript/rescriptlaw24.MigrateFits", spec := "migrateFits", inPlace := ["internal/abi.NoEscape", "internal/bytealg.MakeNoZero", "slices.overlaps[rescript/api.Slot]", "slices.overlaps[rescript/api.Acct]"], unfollowed := true, recurses := true, apart := false, narrowed := true }
def MigrateFitsUptoSaid : Prop := migrateFitsUptoRow.holds Tryz.pinned (OpenSpec.upto migrateFitsSpec)

/-- 'rescriptlaw24.MigrateParts', WHERE WHAT IT READS IS OF BULK AT MOST 1048576: true; the input reads as it did. -/
def migratePartsUptoRow : OpenClaim := { program := "ytnkmbkndpoghdaagreat", sum := "a6efc0f8eaee3e5dda18d88363de0137016b7759cb4f4c1f50225154740ba4d2", func := "rescript/rescriptlaw24.MigrateParts", spec := "migrateParts", inPlace := ["internal/abi.NoEscape", "internal/bytealg.MakeNoZero", "slices.overlaps[rescript/api.Slot]", "slices.overlaps[rescript/api.Acct]"], unfollowed := true, recurses := true, apart := false, narrowed := true }
def MigratePartsUptoSaid : Prop := migratePartsUptoRow.holds Tryz.pinned (OpenSpec.upto migratePartsSpec)

end Rows
end Go.Proofs.YtnkmbkndpoghdaaGreat
