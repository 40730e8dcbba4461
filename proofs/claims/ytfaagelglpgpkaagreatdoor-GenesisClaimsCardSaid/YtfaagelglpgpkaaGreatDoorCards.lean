/-
  DERIVED. GIVEN WITH THE SEED: THE CARDS: each row of YtfaagelglpgpkaaGreatDoorRows.lean that lists a variable, with what it lists TIED to the program's text (the seventh form; the later family's looks); each row that meets fmt, with fmt's text TOLD by the authors' own Lean function (tested against real Go, not proved from fmt's source: count such statements apart). THE CARD IS WHAT COUNTS. Prove the row's statement (the work); the ties are given (YtfaagelglpgpkaaGreatDoorTie.lean); close each card by the builder's one call (the guide's Derived/Test/ToyasCard.lean, 'card_holds'). Laid BY PROGRAM, IN A SANDBOX (cutbox-door.mjs). By AI agents, Wed Nov 11 2026. No macro, syntax, notation, axiom, sorry.
-/
import Derived.Test.YtfaagelglpgpkaaGreatDoorRows
import GoSem.ClaimSeven
namespace Go.Proofs.YtfaagelglpgpkaaGreatDoor
namespace Rows

/-- THE TIED CARD OF 'rescriptlaw25.GenesisBuilds'. -/
def genesisBuildsCard : Claim7 := { stood := { row := genesisBuildsRow, standIns := [], harness := (true, "0211ce8be0871b26cafa4649daad7ce4abd6e81dcb4ab816676641ad4fe219b1"), looks := false }, kinds := [], alts := [], laidByText := true, laidKinds := [.data, .pinned], laidTests := true, laidLooks := .later }
def GenesisBuildsCardSaid : Prop := Claim7.holds Tryz.pinned (.plain (OpenSpec.ofChange genesisBuildsSpec)) genesisBuildsCard

/-- THE TIED CARD OF 'rescriptlaw25.GenesisClaims'. -/
def genesisClaimsCard : Claim7 := { stood := { row := genesisClaimsRow, standIns := [], harness := (true, "0211ce8be0871b26cafa4649daad7ce4abd6e81dcb4ab816676641ad4fe219b1"), looks := false }, kinds := [], alts := [], laidByText := true, laidKinds := [.data, .pinned], laidTests := true, laidLooks := .later }
def GenesisClaimsCardSaid : Prop := Claim7.holds Tryz.pinned (.plain (OpenSpec.ofChange genesisClaimsSpec)) genesisClaimsCard

/-- THE TIED CARD OF 'rescriptlaw25.GenesisSealed'. -/
def genesisSealedCard : Claim7 := { stood := { row := genesisSealedRow, standIns := [], harness := (true, "0211ce8be0871b26cafa4649daad7ce4abd6e81dcb4ab816676641ad4fe219b1"), looks := false }, kinds := [], alts := [], laidByText := true, laidKinds := [.data, .pinned], laidTests := true, laidLooks := .later }
def GenesisSealedCardSaid : Prop := Claim7.holds Tryz.pinned (.plain (OpenSpec.ofChange genesisSealedSpec)) genesisSealedCard

/-- THE TIED CARD OF 'rescriptlaw25.GenesisOrder'. -/
def genesisOrderCard : Claim7 := { stood := { row := genesisOrderRow, standIns := [], harness := (true, "0211ce8be0871b26cafa4649daad7ce4abd6e81dcb4ab816676641ad4fe219b1"), looks := false }, kinds := [], alts := [], laidByText := true, laidKinds := [.data, .pinned], laidTests := true, laidLooks := .later }
def GenesisOrderCardSaid : Prop := Claim7.holds Tryz.pinned (.plain (OpenSpec.ofChange genesisOrderSpec)) genesisOrderCard

/-- THE TIED CARD OF 'rescriptlaw25.GenesisFits'. -/
def genesisFitsCard : Claim7 := { stood := { row := genesisFitsRow, standIns := [], harness := (true, "0211ce8be0871b26cafa4649daad7ce4abd6e81dcb4ab816676641ad4fe219b1"), looks := false }, kinds := [], alts := [], laidByText := true, laidKinds := [.data, .pinned], laidTests := true, laidLooks := .later }
def GenesisFitsCardSaid : Prop := Claim7.holds Tryz.pinned (.plain (OpenSpec.ofChange genesisFitsSpec)) genesisFitsCard

/-- THE TIED CARD OF 'rescriptlaw25.GenesisLater'. -/
def genesisLaterCard : Claim7 := { stood := { row := genesisLaterRow, standIns := [], harness := (true, "0211ce8be0871b26cafa4649daad7ce4abd6e81dcb4ab816676641ad4fe219b1"), looks := false }, kinds := [], alts := [], laidByText := true, laidKinds := [.data, .pinned], laidTests := true, laidLooks := .later }
def GenesisLaterCardSaid : Prop := Claim7.holds Tryz.pinned (.plain (OpenSpec.ofChange genesisLaterSpec)) genesisLaterCard

/-- THE SECOND FORM's CARD OF 'rescriptlaw25.GenesisBuilds'. -/
def genesisBuildsUptoCard : Claim7 := { stood := { row := genesisBuildsUptoRow, standIns := [], harness := (true, "0211ce8be0871b26cafa4649daad7ce4abd6e81dcb4ab816676641ad4fe219b1"), looks := false }, kinds := [], alts := [], laidByText := true, laidKinds := [.data, .pinned], laidTests := true, laidLooks := .later }
def GenesisBuildsUptoCardSaid : Prop := Claim7.holds Tryz.pinned (.plain (OpenSpec.upto genesisBuildsSpec)) genesisBuildsUptoCard

/-- THE SECOND FORM's CARD OF 'rescriptlaw25.GenesisClaims'. -/
def genesisClaimsUptoCard : Claim7 := { stood := { row := genesisClaimsUptoRow, standIns := [], harness := (true, "0211ce8be0871b26cafa4649daad7ce4abd6e81dcb4ab816676641ad4fe219b1"), looks := false }, kinds := [], alts := [], laidByText := true, laidKinds := [.data, .pinned], laidTests := true, laidLooks := .later }
def GenesisClaimsUptoCardSaid : Prop := Claim7.holds Tryz.pinned (.plain (OpenSpec.upto genesisClaimsSpec)) genesisClaimsUptoCard

/-- THE SECOND FORM's CARD OF 'rescriptlaw25.GenesisSealed'. -/
def genesisSealedUptoCard : Claim7 := { stood := { row := genesisSealedUptoRow, standIns := [], harness := (true, "0211ce8be0871b26cafa4649daad7ce4abd6e81dcb4ab816676641ad4fe219b1"), looks := false }, kinds := [], alts := [], laidByText := true, laidKinds := [.data, .pinned], laidTests := true, laidLooks := .later }
def GenesisSealedUptoCardSaid : Prop := Claim7.holds Tryz.pinned (.plain (OpenSpec.upto genesisSealedSpec)) genesisSealedUptoCard

/-- THE SECOND FORM's CARD OF 'rescriptlaw25.GenesisOrder'. -/
def genesisOrderUptoCard : Claim7 := { stood := { row := genesisOrderUptoRow, standIns := [], harness := (true, "0211ce8be0871b26cafa4649daad7ce4abd6e81dcb4ab816676641ad4fe219b1"), looks := false }, kinds := [], alts := [], laidByText := true, laidKinds := [.data, .pinned], laidTests := true, laidLooks := .later }
def GenesisOrderUptoCardSaid : Prop := Claim7.holds Tryz.pinned (.plain (OpenSpec.upto genesisOrderSpec)) genesisOrderUptoCard

/-- THE SECOND FORM's CARD OF 'rescriptlaw25.GenesisFits'. -/
def genesisFitsUptoCard : Claim7 := { stood := { row := genesisFitsUptoRow, standIns := [], harness := (true, "0211ce8be0871b26cafa4649daad7ce4abd6e81dcb4ab816676641ad4fe219b1"), looks := false }, kinds := [], alts := [], laidByText := true, laidKinds := [.data, .pinned], laidTests := true, laidLooks := .later }
def GenesisFitsUptoCardSaid : Prop := Claim7.holds Tryz.pinned (.plain (OpenSpec.upto genesisFitsSpec)) genesisFitsUptoCard

/-- THE SECOND FORM's CARD OF 'rescriptlaw25.GenesisLater'. -/
def genesisLaterUptoCard : Claim7 := { stood := { row := genesisLaterUptoRow, standIns := [], harness := (true, "0211ce8be0871b26cafa4649daad7ce4abd6e81dcb4ab816676641ad4fe219b1"), looks := false }, kinds := [], alts := [], laidByText := true, laidKinds := [.data, .pinned], laidTests := true, laidLooks := .later }
def GenesisLaterUptoCardSaid : Prop := Claim7.holds Tryz.pinned (.plain (OpenSpec.upto genesisLaterSpec)) genesisLaterUptoCard
end Rows
end Go.Proofs.YtfaagelglpgpkaaGreatDoor
