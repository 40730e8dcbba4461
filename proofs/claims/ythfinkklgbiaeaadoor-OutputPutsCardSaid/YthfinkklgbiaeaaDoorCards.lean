/-
  DERIVED. GIVEN WITH THE SEED: THE CARDS: each row of YthfinkklgbiaeaaDoorRows.lean that lists a variable, with what it lists TIED to the program's text (the seventh form; the later family's looks); each row that meets fmt, with fmt's text TOLD by the authors' own Lean function (tested against real Go, not proved from fmt's source: count such statements apart). THE CARD IS WHAT COUNTS. Prove the row's statement (the work); the ties are given (YthfinkklgbiaeaaDoorTie.lean); close each card by the builder's one call (the guide's Derived/Test/ToyasCard.lean, 'card_holds'). Laid BY PROGRAM, IN A SANDBOX (cutbox-door.mjs). By AI agents, Wed Nov 11 2026. No macro, syntax, notation, axiom, sorry.
-/
import Derived.Test.YthfinkklgbiaeaaDoorRows
import GoSem.ClaimSeven
namespace Go.Proofs.YthfinkklgbiaeaaDoor
namespace Rows

/-- THE TIED CARD OF 'rescriptlaw21.OutputPuts'. -/
def outputPutsCard : Claim7 := { stood := { row := outputPutsRow, standIns := [], harness := (true, "2a38d69ac75cbf41ad3533fc5ab4c9e05624d36d6a57b416a79c5fa5258c6169"), looks := false }, kinds := [], alts := [], laidByText := true, laidKinds := [.data, .pinned], laidTests := true, laidLooks := .later }
def OutputPutsCardSaid : Prop := Claim7.holds Tryd.pinned (.plain (OpenSpec.ofChange outputPutsSpec)) outputPutsCard

/-- THE TIED CARD OF 'rescriptlaw21.OutputGets'. -/
def outputGetsCard : Claim7 := { stood := { row := outputGetsRow, standIns := [], harness := (true, "2a38d69ac75cbf41ad3533fc5ab4c9e05624d36d6a57b416a79c5fa5258c6169"), looks := false }, kinds := [], alts := [], laidByText := true, laidKinds := [.data, .pinned], laidTests := true, laidLooks := .later }
def OutputGetsCardSaid : Prop := Claim7.holds Tryd.pinned (.plain (OpenSpec.ofChange outputGetsSpec)) outputGetsCard

/-- THE TIED CARD OF 'rescriptlaw21.OutputBack'. -/
def outputBackCard : Claim7 := { stood := { row := outputBackRow, standIns := [], harness := (true, "2a38d69ac75cbf41ad3533fc5ab4c9e05624d36d6a57b416a79c5fa5258c6169"), looks := false }, kinds := [], alts := [], laidByText := true, laidKinds := [.data, .pinned], laidTests := true, laidLooks := .later }
def OutputBackCardSaid : Prop := Claim7.holds Tryd.pinned (.plain (OpenSpec.ofChange outputBackSpec)) outputBackCard

/-- THE TIED CARD OF 'rescriptlaw21.OutputOnly'. -/
def outputOnlyCard : Claim7 := { stood := { row := outputOnlyRow, standIns := [], harness := (true, "2a38d69ac75cbf41ad3533fc5ab4c9e05624d36d6a57b416a79c5fa5258c6169"), looks := false }, kinds := [], alts := [], laidByText := true, laidKinds := [.data, .pinned], laidTests := true, laidLooks := .later }
def OutputOnlyCardSaid : Prop := Claim7.holds Tryd.pinned (.plain (OpenSpec.ofChange outputOnlySpec)) outputOnlyCard

/-- THE TIED CARD OF 'rescriptlaw21.OutputApart'. -/
def outputApartCard : Claim7 := { stood := { row := outputApartRow, standIns := [], harness := (true, "2a38d69ac75cbf41ad3533fc5ab4c9e05624d36d6a57b416a79c5fa5258c6169"), looks := false }, kinds := [], alts := [], laidByText := true, laidKinds := [.data, .pinned], laidTests := true, laidLooks := .later }
def OutputApartCardSaid : Prop := Claim7.holds Tryd.pinned (.plain (OpenSpec.ofChange outputApartSpec)) outputApartCard

/-- THE TIED CARD OF 'rescriptlaw02.NumWrites'. -/
def numWritesCard : Claim7 := { stood := { row := numWritesRow, standIns := [], harness := (true, "2a38d69ac75cbf41ad3533fc5ab4c9e05624d36d6a57b416a79c5fa5258c6169"), looks := false }, kinds := [], alts := [], laidByText := true, laidKinds := [.data, .pinned], laidTests := true, laidLooks := .later }
def NumWritesCardSaid : Prop := Claim7.holds Tryd.pinned (.plain (OpenSpec.ofChange numWritesSpec)) numWritesCard

/-- THE TIED CARD OF 'rescriptlaw02.NumBack'. -/
def numBackCard : Claim7 := { stood := { row := numBackRow, standIns := [], harness := (true, "2a38d69ac75cbf41ad3533fc5ab4c9e05624d36d6a57b416a79c5fa5258c6169"), looks := false }, kinds := [], alts := [], laidByText := true, laidKinds := [.data, .pinned], laidTests := true, laidLooks := .later }
def NumBackCardSaid : Prop := Claim7.holds Tryd.pinned (.plain (OpenSpec.ofChange numBackSpec)) numBackCard

/-- THE TIED CARD OF 'rescriptlaw02.NumOnly'. -/
def numOnlyCard : Claim7 := { stood := { row := numOnlyRow, standIns := [], harness := (true, "2a38d69ac75cbf41ad3533fc5ab4c9e05624d36d6a57b416a79c5fa5258c6169"), looks := false }, kinds := [], alts := [], laidByText := true, laidKinds := [.data, .pinned], laidTests := true, laidLooks := .later }
def NumOnlyCardSaid : Prop := Claim7.holds Tryd.pinned (.plain (OpenSpec.ofChange numOnlySpec)) numOnlyCard

/-- THE TIED CARD OF 'rescriptlaw02.NumApart'. -/
def numApartCard : Claim7 := { stood := { row := numApartRow, standIns := [], harness := (true, "2a38d69ac75cbf41ad3533fc5ab4c9e05624d36d6a57b416a79c5fa5258c6169"), looks := false }, kinds := [], alts := [], laidByText := true, laidKinds := [.data, .pinned], laidTests := true, laidLooks := .later }
def NumApartCardSaid : Prop := Claim7.holds Tryd.pinned (.plain (OpenSpec.ofChange numApartSpec)) numApartCard

/-- THE SECOND FORM's CARD OF 'rescriptlaw21.OutputPuts'. -/
def outputPutsUptoCard : Claim7 := { stood := { row := outputPutsUptoRow, standIns := [], harness := (true, "2a38d69ac75cbf41ad3533fc5ab4c9e05624d36d6a57b416a79c5fa5258c6169"), looks := false }, kinds := [], alts := [], laidByText := true, laidKinds := [.data, .pinned], laidTests := true, laidLooks := .later }
def OutputPutsUptoCardSaid : Prop := Claim7.holds Tryd.pinned (.plain (OpenSpec.upto outputPutsSpec)) outputPutsUptoCard

/-- THE SECOND FORM's CARD OF 'rescriptlaw21.OutputGets'. -/
def outputGetsUptoCard : Claim7 := { stood := { row := outputGetsUptoRow, standIns := [], harness := (true, "2a38d69ac75cbf41ad3533fc5ab4c9e05624d36d6a57b416a79c5fa5258c6169"), looks := false }, kinds := [], alts := [], laidByText := true, laidKinds := [.data, .pinned], laidTests := true, laidLooks := .later }
def OutputGetsUptoCardSaid : Prop := Claim7.holds Tryd.pinned (.plain (OpenSpec.upto outputGetsSpec)) outputGetsUptoCard

/-- THE SECOND FORM's CARD OF 'rescriptlaw21.OutputBack'. -/
def outputBackUptoCard : Claim7 := { stood := { row := outputBackUptoRow, standIns := [], harness := (true, "2a38d69ac75cbf41ad3533fc5ab4c9e05624d36d6a57b416a79c5fa5258c6169"), looks := false }, kinds := [], alts := [], laidByText := true, laidKinds := [.data, .pinned], laidTests := true, laidLooks := .later }
def OutputBackUptoCardSaid : Prop := Claim7.holds Tryd.pinned (.plain (OpenSpec.upto outputBackSpec)) outputBackUptoCard

/-- THE SECOND FORM's CARD OF 'rescriptlaw21.OutputOnly'. -/
def outputOnlyUptoCard : Claim7 := { stood := { row := outputOnlyUptoRow, standIns := [], harness := (true, "2a38d69ac75cbf41ad3533fc5ab4c9e05624d36d6a57b416a79c5fa5258c6169"), looks := false }, kinds := [], alts := [], laidByText := true, laidKinds := [.data, .pinned], laidTests := true, laidLooks := .later }
def OutputOnlyUptoCardSaid : Prop := Claim7.holds Tryd.pinned (.plain (OpenSpec.upto outputOnlySpec)) outputOnlyUptoCard

/-- THE SECOND FORM's CARD OF 'rescriptlaw21.OutputApart'. -/
def outputApartUptoCard : Claim7 := { stood := { row := outputApartUptoRow, standIns := [], harness := (true, "2a38d69ac75cbf41ad3533fc5ab4c9e05624d36d6a57b416a79c5fa5258c6169"), looks := false }, kinds := [], alts := [], laidByText := true, laidKinds := [.data, .pinned], laidTests := true, laidLooks := .later }
def OutputApartUptoCardSaid : Prop := Claim7.holds Tryd.pinned (.plain (OpenSpec.upto outputApartSpec)) outputApartUptoCard

/-- THE SECOND FORM's CARD OF 'rescriptlaw02.NumWrites'. -/
def numWritesUptoCard : Claim7 := { stood := { row := numWritesUptoRow, standIns := [], harness := (true, "2a38d69ac75cbf41ad3533fc5ab4c9e05624d36d6a57b416a79c5fa5258c6169"), looks := false }, kinds := [], alts := [], laidByText := true, laidKinds := [.data, .pinned], laidTests := true, laidLooks := .later }
def NumWritesUptoCardSaid : Prop := Claim7.holds Tryd.pinned (.plain (OpenSpec.upto numWritesSpec)) numWritesUptoCard

/-- THE SECOND FORM's CARD OF 'rescriptlaw02.NumBack'. -/
def numBackUptoCard : Claim7 := { stood := { row := numBackUptoRow, standIns := [], harness := (true, "2a38d69ac75cbf41ad3533fc5ab4c9e05624d36d6a57b416a79c5fa5258c6169"), looks := false }, kinds := [], alts := [], laidByText := true, laidKinds := [.data, .pinned], laidTests := true, laidLooks := .later }
def NumBackUptoCardSaid : Prop := Claim7.holds Tryd.pinned (.plain (OpenSpec.upto numBackSpec)) numBackUptoCard

/-- THE SECOND FORM's CARD OF 'rescriptlaw02.NumOnly'. -/
def numOnlyUptoCard : Claim7 := { stood := { row := numOnlyUptoRow, standIns := [], harness := (true, "2a38d69ac75cbf41ad3533fc5ab4c9e05624d36d6a57b416a79c5fa5258c6169"), looks := false }, kinds := [], alts := [], laidByText := true, laidKinds := [.data, .pinned], laidTests := true, laidLooks := .later }
def NumOnlyUptoCardSaid : Prop := Claim7.holds Tryd.pinned (.plain (OpenSpec.upto numOnlySpec)) numOnlyUptoCard

/-- THE SECOND FORM's CARD OF 'rescriptlaw02.NumApart'. -/
def numApartUptoCard : Claim7 := { stood := { row := numApartUptoRow, standIns := [], harness := (true, "2a38d69ac75cbf41ad3533fc5ab4c9e05624d36d6a57b416a79c5fa5258c6169"), looks := false }, kinds := [], alts := [], laidByText := true, laidKinds := [.data, .pinned], laidTests := true, laidLooks := .later }
def NumApartUptoCardSaid : Prop := Claim7.holds Tryd.pinned (.plain (OpenSpec.upto numApartSpec)) numApartUptoCard
end Rows
end Go.Proofs.YthfinkklgbiaeaaDoor
