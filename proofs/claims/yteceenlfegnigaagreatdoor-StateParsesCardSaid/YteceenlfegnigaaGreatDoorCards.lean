/-
  DERIVED. GIVEN WITH THE SEED: THE CARDS: each row of YteceenlfegnigaaGreatDoorRows.lean that lists a variable, with what it lists TIED to the program's text (the seventh form; the later family's looks); each row that meets fmt, with fmt's text TOLD by the authors' own Lean function (tested against real Go, not proved from fmt's source: count such statements apart). THE CARD IS WHAT COUNTS. Prove the row's statement (the work); the ties are given (YteceenlfegnigaaGreatDoorTie.lean); close each card by the builder's one call (the guide's Derived/Test/ToyasCard.lean, 'card_holds'). Laid BY PROGRAM, IN A SANDBOX (cutbox-door.mjs). By AI agents, Wed Nov 11 2026. No macro, syntax, notation, axiom, sorry.
-/
import Derived.Test.YteceenlfegnigaaGreatDoorRows
import GoSem.ClaimSeven
namespace Go.Proofs.YteceenlfegnigaaGreatDoor
namespace Rows

/-- THE TIED CARD OF 'rescriptlaw22.StateTells'. -/
def stateTellsCard : Claim7 := { stood := { row := stateTellsRow, standIns := [], harness := (true, "676501485b9a905cfd6d635576a3304adbd3a6d7803ea5910691257f9cec6b70"), looks := true }, kinds := [], alts := [], laidByText := true, laidKinds := [.data, .pinned], laidTests := true, laidLooks := .later }
def StateTellsCardSaid : Prop := Claim7.holds Tryz.pinned (.plain (OpenSpec.ofChange stateTellsSpec)) stateTellsCard

/-- THE TIED CARD OF 'rescriptlaw22.StatePuts'. -/
def statePutsCard : Claim7 := { stood := { row := statePutsRow, standIns := [], harness := (true, "676501485b9a905cfd6d635576a3304adbd3a6d7803ea5910691257f9cec6b70"), looks := true }, kinds := [], alts := [], laidByText := true, laidKinds := [.data, .pinned], laidTests := true, laidLooks := .later }
def StatePutsCardSaid : Prop := Claim7.holds Tryz.pinned (.plain (OpenSpec.ofChange statePutsSpec)) statePutsCard

/-- THE TIED CARD OF 'rescriptlaw22.StateBytes'. -/
def stateBytesCard : Claim7 := { stood := { row := stateBytesRow, standIns := [], harness := (true, "676501485b9a905cfd6d635576a3304adbd3a6d7803ea5910691257f9cec6b70"), looks := true }, kinds := [], alts := [], laidByText := true, laidKinds := [.data, .pinned], laidTests := true, laidLooks := .later }
def StateBytesCardSaid : Prop := Claim7.holds Tryz.pinned (.plain (OpenSpec.ofChange stateBytesSpec)) stateBytesCard

/-- THE TIED CARD OF 'rescriptlaw22.StateParses'. -/
def stateParsesCard : Claim7 := { stood := { row := stateParsesRow, standIns := [], harness := (true, "676501485b9a905cfd6d635576a3304adbd3a6d7803ea5910691257f9cec6b70"), looks := true }, kinds := [], alts := [], laidByText := true, laidKinds := [.data, .pinned], laidTests := true, laidLooks := .later }
def StateParsesCardSaid : Prop := Claim7.holds Tryz.pinned (.plain (OpenSpec.ofChange stateParsesSpec)) stateParsesCard

/-- THE TIED CARD OF 'rescriptlaw22.StateBack'. -/
def stateBackCard : Claim7 := { stood := { row := stateBackRow, standIns := [], harness := (true, "676501485b9a905cfd6d635576a3304adbd3a6d7803ea5910691257f9cec6b70"), looks := true }, kinds := [], alts := [], laidByText := true, laidKinds := [.data, .pinned], laidTests := true, laidLooks := .later }
def StateBackCardSaid : Prop := Claim7.holds Tryz.pinned (.plain (OpenSpec.ofChange stateBackSpec)) stateBackCard

/-- THE TIED CARD OF 'rescriptlaw22.StateKeeps'. -/
def stateKeepsCard : Claim7 := { stood := { row := stateKeepsRow, standIns := [], harness := (true, "676501485b9a905cfd6d635576a3304adbd3a6d7803ea5910691257f9cec6b70"), looks := true }, kinds := [], alts := [], laidByText := true, laidKinds := [.data, .pinned], laidTests := true, laidLooks := .later }
def StateKeepsCardSaid : Prop := Claim7.holds Tryz.pinned (.plain (OpenSpec.ofChange stateKeepsSpec)) stateKeepsCard

/-- THE TIED CARD OF 'rescriptlaw22.StateSets'. -/
def stateSetsCard : Claim7 := { stood := { row := stateSetsRow, standIns := [], harness := (true, "676501485b9a905cfd6d635576a3304adbd3a6d7803ea5910691257f9cec6b70"), looks := true }, kinds := [], alts := [], laidByText := true, laidKinds := [.data, .pinned], laidTests := true, laidLooks := .later }
def StateSetsCardSaid : Prop := Claim7.holds Tryz.pinned (.plain (OpenSpec.ofChange stateSetsSpec)) stateSetsCard

/-- THE TIED CARD OF 'rescriptlaw22.StateOrder'. -/
def stateOrderCard : Claim7 := { stood := { row := stateOrderRow, standIns := [], harness := (true, "676501485b9a905cfd6d635576a3304adbd3a6d7803ea5910691257f9cec6b70"), looks := true }, kinds := [], alts := [], laidByText := true, laidKinds := [.data, .pinned], laidTests := true, laidLooks := .later }
def StateOrderCardSaid : Prop := Claim7.holds Tryz.pinned (.plain (OpenSpec.ofChange stateOrderSpec)) stateOrderCard

/-- THE SECOND FORM's CARD OF 'rescriptlaw22.StateTells'. -/
def stateTellsUptoCard : Claim7 := { stood := { row := stateTellsUptoRow, standIns := [], harness := (true, "676501485b9a905cfd6d635576a3304adbd3a6d7803ea5910691257f9cec6b70"), looks := true }, kinds := [], alts := [], laidByText := true, laidKinds := [.data, .pinned], laidTests := true, laidLooks := .later }
def StateTellsUptoCardSaid : Prop := Claim7.holds Tryz.pinned (.plain (OpenSpec.upto stateTellsSpec)) stateTellsUptoCard

/-- THE SECOND FORM's CARD OF 'rescriptlaw22.StatePuts'. -/
def statePutsUptoCard : Claim7 := { stood := { row := statePutsUptoRow, standIns := [], harness := (true, "676501485b9a905cfd6d635576a3304adbd3a6d7803ea5910691257f9cec6b70"), looks := true }, kinds := [], alts := [], laidByText := true, laidKinds := [.data, .pinned], laidTests := true, laidLooks := .later }
def StatePutsUptoCardSaid : Prop := Claim7.holds Tryz.pinned (.plain (OpenSpec.upto statePutsSpec)) statePutsUptoCard

/-- THE SECOND FORM's CARD OF 'rescriptlaw22.StateBytes'. -/
def stateBytesUptoCard : Claim7 := { stood := { row := stateBytesUptoRow, standIns := [], harness := (true, "676501485b9a905cfd6d635576a3304adbd3a6d7803ea5910691257f9cec6b70"), looks := true }, kinds := [], alts := [], laidByText := true, laidKinds := [.data, .pinned], laidTests := true, laidLooks := .later }
def StateBytesUptoCardSaid : Prop := Claim7.holds Tryz.pinned (.plain (OpenSpec.upto stateBytesSpec)) stateBytesUptoCard

/-- THE SECOND FORM's CARD OF 'rescriptlaw22.StateParses'. -/
def stateParsesUptoCard : Claim7 := { stood := { row := stateParsesUptoRow, standIns := [], harness := (true, "676501485b9a905cfd6d635576a3304adbd3a6d7803ea5910691257f9cec6b70"), looks := true }, kinds := [], alts := [], laidByText := true, laidKinds := [.data, .pinned], laidTests := true, laidLooks := .later }
def StateParsesUptoCardSaid : Prop := Claim7.holds Tryz.pinned (.plain (OpenSpec.upto stateParsesSpec)) stateParsesUptoCard

/-- THE SECOND FORM's CARD OF 'rescriptlaw22.StateBack'. -/
def stateBackUptoCard : Claim7 := { stood := { row := stateBackUptoRow, standIns := [], harness := (true, "676501485b9a905cfd6d635576a3304adbd3a6d7803ea5910691257f9cec6b70"), looks := true }, kinds := [], alts := [], laidByText := true, laidKinds := [.data, .pinned], laidTests := true, laidLooks := .later }
def StateBackUptoCardSaid : Prop := Claim7.holds Tryz.pinned (.plain (OpenSpec.upto stateBackSpec)) stateBackUptoCard

/-- THE SECOND FORM's CARD OF 'rescriptlaw22.StateKeeps'. -/
def stateKeepsUptoCard : Claim7 := { stood := { row := stateKeepsUptoRow, standIns := [], harness := (true, "676501485b9a905cfd6d635576a3304adbd3a6d7803ea5910691257f9cec6b70"), looks := true }, kinds := [], alts := [], laidByText := true, laidKinds := [.data, .pinned], laidTests := true, laidLooks := .later }
def StateKeepsUptoCardSaid : Prop := Claim7.holds Tryz.pinned (.plain (OpenSpec.upto stateKeepsSpec)) stateKeepsUptoCard

/-- THE SECOND FORM's CARD OF 'rescriptlaw22.StateSets'. -/
def stateSetsUptoCard : Claim7 := { stood := { row := stateSetsUptoRow, standIns := [], harness := (true, "676501485b9a905cfd6d635576a3304adbd3a6d7803ea5910691257f9cec6b70"), looks := true }, kinds := [], alts := [], laidByText := true, laidKinds := [.data, .pinned], laidTests := true, laidLooks := .later }
def StateSetsUptoCardSaid : Prop := Claim7.holds Tryz.pinned (.plain (OpenSpec.upto stateSetsSpec)) stateSetsUptoCard

/-- THE SECOND FORM's CARD OF 'rescriptlaw22.StateOrder'. -/
def stateOrderUptoCard : Claim7 := { stood := { row := stateOrderUptoRow, standIns := [], harness := (true, "676501485b9a905cfd6d635576a3304adbd3a6d7803ea5910691257f9cec6b70"), looks := true }, kinds := [], alts := [], laidByText := true, laidKinds := [.data, .pinned], laidTests := true, laidLooks := .later }
def StateOrderUptoCardSaid : Prop := Claim7.holds Tryz.pinned (.plain (OpenSpec.upto stateOrderSpec)) stateOrderUptoCard
end Rows
end Go.Proofs.YteceenlfegnigaaGreatDoor
