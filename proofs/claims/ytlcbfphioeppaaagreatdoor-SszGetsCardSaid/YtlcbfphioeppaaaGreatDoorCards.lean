/-
  DERIVED. GIVEN WITH THE SEED: THE CARDS: each row of YtlcbfphioeppaaaGreatDoorRows.lean that lists a variable, with what it lists TIED to the program's text (the seventh form; the later family's looks); each row that meets fmt, with fmt's text TOLD by the authors' own Lean function (tested against real Go, not proved from fmt's source: count such statements apart). THE CARD IS WHAT COUNTS. Prove the row's statement (the work); the ties are given (YtlcbfphioeppaaaGreatDoorTie.lean); close each card by the builder's one call (the guide's Derived/Test/ToyasCard.lean, 'card_holds'). Laid BY PROGRAM, IN A SANDBOX (cutbox-door.mjs). By AI agents, Wed Nov 11 2026. No macro, syntax, notation, axiom, sorry.
-/
import Derived.Test.YtlcbfphioeppaaaGreatDoorRows
import GoSem.ClaimSeven
namespace Go.Proofs.YtlcbfphioeppaaaGreatDoor
namespace Rows

/-- THE TIED CARD OF 'rescriptlaw08.SszPuts'. -/
def sszPutsCard : Claim7 := { stood := { row := sszPutsRow, standIns := [], harness := (true, "1c9e25b7e13c6e97515b329a0c399ddfd65f1e3dc692649827cc1e292d7c4593"), looks := true }, kinds := [], alts := [], laidByText := true, laidKinds := [.data, .pinned], laidTests := true, laidLooks := .later }
def SszPutsCardSaid : Prop := Claim7.holds Tryz.pinned (.plain (OpenSpec.ofChange sszPutsSpec)) sszPutsCard

/-- THE TIED CARD OF 'rescriptlaw08.SszGets'. -/
def sszGetsCard : Claim7 := { stood := { row := sszGetsRow, standIns := [], harness := (true, "1c9e25b7e13c6e97515b329a0c399ddfd65f1e3dc692649827cc1e292d7c4593"), looks := true }, kinds := [], alts := [], laidByText := true, laidKinds := [.data, .pinned], laidTests := true, laidLooks := .later }
def SszGetsCardSaid : Prop := Claim7.holds Tryz.pinned (.plain (OpenSpec.ofChange sszGetsSpec)) sszGetsCard

/-- THE TIED CARD OF 'rescriptlaw08.SszBack'. -/
def sszBackCard : Claim7 := { stood := { row := sszBackRow, standIns := [], harness := (true, "1c9e25b7e13c6e97515b329a0c399ddfd65f1e3dc692649827cc1e292d7c4593"), looks := true }, kinds := [], alts := [], laidByText := true, laidKinds := [.data, .pinned], laidTests := true, laidLooks := .later }
def SszBackCardSaid : Prop := Claim7.holds Tryz.pinned (.plain (OpenSpec.ofChange sszBackSpec)) sszBackCard

/-- THE TIED CARD OF 'rescriptlaw08.SszOnly'. -/
def sszOnlyCard : Claim7 := { stood := { row := sszOnlyRow, standIns := [], harness := (true, "1c9e25b7e13c6e97515b329a0c399ddfd65f1e3dc692649827cc1e292d7c4593"), looks := true }, kinds := [], alts := [], laidByText := true, laidKinds := [.data, .pinned], laidTests := true, laidLooks := .later }
def SszOnlyCardSaid : Prop := Claim7.holds Tryz.pinned (.plain (OpenSpec.ofChange sszOnlySpec)) sszOnlyCard

/-- THE TIED CARD OF 'rescriptlaw08.SszApart'. -/
def sszApartCard : Claim7 := { stood := { row := sszApartRow, standIns := [], harness := (true, "1c9e25b7e13c6e97515b329a0c399ddfd65f1e3dc692649827cc1e292d7c4593"), looks := true }, kinds := [], alts := [], laidByText := true, laidKinds := [.data, .pinned], laidTests := true, laidLooks := .later }
def SszApartCardSaid : Prop := Claim7.holds Tryz.pinned (.plain (OpenSpec.ofChange sszApartSpec)) sszApartCard

/-- THE TIED CARD OF 'rescriptlaw08.SszLists'. -/
def sszListsCard : Claim7 := { stood := { row := sszListsRow, standIns := [], harness := (true, "1c9e25b7e13c6e97515b329a0c399ddfd65f1e3dc692649827cc1e292d7c4593"), looks := true }, kinds := [], alts := [], laidByText := true, laidKinds := [.data, .pinned], laidTests := true, laidLooks := .later }
def SszListsCardSaid : Prop := Claim7.holds Tryz.pinned (.plain (OpenSpec.ofChange sszListsSpec)) sszListsCard

/-- THE TIED CARD OF 'rescriptlaw09.MerkleTrees'. -/
def merkleTreesCard : Claim7 := { stood := { row := merkleTreesRow, standIns := [], harness := (true, "1c9e25b7e13c6e97515b329a0c399ddfd65f1e3dc692649827cc1e292d7c4593"), looks := true }, kinds := [], alts := [], laidByText := true, laidKinds := [.data, .pinned], laidTests := true, laidLooks := .later }
def MerkleTreesCardSaid : Prop := Claim7.holds Tryz.pinned (.plain (OpenSpec.ofChange merkleTreesSpec)) merkleTreesCard

/-- THE TIED CARD OF 'rescriptlaw09.MerkleRoots'. -/
def merkleRootsCard : Claim7 := { stood := { row := merkleRootsRow, standIns := [], harness := (true, "1c9e25b7e13c6e97515b329a0c399ddfd65f1e3dc692649827cc1e292d7c4593"), looks := true }, kinds := [], alts := [], laidByText := true, laidKinds := [.data, .pinned], laidTests := true, laidLooks := .later }
def MerkleRootsCardSaid : Prop := Claim7.holds Tryz.pinned (.plain (OpenSpec.ofChange merkleRootsSpec)) merkleRootsCard

/-- THE TIED CARD OF 'rescriptlaw09.MerkleHalves'. -/
def merkleHalvesCard : Claim7 := { stood := { row := merkleHalvesRow, standIns := [], harness := (true, "1c9e25b7e13c6e97515b329a0c399ddfd65f1e3dc692649827cc1e292d7c4593"), looks := true }, kinds := [], alts := [], laidByText := true, laidKinds := [.data, .pinned], laidTests := true, laidLooks := .later }
def MerkleHalvesCardSaid : Prop := Claim7.holds Tryz.pinned (.plain (OpenSpec.ofChange merkleHalvesSpec)) merkleHalvesCard

/-- THE TIED CARD OF 'rescriptlaw09.MerkleZeros'. -/
def merkleZerosCard : Claim7 := { stood := { row := merkleZerosRow, standIns := [], harness := (true, "1c9e25b7e13c6e97515b329a0c399ddfd65f1e3dc692649827cc1e292d7c4593"), looks := true }, kinds := [], alts := [], laidByText := true, laidKinds := [.data, .pinned], laidTests := true, laidLooks := .later }
def MerkleZerosCardSaid : Prop := Claim7.holds Tryz.pinned (.plain (OpenSpec.ofChange merkleZerosSpec)) merkleZerosCard

/-- THE TIED CARD OF 'rescriptlaw09.MerkleBytes'. -/
def merkleBytesCard : Claim7 := { stood := { row := merkleBytesRow, standIns := [], harness := (true, "1c9e25b7e13c6e97515b329a0c399ddfd65f1e3dc692649827cc1e292d7c4593"), looks := true }, kinds := [], alts := [], laidByText := true, laidKinds := [.data, .pinned], laidTests := true, laidLooks := .later }
def MerkleBytesCardSaid : Prop := Claim7.holds Tryz.pinned (.plain (OpenSpec.ofChange merkleBytesSpec)) merkleBytesCard

/-- THE TIED CARD OF 'rescriptlaw09.MerkleLists'. -/
def merkleListsCard : Claim7 := { stood := { row := merkleListsRow, standIns := [], harness := (true, "1c9e25b7e13c6e97515b329a0c399ddfd65f1e3dc692649827cc1e292d7c4593"), looks := true }, kinds := [], alts := [], laidByText := true, laidKinds := [.data, .pinned], laidTests := true, laidLooks := .later }
def MerkleListsCardSaid : Prop := Claim7.holds Tryz.pinned (.plain (OpenSpec.ofChange merkleListsSpec)) merkleListsCard

/-- THE SECOND FORM's CARD OF 'rescriptlaw08.SszPuts'. -/
def sszPutsUptoCard : Claim7 := { stood := { row := sszPutsUptoRow, standIns := [], harness := (true, "1c9e25b7e13c6e97515b329a0c399ddfd65f1e3dc692649827cc1e292d7c4593"), looks := true }, kinds := [], alts := [], laidByText := true, laidKinds := [.data, .pinned], laidTests := true, laidLooks := .later }
def SszPutsUptoCardSaid : Prop := Claim7.holds Tryz.pinned (.plain (OpenSpec.upto sszPutsSpec)) sszPutsUptoCard

/-- THE SECOND FORM's CARD OF 'rescriptlaw08.SszGets'. -/
def sszGetsUptoCard : Claim7 := { stood := { row := sszGetsUptoRow, standIns := [], harness := (true, "1c9e25b7e13c6e97515b329a0c399ddfd65f1e3dc692649827cc1e292d7c4593"), looks := true }, kinds := [], alts := [], laidByText := true, laidKinds := [.data, .pinned], laidTests := true, laidLooks := .later }
def SszGetsUptoCardSaid : Prop := Claim7.holds Tryz.pinned (.plain (OpenSpec.upto sszGetsSpec)) sszGetsUptoCard

/-- THE SECOND FORM's CARD OF 'rescriptlaw08.SszBack'. -/
def sszBackUptoCard : Claim7 := { stood := { row := sszBackUptoRow, standIns := [], harness := (true, "1c9e25b7e13c6e97515b329a0c399ddfd65f1e3dc692649827cc1e292d7c4593"), looks := true }, kinds := [], alts := [], laidByText := true, laidKinds := [.data, .pinned], laidTests := true, laidLooks := .later }
def SszBackUptoCardSaid : Prop := Claim7.holds Tryz.pinned (.plain (OpenSpec.upto sszBackSpec)) sszBackUptoCard

/-- THE SECOND FORM's CARD OF 'rescriptlaw08.SszOnly'. -/
def sszOnlyUptoCard : Claim7 := { stood := { row := sszOnlyUptoRow, standIns := [], harness := (true, "1c9e25b7e13c6e97515b329a0c399ddfd65f1e3dc692649827cc1e292d7c4593"), looks := true }, kinds := [], alts := [], laidByText := true, laidKinds := [.data, .pinned], laidTests := true, laidLooks := .later }
def SszOnlyUptoCardSaid : Prop := Claim7.holds Tryz.pinned (.plain (OpenSpec.upto sszOnlySpec)) sszOnlyUptoCard

/-- THE SECOND FORM's CARD OF 'rescriptlaw08.SszApart'. -/
def sszApartUptoCard : Claim7 := { stood := { row := sszApartUptoRow, standIns := [], harness := (true, "1c9e25b7e13c6e97515b329a0c399ddfd65f1e3dc692649827cc1e292d7c4593"), looks := true }, kinds := [], alts := [], laidByText := true, laidKinds := [.data, .pinned], laidTests := true, laidLooks := .later }
def SszApartUptoCardSaid : Prop := Claim7.holds Tryz.pinned (.plain (OpenSpec.upto sszApartSpec)) sszApartUptoCard

/-- THE SECOND FORM's CARD OF 'rescriptlaw08.SszLists'. -/
def sszListsUptoCard : Claim7 := { stood := { row := sszListsUptoRow, standIns := [], harness := (true, "1c9e25b7e13c6e97515b329a0c399ddfd65f1e3dc692649827cc1e292d7c4593"), looks := true }, kinds := [], alts := [], laidByText := true, laidKinds := [.data, .pinned], laidTests := true, laidLooks := .later }
def SszListsUptoCardSaid : Prop := Claim7.holds Tryz.pinned (.plain (OpenSpec.upto sszListsSpec)) sszListsUptoCard

/-- THE SECOND FORM's CARD OF 'rescriptlaw09.MerkleTrees'. -/
def merkleTreesUptoCard : Claim7 := { stood := { row := merkleTreesUptoRow, standIns := [], harness := (true, "1c9e25b7e13c6e97515b329a0c399ddfd65f1e3dc692649827cc1e292d7c4593"), looks := true }, kinds := [], alts := [], laidByText := true, laidKinds := [.data, .pinned], laidTests := true, laidLooks := .later }
def MerkleTreesUptoCardSaid : Prop := Claim7.holds Tryz.pinned (.plain (OpenSpec.upto merkleTreesSpec)) merkleTreesUptoCard

/-- THE SECOND FORM's CARD OF 'rescriptlaw09.MerkleRoots'. -/
def merkleRootsUptoCard : Claim7 := { stood := { row := merkleRootsUptoRow, standIns := [], harness := (true, "1c9e25b7e13c6e97515b329a0c399ddfd65f1e3dc692649827cc1e292d7c4593"), looks := true }, kinds := [], alts := [], laidByText := true, laidKinds := [.data, .pinned], laidTests := true, laidLooks := .later }
def MerkleRootsUptoCardSaid : Prop := Claim7.holds Tryz.pinned (.plain (OpenSpec.upto merkleRootsSpec)) merkleRootsUptoCard

/-- THE SECOND FORM's CARD OF 'rescriptlaw09.MerkleHalves'. -/
def merkleHalvesUptoCard : Claim7 := { stood := { row := merkleHalvesUptoRow, standIns := [], harness := (true, "1c9e25b7e13c6e97515b329a0c399ddfd65f1e3dc692649827cc1e292d7c4593"), looks := true }, kinds := [], alts := [], laidByText := true, laidKinds := [.data, .pinned], laidTests := true, laidLooks := .later }
def MerkleHalvesUptoCardSaid : Prop := Claim7.holds Tryz.pinned (.plain (OpenSpec.upto merkleHalvesSpec)) merkleHalvesUptoCard

/-- THE SECOND FORM's CARD OF 'rescriptlaw09.MerkleZeros'. -/
def merkleZerosUptoCard : Claim7 := { stood := { row := merkleZerosUptoRow, standIns := [], harness := (true, "1c9e25b7e13c6e97515b329a0c399ddfd65f1e3dc692649827cc1e292d7c4593"), looks := true }, kinds := [], alts := [], laidByText := true, laidKinds := [.data, .pinned], laidTests := true, laidLooks := .later }
def MerkleZerosUptoCardSaid : Prop := Claim7.holds Tryz.pinned (.plain (OpenSpec.upto merkleZerosSpec)) merkleZerosUptoCard

/-- THE SECOND FORM's CARD OF 'rescriptlaw09.MerkleBytes'. -/
def merkleBytesUptoCard : Claim7 := { stood := { row := merkleBytesUptoRow, standIns := [], harness := (true, "1c9e25b7e13c6e97515b329a0c399ddfd65f1e3dc692649827cc1e292d7c4593"), looks := true }, kinds := [], alts := [], laidByText := true, laidKinds := [.data, .pinned], laidTests := true, laidLooks := .later }
def MerkleBytesUptoCardSaid : Prop := Claim7.holds Tryz.pinned (.plain (OpenSpec.upto merkleBytesSpec)) merkleBytesUptoCard

/-- THE SECOND FORM's CARD OF 'rescriptlaw09.MerkleLists'. -/
def merkleListsUptoCard : Claim7 := { stood := { row := merkleListsUptoRow, standIns := [], harness := (true, "1c9e25b7e13c6e97515b329a0c399ddfd65f1e3dc692649827cc1e292d7c4593"), looks := true }, kinds := [], alts := [], laidByText := true, laidKinds := [.data, .pinned], laidTests := true, laidLooks := .later }
def MerkleListsUptoCardSaid : Prop := Claim7.holds Tryz.pinned (.plain (OpenSpec.upto merkleListsSpec)) merkleListsUptoCard
end Rows
end Go.Proofs.YtlcbfphioeppaaaGreatDoor
