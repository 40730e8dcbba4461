/-
  DERIVED. GIVEN WITH THE SEED: THE CARDS: each row of YtckoepmdmhdepaaGreatDoorRows.lean that lists a variable, with what it lists TIED to the program's text (the seventh form; the later family's looks); each row that meets fmt, with fmt's text TOLD by the authors' own Lean function (tested against real Go, not proved from fmt's source: count such statements apart). THE CARD IS WHAT COUNTS. Prove the row's statement (the work); the ties are given (YtckoepmdmhdepaaGreatDoorTie.lean); close each card by the builder's one call (the guide's Derived/Test/ToyasCard.lean, 'card_holds'). Laid BY PROGRAM, IN A SANDBOX (cutbox-door.mjs). By AI agents, Wed Nov 11 2026. No macro, syntax, notation, axiom, sorry.
-/
import Derived.Test.YtckoepmdmhdepaaGreatDoorRows
import GoSem.ClaimSeven
namespace Go.Proofs.YtckoepmdmhdepaaGreatDoor
namespace Rows

/-- THE TIED CARD OF 'rescripttop.TopSpans'. -/
def topSpansCard : Claim7 := { stood := { row := topSpansRow, standIns := [], harness := (true, "8f1a66c3586a6543d0ff0deadbb16891bb219f4fbf903f7e28670e1a29a0ce32"), looks := true }, kinds := [], alts := [], laidByText := true, laidKinds := [.data, .handle, .pinned], laidTests := true, laidLooks := .later }
def TopSpansCardSaid : Prop := Claim7.holds Tryz.pinned (.plain (OpenSpec.ofChange topSpansSpec)) topSpansCard

/-- THE TIED CARD OF 'rescripttop.TopStable'. -/
def topStableCard : Claim7 := { stood := { row := topStableRow, standIns := [], harness := (true, "8f1a66c3586a6543d0ff0deadbb16891bb219f4fbf903f7e28670e1a29a0ce32"), looks := true }, kinds := [], alts := [], laidByText := true, laidKinds := [.data, .handle, .pinned], laidTests := true, laidLooks := .later }
def TopStableCardSaid : Prop := Claim7.holds Tryz.pinned (.plain (OpenSpec.ofChange topStableSpec)) topStableCard

/-- THE TIED CARD OF 'rescripttop.TopGarbage'. -/
def topGarbageCard : Claim7 := { stood := { row := topGarbageRow, standIns := [], harness := (true, "8f1a66c3586a6543d0ff0deadbb16891bb219f4fbf903f7e28670e1a29a0ce32"), looks := true }, kinds := [], alts := [], laidByText := true, laidKinds := [.data, .handle, .pinned], laidTests := true, laidLooks := .later }
def TopGarbageCardSaid : Prop := Claim7.holds Tryz.pinned (.plain (OpenSpec.ofChange topGarbageSpec)) topGarbageCard

/-- THE SECOND FORM's CARD OF 'rescripttop.TopSpans'. -/
def topSpansUptoCard : Claim7 := { stood := { row := topSpansUptoRow, standIns := [], harness := (true, "8f1a66c3586a6543d0ff0deadbb16891bb219f4fbf903f7e28670e1a29a0ce32"), looks := true }, kinds := [], alts := [], laidByText := true, laidKinds := [.data, .handle, .pinned], laidTests := true, laidLooks := .later }
def TopSpansUptoCardSaid : Prop := Claim7.holds Tryz.pinned (.plain (OpenSpec.upto topSpansSpec)) topSpansUptoCard

/-- THE SECOND FORM's CARD OF 'rescripttop.TopStable'. -/
def topStableUptoCard : Claim7 := { stood := { row := topStableUptoRow, standIns := [], harness := (true, "8f1a66c3586a6543d0ff0deadbb16891bb219f4fbf903f7e28670e1a29a0ce32"), looks := true }, kinds := [], alts := [], laidByText := true, laidKinds := [.data, .handle, .pinned], laidTests := true, laidLooks := .later }
def TopStableUptoCardSaid : Prop := Claim7.holds Tryz.pinned (.plain (OpenSpec.upto topStableSpec)) topStableUptoCard

/-- THE SECOND FORM's CARD OF 'rescripttop.TopGarbage'. -/
def topGarbageUptoCard : Claim7 := { stood := { row := topGarbageUptoRow, standIns := [], harness := (true, "8f1a66c3586a6543d0ff0deadbb16891bb219f4fbf903f7e28670e1a29a0ce32"), looks := true }, kinds := [], alts := [], laidByText := true, laidKinds := [.data, .handle, .pinned], laidTests := true, laidLooks := .later }
def TopGarbageUptoCardSaid : Prop := Claim7.holds Tryz.pinned (.plain (OpenSpec.upto topGarbageSpec)) topGarbageUptoCard
end Rows
end Go.Proofs.YtckoepmdmhdepaaGreatDoor
