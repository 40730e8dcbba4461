/-
  DERIVED. GIVEN WITH THE SEED: THE CARDS: each row of YtpognifhchikgaaDoorRows.lean that lists a variable, with what it lists TIED to the program's text (the seventh form; the later family's looks); each row that meets fmt, with fmt's text TOLD by the authors' own Lean function (tested against real Go, not proved from fmt's source: count such statements apart). THE CARD IS WHAT COUNTS. Prove the row's statement (the work); the ties are given (YtpognifhchikgaaDoorTie.lean); close each card by the builder's one call (the guide's Derived/Test/ToyasCard.lean, 'card_holds'). Laid BY PROGRAM, IN A SANDBOX (cutbox-door.mjs). By AI agents, Wed Nov 11 2026. No macro, syntax, notation, axiom, sorry.
-/
import Derived.Test.YtpognifhchikgaaDoorRows
import GoSem.ClaimSeven
namespace Go.Proofs.YtpognifhchikgaaDoor
namespace Rows

/-- THE TIED CARD OF 'rescriptlaw01.WordSums'. -/
def wordSumsCard : Claim7 := { stood := { row := wordSumsRow, standIns := [], harness := (true, "8c79942a8d6ac513caf07c6a86040e3c20c97a130615f43ac00402cbc1b88fcf"), looks := false }, kinds := [], alts := [], laidByText := true, laidKinds := [.data, .pinned], laidTests := true, laidLooks := .later }
def WordSumsCardSaid : Prop := Claim7.holds Tryd.pinned (.plain (OpenSpec.ofChange wordSumsSpec)) wordSumsCard

/-- THE TIED CARD OF 'rescriptlaw01.WordBytes'. -/
def wordBytesCard : Claim7 := { stood := { row := wordBytesRow, standIns := [], harness := (true, "8c79942a8d6ac513caf07c6a86040e3c20c97a130615f43ac00402cbc1b88fcf"), looks := false }, kinds := [], alts := [], laidByText := true, laidKinds := [.data, .pinned], laidTests := true, laidLooks := .later }
def WordBytesCardSaid : Prop := Claim7.holds Tryd.pinned (.plain (OpenSpec.ofChange wordBytesSpec)) wordBytesCard

/-- THE TIED CARD OF 'rescriptlaw01.WordBack'. -/
def wordBackCard : Claim7 := { stood := { row := wordBackRow, standIns := [], harness := (true, "8c79942a8d6ac513caf07c6a86040e3c20c97a130615f43ac00402cbc1b88fcf"), looks := false }, kinds := [], alts := [], laidByText := true, laidKinds := [.data, .pinned], laidTests := true, laidLooks := .later }
def WordBackCardSaid : Prop := Claim7.holds Tryd.pinned (.plain (OpenSpec.ofChange wordBackSpec)) wordBackCard

/-- THE TIED CARD OF 'rescriptlaw01.WordTurns'. -/
def wordTurnsCard : Claim7 := { stood := { row := wordTurnsRow, standIns := [], harness := (true, "8c79942a8d6ac513caf07c6a86040e3c20c97a130615f43ac00402cbc1b88fcf"), looks := false }, kinds := [], alts := [], laidByText := true, laidKinds := [.data, .pinned], laidTests := true, laidLooks := .later }
def WordTurnsCardSaid : Prop := Claim7.holds Tryd.pinned (.plain (OpenSpec.ofChange wordTurnsSpec)) wordTurnsCard

/-- THE TIED CARD OF 'rescriptlaw01.WordOrder'. -/
def wordOrderCard : Claim7 := { stood := { row := wordOrderRow, standIns := [], harness := (true, "8c79942a8d6ac513caf07c6a86040e3c20c97a130615f43ac00402cbc1b88fcf"), looks := false }, kinds := [], alts := [], laidByText := true, laidKinds := [.data, .pinned], laidTests := true, laidLooks := .later }
def WordOrderCardSaid : Prop := Claim7.holds Tryd.pinned (.plain (OpenSpec.ofChange wordOrderSpec)) wordOrderCard

/-- THE TIED CARD OF 'rescriptlaw01.WordSmall'. -/
def wordSmallCard : Claim7 := { stood := { row := wordSmallRow, standIns := [], harness := (true, "8c79942a8d6ac513caf07c6a86040e3c20c97a130615f43ac00402cbc1b88fcf"), looks := false }, kinds := [], alts := [], laidByText := true, laidKinds := [.data, .pinned], laidTests := true, laidLooks := .later }
def WordSmallCardSaid : Prop := Claim7.holds Tryd.pinned (.plain (OpenSpec.ofChange wordSmallSpec)) wordSmallCard

/-- THE TIED CARD OF 'rescriptlaw01.WordMany'. -/
def wordManyCard : Claim7 := { stood := { row := wordManyRow, standIns := [], harness := (true, "8c79942a8d6ac513caf07c6a86040e3c20c97a130615f43ac00402cbc1b88fcf"), looks := false }, kinds := [], alts := [], laidByText := true, laidKinds := [.data, .pinned], laidTests := true, laidLooks := .later }
def WordManyCardSaid : Prop := Claim7.holds Tryd.pinned (.plain (OpenSpec.ofChange wordManySpec)) wordManyCard

/-- THE SECOND FORM's CARD OF 'rescriptlaw01.WordSums'. -/
def wordSumsUptoCard : Claim7 := { stood := { row := wordSumsUptoRow, standIns := [], harness := (true, "8c79942a8d6ac513caf07c6a86040e3c20c97a130615f43ac00402cbc1b88fcf"), looks := false }, kinds := [], alts := [], laidByText := true, laidKinds := [.data, .pinned], laidTests := true, laidLooks := .later }
def WordSumsUptoCardSaid : Prop := Claim7.holds Tryd.pinned (.plain (OpenSpec.upto wordSumsSpec)) wordSumsUptoCard

/-- THE SECOND FORM's CARD OF 'rescriptlaw01.WordBytes'. -/
def wordBytesUptoCard : Claim7 := { stood := { row := wordBytesUptoRow, standIns := [], harness := (true, "8c79942a8d6ac513caf07c6a86040e3c20c97a130615f43ac00402cbc1b88fcf"), looks := false }, kinds := [], alts := [], laidByText := true, laidKinds := [.data, .pinned], laidTests := true, laidLooks := .later }
def WordBytesUptoCardSaid : Prop := Claim7.holds Tryd.pinned (.plain (OpenSpec.upto wordBytesSpec)) wordBytesUptoCard

/-- THE SECOND FORM's CARD OF 'rescriptlaw01.WordBack'. -/
def wordBackUptoCard : Claim7 := { stood := { row := wordBackUptoRow, standIns := [], harness := (true, "8c79942a8d6ac513caf07c6a86040e3c20c97a130615f43ac00402cbc1b88fcf"), looks := false }, kinds := [], alts := [], laidByText := true, laidKinds := [.data, .pinned], laidTests := true, laidLooks := .later }
def WordBackUptoCardSaid : Prop := Claim7.holds Tryd.pinned (.plain (OpenSpec.upto wordBackSpec)) wordBackUptoCard

/-- THE SECOND FORM's CARD OF 'rescriptlaw01.WordTurns'. -/
def wordTurnsUptoCard : Claim7 := { stood := { row := wordTurnsUptoRow, standIns := [], harness := (true, "8c79942a8d6ac513caf07c6a86040e3c20c97a130615f43ac00402cbc1b88fcf"), looks := false }, kinds := [], alts := [], laidByText := true, laidKinds := [.data, .pinned], laidTests := true, laidLooks := .later }
def WordTurnsUptoCardSaid : Prop := Claim7.holds Tryd.pinned (.plain (OpenSpec.upto wordTurnsSpec)) wordTurnsUptoCard

/-- THE SECOND FORM's CARD OF 'rescriptlaw01.WordOrder'. -/
def wordOrderUptoCard : Claim7 := { stood := { row := wordOrderUptoRow, standIns := [], harness := (true, "8c79942a8d6ac513caf07c6a86040e3c20c97a130615f43ac00402cbc1b88fcf"), looks := false }, kinds := [], alts := [], laidByText := true, laidKinds := [.data, .pinned], laidTests := true, laidLooks := .later }
def WordOrderUptoCardSaid : Prop := Claim7.holds Tryd.pinned (.plain (OpenSpec.upto wordOrderSpec)) wordOrderUptoCard

/-- THE SECOND FORM's CARD OF 'rescriptlaw01.WordSmall'. -/
def wordSmallUptoCard : Claim7 := { stood := { row := wordSmallUptoRow, standIns := [], harness := (true, "8c79942a8d6ac513caf07c6a86040e3c20c97a130615f43ac00402cbc1b88fcf"), looks := false }, kinds := [], alts := [], laidByText := true, laidKinds := [.data, .pinned], laidTests := true, laidLooks := .later }
def WordSmallUptoCardSaid : Prop := Claim7.holds Tryd.pinned (.plain (OpenSpec.upto wordSmallSpec)) wordSmallUptoCard

/-- THE SECOND FORM's CARD OF 'rescriptlaw01.WordMany'. -/
def wordManyUptoCard : Claim7 := { stood := { row := wordManyUptoRow, standIns := [], harness := (true, "8c79942a8d6ac513caf07c6a86040e3c20c97a130615f43ac00402cbc1b88fcf"), looks := false }, kinds := [], alts := [], laidByText := true, laidKinds := [.data, .pinned], laidTests := true, laidLooks := .later }
def WordManyUptoCardSaid : Prop := Claim7.holds Tryd.pinned (.plain (OpenSpec.upto wordManySpec)) wordManyUptoCard
end Rows
end Go.Proofs.YtpognifhchikgaaDoor
