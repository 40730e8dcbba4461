import Derived.Test.YteceenlfegnigaaGreatDoorZtPutsf
set_option maxRecDepth 100000
namespace Go.Proofs.YteceenlfegnigaaGreatDoor
set_option linter.all false
open Go.SL Go.RowKit Go.Shelf
open Go.Proofs (Enters enters_of)
end Go.Proofs.YteceenlfegnigaaGreatDoor
