import Derived.Test.YtlcbfphioeppaaaGreatDoorPrf
namespace Go.Proofs.YtlcbfphioeppaaaGreatDoor
set_option linter.all false
open Go.SL Go.RowKit Go.Shelf
section
variable {a b c d : Nat} {bits : List Bool} {pb : Pl} {items : List Vl} {pi : Pl} {pick n : Int} {p : Pl} {ins : List Ty}
end
end Go.Proofs.YtlcbfphioeppaaaGreatDoor
