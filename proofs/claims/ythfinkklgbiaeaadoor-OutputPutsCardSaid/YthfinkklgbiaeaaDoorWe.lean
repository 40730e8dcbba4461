import Derived.Test.YthfinkklgbiaeaaDoorWd
import Derived.Laws.Externs
import Derived.Shelf.Spec.BitsCarry
namespace Go.Proofs.YthfinkklgbiaeaaDoor
set_option linter.all false
open Go.SL Go.RowKit Go.Shelf
end Go.Proofs.YthfinkklgbiaeaaDoor
