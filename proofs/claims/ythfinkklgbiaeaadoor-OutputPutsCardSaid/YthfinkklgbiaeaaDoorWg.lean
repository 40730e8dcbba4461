import Derived.Test.YthfinkklgbiaeaaDoorWf
namespace Go.Proofs.YthfinkklgbiaeaaDoor
set_option linter.all false
open Go.SL Go.RowKit Go.Shelf
end Go.Proofs.YthfinkklgbiaeaaDoor
