import Derived.Test.YtbohhkoofahoeaaDoorWf
namespace Go.Proofs.YtbohhkoofahoeaaDoor
set_option linter.all false
open Go.SL Go.RowKit Go.Shelf
end Go.Proofs.YtbohhkoofahoeaaDoor
