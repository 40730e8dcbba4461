import Derived.Test.YtdadaddakcidjaaDoorWf
namespace Go.Proofs.YtdadaddakcidjaaDoor
set_option linter.all false
open Go.SL Go.RowKit Go.Shelf
end Go.Proofs.YtdadaddakcidjaaDoor
