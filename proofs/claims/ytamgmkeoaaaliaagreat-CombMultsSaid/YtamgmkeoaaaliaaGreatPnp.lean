/- Chapter 8: PointOf -/
import Derived.Test.YtamgmkeoaaaliaaGreatPnq
set_option linter.unusedSimpArgs false
set_option linter.unusedVariables false
namespace Go.Proofs.YtamgmkeoaaaliaaGreat
open Go.RowKit FdP FdP.Ch
end Go.Proofs.YtamgmkeoaaaliaaGreat
