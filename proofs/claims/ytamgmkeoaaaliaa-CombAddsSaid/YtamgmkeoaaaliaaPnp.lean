/- Chapter 8: PointOf -/
import Derived.Test.YtamgmkeoaaaliaaPnq
set_option linter.unusedSimpArgs false
set_option linter.unusedVariables false
namespace Go.Proofs.Ytamgmkeoaaaliaa
open Go.RowKit FdP FdP.Ch
end Go.Proofs.Ytamgmkeoaaaliaa
