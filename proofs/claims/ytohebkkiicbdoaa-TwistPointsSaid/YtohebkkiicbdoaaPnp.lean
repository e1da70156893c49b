/- Chapter 8: PointOf -/
import Derived.Test.YtohebkkiicbdoaaPnq
set_option linter.unusedSimpArgs false
set_option linter.unusedVariables false
namespace Go.Proofs.Ytohebkkiicbdoaa
open Go.RowKit FdP FdP.Ch
end Go.Proofs.Ytohebkkiicbdoaa
