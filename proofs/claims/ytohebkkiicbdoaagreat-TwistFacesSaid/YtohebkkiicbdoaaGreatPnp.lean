/- Chapter 8: PointOf -/
import Derived.Test.YtohebkkiicbdoaaGreatPnq
set_option linter.unusedSimpArgs false
set_option linter.unusedVariables false
namespace Go.Proofs.YtohebkkiicbdoaaGreat
open Go.RowKit FdP FdP.Ch
end Go.Proofs.YtohebkkiicbdoaaGreat
