/- Chapter 8: laws -/
import Derived.Test.YtohebkkiicbdoaaGreatPnw
set_option linter.unusedSimpArgs false
set_option linter.unusedVariables false
namespace Go.Proofs.YtohebkkiicbdoaaGreat
open Go.RowKit FdP FdP.Ch
end Go.Proofs.YtohebkkiicbdoaaGreat
