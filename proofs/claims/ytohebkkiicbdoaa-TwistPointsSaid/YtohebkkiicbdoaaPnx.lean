/- Chapter 8: laws -/
import Derived.Test.YtohebkkiicbdoaaPnw
set_option linter.unusedSimpArgs false
set_option linter.unusedVariables false
namespace Go.Proofs.Ytohebkkiicbdoaa
open Go.RowKit FdP FdP.Ch
end Go.Proofs.Ytohebkkiicbdoaa
