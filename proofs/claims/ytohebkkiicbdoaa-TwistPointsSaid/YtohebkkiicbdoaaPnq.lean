/- Chapter 8: laws with the document's answer -/
import Derived.Test.YtohebkkiicbdoaaRpt
import Derived.Test.YtohebkkiicbdoaaPnx
set_option linter.unusedSimpArgs false
set_option linter.unusedVariables false
namespace Go.Proofs.Ytohebkkiicbdoaa
open Go.RowKit FdP FdP.Ch
end Go.Proofs.Ytohebkkiicbdoaa
