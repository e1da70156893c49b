/- Chapter 8: laws with the document's answer -/
import Derived.Test.YtohebkkiicbdoaaGreatRpt
import Derived.Test.YtohebkkiicbdoaaGreatPnx
set_option linter.unusedSimpArgs false
set_option linter.unusedVariables false
namespace Go.Proofs.YtohebkkiicbdoaaGreat
open Go.RowKit FdP FdP.Ch
end Go.Proofs.YtohebkkiicbdoaaGreat
