/- Chapter 12: the example; MultTimes -/
import Derived.Test.YtohebkkiicbdoaaGreatMla
import Derived.Test.YtohebkkiicbdoaaGreatCma
import Derived.Test.YtohebkkiicbdoaaGreatOpc
import Derived.Test.YtohebkkiicbdoaaGreatOpb
set_option linter.unusedSimpArgs false
set_option linter.unusedVariables false
namespace Go.Proofs.YtohebkkiicbdoaaGreat
open Go.RowKit FdP FdP.Ch
end Go.Proofs.YtohebkkiicbdoaaGreat
