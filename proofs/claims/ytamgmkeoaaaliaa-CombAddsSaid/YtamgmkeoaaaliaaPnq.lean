/- Chapter 8: laws with the document's answer -/
import Derived.Test.YtamgmkeoaaaliaaRpt
import Derived.Test.YtamgmkeoaaaliaaPnx
set_option linter.unusedSimpArgs false
set_option linter.unusedVariables false
namespace Go.Proofs.Ytamgmkeoaaaliaa
open Go.RowKit FdP FdP.Ch
end Go.Proofs.Ytamgmkeoaaaliaa
