/- Chapter 8: laws -/
import Derived.Test.YtamgmkeoaaaliaaPnw
set_option linter.unusedSimpArgs false
set_option linter.unusedVariables false
namespace Go.Proofs.Ytamgmkeoaaaliaa
open Go.RowKit FdP FdP.Ch
end Go.Proofs.Ytamgmkeoaaaliaa
