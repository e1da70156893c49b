/- Chapter 8: laws with the document's answer -/
import Derived.Test.YtamgmkeoaaaliaaGreatRpt
import Derived.Test.YtamgmkeoaaaliaaGreatPnx
set_option linter.unusedSimpArgs false
set_option linter.unusedVariables false
namespace Go.Proofs.YtamgmkeoaaaliaaGreat
open Go.RowKit FdP FdP.Ch
end Go.Proofs.YtamgmkeoaaaliaaGreat
