/- Chapter 8: laws with the document's answer -/
import Derived.Test.YtpapfkihjhhjkaaRpt
import Derived.Test.YtpapfkihjhhjkaaPnx
set_option linter.unusedSimpArgs false
set_option linter.unusedVariables false
namespace Go.Proofs.Ytpapfkihjhhjkaa
open Go.RowKit FdP FdP.Ch
end Go.Proofs.Ytpapfkihjhhjkaa
