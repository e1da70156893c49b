/- Chapter 8: PointOf -/
import Derived.Test.YtpapfkihjhhjkaaPnq
set_option linter.unusedSimpArgs false
set_option linter.unusedVariables false
namespace Go.Proofs.Ytpapfkihjhhjkaa
open Go.RowKit FdP FdP.Ch
end Go.Proofs.Ytpapfkihjhhjkaa
