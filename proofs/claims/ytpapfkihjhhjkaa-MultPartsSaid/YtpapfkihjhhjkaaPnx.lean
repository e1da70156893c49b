/- Chapter 8: laws -/
import Derived.Test.YtpapfkihjhhjkaaPnw
set_option linter.unusedSimpArgs false
set_option linter.unusedVariables false
namespace Go.Proofs.Ytpapfkihjhhjkaa
open Go.RowKit FdP FdP.Ch
end Go.Proofs.Ytpapfkihjhhjkaa
