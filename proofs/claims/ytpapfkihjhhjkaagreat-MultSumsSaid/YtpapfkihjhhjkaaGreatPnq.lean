/- Chapter 8: laws with the document's answer -/
import Derived.Test.YtpapfkihjhhjkaaGreatRpt
import Derived.Test.YtpapfkihjhhjkaaGreatPnx
set_option linter.unusedSimpArgs false
set_option linter.unusedVariables false
namespace Go.Proofs.YtpapfkihjhhjkaaGreat
open Go.RowKit FdP FdP.Ch
end Go.Proofs.YtpapfkihjhhjkaaGreat
