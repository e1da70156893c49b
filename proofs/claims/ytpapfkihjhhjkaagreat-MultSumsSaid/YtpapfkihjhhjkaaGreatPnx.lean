/- Chapter 8: laws -/
import Derived.Test.YtpapfkihjhhjkaaGreatPnw
set_option linter.unusedSimpArgs false
set_option linter.unusedVariables false
namespace Go.Proofs.YtpapfkihjhhjkaaGreat
open Go.RowKit FdP FdP.Ch
end Go.Proofs.YtpapfkihjhhjkaaGreat
