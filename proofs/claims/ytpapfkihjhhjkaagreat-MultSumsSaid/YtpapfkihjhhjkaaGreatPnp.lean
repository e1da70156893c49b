/- Chapter 8: PointOf -/
import Derived.Test.YtpapfkihjhhjkaaGreatPnq
set_option linter.unusedSimpArgs false
set_option linter.unusedVariables false
namespace Go.Proofs.YtpapfkihjhhjkaaGreat
open Go.RowKit FdP FdP.Ch
end Go.Proofs.YtpapfkihjhhjkaaGreat
