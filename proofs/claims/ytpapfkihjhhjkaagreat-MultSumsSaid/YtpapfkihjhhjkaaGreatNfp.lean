/- Naf, and two numbers' multiples together: plain. -/
import Derived.Test.YtpapfkihjhhjkaaGreatDgp
set_option linter.unusedSimpArgs false
set_option linter.unusedVariables false
namespace Go.Proofs.YtpapfkihjhhjkaaGreat
open Go.RowKit FdP FdP.Ch
def hZ : List Int → Int
 | [] => 0
 | d :: l => d + 2 * hZ l
end Go.Proofs.YtpapfkihjhhjkaaGreat
