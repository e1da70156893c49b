/- The document's sums, shifts, roots -/
import Derived.Test.YtmhpagceheekcaaRfe
import Derived.Test.YtmhpagceheekcaaVr
set_option linter.unusedSimpArgs false
set_option linter.unusedVariables false
namespace Go.Proofs.Ytmhpagceheekcaa
open Go.RowKit FdP FdP.Ch
end Go.Proofs.Ytmhpagceheekcaa
