/- Chapter 8: laws -/
import Derived.Test.YtmhpagceheekcaaPnw
set_option linter.unusedSimpArgs false
set_option linter.unusedVariables false
namespace Go.Proofs.Ytmhpagceheekcaa
open Go.RowKit FdP FdP.Ch
end Go.Proofs.Ytmhpagceheekcaa
