/- Chapter 8: spots -/
import Derived.Test.YtmhpagceheekcaaPnu
set_option linter.unusedSimpArgs false
set_option linter.unusedVariables false
namespace Go.Proofs.Ytmhpagceheekcaa
open Go.RowKit FdP FdP.Ch
end Go.Proofs.Ytmhpagceheekcaa
