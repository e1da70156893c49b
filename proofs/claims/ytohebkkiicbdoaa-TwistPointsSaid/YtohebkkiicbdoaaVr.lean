/- Contracts in plain words: package root. -/
import Derived.Test.YtohebkkiicbdoaaJ11
import Derived.Test.YtohebkkiicbdoaaRta
set_option linter.unusedSimpArgs false
set_option linter.unusedVariables false
namespace Go.Proofs.Ytohebkkiicbdoaa
open Go.RowKit FdP FdP.Ch
def tb_inverse : FuncId × Trans := (65, tE1 inv)
theorem tb_inverse_ok : Con Try.prog tb_inverse.1 tb_inverse.2 := con_E1 rinverse_c
def tb_select : FuncId × Trans := (82, tSel)
theorem tb_select_ok : Con Try.prog tb_select.1 tb_select.2 := con_Sel fun n h h' w => select_c n h h' w
def tb_ratio : FuncId × Trans := (80, tErb (fun u v => abs (rat u v)) (fun u v => dec (v * (rat u v * rat u v) = u)))
theorem tb_ratio_ok : Con Try.prog tb_ratio.1 tb_ratio.2 := con_Erb fun h h' w => by simp only [dec_eq]; exact ratio_c h h' w
end Go.Proofs.Ytohebkkiicbdoaa
