/- Contracts in plain words: package root. -/
import Derived.Test.YtamgmkeoaaaliaaJ11
import Derived.Test.YtamgmkeoaaaliaaRta
set_option linter.unusedSimpArgs false
set_option linter.unusedVariables false
namespace Go.Proofs.Ytamgmkeoaaaliaa
open Go.RowKit FdP FdP.Ch
/-- a lowest bit -/
noncomputable def oddF (a : F) : Int := @ite _ (a.val % 2 = 1) (Classical.propDecidable _) 1 0
theorem oddF_eq (a : F) : oddF a = (a.val : Int) % 2 := by unfold oddF; split <;> omega
/-- a root, or 0; the error's number -/
noncomputable def rootV (a : F) : F := @ite _ (rt a * rt a = a) (Classical.propDecidable _) (abs (rt a)) 0
noncomputable def rootE (a : F) : Int := @ite _ (rt a * rt a = a) (Classical.propDecidable _) 0 17
theorem rootV_eq (a : F) : rootV a = if rt a * rt a = a then abs (rt a) else 0 := by unfold rootV; split <;> rename_i h <;> simp [h]
theorem rootE_eq (a : F) : rootE a = if rt a * rt a = a then 0 else 17 := by unfold rootE; split <;> rename_i h <;> simp [h]
theorem rootV_yes {a : F} (h : rt a * rt a = a) : rootV a = abs (rt a) := by rw [rootV_eq, if_pos h]
theorem rootE_yes {a : F} (h : rt a * rt a = a) : rootE a = 0 := by rw [rootE_eq, if_pos h]
theorem rootV_no {a : F} (h : ¬ rt a * rt a = a) : rootV a = 0 := by rw [rootV_eq, if_neg h]
theorem rootE_no {a : F} (h : ¬ rt a * rt a = a) : rootE a = 17 := by rw [rootE_eq, if_neg h]
def tb_squares : FuncId × Trans := (111, tEn fun a n => a ^ (2 ^ n))
theorem tb_squares_ok : Con Try.prog tb_squares.1 tb_squares.2 := con_En squares_c
def tb_chain : FuncId × Trans := (101, tE1 fun a => a ^ chE)
theorem tb_chain_ok : Con Try.prog tb_chain.1 tb_chain.2 := con_E1 chain_c
def tb_inverse : FuncId × Trans := (105, tE1 inv)
theorem tb_inverse_ok : Con Try.prog tb_inverse.1 tb_inverse.2 := con_E1 rinverse_c
def tb_odd : FuncId × Trans := (112, tI1 oddF)
theorem tb_odd_ok : Con Try.prog tb_odd.1 tb_odd.2 := con_I1 fun h w => by rw [oddF_eq]; exact odd_c h w
def tb_select : FuncId × Trans := (81, tSel)
theorem tb_select_ok : Con Try.prog tb_select.1 tb_select.2 := con_Sel fun n h h' w => select_c n h h' w
def tb_abs : FuncId × Trans := (102, tE1 abs)
theorem tb_abs_ok : Con Try.prog tb_abs.1 tb_abs.2 := con_E1 abs_c
def tb_ratio : FuncId × Trans := (79, tErb (fun u v => abs (rat u v)) (fun u v => dec (v * (rat u v * rat u v) = u)))
theorem tb_ratio_ok : Con Try.prog tb_ratio.1 tb_ratio.2 := con_Erb fun h h' w => by simp only [dec_eq]; exact ratio_c h h' w
end Go.Proofs.Ytamgmkeoaaaliaa
