/- Chapter 13: TwistHomes -/
import Derived.Test.YtohebkkiicbdoaaTwb
import Derived.Test.YtohebkkiicbdoaaOpe
set_option linter.unusedSimpArgs false
set_option linter.unusedVariables false
namespace Go.Proofs.Ytohebkkiicbdoaa
open Go.RowKit FdP FdP.Ch
def tTAff : Trans := fun zs Q => match zs with
 | [.agg [.el a, .el b]] => Q (.tup [.el a, .el b])
 | _ => False
theorem tn_8 (u v : F) : 1 - kd * (u * u * (v * v)) = 1 - u * u * (v * v) * z 39082 := by
 show 1 - kd * (u * u * (v * v)) = 1 - u * u * (v * v) * kd
 generalize kd = k; grind
theorem onT_G (p : G) : onT (uT p) (vT p) := by
 have h := onG p
 unfold onT
 rw [uT_eq, vT_eq, z_one]
 exact h.trans (tn_8 _ _)

def twO : Tab := tb_made11 :: []
theorem twO_ok : twO.OK Try.prog := tab_cons tb_made11_ok <| tab_nil _
def o_taff13 : Orc := { ans := [(4, oV), (5, oA 8), (6, oV), (7, oA 8)], lps := [], alls := [1] }
def t_taff13 : Tree :=
 .new <|
 .new <|
 .new <|
 .ret ([], []) (.tup [.agg [.whole 0 8], .agg [.whole 1 8]])
theorem c_taff13 : compF Try.prog Try.f10 o_taff13 (Try.f10.body.getD .skip) (symIn [.agg [.whole 0 8, .whole 1 8]] Try.f10.ntmps 2) = some t_taff13 := by kernel_rfl
theorem g_taff13 : goodC Try.prog o_taff13.ords (Try.f10.body.getD .skip) = true := by kernel_rfl
def tb_taff13 : FuncId × Trans := (10, tTAff)
set_option maxRecDepth 100000 in
theorem aw_taff13 : ∀ zs Q, tb_taff13.2 zs Q → bindLs 0 [.agg [.whole 0 8, .whole 1 8]] zs fun ae => bif Nat.beq ae.length 2 then AWp Try.prog twO Q t_taff13 [] ae else False := by
 intro zs Q h
 replace h : tTAff zs Q := h
 unfold tTAff at h
 split at h
 case h_2 => exact h.elim
 repeat ((conv => whnf) <;> first | with_reducible first | refine wI (by omega) ?_ | refine And.intro rfl ?_ | rfl | refine And.intro ‹_› ?_ | refine cTe ‹_› ?_ | refine cFe ‹_› ?_ | refine cN (cTe ‹_› ?_) | refine cN (cFe ‹_› ?_) | refine cTe rfl ?_ | refine cEq ‹_› ?_ | refine cTt ?_ | refine cNt ?_ | refine cF (Eq.refl false) ?_ | refine cN (cF (Eq.refl false) ?_) | refine cTd (by omega) ?_ | refine cFd (by omega) ?_ | refine cN (cTd (by omega) ?_) | refine cN (cFd (by omega) ?_) | refine And.intro (by omega) ?_ | refine And.intro (Eq.refl true) ?_)
 (conv => whnf)
 exact h
theorem tb_taff13_ok : Con Try.prog tb_taff13.1 tb_taff13.2 := con_tree twO_ok o_taff13 [.agg [.whole 0 8, .whole 1 8]] 2 Try.func10 rfl c_taff13 aw_taff13 g_taff13
end Go.Proofs.Ytohebkkiicbdoaa
