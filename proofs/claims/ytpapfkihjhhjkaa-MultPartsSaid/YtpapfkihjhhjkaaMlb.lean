/- Chapter 12: the example; MultTimes -/
import Derived.Test.YtpapfkihjhhjkaaMla
import Derived.Test.YtpapfkihjhhjkaaCma
import Derived.Test.YtpapfkihjhhjkaaOpc
import Derived.Test.YtpapfkihjhhjkaaOpb
set_option linter.unusedSimpArgs false
set_option linter.unusedVariables false
namespace Go.Proofs.Ytpapfkihjhhjkaa
open Go.RowKit FdP FdP.Ch
theorem BGx_no : BG.x ≠ 0 := by
  intro this
  have : (z bxN) = 0 := this
  rw [← z_zero, z_eq] at this
  revert this; decide +kernel
theorem BG2_ne : ¬ BG + BG = 0 := by
  intro h
  have e : BG = -BG := G.neg_uniq h
  have e2 : BG.x = -BG.x := congrArg Ed.x e
  have e3 : (2 : F) * BG.x = 0 := by grind
  exact (mul_zero e3).elim two_ne BGx_no
theorem BG3 : mulG (nval [3]) BG = BG + (BG + BG) := by
  have : nval [3] = 2 + 1 := by decide
  rw [this, mulG_add, mulG_two, mulG_one, G.comm]
theorem BG3_ne : ¬ mulG (nval [3]) BG = BG := by
  rw [BG3]
  intro h
  have h2 : (BG + BG) + BG + -BG = BG + -BG := by rw [G.comm (BG + BG), h]
  rw [G.sub_add, G.add_neg] at h2
  exact BG2_ne h2
def tAw12 : Trans := fun zs Q => zs = [] ∧ Q (.bool true)
def tmC : Tab := tb_pbase :: tb_mult :: tb_pdbl :: tb_padd :: tb_peq :: []
theorem tmC_ok : tmC.OK Try.prog := tab_cons tb_pbase_ok <| tab_cons tb_mult_ok <| tab_cons tb_pdbl_ok <| tab_cons tb_padd_ok <| tab_cons tb_peq_ok <| tab_nil _
def o_awake12 : Orc := { ans := [(4, oA 24), (7, oA 24), (8, .one ⟨.tup [.agg [.whole 0 24], .atom (.var 1)], 2, []⟩), (12, oB), (14, oA 24), (15, oA 24), (16, oA 24), (17, oA 24), (18, oA 24), (19, oB), (20, oV), (22, oA 24), (23, oA 24), (24, oB), (25, oV), (26, oV)], lps := [], ords := [(3, [.pure 0, .quiet 1, .pure 2, .quiet 3, .quiet 4, .quiet 5, .call 6 [], .call 7 [], .call 8 [], .quiet 9, .pure 10, .quiet 11, .quiet 12, .call 13 [], .quiet 14, .quiet 15, .pure 16])] }
def t_awake12 : Tree :=
 .call 25 [] ([], []) (.leaf (.agg [.whole 0 24])) 1 [] <|
 .new <|
 .new <|
 .call 8 [.atom (.slc 1 0 1 1), .agg [.whole 0 24]] ([([.whole 0 24], 31), ([.one (.const (.int .u8 3))], 5)], []) (.tup [.agg [.whole 1 24], .atom (.var 2)]) 2 [] <|
 .new <|
 .calc2 (.binOp .eql 39 (.tmp 11) (.const (.int .i64 0)) 39) 4 [(11, qv 2)] ([], []) qT 0 (
 .call 27 [.agg [.whole 0 24]] ([], []) (.leaf (.agg [.whole 3 24])) 1 [] <|
 .call 26 [.agg [.whole 0 24], .agg [.whole 3 24]] ([], []) (.leaf (.agg [.whole 4 24])) 1 [] <|
 .call2 10 [.agg [.whole 1 24], .agg [.whole 4 24]] ([], []) qT 0 [] (
 .call2 10 [.agg [.whole 1 24], .agg [.whole 0 24]] ([], []) qT 0 [] (
 .ret ([], []) qF) qF 0 [] <|
 .ret ([], []) qT) qF 0 [] <|
 .ret ([], []) qF) qF 0 <|
 .ret ([], []) qF
theorem c_awake12 : compF Try.prog Try.f7 o_awake12 (Try.f7.body.getD .skip) (symIn [] Try.f7.ntmps 0) = some t_awake12 := by kernel_rfl
theorem g_awake12 : goodC Try.prog o_awake12.ords (Try.f7.body.getD .skip) = true := by kernel_rfl
def tb_awake12 : FuncId × Trans := (7, tAw12)
set_option maxRecDepth 100000 in
theorem aw_awake12 : ∀ zs Q, tb_awake12.2 zs Q → bindLs 0 [] zs fun ae => bif Nat.beq ae.length 0 then AWp Try.prog tmC Q t_awake12 [] ae else False := by
  intro zs Q h
  obtain ⟨rfl, h⟩ := h
  have h3 : By [3] ∧ ([3] : List Int).length ≤ 100000 := ⟨by decide, by decide⟩
  have hl3 : ([3] : List Int).length = 1 := rfl
  have e1 := BG3
  have e2 := BG3_ne
  repeat ((conv => whnf) <;> first | with_reducible first | refine wI (by omega) ?_ | refine wB (by omega) ?_ | refine And.intro rfl ?_ | rfl | refine And.intro ‹_› ?_ | refine cTe ‹_› ?_ | refine cFe ‹_› ?_ | refine cN (cTe ‹_› ?_) | refine cN (cFe ‹_› ?_) | refine cTe rfl ?_ | refine cEq ‹_› ?_ | refine cTt ?_ | refine cNt ?_ | refine cF (Eq.refl false) ?_ | refine cN (cF (Eq.refl false) ?_) | refine cTd (by omega) ?_ | refine cFd (by omega) ?_ | refine cN (cTd (by omega) ?_) | refine cN (cFd (by omega) ?_) | refine And.intro (by omega) ?_ | refine And.intro (Eq.refl true) ?_)
  intro _ _
  generalize mulG (nval [3]) BG = g at *
  repeat ((conv => whnf) <;> first | with_reducible first | refine wI (by omega) ?_ | refine wB (by omega) ?_ | refine And.intro rfl ?_ | rfl | refine And.intro ‹_› ?_ | refine cTe ‹_› ?_ | refine cFe ‹_› ?_ | refine cN (cTe ‹_› ?_) | refine cN (cFe ‹_› ?_) | refine cTe rfl ?_ | refine cEq ‹_› ?_ | refine cTt ?_ | refine cNt ?_ | refine cF (Eq.refl false) ?_ | refine cN (cF (Eq.refl false) ?_) | refine cTd (by omega) ?_ | refine cFd (by omega) ?_ | refine cN (cTd (by omega) ?_) | refine cN (cFd (by omega) ?_) | refine And.intro (by omega) ?_ | refine And.intro (Eq.refl true) ?_)
  (conv => whnf)
  exact h
theorem tb_awake12_ok : Con Try.prog tb_awake12.1 tb_awake12.2 := con_tree tmC_ok o_awake12 [] 0 Try.func7 rfl c_awake12 aw_awake12 g_awake12
end Go.Proofs.Ytpapfkihjhhjkaa
