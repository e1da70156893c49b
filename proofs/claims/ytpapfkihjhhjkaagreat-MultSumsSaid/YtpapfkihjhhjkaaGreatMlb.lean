/- Chapter 12: the example; MultTimes -/
import Derived.Test.YtpapfkihjhhjkaaGreatMla
import Derived.Test.YtpapfkihjhhjkaaGreatCma
import Derived.Test.YtpapfkihjhhjkaaGreatOpc
import Derived.Test.YtpapfkihjhhjkaaGreatOpb
set_option linter.unusedSimpArgs false
set_option linter.unusedVariables false
namespace Go.Proofs.YtpapfkihjhhjkaaGreat
open Go.RowKit FdP FdP.Ch
theorem BGx_no : BG.x ≠ 0 := by
 intro this
 have : (z bxN) = 0 := this
 rw [← z_zero, z_eq] at this
 revert this; decide +kernel
theorem BG2_ne : ¬ BG + BG = 0 := by
 intro h
 have e : BG = -BG := G.neg_uniq h
 have e2 : BG.x = -BG.x := congrArg Ed.x e
 have e3 : (2 : F) * BG.x = 0 := by grind
 exact (mul_zero e3).elim two_ne BGx_no
theorem BG3 : mulG (nval [3]) BG = BG + (BG + BG) := by
 have : nval [3] = 2 + 1 := by decide
 rw [this, mulG_add, mulG_two, mulG_one, G.comm]
theorem BG3_ne : ¬ mulG (nval [3]) BG = BG := by
 rw [BG3]
 intro h
 have h2 : (BG + BG) + BG + -BG = BG + -BG := by rw [G.comm (BG + BG), h]
 rw [G.sub_add, G.add_neg] at h2
 exact BG2_ne h2
def tAw12 : Trans := fun zs Q => zs = [] ∧ Q (.bool true)
def tWrong : Trans := fun zs Q => match zs with
 | [.isl .u8 b] => b.length ≤ 100000 ∧ (¬ (1 ≤ b.length ∧ b.length ≤ 64) → Q (.int .i64 11)) ∧ (1 ≤ b.length → b.length ≤ 64 → Q (.int .i64 0))
 | _ => False
def tmC : Tab := tb_pbase :: tb_mult :: tb_pdbl :: tb_padd :: tb_peq :: []
theorem tmC_ok : tmC.OK Tryz.prog := tab_cons tb_pbase_ok <| tab_cons tb_mult_ok <| tab_cons tb_pdbl_ok <| tab_cons tb_padd_ok <| tab_cons tb_peq_ok <| tab_nil _
def o_awake12 : Orc := { ans := [(4, oA 24), (7, oA 24), (8, .one ⟨.tup [.agg [.whole 0 24], .atom (.var 1)], 2, []⟩), (12, oB), (14, oA 24), (15, oA 24), (16, oA 24), (17, oA 24), (18, oA 24), (19, oB), (20, oV), (22, oA 24), (23, oA 24), (24, oB), (25, oV), (26, oV)], lps := [], ords := [(3, [.pure 0, .quiet 1, .pure 2, .quiet 3, .quiet 4, .quiet 5, .call 6 [], .call 7 [], .call 8 [], .quiet 9, .pure 10, .quiet 11, .quiet 12, .call 13 [], .quiet 14, .quiet 15, .pure 16])] }
def t_awake12 : Tree :=
 .call 23 [] ([], []) (.leaf (.agg [.whole 0 24])) 1 [] <|
 .new <|
 .new <|
 .call 24 [.atom (.slc 1 0 1 1), .agg [.whole 0 24]] ([([.whole 0 24], 30), ([.one (.const (.int .u8 3))], 5)], []) (.tup [.agg [.whole 1 24], .atom (.var 2)]) 2 [] <|
 .new <|
 .calc2 (.binOp .eql 38 (.tmp 11) (.const (.int .i64 0)) 38) 4 [(11, qv 2)] ([], []) qT 0 (
 .call 27 [.agg [.whole 0 24]] ([], []) (.leaf (.agg [.whole 3 24])) 1 [] <|
 .call 26 [.agg [.whole 0 24], .agg [.whole 3 24]] ([], []) (.leaf (.agg [.whole 4 24])) 1 [] <|
 .call2 25 [.agg [.whole 1 24], .agg [.whole 4 24]] ([], []) qT 0 [] (
 .call2 25 [.agg [.whole 1 24], .agg [.whole 0 24]] ([], []) qT 0 [] (
 .ret ([], []) qF) qF 0 [] <|
 .ret ([], []) qT) qF 0 [] <|
 .ret ([], []) qF) qF 0 <|
 .ret ([], []) qF
theorem c_awake12 : compF Tryz.prog Tryz.f7 o_awake12 (Tryz.f7.body.getD .skip) (symIn [] Tryz.f7.ntmps 0) = some t_awake12 := by kernel_rfl
theorem g_awake12 : goodC Tryz.prog o_awake12.ords (Tryz.f7.body.getD .skip) = true := by kernel_rfl
def tb_awake12 : FuncId × Trans := (7, tAw12)
set_option maxRecDepth 100000 in
theorem aw_awake12 : ∀ zs Q, tb_awake12.2 zs Q → bindLs 0 [] zs fun ae => bif Nat.beq ae.length 0 then AWp Tryz.prog tmC Q t_awake12 [] ae else False := by
 intro zs Q h
 obtain ⟨rfl, h⟩ := h
 have h3 : By [3] ∧ ([3] : List Int).length ≤ 100000 := ⟨by decide, by decide⟩
 have hl3 : ([3] : List Int).length = 1 := rfl
 have e1 := BG3
 have e2 := BG3_ne
 repeat ((conv => whnf) <;> first | with_reducible first | refine wI (by omega) ?_ | refine wB (by omega) ?_ | refine And.intro rfl ?_ | rfl | refine And.intro ‹_› ?_ | refine cTe ‹_› ?_ | refine cFe ‹_› ?_ | refine cN (cTe ‹_› ?_) | refine cN (cFe ‹_› ?_) | refine cTe rfl ?_ | refine cEq ‹_› ?_ | refine cTt ?_ | refine cNt ?_ | refine cF (Eq.refl false) ?_ | refine cN (cF (Eq.refl false) ?_) | refine cTd (by omega) ?_ | refine cFd (by omega) ?_ | refine cN (cTd (by omega) ?_) | refine cN (cFd (by omega) ?_) | refine And.intro (by omega) ?_ | refine And.intro (Eq.refl true) ?_)
 intro _ _
 generalize mulG (nval [3]) BG = g at *
 repeat ((conv => whnf) <;> first | with_reducible first | refine wI (by omega) ?_ | refine wB (by omega) ?_ | refine And.intro rfl ?_ | rfl | refine And.intro ‹_› ?_ | refine cTe ‹_› ?_ | refine cFe ‹_› ?_ | refine cN (cTe ‹_› ?_) | refine cN (cFe ‹_› ?_) | refine cTe rfl ?_ | refine cEq ‹_› ?_ | refine cTt ?_ | refine cNt ?_ | refine cF (Eq.refl false) ?_ | refine cN (cF (Eq.refl false) ?_) | refine cTd (by omega) ?_ | refine cFd (by omega) ?_ | refine cN (cTd (by omega) ?_) | refine cN (cFd (by omega) ?_) | refine And.intro (by omega) ?_ | refine And.intro (Eq.refl true) ?_)
 (conv => whnf)
 exact h
theorem tb_awake12_ok : Con Tryz.prog tb_awake12.1 tb_awake12.2 := con_tree tmC_ok o_awake12 [] 0 Tryz.func7 rfl c_awake12 aw_awake12 g_awake12
def o_wrong : Orc := { ans := [(4, oV), (5, oB), (8, oV), (9, oB), (10, oV)], lps := [] }
def t_wrong : Tree :=
 .calc (.call { callee := .builtin .len, args := #[.tmp 3], argTypes := #[22] }) 3 [(3, qv 0)] ([], []) (qv 1) 1 <|
 .calc2 (.binOp .lss 3 (.tmp 4) (.const (.int .i64 1)) 3) 4 [(4, qv 1)] ([], []) qT 0 (
 .ret ([], []) (.leaf (.atom (.const (.int .i64 11))))) qF 0 <|
 .calc (.call { callee := .builtin .len, args := #[.tmp 7], argTypes := #[22] }) 3 [(7, qv 0)] ([], []) (qv 2) 1 <|
 .calc2 (.binOp .gtr 3 (.tmp 8) (.const (.int .i64 64)) 3) 4 [(8, qv 2)] ([], []) qT 0 (
 .ret ([], []) (.leaf (.atom (.const (.int .i64 11))))) qF 0 <|
 .ret ([], []) (.leaf (.atom (.const (.int .i64 0))))
theorem c_wrong : compF Tryz.prog Tryz.f14 o_wrong (Tryz.f14.body.getD .skip) (symIn [.atom (.var 0)] Tryz.f14.ntmps 1) = some t_wrong := by kernel_rfl
theorem g_wrong : goodC Tryz.prog o_wrong.ords (Tryz.f14.body.getD .skip) = true := by kernel_rfl
def tb_wrong : FuncId × Trans := (14, tWrong)
set_option maxRecDepth 100000 in
theorem aw_wrong : ∀ zs Q, tb_wrong.2 zs Q → bindLs 0 [.atom (.var 0)] zs fun ae => bif Nat.beq ae.length 1 then AWp Tryz.prog tmNil Q t_wrong [] ae else False := by
 intro zs Q h
 replace h : tWrong zs Q := h
 unfold tWrong at h
 split at h
 case h_2 => exact h.elim
 rename_i b
 obtain ⟨hl, h1, h2⟩ := h
 by_cases a1 : b.length = 0
 ·have h := h1 (by omega)
  repeat ((conv => whnf) <;> first | with_reducible first | refine wI (by omega) ?_ | refine wB (by omega) ?_ | refine And.intro rfl ?_ | rfl | refine And.intro ‹_› ?_ | refine cTe ‹_› ?_ | refine cFe ‹_› ?_ | refine cN (cTe ‹_› ?_) | refine cN (cFe ‹_› ?_) | refine cTe rfl ?_ | refine cEq ‹_› ?_ | refine cTt ?_ | refine cNt ?_ | refine cF (Eq.refl false) ?_ | refine cN (cF (Eq.refl false) ?_) | refine cTd (by omega) ?_ | refine cFd (by omega) ?_ | refine cN (cTd (by omega) ?_) | refine cN (cFd (by omega) ?_) | refine And.intro (by omega) ?_ | refine And.intro (Eq.refl true) ?_)
  (conv => whnf)
  exact h
 by_cases a2 : 64 < b.length
 ·have h := h1 (by omega)
  repeat ((conv => whnf) <;> first | with_reducible first | refine wI (by omega) ?_ | refine wB (by omega) ?_ | refine And.intro rfl ?_ | rfl | refine And.intro ‹_› ?_ | refine cTe ‹_› ?_ | refine cFe ‹_› ?_ | refine cN (cTe ‹_› ?_) | refine cN (cFe ‹_› ?_) | refine cTe rfl ?_ | refine cEq ‹_› ?_ | refine cTt ?_ | refine cNt ?_ | refine cF (Eq.refl false) ?_ | refine cN (cF (Eq.refl false) ?_) | refine cTd (by omega) ?_ | refine cFd (by omega) ?_ | refine cN (cTd (by omega) ?_) | refine cN (cFd (by omega) ?_) | refine And.intro (by omega) ?_ | refine And.intro (Eq.refl true) ?_)
  (conv => whnf)
  exact h
 have h := h2 (by omega) (by omega)
 repeat ((conv => whnf) <;> first | with_reducible first | refine wI (by omega) ?_ | refine wB (by omega) ?_ | refine And.intro rfl ?_ | rfl | refine And.intro ‹_› ?_ | refine cTe ‹_› ?_ | refine cFe ‹_› ?_ | refine cN (cTe ‹_› ?_) | refine cN (cFe ‹_› ?_) | refine cTe rfl ?_ | refine cEq ‹_› ?_ | refine cTt ?_ | refine cNt ?_ | refine cF (Eq.refl false) ?_ | refine cN (cF (Eq.refl false) ?_) | refine cTd (by omega) ?_ | refine cFd (by omega) ?_ | refine cN (cTd (by omega) ?_) | refine cN (cFd (by omega) ?_) | refine And.intro (by omega) ?_ | refine And.intro (Eq.refl true) ?_)
 (conv => whnf)
 exact h
theorem tb_wrong_ok : Con Tryz.prog tb_wrong.1 tb_wrong.2 := con_tree tmNil_ok o_wrong [.atom (.var 0)] 1 Tryz.func14 rfl c_wrong aw_wrong g_wrong
end Go.Proofs.YtpapfkihjhhjkaaGreat
