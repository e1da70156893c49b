/- Chapter 9: Encode -/
import Derived.Test.YtohebkkiicbdoaaCdp
import Derived.Test.YtohebkkiicbdoaaPnq
import Derived.Test.YtohebkkiicbdoaaPnp
set_option linter.unusedSimpArgs false
set_option linter.unusedVariables false
namespace Go.Proofs.Ytohebkkiicbdoaa
open Go.RowKit FdP FdP.Ch
def tREnc : Trans := fun zs Q => match zs with
 | [.ob (.fpt g)] => Q (.isl .u8 (encB g))
 | _ => False
def tabRE : Tab := tb_rpaff :: tb_rneg5 :: tb_rbyO :: []
theorem tabRE_ok : tabRE.OK Try.prog := tab_cons tb_rpaff_ok <| tab_cons tb_rneg5_ok <| tab_cons tb_rbyO_ok <| tab_nil _
def o_renc : Orc := { ans := [(7, oA 48), (8, .one ⟨.tup [.agg [.whole 0 16], .agg [.whole 1 16]], 2, []⟩), (11, oA 16), (12, oB), (13, oA 16), (14, .fresh ⟨.leaf (.atom (.var 0)), 2, []⟩ ⟨0, 1, 5, 1⟩), (17, oV)], lps := [] }
def t_renc : Tree :=
 .new <|
 .call 51 [.agg [.whole 0 48]] ([], []) (.tup [.agg [.whole 1 16], .agg [.whole 2 16]]) 2 [] <|
 .new <|
 .new <|
 .call2 83 [.agg [.whole 1 16]] ([], []) qT 0 [] (
 .callr 69 [.agg [.whole 2 16]] ([], []) (qv 3) 2 ⟨3, 4, 5, 1⟩ <|
 .new <|
 .app (some 4) [.one (.const (.int .u8 128))] 1 <|
 .ret ([([.whole 0 48], 40), ([.whole 1 16], 31), ([.whole 2 16], 31), ([.one (.const (.int .u8 128))], 5)], [⟨5, 6, 5, 1⟩]) (qv 5)) qF 0 [] <|
 .callr 69 [.agg [.whole 2 16]] ([], []) (qv 3) 2 ⟨3, 4, 5, 1⟩ <|
 .new <|
 .app (some 4) [.one (.const (.int .u8 0))] 1 <|
 .ret ([([.whole 0 48], 40), ([.whole 1 16], 31), ([.whole 2 16], 31), ([.one (.const (.int .u8 0))], 5)], [⟨5, 6, 5, 1⟩]) (qv 5)
theorem c_renc : compF Try.prog Try.f46 o_renc (Try.f46.body.getD .skip) (symIn [.agg [.whole 0 48]] Try.f46.ntmps 1) = some t_renc := by kernel_rfl
theorem g_renc : goodC Try.prog o_renc.ords (Try.f46.body.getD .skip) = true := by kernel_rfl
def tb_renc : FuncId × Trans := (46, tREnc)
set_option maxRecDepth 100000 in
theorem aw_renc : ∀ zs Q, tb_renc.2 zs Q → bindLs 0 [.agg [.whole 0 48]] zs fun ae => bif Nat.beq ae.length 1 then AWp Try.prog tabRE Q t_renc [] ae else False := by
 intro zs Q h
 replace h : tREnc zs Q := h
 unfold tREnc at h
 split at h
 case h_2 => exact h.elim
 rename_i g
 have hy := byF_len g.y
 have ho := byF_odd g.x
 unfold encB at h
 by_cases e : g.x.val % 2 = 1
 ·rw [show (byF g.x).getD 0 0 % 2 * 128 = 128 by omega] at h
  repeat ((conv => whnf) <;> first | exact rfl | refine wI (by omega) ?_ | refine wB (by omega) ?_ | with_reducible refine And.intro rfl ?_ | with_reducible refine And.intro (by assumption) ?_ | with_reducible refine cTe (by assumption) ?_ | with_reducible refine cFe (by assumption) ?_ | with_reducible refine cN (cTe (by assumption) ?_) | with_reducible refine cN (cFe (by assumption) ?_) | with_reducible refine cTt ?_ | with_reducible refine cNt ?_ | refine And.intro (by omega) ?_ | refine cTd (by omega) ?_ | refine cFd (by omega) ?_ | refine cN (cTd (by omega) ?_) | refine cN (cFd (by omega) ?_) | refine And.intro (by simp only [AV.size, Nat.div_one, List.length_append, List.length_singleton]; omega) ?_)
  (conv => whnf)
  exact h
 ·rw [show (byF g.x).getD 0 0 % 2 * 128 = 0 by omega] at h
  repeat ((conv => whnf) <;> first | exact rfl | refine wI (by omega) ?_ | refine wB (by omega) ?_ | with_reducible refine And.intro rfl ?_ | with_reducible refine And.intro (by assumption) ?_ | with_reducible refine cTe (by assumption) ?_ | with_reducible refine cFe (by assumption) ?_ | with_reducible refine cN (cTe (by assumption) ?_) | with_reducible refine cN (cFe (by assumption) ?_) | with_reducible refine cTt ?_ | with_reducible refine cNt ?_ | refine And.intro (by omega) ?_ | refine cTd (by omega) ?_ | refine cFd (by omega) ?_ | refine cN (cTd (by omega) ?_) | refine cN (cFd (by omega) ?_) | refine And.intro (by simp only [AV.size, Nat.div_one, List.length_append, List.length_singleton]; omega) ?_)
  (conv => whnf)
  exact h
theorem tb_renc_ok : Con Try.prog tb_renc.1 tb_renc.2 := con_tree tabRE_ok o_renc [.agg [.whole 0 48]] 1 Try.func46 rfl c_renc aw_renc g_renc
end Go.Proofs.Ytohebkkiicbdoaa
