/- Chapter 9: Encode -/
import Derived.Test.YtmhpagceheekcaaCdp
import Derived.Test.YtmhpagceheekcaaPnq
import Derived.Test.YtmhpagceheekcaaPnp
set_option linter.unusedSimpArgs false
set_option linter.unusedVariables false
namespace Go.Proofs.Ytmhpagceheekcaa
open Go.RowKit FdP FdP.Ch
def tEnc : Trans := fun zs Q => match zs with
 | [.ob (.pt g)] => Q (.isl .u8 (encB g))
 | _ => False
def tabE : Tab := tb_paff :: tb_byO :: []
theorem tabE_ok : tabE.OK Try.prog := tab_cons tb_paff_ok <| tab_cons tb_byO_ok <| tab_nil _
def o_enc : Orc := { ans := [(6, oA 24), (7, .one ⟨.tup [.agg [.whole 0 8], .agg [.whole 1 8]], 2, []⟩), (10, oA 8), (11, .fresh ⟨.leaf (.atom (.var 0)), 2, []⟩ ⟨0, 1, 5, 1⟩), (12, oA 8), (13, .fresh ⟨.leaf (.atom (.var 0)), 2, []⟩ ⟨0, 1, 5, 1⟩), (14, oV), (15, oV), (16, oV), (17, oV), (19, oV)], lps := [], ords := [(2, [.quiet 0, .quiet 2, .call 1 [], .call 3 [], .quiet 4, .quiet 5, .quiet 6, .quiet 7, .make 8 [], .last 9, .last 10])] }
def t_enc : Tree :=
 .new <|
 .call 18 [.agg [.whole 0 24]] ([], []) (.tup [.agg [.whole 1 8], .agg [.whole 2 8]]) 2 [] <|
 .new <|
 .new <|
 .callr 47 [.agg [.whole 2 8]] ([], []) (qv 3) 2 ⟨3, 4, 5, 1⟩ <|
 .callr 47 [.agg [.whole 1 8]] ([], []) (qv 5) 2 ⟨5, 6, 5, 1⟩ <|
 .boundc 0 5 <|
 .ldi [.rest 6] 0 5 0 1 false <|
 .calc (.binOp .and 5 (.tmp 15) (.const (.int .u8 1)) 5) 5 [(15, qv 7)] ([], []) (qv 8) 1 <|
 .calc (.binOp .mul 5 (.tmp 16) (.const (.int .u8 128)) 5) 5 [(16, qv 8)] ([], []) (qv 9) 1 <|
 .new <|
 .app (some 4) [.one (.var 9)] 1 <|
 .ret ([([.whole 0 24], 29), ([.whole 1 8], 27), ([.whole 2 8], 27), ([.one (.var 9)], 5)], [⟨5, 6, 5, 1⟩, ⟨10, 11, 5, 1⟩]) (qv 10)
theorem c_enc : compF Try.prog Try.f25 o_enc (Try.f25.body.getD .skip) (symIn [.agg [.whole 0 24]] Try.f25.ntmps 1) = some t_enc := by kernel_rfl
theorem g_enc : goodC Try.prog o_enc.ords (Try.f25.body.getD .skip) = true := by kernel_rfl
def tb_enc : FuncId × Trans := (25, tEnc)
set_option maxRecDepth 100000 in
theorem aw_enc : ∀ zs Q, tb_enc.2 zs Q → bindLs 0 [.agg [.whole 0 24]] zs fun ae => bif Nat.beq ae.length 1 then AWp Try.prog tabE Q t_enc [] ae else False := by
 intro zs Q h
 replace h : tEnc zs Q := h
 unfold tEnc at h
 split at h
 case h_2 => exact h.elim
 rename_i g
 have hx := byF_len g.x
 have hy := byF_len g.y
 have hp := par01 g.x
 have hb := by_getD' (byF_by g.x) 0
 have ha : bits .and .u8 ((byF g.x).getD (0 + Int.toNat 0 * 0) 0) 1 = (byF g.x).getD 0 0 % 2 := u8_and1 _ hb
 unfold encB at h
 rw [← ha] at h
 repeat ((conv => whnf) <;> first | exact rfl | refine wI (by omega) ?_ | refine wB (by omega) ?_ | with_reducible refine And.intro rfl ?_ | with_reducible refine And.intro (by assumption) ?_ | with_reducible refine cTe (by assumption) ?_ | with_reducible refine cFe (by assumption) ?_ | with_reducible refine cN (cTe (by assumption) ?_) | with_reducible refine cN (cFe (by assumption) ?_) | with_reducible refine cTt ?_ | with_reducible refine cNt ?_ | refine And.intro (by omega) ?_ | refine cTd (by omega) ?_ | refine cFd (by omega) ?_ | refine cN (cTd (by omega) ?_) | refine cN (cFd (by omega) ?_) | refine And.intro (by simp only [AV.size, Nat.div_one, List.length_append, List.length_singleton]; omega) ?_)
 (conv => whnf)
 exact h
theorem tb_enc_ok : Con Try.prog tb_enc.1 tb_enc.2 := con_tree tabE_ok o_enc [.agg [.whole 0 24]] 1 Try.func25 rfl c_enc aw_enc g_enc
end Go.Proofs.Ytmhpagceheekcaa
