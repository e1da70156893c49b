/- Chapter 9: Encode -/
import Derived.Test.YtpapfkihjhhjkaaGreatCdp
import Derived.Test.YtpapfkihjhhjkaaGreatPnq
import Derived.Test.YtpapfkihjhhjkaaGreatPnp
set_option linter.unusedSimpArgs false
set_option linter.unusedVariables false
namespace Go.Proofs.YtpapfkihjhhjkaaGreat
open Go.RowKit FdP FdP.Ch
def tEnc : Trans := fun zs Q => match zs with
 | [.ob (.pt g)] => Q (.isl .u8 (encB g))
 | _ => False
def tREnc : Trans := fun zs Q => match zs with
 | [.ob (.fpt g)] => Q (.isl .u8 (encB g))
 | _ => False
def tabE : Tab := tb_paff :: tb_byO :: []
theorem tabE_ok : tabE.OK Tryz.prog := tab_cons tb_paff_ok <| tab_cons tb_byO_ok <| tab_nil _
def o_enc : Orc := { ans := [(6, oA 24), (7, .one ⟨.tup [.agg [.whole 0 8], .agg [.whole 1 8]], 2, []⟩), (10, oA 8), (11, .fresh ⟨.leaf (.atom (.var 0)), 2, []⟩ ⟨0, 1, 5, 1⟩), (12, oA 8), (13, .fresh ⟨.leaf (.atom (.var 0)), 2, []⟩ ⟨0, 1, 5, 1⟩), (14, oV), (15, oV), (16, oV), (17, oV), (19, oV)], lps := [], ords := [(2, [.quiet 0, .quiet 2, .call 1 [], .call 3 [], .quiet 4, .quiet 5, .quiet 6, .quiet 7, .make 8 [], .last 9, .last 10])] }
def t_enc : Tree :=
 .new <|
 .call 70 [.agg [.whole 0 24]] ([], []) (.tup [.agg [.whole 1 8], .agg [.whole 2 8]]) 2 [] <|
 .new <|
 .new <|
 .callr 71 [.agg [.whole 2 8]] ([], []) (qv 3) 2 ⟨3, 4, 5, 1⟩ <|
 .callr 71 [.agg [.whole 1 8]] ([], []) (qv 5) 2 ⟨5, 6, 5, 1⟩ <|
 .boundc 0 5 <|
 .ldi [.rest 6] 0 5 0 1 false <|
 .calc (.binOp .and 5 (.tmp 15) (.const (.int .u8 1)) 5) 5 [(15, qv 7)] ([], []) (qv 8) 1 <|
 .calc (.binOp .mul 5 (.tmp 16) (.const (.int .u8 128)) 5) 5 [(16, qv 8)] ([], []) (qv 9) 1 <|
 .new <|
 .app (some 4) [.one (.var 9)] 1 <|
 .ret ([([.whole 0 24], 30), ([.whole 1 8], 28), ([.whole 2 8], 28), ([.one (.var 9)], 5)], [⟨5, 6, 5, 1⟩, ⟨10, 11, 5, 1⟩]) (qv 10)
theorem c_enc : compF Tryz.prog Tryz.f31 o_enc (Tryz.f31.body.getD .skip) (symIn [.agg [.whole 0 24]] Tryz.f31.ntmps 1) = some t_enc := by kernel_rfl
theorem g_enc : goodC Tryz.prog o_enc.ords (Tryz.f31.body.getD .skip) = true := by kernel_rfl
def tb_enc : FuncId × Trans := (31, tEnc)
set_option maxRecDepth 100000 in
theorem aw_enc : ∀ zs Q, tb_enc.2 zs Q → bindLs 0 [.agg [.whole 0 24]] zs fun ae => bif Nat.beq ae.length 1 then AWp Tryz.prog tabE Q t_enc [] ae else False := by
 intro zs Q h
 replace h : tEnc zs Q := h
 unfold tEnc at h
 split at h
 case h_2 => exact h.elim
 rename_i g
 have hx := byF_len g.x
 have hy := byF_len g.y
 have hp := par01 g.x
 have hb := by_getD' (byF_by g.x) 0
 have ha : bits .and .u8 ((byF g.x).getD (0 + Int.toNat 0 * 0) 0) 1 = (byF g.x).getD 0 0 % 2 := u8_and1 _ hb
 unfold encB at h
 rw [← ha] at h
 repeat ((conv => whnf) <;> first | exact rfl | refine wI (by omega) ?_ | refine wB (by omega) ?_ | with_reducible refine And.intro rfl ?_ | with_reducible refine And.intro (by assumption) ?_ | with_reducible refine cTe (by assumption) ?_ | with_reducible refine cFe (by assumption) ?_ | with_reducible refine cN (cTe (by assumption) ?_) | with_reducible refine cN (cFe (by assumption) ?_) | with_reducible refine cTt ?_ | with_reducible refine cNt ?_ | refine And.intro (by omega) ?_ | refine cTd (by omega) ?_ | refine cFd (by omega) ?_ | refine cN (cTd (by omega) ?_) | refine cN (cFd (by omega) ?_) | refine And.intro (by simp only [AV.size, Nat.div_one, List.length_append, List.length_singleton]; omega) ?_)
 (conv => whnf)
 exact h
theorem tb_enc_ok : Con Tryz.prog tb_enc.1 tb_enc.2 := con_tree tabE_ok o_enc [.agg [.whole 0 24]] 1 Tryz.func31 rfl c_enc aw_enc g_enc
def tabRE : Tab := tb_rpaff :: tb_rneg5 :: tb_rbyO :: []
theorem tabRE_ok : tabRE.OK Tryz.prog := tab_cons tb_rpaff_ok <| tab_cons tb_rneg5_ok <| tab_cons tb_rbyO_ok <| tab_nil _
def o_renc : Orc := { ans := [(7, oA 48), (8, .one ⟨.tup [.agg [.whole 0 16], .agg [.whole 1 16]], 2, []⟩), (11, oA 16), (12, oB), (13, oA 16), (14, .fresh ⟨.leaf (.atom (.var 0)), 2, []⟩ ⟨0, 1, 5, 1⟩), (17, oV)], lps := [] }
def t_renc : Tree :=
 .new <|
 .call 56 [.agg [.whole 0 48]] ([], []) (.tup [.agg [.whole 1 16], .agg [.whole 2 16]]) 2 [] <|
 .new <|
 .new <|
 .call2 57 [.agg [.whole 1 16]] ([], []) qT 0 [] (
 .callr 58 [.agg [.whole 2 16]] ([], []) (qv 3) 2 ⟨3, 4, 5, 1⟩ <|
 .new <|
 .app (some 4) [.one (.const (.int .u8 128))] 1 <|
 .ret ([([.whole 0 48], 34), ([.whole 1 16], 32), ([.whole 2 16], 32), ([.one (.const (.int .u8 128))], 5)], [⟨5, 6, 5, 1⟩]) (qv 5)) qF 0 [] <|
 .callr 58 [.agg [.whole 2 16]] ([], []) (qv 3) 2 ⟨3, 4, 5, 1⟩ <|
 .new <|
 .app (some 4) [.one (.const (.int .u8 0))] 1 <|
 .ret ([([.whole 0 48], 34), ([.whole 1 16], 32), ([.whole 2 16], 32), ([.one (.const (.int .u8 0))], 5)], [⟨5, 6, 5, 1⟩]) (qv 5)
theorem c_renc : compF Tryz.prog Tryz.f22 o_renc (Tryz.f22.body.getD .skip) (symIn [.agg [.whole 0 48]] Tryz.f22.ntmps 1) = some t_renc := by kernel_rfl
theorem g_renc : goodC Tryz.prog o_renc.ords (Tryz.f22.body.getD .skip) = true := by kernel_rfl
def tb_renc : FuncId × Trans := (22, tREnc)
set_option maxRecDepth 100000 in
theorem aw_renc : ∀ zs Q, tb_renc.2 zs Q → bindLs 0 [.agg [.whole 0 48]] zs fun ae => bif Nat.beq ae.length 1 then AWp Tryz.prog tabRE Q t_renc [] ae else False := by
 intro zs Q h
 replace h : tREnc zs Q := h
 unfold tREnc at h
 split at h
 case h_2 => exact h.elim
 rename_i g
 have hy := byF_len g.y
 have ho := byF_odd g.x
 unfold encB at h
 by_cases e : g.x.val % 2 = 1
 ·rw [show (byF g.x).getD 0 0 % 2 * 128 = 128 by omega] at h
  repeat ((conv => whnf) <;> first | exact rfl | refine wI (by omega) ?_ | refine wB (by omega) ?_ | with_reducible refine And.intro rfl ?_ | with_reducible refine And.intro (by assumption) ?_ | with_reducible refine cTe (by assumption) ?_ | with_reducible refine cFe (by assumption) ?_ | with_reducible refine cN (cTe (by assumption) ?_) | with_reducible refine cN (cFe (by assumption) ?_) | with_reducible refine cTt ?_ | with_reducible refine cNt ?_ | refine And.intro (by omega) ?_ | refine cTd (by omega) ?_ | refine cFd (by omega) ?_ | refine cN (cTd (by omega) ?_) | refine cN (cFd (by omega) ?_) | refine And.intro (by simp only [AV.size, Nat.div_one, List.length_append, List.length_singleton]; omega) ?_)
  (conv => whnf)
  exact h
 ·rw [show (byF g.x).getD 0 0 % 2 * 128 = 0 by omega] at h
  repeat ((conv => whnf) <;> first | exact rfl | refine wI (by omega) ?_ | refine wB (by omega) ?_ | with_reducible refine And.intro rfl ?_ | with_reducible refine And.intro (by assumption) ?_ | with_reducible refine cTe (by assumption) ?_ | with_reducible refine cFe (by assumption) ?_ | with_reducible refine cN (cTe (by assumption) ?_) | with_reducible refine cN (cFe (by assumption) ?_) | with_reducible refine cTt ?_ | with_reducible refine cNt ?_ | refine And.intro (by omega) ?_ | refine cTd (by omega) ?_ | refine cFd (by omega) ?_ | refine cN (cTd (by omega) ?_) | refine cN (cFd (by omega) ?_) | refine And.intro (by simp only [AV.size, Nat.div_one, List.length_append, List.length_singleton]; omega) ?_)
  (conv => whnf)
  exact h
theorem tb_renc_ok : Con Tryz.prog tb_renc.1 tb_renc.2 := con_tree tabRE_ok o_renc [.agg [.whole 0 48]] 1 Tryz.func22 rfl c_renc aw_renc g_renc
end Go.Proofs.YtpapfkihjhhjkaaGreat
