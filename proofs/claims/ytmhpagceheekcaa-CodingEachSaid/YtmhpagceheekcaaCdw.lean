/- Chapter 9: the examples -/
import Derived.Test.YtmhpagceheekcaaCdb
set_option linter.unusedSimpArgs false
set_option linter.unusedVariables false
namespace Go.Proofs.Ytmhpagceheekcaa
open Go.RowKit FdP FdP.Ch
def b57 : List Int := List.replicate 57 0
set_option maxRecDepth 100000 in
theorem b57_x : DecOK b57 ∧ (decG b57).x = z (-1) ∧ (decG b57).y = 0 := by
 have e : yOf b57 = z 0 := by show z (bval (b57.take 56)) = z 0; rw [show bval (b57.take 56) = 0 from by decide +kernel]
 have hon : On (z (-1)) (z 0) := by decide +kernel
 have h := dX_uniq hon
 have ha : abs (z (-1)) = z (-1) := by decide +kernel
 rw [← e, ha] at h
 have hr : ratI (dU (yOf b57)) (dV (yOf b57)) := h.1
 have hx := decG_x hr
 refine ⟨⟨by decide +kernel, .inl (by decide +kernel), hr, fun g => absurd g.2 (by decide +kernel)⟩, ?_, ?_⟩
 ·rw [hx.1]; unfold decX; rw [if_pos (by decide +kernel)]; exact h.2
 ·rw [hx.2, e, z_zero]
theorem enc0 : (encB 0).getD (0 : Int).toNat 0 = 1 ∧ (encB 0).getD (56 : Int).toNat 0 = 0 := by decide +kernel
def tb_decPS : FuncId × Trans := (tb_decP.1, tSub tb_decP.2)
theorem tb_decPS_ok : Con Try.prog tb_decPS.1 tb_decPS.2 := con_tSub tb_decP_ok
def tabAw9 : Tab := tb_pid :: tb_enc :: tb_decPS :: tb_paff :: tb_int :: tb_equal :: tb_zero :: []
theorem tabAw9_ok : tabAw9.OK Try.prog := tab_cons tb_pid_ok <| tab_cons tb_enc_ok <| tab_cons tb_decPS_ok <| tab_cons tb_paff_ok <| tab_cons tb_int_ok <| tab_cons tb_equal_ok <| tab_cons tb_zero_ok <| tab_nil _
def o_awake9 : Orc := { ans := [(6, oA 24), (7, oV), (9, oV), (10, .one ⟨.tup [.agg [.whole 0 24], .atom (.var 1)], 2, []⟩), (14, oA 24), (15, .one ⟨.tup [.agg [.whole 0 8], .agg [.whole 1 8]], 2, []⟩), (19, oV), (20, oB), (23, oV), (24, oV), (25, oB), (26, oV), (29, oV), (30, oV), (31, oB), (32, oV), (35, oB), (36, oV), (38, oA 8), (39, oA 8), (40, oB), (41, oV), (43, oA 8), (44, oB), (45, oV)], lps := [], ords := [(4, [.pure 0, .quiet 1, .quiet 2, .pure 3, .pure 4, .quiet 5, .quiet 6, .quiet 7, .quiet 8, .pure 9, .pure 10, .quiet 11, .quiet 12, .quiet 13, .quiet 14, .pure 15, .pure 16, .quiet 17, .quiet 18, .pure 19, .quiet 20, .call 21 [], .call 22 [], .quiet 23, .pure 24, .quiet 25, .call 26 [], .quiet 27, .pure 28])], rws := [9] }
def t_awake9 : Tree :=
 .call 28 [] ([], []) (.leaf (.agg [.whole 0 24])) 1 [] <|
 .call 25 [.agg [.whole 0 24]] ([], []) (qv 1) 1 [] <|
 .mkr [.lit [.int .u8 0, .int .u8 0, .int .u8 0, .int .u8 0, .int .u8 0, .int .u8 0, .int .u8 0, .int .u8 0, .int .u8 0, .int .u8 0, .int .u8 0, .int .u8 0, .int .u8 0, .int .u8 0, .int .u8 0, .int .u8 0, .int .u8 0, .int .u8 0, .int .u8 0, .int .u8 0, .int .u8 0, .int .u8 0, .int .u8 0, .int .u8 0, .int .u8 0, .int .u8 0, .int .u8 0, .int .u8 0, .int .u8 0, .int .u8 0, .int .u8 0, .int .u8 0, .int .u8 0, .int .u8 0, .int .u8 0, .int .u8 0, .int .u8 0, .int .u8 0, .int .u8 0, .int .u8 0, .int .u8 0, .int .u8 0, .int .u8 0, .int .u8 0, .int .u8 0, .int .u8 0, .int .u8 0, .int .u8 0, .int .u8 0, .int .u8 0, .int .u8 0, .int .u8 0, .int .u8 0, .int .u8 0, .int .u8 0, .int .u8 0, .int .u8 0]] 1 <|
 .frz 2 3 ([], [⟨2, 3, 5, 1⟩]) <|
 .call 9 [.atom (.var 2)] ([], []) (.tup [.agg [.whole 4 24], .atom (.var 5)]) 2 [] <|
 .new <|
 .call 18 [.agg [.whole 4 24]] ([], []) (.tup [.agg [.whole 6 8], .agg [.whole 7 8]]) 2 [] <|
 .new <|
 .new <|
 .calc (.call { callee := .builtin .len, args := #[.tmp 18], argTypes := #[22] }) 3 [(18, qv 1)] ([], []) (qv 8) 1 <|
 .calc2 (.binOp .eql 3 (.tmp 19) (.const (.int .i64 57)) 3) 4 [(19, qv 8)] ([], []) qT 0 (
 .calc (.indexAddr 22 (.tmp 22) (.const (.int .i64 0))) 0 [(22, qv 1)] ([], []) (qv 9) 1 <|
 .calc (.load 5 (.tmp 23)) 5 [(23, qv 9)] ([], []) (qv 10) 1 <|
 .calc2 (.binOp .eql 5 (.tmp 24) (.const (.int .u8 1)) 5) 4 [(24, qv 10)] ([], []) qT 0 (
 .calc (.indexAddr 22 (.tmp 28) (.const (.int .i64 56))) 0 [(28, qv 1)] ([], []) (qv 11) 1 <|
 .calc (.load 5 (.tmp 29)) 5 [(29, qv 11)] ([], []) (qv 12) 1 <|
 .calc2 (.binOp .eql 5 (.tmp 30) (.const (.int .u8 0)) 5) 4 [(30, qv 12)] ([], []) qT 0 (
 .calc2 (.binOp .eql 30 (.tmp 34) (.const (.int .i64 0)) 30) 4 [(34, qv 5)] ([], []) qT 0 (
 .call 16 [.atom (.const (.int .i64 (-1)))] ([], []) (.leaf (.agg [.whole 13 8])) 1 [] <|
 .call2 19 [.agg [.whole 6 8], .agg [.whole 13 8]] ([], []) qT 0 [] (
 .call2 20 [.agg [.whole 7 8]] ([], []) qT 0 [] (
 .ret ([], []) qT) qF 0 [] <|
 .ret ([], []) qF) qF 0 [] <|
 .ret ([], []) qF) qF 0 <|
 .ret ([], []) qF) qF 0 <|
 .ret ([], []) qF) qF 0 <|
 .ret ([], []) qF) qF 0 <|
 .ret ([], []) qF
theorem c_awake9 : compF Try.prog Try.f8 o_awake9 (Try.f8.body.getD .skip) (symIn [] Try.f8.ntmps 0) = some t_awake9 := by kernel_rfl
theorem g_awake9 : goodC Try.prog o_awake9.ords (Try.f8.body.getD .skip) = true := by kernel_rfl
def tb_awake9 : FuncId × Trans := (8, tTrue)
set_option maxRecDepth 100000 in
theorem aw_awake9 : ∀ zs Q, tb_awake9.2 zs Q → bindLs 0 [] zs fun ae => bif Nat.beq ae.length 0 then AWp Try.prog tabAw9 Q t_awake9 [] ae else False := by
 intro zs Q h
 replace h : tTrue zs Q := h
 unfold tTrue at h
 split at h
 case h_2 => exact h.elim
 have hl := encB_len 0
 obtain ⟨g1, g2⟩ := enc0
 obtain ⟨hK, x1, x2⟩ := b57_x
 have mb : By b57 ∧ b57.length ≤ 100000 := by decide +kernel
 have h57 : b57.length = 57 := by decide +kernel
 have i1 : I64 (-1) := by unfold I64; omega
 repeat ((conv => whnf) <;> first | exact rfl | refine wI (by omega) ?_ | refine wB (by omega) ?_ | with_reducible refine And.intro rfl ?_ | with_reducible refine And.intro (by assumption) ?_ | with_reducible refine cTe (by assumption) ?_ | with_reducible refine cFe (by assumption) ?_ | with_reducible refine cN (cTe (by assumption) ?_) | with_reducible refine cN (cFe (by assumption) ?_) | with_reducible refine cTe rfl ?_ | with_reducible refine cEq (by assumption) ?_ | with_reducible refine cTt ?_ | with_reducible refine cNt ?_ | with_reducible refine cF (Eq.refl false) ?_ | refine And.intro (by omega) ?_ | refine cTd (by omega) ?_ | refine cFd (by omega) ?_ | refine cN (cTd (by omega) ?_) | refine cN (cFd (by omega) ?_) | refine And.intro (by simp only [AV.size, Nat.div_one, List.length_append, List.length_singleton]; omega) ?_)
 refine ⟨[.isl .u8 b57], ⟨Sub.refl' _, trivial⟩, ?_⟩
 generalize b57 = l57 at *
 (conv => whnf)
 refine ⟨mb, fun h => absurd h57 h, fun _ h => absurd hK h, fun _ _ => ?_⟩
 repeat ((conv => whnf) <;> first | exact rfl | refine wI (by omega) ?_ | refine wB (by omega) ?_ | with_reducible refine And.intro rfl ?_ | with_reducible refine And.intro (by assumption) ?_ | with_reducible refine cTe (by assumption) ?_ | with_reducible refine cFe (by assumption) ?_ | with_reducible refine cN (cTe (by assumption) ?_) | with_reducible refine cN (cFe (by assumption) ?_) | with_reducible refine cTe rfl ?_ | with_reducible refine cEq (by assumption) ?_ | with_reducible refine cTt ?_ | with_reducible refine cNt ?_ | with_reducible refine cF (Eq.refl false) ?_ | refine And.intro (by omega) ?_ | refine cTd (by omega) ?_ | refine cFd (by omega) ?_ | refine cN (cTd (by omega) ?_) | refine cN (cFd (by omega) ?_) | refine And.intro (by simp only [AV.size, Nat.div_one, List.length_append, List.length_singleton]; omega) ?_)
 (conv => whnf)
 exact h
theorem tb_awake9_ok : Con Try.prog tb_awake9.1 tb_awake9.2 := con_tree tabAw9_ok o_awake9 [] 0 Try.func8 rfl c_awake9 aw_awake9 g_awake9
end Go.Proofs.Ytmhpagceheekcaa
