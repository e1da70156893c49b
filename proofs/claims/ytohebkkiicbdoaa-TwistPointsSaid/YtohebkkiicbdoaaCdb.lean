/- Chapter 9: Decode -/
import Derived.Test.YtohebkkiicbdoaaCda
set_option linter.unusedSimpArgs false
set_option linter.unusedVariables false
namespace Go.Proofs.Ytohebkkiicbdoaa
open Go.RowKit FdP FdP.Ch
def tb_fdecS : FuncId × Trans := (tb_fdec.1, tSub tb_fdec.2)
theorem tb_fdecS_ok : Con Try.prog tb_fdecS.1 tb_fdecS.2 := con_tSub tb_fdec_ok
def tb_ratioO : FuncId × Trans := (tb_ratio.1, tErb ratA (fun u v => dec (ratI u v)))
theorem tb_ratioO_ok : Con Try.prog tb_ratioO.1 tb_ratioO.2 := by
 have e1 : ratA = fun u v => abs (rat u v) := (op2_ex fun u v => abs (rat u v)).choose_spec
 have e2 : ratI = fun u v => v * (rat u v * rat u v) = u := (op2_ex fun u v => v * (rat u v * rat u v) = u).choose_spec
 show Con Try.prog tb_ratio.1 (tErb ratA (fun u v => dec (ratI u v)))
 rw [e1, e2]; exact tb_ratio_ok
def p0 : AV := .lit (List.replicate 24 (.int .u64 0))
def tFail : Trans := fun zs Q => match zs with
 | [.int .i64 e] => Q (.tup [p0, .int .i64 e])
 | _ => False
def tDecP : Trans := fun zs Q => match zs with
 | [.isl .u8 b] => (By b ∧ b.length ≤ 100000) ∧ (¬ b.length = 57 → Q (.tup [p0, .int .i64 11])) ∧ (b.length = 57 → ¬ DecOK b → Q (.tup [p0, .int .i64 13])) ∧ (b.length = 57 → DecOK b → Q (.tup [.ob (.pt (decG b)), .int .i64 0]))
 | _ => False
def o_cfail : Orc := { ans := [], lps := [] }
def t_cfail : Tree :=
 .new <|
 .ret ([], []) (.tup [.agg [.lit [.int .u64 0, .int .u64 0, .int .u64 0, .int .u64 0, .int .u64 0, .int .u64 0, .int .u64 0, .int .u64 0, .int .u64 0, .int .u64 0, .int .u64 0, .int .u64 0, .int .u64 0, .int .u64 0, .int .u64 0, .int .u64 0, .int .u64 0, .int .u64 0, .int .u64 0, .int .u64 0, .int .u64 0, .int .u64 0, .int .u64 0, .int .u64 0]], .atom (.var 0)])
theorem c_cfail : compF Try.prog Try.f78 o_cfail (Try.f78.body.getD .skip) (symIn [.atom (.var 0)] Try.f78.ntmps 1) = some t_cfail := by kernel_rfl
theorem g_cfail : goodC Try.prog o_cfail.ords (Try.f78.body.getD .skip) = true := by kernel_rfl
def tb_cfail : FuncId × Trans := (78, tFail)
set_option maxRecDepth 100000 in
theorem aw_cfail : ∀ zs Q, tb_cfail.2 zs Q → bindLs 0 [.atom (.var 0)] zs fun ae => bif Nat.beq ae.length 1 then AWp Try.prog tabNil Q t_cfail [] ae else False := by
 intro zs Q h
 replace h : tFail zs Q := h
 unfold tFail at h
 split at h
 case h_2 => exact h.elim
 rename_i e
 repeat ((conv => whnf) <;> first | exact rfl | refine wI (by omega) ?_ | with_reducible refine And.intro rfl ?_ | with_reducible refine And.intro (by assumption) ?_ | with_reducible refine cTe (by assumption) ?_ | with_reducible refine cFe (by assumption) ?_ | with_reducible refine cN (cTe (by assumption) ?_) | with_reducible refine cN (cFe (by assumption) ?_) | with_reducible refine cTt ?_ | with_reducible refine cNt ?_ | refine And.intro (by omega) ?_ | refine cTd (by omega) ?_ | refine cFd (by omega) ?_ | refine cN (cTd (by omega) ?_) | refine cN (cFd (by omega) ?_) | refine And.intro (by simp only [AV.size, Nat.div_one, List.length_append, List.length_singleton]; omega) ?_)
 (conv => whnf)
 exact h
theorem tb_cfail_ok : Con Try.prog tb_cfail.1 tb_cfail.2 := con_tree tabNil_ok o_cfail [.atom (.var 0)] 1 Try.func78 rfl c_cfail aw_cfail g_cfail
def tabDe : Tab := tb_cfail :: tb_fdecS :: tb_square :: tb_int :: tb_sub :: tb_times :: tb_ratioO :: tb_zero :: tb_neg :: tb_select :: tb_pof :: []
theorem tabDe_ok : tabDe.OK Try.prog := tab_cons tb_cfail_ok <| tab_cons tb_fdecS_ok <| tab_cons tb_square_ok <| tab_cons tb_int_ok <| tab_cons tb_sub_ok <| tab_cons tb_times_ok <| tab_cons tb_ratioO_ok <| tab_cons tb_zero_ok <| tab_cons tb_neg_ok <| tab_cons tb_select_ok <| tab_cons tb_pof_ok <| tab_nil _
def o_decP : Orc := { ans := [(15, oV), (16, oB), (18, .one ⟨.tup [.agg [.whole 0 24], .atom (.var 1)], 2, []⟩), (23, oV), (24, .one ⟨.tup [.agg [.whole 0 8], .atom (.var 1)], 2, []⟩), (28, oB), (31, oV), (32, oV), (33, oB), (36, oV), (37, oV), (38, oB), (39, oV), (40, oV), (42, .one ⟨.tup [.agg [.whole 0 24], .atom (.var 1)], 2, []⟩), (45, oA 8), (46, oA 8), (47, oA 8), (49, oA 8), (50, oA 8), (51, oA 8), (52, oA 8), (53, oA 8), (54, oA 8), (55, oA 8), (56, .one ⟨.tup [.agg [.whole 0 8], .atom (.var 1)], 2, []⟩), (60, oV), (61, oV), (62, oV), (63, oV), (66, oV), (68, .one ⟨.tup [.agg [.whole 0 24], .atom (.var 1)], 2, []⟩), (72, oA 8), (73, oB), (76, oB), (77, oV), (79, .one ⟨.tup [.agg [.whole 0 24], .atom (.var 1)], 2, []⟩), (85, oA 8), (86, oA 8), (87, oA 8), (88, oA 8), (89, oA 8), (90, .one ⟨.tup [.agg [.whole 0 24], .atom (.var 1)], 2, []⟩), (94, oB), (97, .one ⟨.tup [.agg [.whole 0 24], .atom (.var 1)], 2, []⟩), (100, oA 24)], lps := [], ords := [(8, [.quiet 0, .quiet 1, .quiet 3, .quiet 5, .call 2 [11], .call 4 [11], .call 6 [11], .call 7 [11], .pure 8, .pure 9, .pure 10, .make 11 [], .last 12, .last 13]), (15, [.pure 0, .pure 1, .quiet 2, .quiet 3, .quiet 6, .call 4 [11], .call 5 [11], .call 7 [11], .pure 8, .pure 9, .pure 10, .make 11 [], .last 12, .last 13])] }
def t_decP : Tree :=
 .new <|
 .calc (.call { callee := .builtin .len, args := #[.tmp 14], argTypes := #[22] }) 3 [(14, qv 0)] ([], []) (qv 1) 1 <|
 .calc2 (.binOp .neq 3 (.tmp 15) (.const (.int .i64 57)) 3) 4 [(15, qv 1)] ([], []) qT 0 (
 .call 78 [.atom (.const (.int .i64 11))] ([], []) (.tup [.agg [.whole 2 24], .atom (.var 3)]) 2 [] <|
 .ret ([], []) (.tup [.agg [.whole 2 24], .atom (.var 3)])) qF 0 <|
 .calc (.slice 22 (.tmp 22) none (some (.const (.int .i64 56))) (some (.const (.int .i64 56)))) 22 [(22, qv 0)] ([], []) (qv 2) 1 <|
 .call 79 [.atom (.var 2)] ([], []) (.tup [.agg [.whole 3 8], .atom (.var 4)]) 2 [] <|
 .new <|
 .calc2 (.binOp .neq 49 (.tmp 27) (.const (.int .i64 0)) 49) 4 [(27, qv 4)] ([], []) qT 0 (
 .call 78 [.atom (.const (.int .i64 13))] ([], []) (.tup [.agg [.whole 5 24], .atom (.var 6)]) 2 [] <|
 .ret ([], []) (.tup [.agg [.whole 5 24], .atom (.var 6)])) qF 0 <|
 .calc (.indexAddr 22 (.tmp 30) (.const (.int .i64 56))) 0 [(30, qv 0)] ([], []) (qv 5) 1 <|
 .calc (.load 5 (.tmp 31)) 5 [(31, qv 5)] ([], []) (qv 6) 1 <|
 .calc2 (.binOp .neq 5 (.tmp 32) (.const (.int .u8 0)) 5) 4 [(32, qv 6)] ([], []) qT 0 (
 .calc (.indexAddr 22 (.tmp 35) (.const (.int .i64 56))) 0 [(35, qv 0)] ([], []) (qv 7) 1 <|
 .calc (.load 5 (.tmp 36)) 5 [(36, qv 7)] ([], []) (qv 8) 1 <|
 .calc2 (.binOp .neq 5 (.tmp 37) (.const (.int .u8 128)) 5) 4 [(37, qv 8)] ([], []) qT 0 (
 .call 78 [.atom (.const (.int .i64 13))] ([], []) (.tup [.agg [.whole 9 24], .atom (.var 10)]) 2 [] <|
 .ret ([], []) (.tup [.agg [.whole 9 24], .atom (.var 10)])) qF 0 <|
 .call 47 [.agg [.whole 3 8]] ([], []) (.leaf (.agg [.whole 9 8])) 1 [] <|
 .call 33 [.atom (.const (.int .i64 1))] ([], []) (.leaf (.agg [.whole 10 8])) 1 [] <|
 .new <|
 .new <|
 .call 50 [.agg [.whole 9 8], .agg [.whole 10 8]] ([], []) (.leaf (.agg [.whole 11 8])) 1 [] <|
 .call 56 [.agg [.whole 9 8], .atom (.const (.int .i64 (-39081)))] ([], []) (.leaf (.agg [.whole 12 8])) 1 [] <|
 .call 50 [.agg [.whole 12 8], .agg [.whole 10 8]] ([], []) (.leaf (.agg [.whole 13 8])) 1 [] <|
 .call 80 [.agg [.whole 11 8], .agg [.whole 13 8]] ([], []) (.tup [.agg [.whole 14 8], .atom (.var 15)]) 2 [] <|
 .new <|
 .calc (.indexAddr 22 (.tmp 59) (.const (.int .i64 56))) 0 [(59, qv 0)] ([], []) (qv 16) 1 <|
 .calc (.load 5 (.tmp 60)) 5 [(60, qv 16)] ([], []) (qv 17) 1 <|
 .calc (.binOp .quo 5 (.tmp 61) (.const (.int .u8 128)) 5) 5 [(61, qv 17)] ([], []) (qv 18) 1 <|
 .calc (.convert 5 3 (.tmp 62)) 3 [(62, qv 18)] ([], []) (qv 19) 1 <|
 .calc (.unOp .not 4 (.tmp 65)) 4 [(65, qv 15)] ([], []) (qv 20) 1 <|
 .ite (.var 20) (
 .call 78 [.atom (.const (.int .i64 13))] ([], []) (.tup [.agg [.whole 21 24], .atom (.var 22)]) 2 [] <|
 .ret ([], []) (.tup [.agg [.whole 21 24], .atom (.var 22)])) <|
 .call2 81 [.agg [.whole 14 8]] ([], []) qT 0 [] (
 .calc2 (.binOp .eql 3 (.tmp 75) (.const (.int .i64 1)) 3) 4 [(75, qv 19)] ([], []) qT 0 (
 .call 78 [.atom (.const (.int .i64 13))] ([], []) (.tup [.agg [.whole 21 24], .atom (.var 22)]) 2 [] <|
 .ret ([], []) (.tup [.agg [.whole 21 24], .atom (.var 22)])) qF 0 <|
 .call 62 [.agg [.whole 14 8]] ([], []) (.leaf (.agg [.whole 21 8])) 1 [] <|
 .call 82 [.atom (.var 19), .agg [.whole 14 8], .agg [.whole 21 8]] ([], []) (.leaf (.agg [.whole 22 8])) 1 [] <|
 .call 37 [.agg [.whole 22 8], .agg [.whole 3 8]] ([], []) (.tup [.agg [.whole 23 24], .atom (.var 24)]) 2 [] <|
 .new <|
 .calc2 (.binOp .neq 49 (.tmp 93) (.const (.int .i64 0)) 49) 4 [(93, qv 24)] ([], []) qT 0 (
 .call 78 [.atom (.var 24)] ([], []) (.tup [.agg [.whole 25 24], .atom (.var 26)]) 2 [] <|
 .ret ([], []) (.tup [.agg [.whole 25 24], .atom (.var 26)])) qF 0 <|
 .ret ([], []) (.tup [.agg [.whole 23 24], .atom (.const (.int .i64 0))])) qF 0 [] <|
 .call 62 [.agg [.whole 14 8]] ([], []) (.leaf (.agg [.whole 21 8])) 1 [] <|
 .call 82 [.atom (.var 19), .agg [.whole 14 8], .agg [.whole 21 8]] ([], []) (.leaf (.agg [.whole 22 8])) 1 [] <|
 .call 37 [.agg [.whole 22 8], .agg [.whole 3 8]] ([], []) (.tup [.agg [.whole 23 24], .atom (.var 24)]) 2 [] <|
 .new <|
 .calc2 (.binOp .neq 49 (.tmp 93) (.const (.int .i64 0)) 49) 4 [(93, qv 24)] ([], []) qT 0 (
 .call 78 [.atom (.var 24)] ([], []) (.tup [.agg [.whole 25 24], .atom (.var 26)]) 2 [] <|
 .ret ([], []) (.tup [.agg [.whole 25 24], .atom (.var 26)])) qF 0 <|
 .ret ([], []) (.tup [.agg [.whole 23 24], .atom (.const (.int .i64 0))])) qF 0 <|
 .call 47 [.agg [.whole 3 8]] ([], []) (.leaf (.agg [.whole 7 8])) 1 [] <|
 .call 33 [.atom (.const (.int .i64 1))] ([], []) (.leaf (.agg [.whole 8 8])) 1 [] <|
 .new <|
 .new <|
 .call 50 [.agg [.whole 7 8], .agg [.whole 8 8]] ([], []) (.leaf (.agg [.whole 9 8])) 1 [] <|
 .call 56 [.agg [.whole 7 8], .atom (.const (.int .i64 (-39081)))] ([], []) (.leaf (.agg [.whole 10 8])) 1 [] <|
 .call 50 [.agg [.whole 10 8], .agg [.whole 8 8]] ([], []) (.leaf (.agg [.whole 11 8])) 1 [] <|
 .call 80 [.agg [.whole 9 8], .agg [.whole 11 8]] ([], []) (.tup [.agg [.whole 12 8], .atom (.var 13)]) 2 [] <|
 .new <|
 .calc (.indexAddr 22 (.tmp 59) (.const (.int .i64 56))) 0 [(59, qv 0)] ([], []) (qv 14) 1 <|
 .calc (.load 5 (.tmp 60)) 5 [(60, qv 14)] ([], []) (qv 15) 1 <|
 .calc (.binOp .quo 5 (.tmp 61) (.const (.int .u8 128)) 5) 5 [(61, qv 15)] ([], []) (qv 16) 1 <|
 .calc (.convert 5 3 (.tmp 62)) 3 [(62, qv 16)] ([], []) (qv 17) 1 <|
 .calc (.unOp .not 4 (.tmp 65)) 4 [(65, qv 13)] ([], []) (qv 18) 1 <|
 .ite (.var 18) (
 .call 78 [.atom (.const (.int .i64 13))] ([], []) (.tup [.agg [.whole 19 24], .atom (.var 20)]) 2 [] <|
 .ret ([], []) (.tup [.agg [.whole 19 24], .atom (.var 20)])) <|
 .call2 81 [.agg [.whole 12 8]] ([], []) qT 0 [] (
 .calc2 (.binOp .eql 3 (.tmp 75) (.const (.int .i64 1)) 3) 4 [(75, qv 17)] ([], []) qT 0 (
 .call 78 [.atom (.const (.int .i64 13))] ([], []) (.tup [.agg [.whole 19 24], .atom (.var 20)]) 2 [] <|
 .ret ([], []) (.tup [.agg [.whole 19 24], .atom (.var 20)])) qF 0 <|
 .call 62 [.agg [.whole 12 8]] ([], []) (.leaf (.agg [.whole 19 8])) 1 [] <|
 .call 82 [.atom (.var 17), .agg [.whole 12 8], .agg [.whole 19 8]] ([], []) (.leaf (.agg [.whole 20 8])) 1 [] <|
 .call 37 [.agg [.whole 20 8], .agg [.whole 3 8]] ([], []) (.tup [.agg [.whole 21 24], .atom (.var 22)]) 2 [] <|
 .new <|
 .calc2 (.binOp .neq 49 (.tmp 93) (.const (.int .i64 0)) 49) 4 [(93, qv 22)] ([], []) qT 0 (
 .call 78 [.atom (.var 22)] ([], []) (.tup [.agg [.whole 23 24], .atom (.var 24)]) 2 [] <|
 .ret ([], []) (.tup [.agg [.whole 23 24], .atom (.var 24)])) qF 0 <|
 .ret ([], []) (.tup [.agg [.whole 21 24], .atom (.const (.int .i64 0))])) qF 0 [] <|
 .call 62 [.agg [.whole 12 8]] ([], []) (.leaf (.agg [.whole 19 8])) 1 [] <|
 .call 82 [.atom (.var 17), .agg [.whole 12 8], .agg [.whole 19 8]] ([], []) (.leaf (.agg [.whole 20 8])) 1 [] <|
 .call 37 [.agg [.whole 20 8], .agg [.whole 3 8]] ([], []) (.tup [.agg [.whole 21 24], .atom (.var 22)]) 2 [] <|
 .new <|
 .calc2 (.binOp .neq 49 (.tmp 93) (.const (.int .i64 0)) 49) 4 [(93, qv 22)] ([], []) qT 0 (
 .call 78 [.atom (.var 22)] ([], []) (.tup [.agg [.whole 23 24], .atom (.var 24)]) 2 [] <|
 .ret ([], []) (.tup [.agg [.whole 23 24], .atom (.var 24)])) qF 0 <|
 .ret ([], []) (.tup [.agg [.whole 21 24], .atom (.const (.int .i64 0))])
theorem c_decP : compF Try.prog Try.f45 o_decP (Try.f45.body.getD .skip) (symIn [.atom (.var 0)] Try.f45.ntmps 1) = some t_decP := by kernel_rfl
theorem g_decP : goodC Try.prog o_decP.ords (Try.f45.body.getD .skip) = true := by kernel_rfl
def tb_decP : FuncId × Trans := (45, tDecP)
set_option maxRecDepth 100000 in
theorem aw_decP : ∀ zs Q, tb_decP.2 zs Q → bindLs 0 [.atom (.var 0)] zs fun ae => bif Nat.beq ae.length 1 then AWp Try.prog tabDe Q t_decP [] ae else False := by
 intro zs Q h
 replace h : tDecP zs Q := h
 unfold tDecP at h
 split at h
 case h_2 => exact h.elim
 rename_i b
 obtain ⟨⟨hb, hl⟩, h1, h2, h3'⟩ := h
 by_cases h57 : b.length = 57
 case neg =>
  have h' := h1 h57
  repeat ((conv => whnf) <;> first | exact rfl | refine wI (by omega) ?_ | refine wB (by omega) ?_ | refine wQ (by omega) ?_ | with_reducible refine And.intro rfl ?_ | with_reducible refine And.intro (by assumption) ?_ | with_reducible refine cTe (by assumption) ?_ | with_reducible refine cFe (by assumption) ?_ | with_reducible refine cN (cTe (by assumption) ?_) | with_reducible refine cN (cFe (by assumption) ?_) | with_reducible refine cTt ?_ | with_reducible refine cNt ?_ | refine And.intro (fun hh => by first | (cases hh; done) | rfl) ?_ | refine And.intro (by omega) ?_ | refine cTd (by omega) ?_ | refine cFd (by omega) ?_ | refine cN (cTd (by omega) ?_) | refine cN (cFd (by omega) ?_) | refine And.intro (by simp only [AV.size, Nat.div_one, List.length_append, List.length_singleton]; omega) ?_)
  (conv => whnf)
  exact h'
 have hN := h2 h57
 have hY := h3' h57
 clear h1 h2 h3'
 have l56 : (b.take 56).length = 56 := by simp; omega
 have y56 : By (b.take 56) := fun x hx => hb x (List.mem_of_mem_take hx)
 have hs := by_getD' hb (56 : Int).toNat
 have i1 : I64 1 := by unfold I64; omega
 have i2 : I64 (-39081) := by unfold I64; omega
 have i3 : I64 (b.getD (56 : Int).toNat 0 / 128) := by unfold I64; omega
 by_cases hP : bval (b.take 56) < (P : Int)
 case neg =>
  have h' := hN fun g => hP g.1
  repeat ((conv => whnf) <;> first | exact rfl | refine wI (by omega) ?_ | refine wB (by omega) ?_ | refine wQ (by omega) ?_ | with_reducible refine And.intro rfl ?_ | with_reducible refine And.intro (by assumption) ?_ | with_reducible refine cTe (by assumption) ?_ | with_reducible refine cFe (by assumption) ?_ | with_reducible refine cN (cTe (by assumption) ?_) | with_reducible refine cN (cFe (by assumption) ?_) | with_reducible refine cTt ?_ | with_reducible refine cNt ?_ | refine And.intro (fun hh => by first | (cases hh; done) | rfl) ?_ | refine And.intro (by omega) ?_ | refine cTd (by omega) ?_ | refine cFd (by omega) ?_ | refine cN (cTd (by omega) ?_) | refine cN (cFd (by omega) ?_) | refine And.intro (by simp only [AV.size, Nat.div_one, List.length_append, List.length_singleton]; omega) ?_)
  refine ⟨[.isl .u8 (b.take 56)], ⟨Sub.refl' _, trivial⟩, ?_⟩
  repeat ((conv => whnf) <;> first | exact rfl | refine wI (by omega) ?_ | refine wB (by omega) ?_ | refine wQ (by omega) ?_ | with_reducible refine And.intro rfl ?_ | with_reducible refine And.intro (by assumption) ?_ | with_reducible refine cTe (by assumption) ?_ | with_reducible refine cFe (by assumption) ?_ | with_reducible refine cN (cTe (by assumption) ?_) | with_reducible refine cN (cFe (by assumption) ?_) | with_reducible refine cTt ?_ | with_reducible refine cNt ?_ | refine And.intro (fun hh => by first | (cases hh; done) | rfl) ?_ | refine And.intro (by omega) ?_ | refine cTd (by omega) ?_ | refine cFd (by omega) ?_ | refine cN (cTd (by omega) ?_) | refine cN (cFd (by omega) ?_) | refine And.intro (by simp only [AV.size, Nat.div_one, List.length_append, List.length_singleton]; omega) ?_)
  (conv => whnf)
  exact h'
 by_cases hs0 : b.getD (56 : Int).toNat 0 = 0 ∨ b.getD (56 : Int).toNat 0 = 128
 case neg =>
  have h' := hN fun g => hs0 g.2.1
  repeat ((conv => whnf) <;> first | exact rfl | refine wI (by omega) ?_ | refine wB (by omega) ?_ | refine wQ (by omega) ?_ | with_reducible refine And.intro rfl ?_ | with_reducible refine And.intro (by assumption) ?_ | with_reducible refine cTe (by assumption) ?_ | with_reducible refine cFe (by assumption) ?_ | with_reducible refine cN (cTe (by assumption) ?_) | with_reducible refine cN (cFe (by assumption) ?_) | with_reducible refine cTt ?_ | with_reducible refine cNt ?_ | refine And.intro (fun hh => by first | (cases hh; done) | rfl) ?_ | refine And.intro (by omega) ?_ | refine cTd (by omega) ?_ | refine cFd (by omega) ?_ | refine cN (cTd (by omega) ?_) | refine cN (cFd (by omega) ?_) | refine And.intro (by simp only [AV.size, Nat.div_one, List.length_append, List.length_singleton]; omega) ?_)
  refine ⟨[.isl .u8 (b.take 56)], ⟨Sub.refl' _, trivial⟩, ?_⟩
  repeat ((conv => whnf) <;> first | exact rfl | refine wI (by omega) ?_ | refine wB (by omega) ?_ | refine wQ (by omega) ?_ | with_reducible refine And.intro rfl ?_ | with_reducible refine And.intro (by assumption) ?_ | with_reducible refine cTe (by assumption) ?_ | with_reducible refine cFe (by assumption) ?_ | with_reducible refine cN (cTe (by assumption) ?_) | with_reducible refine cN (cFe (by assumption) ?_) | with_reducible refine cTt ?_ | with_reducible refine cNt ?_ | refine And.intro (fun hh => by first | (cases hh; done) | rfl) ?_ | refine And.intro (by omega) ?_ | refine cTd (by omega) ?_ | refine cFd (by omega) ?_ | refine cN (cTd (by omega) ?_) | refine cN (cFd (by omega) ?_) | refine And.intro (by simp only [AV.size, Nat.div_one, List.length_append, List.length_singleton]; omega) ?_)
  (conv => whnf)
  exact h'
 by_cases h3 : ratI (z (bval (b.take 56)) * z (bval (b.take 56)) - z 1) (z (bval (b.take 56)) * z (bval (b.take 56)) * z (-39081) - z 1)
 case neg =>
  have h' := hN fun g => h3 g.2.2.1
  rcases hs0 with hs0 | hs0
  ·repeat ((conv => whnf) <;> first | exact rfl | refine wI (by omega) ?_ | refine wB (by omega) ?_ | refine wQ (by omega) ?_ | with_reducible refine And.intro rfl ?_ | with_reducible refine And.intro (by assumption) ?_ | with_reducible refine cTe (by assumption) ?_ | with_reducible refine cFe (by assumption) ?_ | with_reducible refine cN (cTe (by assumption) ?_) | with_reducible refine cN (cFe (by assumption) ?_) | with_reducible refine cTt ?_ | with_reducible refine cNt ?_ | refine And.intro (fun hh => by first | (cases hh; done) | rfl) ?_ | refine And.intro (by omega) ?_ | refine cTd (by omega) ?_ | refine cFd (by omega) ?_ | refine cN (cTd (by omega) ?_) | refine cN (cFd (by omega) ?_) | refine And.intro (by simp only [AV.size, Nat.div_one, List.length_append, List.length_singleton]; omega) ?_)
   refine ⟨[.isl .u8 (b.take 56)], ⟨Sub.refl' _, trivial⟩, ?_⟩
   repeat ((conv => whnf) <;> first | exact rfl | refine wI (by omega) ?_ | refine wB (by omega) ?_ | refine wQ (by omega) ?_ | with_reducible refine And.intro rfl ?_ | with_reducible refine And.intro (by assumption) ?_ | with_reducible refine cTe (by assumption) ?_ | with_reducible refine cFe (by assumption) ?_ | with_reducible refine cN (cTe (by assumption) ?_) | with_reducible refine cN (cFe (by assumption) ?_) | with_reducible refine cTt ?_ | with_reducible refine cNt ?_ | refine And.intro (fun hh => by first | (cases hh; done) | rfl) ?_ | refine And.intro (by omega) ?_ | refine cTd (by omega) ?_ | refine cFd (by omega) ?_ | refine cN (cTd (by omega) ?_) | refine cN (cFd (by omega) ?_) | refine And.intro (by simp only [AV.size, Nat.div_one, List.length_append, List.length_singleton]; omega) ?_)
   (conv => whnf)
   exact h'
  ·repeat ((conv => whnf) <;> first | exact rfl | refine wI (by omega) ?_ | refine wB (by omega) ?_ | refine wQ (by omega) ?_ | with_reducible refine And.intro rfl ?_ | with_reducible refine And.intro (by assumption) ?_ | with_reducible refine cTe (by assumption) ?_ | with_reducible refine cFe (by assumption) ?_ | with_reducible refine cN (cTe (by assumption) ?_) | with_reducible refine cN (cFe (by assumption) ?_) | with_reducible refine cTt ?_ | with_reducible refine cNt ?_ | refine And.intro (fun hh => by first | (cases hh; done) | rfl) ?_ | refine And.intro (by omega) ?_ | refine cTd (by omega) ?_ | refine cFd (by omega) ?_ | refine cN (cTd (by omega) ?_) | refine cN (cFd (by omega) ?_) | refine And.intro (by simp only [AV.size, Nat.div_one, List.length_append, List.length_singleton]; omega) ?_)
   refine ⟨[.isl .u8 (b.take 56)], ⟨Sub.refl' _, trivial⟩, ?_⟩
   repeat ((conv => whnf) <;> first | exact rfl | refine wI (by omega) ?_ | refine wB (by omega) ?_ | refine wQ (by omega) ?_ | with_reducible refine And.intro rfl ?_ | with_reducible refine And.intro (by assumption) ?_ | with_reducible refine cTe (by assumption) ?_ | with_reducible refine cFe (by assumption) ?_ | with_reducible refine cN (cTe (by assumption) ?_) | with_reducible refine cN (cFe (by assumption) ?_) | with_reducible refine cTt ?_ | with_reducible refine cNt ?_ | refine And.intro (fun hh => by first | (cases hh; done) | rfl) ?_ | refine And.intro (by omega) ?_ | refine cTd (by omega) ?_ | refine cFd (by omega) ?_ | refine cN (cTd (by omega) ?_) | refine cN (cFd (by omega) ?_) | refine And.intro (by simp only [AV.size, Nat.div_one, List.length_append, List.length_singleton]; omega) ?_)
   (conv => whnf)
   exact h'
 have hon : On (if b.getD (56 : Int).toNat 0 / 128 % 2 = 0 then ratA (z (bval (b.take 56)) * z (bval (b.take 56)) - z 1) (z (bval (b.take 56)) * z (bval (b.take 56)) * z (-39081) - z 1) else -ratA (z (bval (b.take 56)) * z (bval (b.take 56)) - z 1) (z (bval (b.take 56)) * z (bval (b.take 56)) * z (-39081) - z 1)) (z (bval (b.take 56))) := decX_on (b := b) h3
 by_cases hx : ratA (z (bval (b.take 56)) * z (bval (b.take 56)) - z 1) (z (bval (b.take 56)) * z (bval (b.take 56)) * z (-39081) - z 1) = 0
 ·rcases hs0 with hs0 | hs0
  ·have h' := hY ⟨hP, .inl hs0, h3, fun g => by have g2 : b.getD (56 : Int).toNat 0 = 128 := g.2; omega⟩
   repeat ((conv => whnf) <;> first | exact rfl | refine wI (by omega) ?_ | refine wB (by omega) ?_ | refine wQ (by omega) ?_ | with_reducible refine And.intro rfl ?_ | with_reducible refine And.intro (by assumption) ?_ | with_reducible refine cTe (by assumption) ?_ | with_reducible refine cFe (by assumption) ?_ | with_reducible refine cN (cTe (by assumption) ?_) | with_reducible refine cN (cFe (by assumption) ?_) | with_reducible refine cTt ?_ | with_reducible refine cNt ?_ | refine And.intro (fun hh => by first | (cases hh; done) | rfl) ?_ | refine And.intro (by omega) ?_ | refine cTd (by omega) ?_ | refine cFd (by omega) ?_ | refine cN (cTd (by omega) ?_) | refine cN (cFd (by omega) ?_) | refine And.intro (by simp only [AV.size, Nat.div_one, List.length_append, List.length_singleton]; omega) ?_)
   refine ⟨[.isl .u8 (b.take 56)], ⟨Sub.refl' _, trivial⟩, ?_⟩
   repeat ((conv => whnf) <;> first | exact rfl | refine wI (by omega) ?_ | refine wB (by omega) ?_ | refine wQ (by omega) ?_ | with_reducible refine And.intro rfl ?_ | with_reducible refine And.intro (by assumption) ?_ | with_reducible refine cTe (by assumption) ?_ | with_reducible refine cFe (by assumption) ?_ | with_reducible refine cN (cTe (by assumption) ?_) | with_reducible refine cN (cFe (by assumption) ?_) | with_reducible refine cTt ?_ | with_reducible refine cNt ?_ | refine And.intro (fun hh => by first | (cases hh; done) | rfl) ?_ | refine And.intro (by omega) ?_ | refine cTd (by omega) ?_ | refine cFd (by omega) ?_ | refine cN (cTd (by omega) ?_) | refine cN (cFd (by omega) ?_) | refine And.intro (by simp only [AV.size, Nat.div_one, List.length_append, List.length_singleton]; omega) ?_)
   (conv => whnf)
   exact h'
  ·have h' := hN fun g => g.2.2.2 ⟨hx, hs0⟩
   repeat ((conv => whnf) <;> first | exact rfl | refine wI (by omega) ?_ | refine wB (by omega) ?_ | refine wQ (by omega) ?_ | with_reducible refine And.intro rfl ?_ | with_reducible refine And.intro (by assumption) ?_ | with_reducible refine cTe (by assumption) ?_ | with_reducible refine cFe (by assumption) ?_ | with_reducible refine cN (cTe (by assumption) ?_) | with_reducible refine cN (cFe (by assumption) ?_) | with_reducible refine cTt ?_ | with_reducible refine cNt ?_ | refine And.intro (fun hh => by first | (cases hh; done) | rfl) ?_ | refine And.intro (by omega) ?_ | refine cTd (by omega) ?_ | refine cFd (by omega) ?_ | refine cN (cTd (by omega) ?_) | refine cN (cFd (by omega) ?_) | refine And.intro (by simp only [AV.size, Nat.div_one, List.length_append, List.length_singleton]; omega) ?_)
   refine ⟨[.isl .u8 (b.take 56)], ⟨Sub.refl' _, trivial⟩, ?_⟩
   repeat ((conv => whnf) <;> first | exact rfl | refine wI (by omega) ?_ | refine wB (by omega) ?_ | refine wQ (by omega) ?_ | with_reducible refine And.intro rfl ?_ | with_reducible refine And.intro (by assumption) ?_ | with_reducible refine cTe (by assumption) ?_ | with_reducible refine cFe (by assumption) ?_ | with_reducible refine cN (cTe (by assumption) ?_) | with_reducible refine cN (cFe (by assumption) ?_) | with_reducible refine cTt ?_ | with_reducible refine cNt ?_ | refine And.intro (fun hh => by first | (cases hh; done) | rfl) ?_ | refine And.intro (by omega) ?_ | refine cTd (by omega) ?_ | refine cFd (by omega) ?_ | refine cN (cTd (by omega) ?_) | refine cN (cFd (by omega) ?_) | refine And.intro (by simp only [AV.size, Nat.div_one, List.length_append, List.length_singleton]; omega) ?_)
   (conv => whnf)
   exact h'
 ·have h' := hY ⟨hP, hs0, h3, fun g => hx g.1⟩
  rcases hs0 with hs0 | hs0
  ·repeat ((conv => whnf) <;> first | exact rfl | refine wI (by omega) ?_ | refine wB (by omega) ?_ | refine wQ (by omega) ?_ | with_reducible refine And.intro rfl ?_ | with_reducible refine And.intro (by assumption) ?_ | with_reducible refine cTe (by assumption) ?_ | with_reducible refine cFe (by assumption) ?_ | with_reducible refine cN (cTe (by assumption) ?_) | with_reducible refine cN (cFe (by assumption) ?_) | with_reducible refine cTt ?_ | with_reducible refine cNt ?_ | refine And.intro (fun hh => by first | (cases hh; done) | rfl) ?_ | refine And.intro (by omega) ?_ | refine cTd (by omega) ?_ | refine cFd (by omega) ?_ | refine cN (cTd (by omega) ?_) | refine cN (cFd (by omega) ?_) | refine And.intro (by simp only [AV.size, Nat.div_one, List.length_append, List.length_singleton]; omega) ?_)
   refine ⟨[.isl .u8 (b.take 56)], ⟨Sub.refl' _, trivial⟩, ?_⟩
   repeat ((conv => whnf) <;> first | exact rfl | refine wI (by omega) ?_ | refine wB (by omega) ?_ | refine wQ (by omega) ?_ | with_reducible refine And.intro rfl ?_ | with_reducible refine And.intro (by assumption) ?_ | with_reducible refine cTe (by assumption) ?_ | with_reducible refine cFe (by assumption) ?_ | with_reducible refine cN (cTe (by assumption) ?_) | with_reducible refine cN (cFe (by assumption) ?_) | with_reducible refine cTt ?_ | with_reducible refine cNt ?_ | refine And.intro (fun hh => by first | (cases hh; done) | rfl) ?_ | refine And.intro (by omega) ?_ | refine cTd (by omega) ?_ | refine cFd (by omega) ?_ | refine cN (cTd (by omega) ?_) | refine cN (cFd (by omega) ?_) | refine And.intro (by simp only [AV.size, Nat.div_one, List.length_append, List.length_singleton]; omega) ?_)
   (conv => whnf)
   exact h'
  ·repeat ((conv => whnf) <;> first | exact rfl | refine wI (by omega) ?_ | refine wB (by omega) ?_ | refine wQ (by omega) ?_ | with_reducible refine And.intro rfl ?_ | with_reducible refine And.intro (by assumption) ?_ | with_reducible refine cTe (by assumption) ?_ | with_reducible refine cFe (by assumption) ?_ | with_reducible refine cN (cTe (by assumption) ?_) | with_reducible refine cN (cFe (by assumption) ?_) | with_reducible refine cTt ?_ | with_reducible refine cNt ?_ | refine And.intro (fun hh => by first | (cases hh; done) | rfl) ?_ | refine And.intro (by omega) ?_ | refine cTd (by omega) ?_ | refine cFd (by omega) ?_ | refine cN (cTd (by omega) ?_) | refine cN (cFd (by omega) ?_) | refine And.intro (by simp only [AV.size, Nat.div_one, List.length_append, List.length_singleton]; omega) ?_)
   refine ⟨[.isl .u8 (b.take 56)], ⟨Sub.refl' _, trivial⟩, ?_⟩
   repeat ((conv => whnf) <;> first | exact rfl | refine wI (by omega) ?_ | refine wB (by omega) ?_ | refine wQ (by omega) ?_ | with_reducible refine And.intro rfl ?_ | with_reducible refine And.intro (by assumption) ?_ | with_reducible refine cTe (by assumption) ?_ | with_reducible refine cFe (by assumption) ?_ | with_reducible refine cN (cTe (by assumption) ?_) | with_reducible refine cN (cFe (by assumption) ?_) | with_reducible refine cTt ?_ | with_reducible refine cNt ?_ | refine And.intro (fun hh => by first | (cases hh; done) | rfl) ?_ | refine And.intro (by omega) ?_ | refine cTd (by omega) ?_ | refine cFd (by omega) ?_ | refine cN (cTd (by omega) ?_) | refine cN (cFd (by omega) ?_) | refine And.intro (by simp only [AV.size, Nat.div_one, List.length_append, List.length_singleton]; omega) ?_)
   (conv => whnf)
   exact h'
theorem tb_decP_ok : Con Try.prog tb_decP.1 tb_decP.2 := con_tree tabDe_ok o_decP [.atom (.var 0)] 1 Try.func45 rfl c_decP aw_decP g_decP
end Go.Proofs.Ytohebkkiicbdoaa
