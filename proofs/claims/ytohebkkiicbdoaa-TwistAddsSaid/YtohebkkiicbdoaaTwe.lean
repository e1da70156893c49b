/- Chapter 13: TwistAdds -/
import Derived.Test.YtohebkkiicbdoaaTwd
set_option linter.unusedSimpArgs false
set_option linter.unusedVariables false
namespace Go.Proofs.Ytohebkkiicbdoaa
open Go.RowKit FdP FdP.Ch
def tdG : Tab := tb_awake13 :: tb_spots13 :: tb_tto :: tb_tadd :: tb_tdbl :: tb_tneg :: tb_tback :: tb_teq :: tb_paff :: tb_rto :: tb_rtadd :: tb_rtback :: tb_rneg :: tb_rsame :: tb_same13 :: tb_samet :: []
theorem tdG_ok : tdG.OK Try.prog := tab_cons tb_awake13_ok <| tab_cons tb_spots13_ok <| tab_cons tb_tto_ok <| tab_cons tb_tadd_ok <| tab_cons tb_tdbl_ok <| tab_cons tb_tneg_ok <| tab_cons tb_tback_ok <| tab_cons tb_teq_ok <| tab_cons tb_paff_ok <| tab_cons tb_rto_ok <| tab_cons tb_rtadd_ok <| tab_cons tb_rtback_ok <| tab_cons tb_rneg_ok <| tab_cons tb_rsame_ok <| tab_cons tb_same13_ok <| tab_cons tb_samet_ok <| tab_nil _
def o_tadds : Orc := { ans := [(18, .one ⟨.leaf (.agg [.one (.var 0), .one (.var 1), .one (.var 2), .one (.var 3)]), 4, []⟩), (19, .one ⟨.tup [.agg [.whole 0 24, .whole 1 24], .agg [.whole 2 48, .whole 3 48], .atom (.var 4)], 5, []⟩), (24, oV), (25, oB), (26, oV), (27, oA 24), (28, .one ⟨.leaf (.agg [.whole 0 8, .whole 1 8]), 2, []⟩), (29, oV), (30, oA 24), (31, .one ⟨.leaf (.agg [.whole 0 8, .whole 1 8]), 2, []⟩), (32, oV), (33, oA 48), (34, .one ⟨.leaf (.agg [.whole 0 16, .whole 1 16]), 2, []⟩), (35, oV), (36, oA 48), (37, .one ⟨.leaf (.agg [.whole 0 16, .whole 1 16]), 2, []⟩), (38, .one ⟨.leaf (.agg [.whole 0 8, .whole 1 8]), 2, []⟩), (39, .one ⟨.leaf (.agg [.whole 0 16, .whole 1 16]), 2, []⟩), (40, oB), (41, oV), (43, .one ⟨.leaf (.agg [.whole 0 8, .whole 1 8]), 2, []⟩), (44, .one ⟨.leaf (.agg [.whole 0 16, .whole 1 16]), 2, []⟩), (45, oB), (46, oV), (47, oV), (49, .one ⟨.leaf (.agg [.whole 0 8, .whole 1 8]), 2, []⟩), (50, .one ⟨.leaf (.agg [.whole 0 8, .whole 1 8]), 2, []⟩), (51, .one ⟨.leaf (.agg [.whole 0 8, .whole 1 8]), 2, []⟩), (52, .one ⟨.leaf (.agg [.whole 0 16, .whole 1 16]), 2, []⟩), (53, .one ⟨.leaf (.agg [.whole 0 16, .whole 1 16]), 2, []⟩), (54, .one ⟨.leaf (.agg [.whole 0 16, .whole 1 16]), 2, []⟩), (55, oB), (56, oV), (57, oV), (59, .one ⟨.leaf (.agg [.whole 0 8, .whole 1 8]), 2, []⟩), (60, .one ⟨.leaf (.agg [.whole 0 8, .whole 1 8]), 2, []⟩), (61, .one ⟨.leaf (.agg [.whole 0 16, .whole 1 16]), 2, []⟩), (62, .one ⟨.leaf (.agg [.whole 0 16, .whole 1 16]), 2, []⟩), (63, .one ⟨.leaf (.agg [.whole 0 16, .whole 1 16]), 2, []⟩), (64, oB), (65, oV), (66, oV), (68, .one ⟨.leaf (.agg [.whole 0 8, .whole 1 8]), 2, []⟩), (69, .one ⟨.leaf (.agg [.whole 0 8, .whole 1 8]), 2, []⟩), (70, oV), (71, oA 16), (72, oA 16), (73, oV), (74, oA 16), (76, oB), (77, oV), (78, oV), (80, .one ⟨.leaf (.agg [.whole 0 8, .whole 1 8]), 2, []⟩), (81, .one ⟨.tup [.agg [.whole 0 24], .atom (.var 1)], 2, []⟩), (85, .one ⟨.leaf (.agg [.whole 0 16, .whole 1 16]), 2, []⟩), (86, .one ⟨.tup [.agg [.whole 0 16], .agg [.whole 1 16]], 2, []⟩), (90, oA 24), (91, .one ⟨.tup [.agg [.whole 0 8], .agg [.whole 1 8]], 2, []⟩), (94, oV), (95, oA 16), (96, oV), (97, oA 16), (98, oB), (100, oV), (101, oA 16), (102, oV), (103, oA 16), (104, oB), (105, oV), (107, oB), (109, oA 8), (110, oA 16), (111, oB), (112, oV), (114, oA 8), (115, oA 16), (116, oB), (117, oV), (119, .one ⟨.leaf (.agg [.whole 0 8, .whole 1 8]), 2, []⟩), (120, .one ⟨.leaf (.agg [.whole 0 8, .whole 1 8]), 2, []⟩), (121, oB), (123, oB), (124, oV), (126, oB), (127, oV)], lps := [], ords := [(8, [.quiet 0, .quiet 1, .call 2 [], .quiet 3, .pure 4, .quiet 5, .quiet 6, .call 7 [], .quiet 8, .quiet 9, .pure 10, .quiet 11, .quiet 12, .quiet 14, .quiet 15, .call 13 [], .call 16 [], .call 17 [], .quiet 18, .quiet 19, .pure 20, .quiet 21, .quiet 23, .quiet 24, .call 22 [], .call 25 [], .call 26 [], .quiet 27, .quiet 28, .pure 29, .quiet 30, .quiet 32, .quiet 33, .quiet 35, .quiet 36, .call 31 [], .call 34 [], .pure 37, .call 38 [], .quiet 39, .quiet 40])] }
def t_tadds : Tree :=
 .new <|
 .call 16 [.agg [.one (.var 0), .one (.var 1), .one (.var 2), .one (.var 3)]] ([], []) (.tup [.agg [.whole 4 24, .whole 5 24], .agg [.whole 6 48, .whole 7 48], .atom (.var 8)]) 5 [] <|
 .new <|
 .new <|
 .calc (.unOp .not 4 (.tmp 23)) 4 [(23, qv 8)] ([], []) (qv 9) 1 <|
 .ite (.var 9) (
 .call2 8 [] ([], []) qT 0 [] (
 .ret ([], []) qT) qF 0 [] <|
 .ret ([], []) qF) <|
 .call 11 [.agg [.whole 4 24]] ([], []) (.leaf (.agg [.whole 10 8, .whole 11 8])) 2 [] <|
 .new <|
 .call 11 [.agg [.whole 5 24]] ([], []) (.leaf (.agg [.whole 12 8, .whole 13 8])) 2 [] <|
 .new <|
 .call 12 [.agg [.whole 6 48]] ([], []) (.leaf (.agg [.whole 14 16, .whole 15 16])) 2 [] <|
 .new <|
 .call 12 [.agg [.whole 7 48]] ([], []) (.leaf (.agg [.whole 16 16, .whole 17 16])) 2 [] <|
 .new <|
 .call2 15 [.agg [.whole 10 8, .whole 11 8], .agg [.whole 14 16, .whole 15 16]] ([], []) qT 0 [] (
 .call2 15 [.agg [.whole 12 8, .whole 13 8], .agg [.whole 16 16, .whole 17 16]] ([], []) qT 0 [] (
 .call 17 [.agg [.whole 10 8, .whole 11 8], .agg [.whole 12 8, .whole 13 8]] ([], []) (.leaf (.agg [.whole 18 8, .whole 19 8])) 2 [] <|
 .call 18 [.agg [.whole 14 16, .whole 15 16], .agg [.whole 16 16, .whole 17 16]] ([], []) (.leaf (.agg [.whole 20 16, .whole 21 16])) 2 [] <|
 .call2 15 [.agg [.whole 18 8, .whole 19 8], .agg [.whole 20 16, .whole 21 16]] ([], []) qT 0 [] (
 .call 19 [.agg [.whole 10 8, .whole 11 8]] ([], []) (.leaf (.agg [.whole 22 8, .whole 23 8])) 2 [] <|
 .call 18 [.agg [.whole 14 16, .whole 15 16], .agg [.whole 14 16, .whole 15 16]] ([], []) (.leaf (.agg [.whole 24 16, .whole 25 16])) 2 [] <|
 .call2 15 [.agg [.whole 22 8, .whole 23 8], .agg [.whole 24 16, .whole 25 16]] ([], []) qT 0 [] (
 .call 20 [.agg [.whole 10 8, .whole 11 8]] ([], []) (.leaf (.agg [.whole 26 8, .whole 27 8])) 2 [] <|
 .call 21 [.agg [.whole 14 16]] ([], []) (.leaf (.agg [.whole 28 16])) 1 [] <|
 .call2 15 [.agg [.whole 26 8, .whole 27 8], .agg [.whole 28 16, .whole 15 16]] ([], []) qT 0 [] (
 .call 22 [.agg [.whole 10 8, .whole 11 8]] ([], []) (.tup [.agg [.whole 29 24], .atom (.var 30)]) 2 [] <|
 .new <|
 .call 23 [.agg [.whole 14 16, .whole 15 16]] ([], []) (.tup [.agg [.whole 31 16], .agg [.whole 32 16]]) 2 [] <|
 .new <|
 .new <|
 .call 24 [.agg [.whole 29 24]] ([], []) (.tup [.agg [.whole 33 8], .agg [.whole 34 8]]) 2 [] <|
 .new <|
 .new <|
 .call2 25 [.agg [.whole 14 16], .agg [.whole 16 16]] ([], []) qT 0 [] (
 .call2 25 [.agg [.whole 15 16], .agg [.whole 17 16]] ([], []) qT 0 [] (
 .calc2 (.binOp .eql 49 (.tmp 106) (.const (.int .i64 0)) 49) 4 [(106, qv 30)] ([], []) qT 0 (
 .call2 26 [.agg [.whole 33 8], .agg [.whole 31 16]] ([], []) qT 0 [] (
 .call2 26 [.agg [.whole 34 8], .agg [.whole 32 16]] ([], []) qT 0 [] (
 .call2 27 [.agg [.whole 10 8, .whole 11 8], .agg [.whole 12 8, .whole 13 8]] ([], []) qT 0 [] (
 .calc2 (.binOp .eql 4 (.tmp 121) (.tmp 122) 4) 4 [(121, .leaf (.atom (.const (.bool true)))), (122, .leaf (.atom (.const (.bool true))))] ([], []) qT 0 (
 .call2 8 [] ([], []) qT 0 [] (
 .ret ([], []) qT) qF 0 [] <|
 .ret ([], []) qF) qF 0 <|
 .ret ([], []) qF) qF 0 [] <|
 .calc2 (.binOp .eql 4 (.tmp 121) (.tmp 122) 4) 4 [(121, .leaf (.atom (.const (.bool false)))), (122, .leaf (.atom (.const (.bool true))))] ([], []) qT 0 (
 .call2 8 [] ([], []) qT 0 [] (
 .ret ([], []) qT) qF 0 [] <|
 .ret ([], []) qF) qF 0 <|
 .ret ([], []) qF) qF 0 [] <|
 .ret ([], []) qF) qF 0 [] <|
 .ret ([], []) qF) qF 0 <|
 .ret ([], []) qF) qF 0 [] <|
 .calc2 (.binOp .eql 49 (.tmp 106) (.const (.int .i64 0)) 49) 4 [(106, qv 30)] ([], []) qT 0 (
 .call2 26 [.agg [.whole 33 8], .agg [.whole 31 16]] ([], []) qT 0 [] (
 .call2 26 [.agg [.whole 34 8], .agg [.whole 32 16]] ([], []) qT 0 [] (
 .call2 27 [.agg [.whole 10 8, .whole 11 8], .agg [.whole 12 8, .whole 13 8]] ([], []) qT 0 [] (
 .calc2 (.binOp .eql 4 (.tmp 121) (.tmp 122) 4) 4 [(121, .leaf (.atom (.const (.bool true)))), (122, .leaf (.atom (.const (.bool false))))] ([], []) qT 0 (
 .call2 8 [] ([], []) qT 0 [] (
 .ret ([], []) qT) qF 0 [] <|
 .ret ([], []) qF) qF 0 <|
 .ret ([], []) qF) qF 0 [] <|
 .calc2 (.binOp .eql 4 (.tmp 121) (.tmp 122) 4) 4 [(121, .leaf (.atom (.const (.bool false)))), (122, .leaf (.atom (.const (.bool false))))] ([], []) qT 0 (
 .call2 8 [] ([], []) qT 0 [] (
 .ret ([], []) qT) qF 0 [] <|
 .ret ([], []) qF) qF 0 <|
 .ret ([], []) qF) qF 0 [] <|
 .ret ([], []) qF) qF 0 [] <|
 .ret ([], []) qF) qF 0 <|
 .ret ([], []) qF) qF 0 [] <|
 .calc2 (.binOp .eql 49 (.tmp 106) (.const (.int .i64 0)) 49) 4 [(106, qv 30)] ([], []) qT 0 (
 .call2 26 [.agg [.whole 33 8], .agg [.whole 31 16]] ([], []) qT 0 [] (
 .call2 26 [.agg [.whole 34 8], .agg [.whole 32 16]] ([], []) qT 0 [] (
 .call2 27 [.agg [.whole 10 8, .whole 11 8], .agg [.whole 12 8, .whole 13 8]] ([], []) qT 0 [] (
 .calc2 (.binOp .eql 4 (.tmp 121) (.tmp 122) 4) 4 [(121, .leaf (.atom (.const (.bool true)))), (122, .leaf (.atom (.const (.bool false))))] ([], []) qT 0 (
 .call2 8 [] ([], []) qT 0 [] (
 .ret ([], []) qT) qF 0 [] <|
 .ret ([], []) qF) qF 0 <|
 .ret ([], []) qF) qF 0 [] <|
 .calc2 (.binOp .eql 4 (.tmp 121) (.tmp 122) 4) 4 [(121, .leaf (.atom (.const (.bool false)))), (122, .leaf (.atom (.const (.bool false))))] ([], []) qT 0 (
 .call2 8 [] ([], []) qT 0 [] (
 .ret ([], []) qT) qF 0 [] <|
 .ret ([], []) qF) qF 0 <|
 .ret ([], []) qF) qF 0 [] <|
 .ret ([], []) qF) qF 0 [] <|
 .ret ([], []) qF) qF 0 <|
 .ret ([], []) qF) qF 0 [] <|
 .ret ([], []) qF) qF 0 [] <|
 .ret ([], []) qF) qF 0 [] <|
 .ret ([], []) qF) qF 0 [] <|
 .ret ([], []) qF) qF 0 [] <|
 .ret ([], []) qF
theorem c_tadds : compF Try.prog Try.f4 o_tadds (Try.f4.body.getD .skip) (symIn [.agg [.one (.var 0), .one (.var 1), .one (.var 2), .one (.var 3)]] Try.f4.ntmps 4) = some t_tadds := by kernel_rfl
theorem g_tadds : goodC Try.prog o_tadds.ords (Try.f4.body.getD .skip) = true := by kernel_rfl
set_option maxRecDepth 100000 in
set_option maxHeartbeats 1000000 in
theorem aw_tadds (b1 : List Int) (yb1 : By b1) (n1 : Int) (r1 : I64 n1) (c1 : List Int) (yc1 : By c1) (m1 : Int) (q1 : I64 m1) : AWp Try.prog tdG (fun a => a = .bool true) t_tadds [] [.isl .u8 b1, .int .i64 n1, .isl .u8 c1, .int .i64 m1] := by
  have mb : By b1 ∧ By c1 := ⟨yb1, yc1⟩
  by_cases hok : spOK2 b1 n1 ∧ spOK2 c1 m1
  case neg => repeat ((conv => whnf) <;> first | with_reducible first | refine wI (by omega) ?_ | refine And.intro rfl ?_ | rfl | refine And.intro ‹_› ?_ | refine cTe ‹_› ?_ | refine cFe ‹_› ?_ | refine cN (cTe ‹_› ?_) | refine cN (cFe ‹_› ?_) | refine cTe rfl ?_ | refine cEq ‹_› ?_ | refine cTt ?_ | refine cNt ?_ | refine cF (Eq.refl false) ?_ | refine cN (cF (Eq.refl false) ?_) | refine cTd (by omega) ?_ | refine cFd (by omega) ?_ | refine cN (cTd (by omega) ?_) | refine cN (cFd (by omega) ?_) | refine And.intro (by omega) ?_ | refine And.intro (Eq.refl true) ?_)
  repeat ((conv => whnf) <;> first | with_reducible first | refine wI (by omega) ?_ | refine And.intro rfl ?_ | rfl | refine And.intro ‹_› ?_ | refine cTe ‹_› ?_ | refine cFe ‹_› ?_ | refine cN (cTe ‹_› ?_) | refine cN (cFe ‹_› ?_) | refine cTe rfl ?_ | refine cEq ‹_› ?_ | refine cTt ?_ | refine cNt ?_ | refine cF (Eq.refl false) ?_ | refine cN (cF (Eq.refl false) ?_) | refine cTd (by omega) ?_ | refine cFd (by omega) ?_ | refine cN (cTd (by omega) ?_) | refine cN (cFd (by omega) ?_) | refine And.intro (by omega) ?_ | refine And.intro (Eq.refl true) ?_)
  generalize spP b1 n1 = p
  generalize spP c1 m1 = q
  have f1 : uT p = uT p ∧ vT p = vT p := ⟨rfl, rfl⟩
  have f2 : uT q = uT q ∧ vT q = vT q := ⟨rfl, rfl⟩
  have f3 : uT (p + q) = uT (p + q) ∧ vT (p + q) = vT (p + q) := ⟨rfl, rfl⟩
  have f4 : uT (p + p) = uT (p + p) ∧ vT (p + p) = vT (p + p) := ⟨rfl, rfl⟩
  have f5 : -uT p = -uT p ∧ vT p = vT p := ⟨rfl, rfl⟩
  have f6 : ((p + p) + (p + p)).x = ((p + p) + (p + p)).x := rfl
  have f7 : ((p + p) + (p + p)).y = ((p + p) + (p + p)).y := rfl
  repeat ((conv => whnf) <;> first | with_reducible first | refine wI (by omega) ?_ | refine And.intro rfl ?_ | rfl | refine And.intro ‹_› ?_ | refine cTe ‹_› ?_ | refine cFe ‹_› ?_ | refine cN (cTe ‹_› ?_) | refine cN (cFe ‹_› ?_) | refine cTe rfl ?_ | refine cEq ‹_› ?_ | refine cTt ?_ | refine cNt ?_ | refine cF (Eq.refl false) ?_ | refine cN (cF (Eq.refl false) ?_) | refine cTd (by omega) ?_ | refine cFd (by omega) ?_ | refine cN (cTd (by omega) ?_) | refine cN (cFd (by omega) ?_) | refine And.intro (by omega) ?_ | refine And.intro (Eq.refl true) ?_)
  refine ⟨p, q, ⟨⟨rfl, rfl⟩, rfl, rfl⟩, ?_⟩
  repeat ((conv => whnf) <;> first | with_reducible first | refine wI (by omega) ?_ | refine And.intro rfl ?_ | rfl | refine And.intro ‹_› ?_ | refine cTe ‹_› ?_ | refine cFe ‹_› ?_ | refine cN (cTe ‹_› ?_) | refine cN (cFe ‹_› ?_) | refine cTe rfl ?_ | refine cEq ‹_› ?_ | refine cTt ?_ | refine cNt ?_ | refine cF (Eq.refl false) ?_ | refine cN (cF (Eq.refl false) ?_) | refine cTd (by omega) ?_ | refine cFd (by omega) ?_ | refine cN (cTd (by omega) ?_) | refine cN (cFd (by omega) ?_) | refine And.intro (by omega) ?_ | refine And.intro (Eq.refl true) ?_)
  refine ⟨p, q, ⟨⟨rfl, rfl⟩, rfl, rfl⟩, ?_⟩
  repeat ((conv => whnf) <;> first | with_reducible first | refine wI (by omega) ?_ | refine And.intro rfl ?_ | rfl | refine And.intro ‹_› ?_ | refine cTe ‹_› ?_ | refine cFe ‹_› ?_ | refine cN (cTe ‹_› ?_) | refine cN (cFe ‹_› ?_) | refine cTe rfl ?_ | refine cEq ‹_› ?_ | refine cTt ?_ | refine cNt ?_ | refine cF (Eq.refl false) ?_ | refine cN (cF (Eq.refl false) ?_) | refine cTd (by omega) ?_ | refine cFd (by omega) ?_ | refine cN (cTd (by omega) ?_) | refine cN (cFd (by omega) ?_) | refine And.intro (by omega) ?_ | refine And.intro (Eq.refl true) ?_)
  refine ⟨p, ⟨rfl, rfl⟩, ?_⟩
  repeat ((conv => whnf) <;> first | with_reducible first | refine wI (by omega) ?_ | refine And.intro rfl ?_ | rfl | refine And.intro ‹_› ?_ | refine cTe ‹_› ?_ | refine cFe ‹_› ?_ | refine cN (cTe ‹_› ?_) | refine cN (cFe ‹_› ?_) | refine cTe rfl ?_ | refine cEq ‹_› ?_ | refine cTt ?_ | refine cNt ?_ | refine cF (Eq.refl false) ?_ | refine cN (cF (Eq.refl false) ?_) | refine cTd (by omega) ?_ | refine cFd (by omega) ?_ | refine cN (cTd (by omega) ?_) | refine cN (cFd (by omega) ?_) | refine And.intro (by omega) ?_ | refine And.intro (Eq.refl true) ?_)
  refine ⟨p, p, ⟨⟨rfl, rfl⟩, rfl, rfl⟩, ?_⟩
  repeat ((conv => whnf) <;> first | with_reducible first | refine wI (by omega) ?_ | refine And.intro rfl ?_ | rfl | refine And.intro ‹_› ?_ | refine cTe ‹_› ?_ | refine cFe ‹_› ?_ | refine cN (cTe ‹_› ?_) | refine cN (cFe ‹_› ?_) | refine cTe rfl ?_ | refine cEq ‹_› ?_ | refine cTt ?_ | refine cNt ?_ | refine cF (Eq.refl false) ?_ | refine cN (cF (Eq.refl false) ?_) | refine cTd (by omega) ?_ | refine cFd (by omega) ?_ | refine cN (cTd (by omega) ?_) | refine cN (cFd (by omega) ?_) | refine And.intro (by omega) ?_ | refine And.intro (Eq.refl true) ?_)
  refine ⟨p, ⟨rfl, rfl⟩, ?_⟩
  repeat ((conv => whnf) <;> first | with_reducible first | refine wI (by omega) ?_ | refine And.intro rfl ?_ | rfl | refine And.intro ‹_› ?_ | refine cTe ‹_› ?_ | refine cFe ‹_› ?_ | refine cN (cTe ‹_› ?_) | refine cN (cFe ‹_› ?_) | refine cTe rfl ?_ | refine cEq ‹_› ?_ | refine cTt ?_ | refine cNt ?_ | refine cF (Eq.refl false) ?_ | refine cN (cF (Eq.refl false) ?_) | refine cTd (by omega) ?_ | refine cFd (by omega) ?_ | refine cN (cTd (by omega) ?_) | refine cN (cFd (by omega) ?_) | refine And.intro (by omega) ?_ | refine And.intro (Eq.refl true) ?_)
  refine ⟨p, ⟨rfl, rfl⟩, ?_⟩
  repeat ((conv => whnf) <;> first | with_reducible first | refine wI (by omega) ?_ | refine And.intro rfl ?_ | rfl | refine And.intro ‹_› ?_ | refine cTe ‹_› ?_ | refine cFe ‹_› ?_ | refine cN (cTe ‹_› ?_) | refine cN (cFe ‹_› ?_) | refine cTe rfl ?_ | refine cEq ‹_› ?_ | refine cTt ?_ | refine cNt ?_ | refine cF (Eq.refl false) ?_ | refine cN (cF (Eq.refl false) ?_) | refine cTd (by omega) ?_ | refine cFd (by omega) ?_ | refine cN (cTd (by omega) ?_) | refine cN (cFd (by omega) ?_) | refine And.intro (by omega) ?_ | refine And.intro (Eq.refl true) ?_)
  by_cases g1 : uT p = uT q
  · by_cases g2 : vT p = vT q
    · have g3 : uT p = uT q ∧ vT p = vT q := ⟨g1, g2⟩
      repeat ((conv => whnf) <;> first | with_reducible first | refine wI (by omega) ?_ | refine And.intro rfl ?_ | rfl | refine And.intro ‹_› ?_ | refine cTe ‹_› ?_ | refine cFe ‹_› ?_ | refine cN (cTe ‹_› ?_) | refine cN (cFe ‹_› ?_) | refine cTe rfl ?_ | refine cEq ‹_› ?_ | refine cTt ?_ | refine cNt ?_ | refine cF (Eq.refl false) ?_ | refine cN (cF (Eq.refl false) ?_) | refine cTd (by omega) ?_ | refine cFd (by omega) ?_ | refine cN (cTd (by omega) ?_) | refine cN (cFd (by omega) ?_) | refine And.intro (by omega) ?_ | refine And.intro (Eq.refl true) ?_)
      (conv => whnf)
      refine cT rfl ?_
      repeat ((conv => whnf) <;> first | with_reducible first | refine wI (by omega) ?_ | refine And.intro rfl ?_ | rfl | refine And.intro ‹_› ?_ | refine cTe ‹_› ?_ | refine cFe ‹_› ?_ | refine cN (cTe ‹_› ?_) | refine cN (cFe ‹_› ?_) | refine cTe rfl ?_ | refine cEq ‹_› ?_ | refine cTt ?_ | refine cNt ?_ | refine cF (Eq.refl false) ?_ | refine cN (cF (Eq.refl false) ?_) | refine cTd (by omega) ?_ | refine cFd (by omega) ?_ | refine cN (cTd (by omega) ?_) | refine cN (cFd (by omega) ?_) | refine And.intro (by omega) ?_ | refine And.intro (Eq.refl true) ?_)
    · have g3 : ¬ (uT p = uT q ∧ vT p = vT q) := fun g => g2 g.2
      repeat ((conv => whnf) <;> first | with_reducible first | refine wI (by omega) ?_ | refine And.intro rfl ?_ | rfl | refine And.intro ‹_› ?_ | refine cTe ‹_› ?_ | refine cFe ‹_› ?_ | refine cN (cTe ‹_› ?_) | refine cN (cFe ‹_› ?_) | refine cTe rfl ?_ | refine cEq ‹_› ?_ | refine cTt ?_ | refine cNt ?_ | refine cF (Eq.refl false) ?_ | refine cN (cF (Eq.refl false) ?_) | refine cTd (by omega) ?_ | refine cFd (by omega) ?_ | refine cN (cTd (by omega) ?_) | refine cN (cFd (by omega) ?_) | refine And.intro (by omega) ?_ | refine And.intro (Eq.refl true) ?_)
      (conv => whnf)
      refine cT rfl ?_
      repeat ((conv => whnf) <;> first | with_reducible first | refine wI (by omega) ?_ | refine And.intro rfl ?_ | rfl | refine And.intro ‹_› ?_ | refine cTe ‹_› ?_ | refine cFe ‹_› ?_ | refine cN (cTe ‹_› ?_) | refine cN (cFe ‹_› ?_) | refine cTe rfl ?_ | refine cEq ‹_› ?_ | refine cTt ?_ | refine cNt ?_ | refine cF (Eq.refl false) ?_ | refine cN (cF (Eq.refl false) ?_) | refine cTd (by omega) ?_ | refine cFd (by omega) ?_ | refine cN (cTd (by omega) ?_) | refine cN (cFd (by omega) ?_) | refine And.intro (by omega) ?_ | refine And.intro (Eq.refl true) ?_)
  · have g3 : ¬ (uT p = uT q ∧ vT p = vT q) := fun g => g1 g.1
    repeat ((conv => whnf) <;> first | with_reducible first | refine wI (by omega) ?_ | refine And.intro rfl ?_ | rfl | refine And.intro ‹_› ?_ | refine cTe ‹_› ?_ | refine cFe ‹_› ?_ | refine cN (cTe ‹_› ?_) | refine cN (cFe ‹_› ?_) | refine cTe rfl ?_ | refine cEq ‹_› ?_ | refine cTt ?_ | refine cNt ?_ | refine cF (Eq.refl false) ?_ | refine cN (cF (Eq.refl false) ?_) | refine cTd (by omega) ?_ | refine cFd (by omega) ?_ | refine cN (cTd (by omega) ?_) | refine cN (cFd (by omega) ?_) | refine And.intro (by omega) ?_ | refine And.intro (Eq.refl true) ?_)
    (conv => whnf)
    refine cT rfl ?_
    repeat ((conv => whnf) <;> first | with_reducible first | refine wI (by omega) ?_ | refine And.intro rfl ?_ | rfl | refine And.intro ‹_› ?_ | refine cTe ‹_› ?_ | refine cFe ‹_› ?_ | refine cN (cTe ‹_› ?_) | refine cN (cFe ‹_› ?_) | refine cTe rfl ?_ | refine cEq ‹_› ?_ | refine cTt ?_ | refine cNt ?_ | refine cF (Eq.refl false) ?_ | refine cN (cF (Eq.refl false) ?_) | refine cTd (by omega) ?_ | refine cFd (by omega) ?_ | refine cN (cTd (by omega) ?_) | refine cN (cFd (by omega) ?_) | refine And.intro (by omega) ?_ | refine And.intro (Eq.refl true) ?_)
set_option maxRecDepth 100000 in
theorem tadds_any (b1 : List Int) (yb1 : By b1) (v1 : Value) (n1 : Int) (r1 : I64 n1) (c1 : List Int) (yc1 : By c1) (u1 : Value) (m1 : Int) (q1 : I64 m1) (w : World) (s1 : Bv w v1 b1) (z1 : Bv w u1 c1) : Calls Try.prog 4 #[AG [v1, .int .i64 n1, u1, .int .i64 m1]] w (OutV (.bool true) w) :=
  law_tree tdG_ok o_tadds [.agg [.one (.var 0), .one (.var 1), .one (.var 2), .one (.var 3)]] [v1, .int .i64 n1, u1, .int .i64 m1] [.isl .u8 b1, .int .i64 n1, .isl .u8 c1, .int .i64 m1] Try.func4 rfl c_tadds (by simp [Leaf.den, catS, Seg.den, Atom.den, cellsAt, AG, Value.cells]) (by intro x hx; simp only [List.mem_cons, List.not_mem_nil, or_false] at hx; subst hx <;> first | exact ok_four (v := v1) (v' := .int .i64 n1) (u := u1) (u' := .int .i64 m1) rfl (bv_one s1) rfl rfl rfl (bv_one z1) rfl rfl) ⟨_, _, rfl, bv_val s1, _, _, rfl, int_val n1, _, _, rfl, bv_val z1, _, _, rfl, int_val m1, rfl⟩ g_tadds (aw_tadds b1 yb1 n1 r1 c1 yc1 m1 q1)
end Go.Proofs.Ytohebkkiicbdoaa
