/- MultBoth -/
import Derived.Test.YtpapfkihjhhjkaaGreatMle
import Derived.Test.YtpapfkihjhhjkaaGreatOpe
import Derived.Test.YtpapfkihjhhjkaaGreatOpf
set_option linter.unusedSimpArgs false
set_option linter.unusedVariables false
namespace Go.Proofs.YtpapfkihjhhjkaaGreat
open Go.RowKit FdP FdP.Ch
def tmL : Tab := tb_awake12 :: tb_made11 :: tb_bothm :: tb_wrong :: tb_rptimes :: tb_rpadd :: tb_same11 :: []
theorem tmL_ok : tmL.OK Tryz.prog := tab_cons tb_awake12_ok <| tab_cons tb_made11_ok <| tab_cons tb_bothm_ok <| tab_cons tb_wrong_ok <| tab_cons tb_rptimes_ok <| tab_cons tb_rpadd_ok <| tab_cons tb_same11_ok <| tab_nil _
def o_multboth : Orc := { ans := [(14, oV), (15, .one ⟨.leaf (.agg [.one (.var 0), .one (.var 1)]), 2, []⟩), (16, .two ⟨.tup [.agg [.whole 0 24], .agg [.whole 1 48], .atom (.const (.bool true))], 2, []⟩ ⟨.tup [.agg [.whole 0 24], .agg [.whole 1 48], .atom (.const (.bool false))], 2, []⟩), (21, oV), (22, .one ⟨.leaf (.agg [.one (.var 0), .one (.var 1)]), 2, []⟩), (23, .two ⟨.tup [.agg [.whole 0 24], .agg [.whole 1 48], .atom (.const (.bool true))], 2, []⟩ ⟨.tup [.agg [.whole 0 24], .agg [.whole 1 48], .atom (.const (.bool false))], 2, []⟩), (28, oV), (31, oV), (32, oV), (34, oV), (35, oV), (36, oV), (37, oB), (38, oV), (40, oV), (41, oV), (42, oV), (43, oB), (44, oV), (45, oB), (47, oV), (48, oV), (49, oA 24), (50, oV), (51, oV), (52, oA 24), (53, .one ⟨.tup [.agg [.whole 0 24], .atom (.var 1)], 2, []⟩), (56, oV), (57, oV), (58, oV), (59, oB), (61, oV), (62, oV), (63, oV), (64, oB), (65, oV), (67, oB), (69, oB), (70, oV), (72, oB), (74, oA 24), (75, oV), (76, oV), (77, oA 48), (78, oA 48), (79, oV), (80, oV), (81, oA 48), (82, oA 48), (83, oA 48), (84, oB), (85, oV), (87, oB), (88, oV)], lps := [], ords := [(8, [.pure 0, .quiet 1, .pure 2, .quiet 3, .quiet 4, .quiet 5, .quiet 6, .quiet 8, .quiet 9, .quiet 10, .call 7 [], .call 11 [], .call 12 [], .call 13 [], .quiet 14, .pure 15, .call 16 [], .quiet 17, .pure 18])] }
def t_multboth : Tree :=
 .new <|
 .new <|
 .call2 6 [.agg [.one (.var 0), .one (.var 1)]] ([], []) (.tup [.agg [.whole 6 24], .agg [.whole 7 48], .atom (.const (.bool true))]) 2 [] (
 .new <|
 .new <|
 .call2 6 [.agg [.one (.var 2), .one (.var 3)]] ([], []) (.tup [.agg [.whole 8 24], .agg [.whole 9 48], .atom (.const (.bool true))]) 2 [] (
 .new <|
 .new <|
 .calc (.call { callee := .builtin .len, args := #[.tmp 35], argTypes := #[22] }) 3 [(35, qv 4)] ([], []) (qv 10) 1 <|
 .calc2 (.binOp .gtr 3 (.tmp 36) (.const (.int .i64 80)) 3) 4 [(36, qv 10)] ([], []) qT 0 (
 .call2 7 [] ([], []) qT 0 [] (
 .ret ([], []) qT) qF 0 [] <|
 .ret ([], []) qF) qF 0 <|
 .calc (.call { callee := .builtin .len, args := #[.tmp 41], argTypes := #[22] }) 3 [(41, qv 5)] ([], []) (qv 11) 1 <|
 .calc2 (.binOp .gtr 3 (.tmp 42) (.const (.int .i64 80)) 3) 4 [(42, qv 11)] ([], []) qT 0 (
 .call2 7 [] ([], []) qT 0 [] (
 .ret ([], []) qT) qF 0 [] <|
 .ret ([], []) qF) qF 0 <|
 .call 18 [.atom (.var 4), .agg [.whole 6 24], .atom (.var 5), .agg [.whole 8 24]] ([], []) (.tup [.agg [.whole 12 24], .atom (.var 13)]) 2 [] <|
 .new <|
 .call 14 [.atom (.var 4)] ([], []) (qv 14) 1 [] <|
 .calc2 (.binOp .neq 38 (.tmp 58) (.const (.int .i64 0)) 38) 4 [(58, qv 14)] ([], []) qT 0 (
 .calc2 (.binOp .eql 38 (.tmp 66) (.const (.int .i64 11)) 38) 4 [(66, qv 13)] ([], []) qT 0 (
 .call2 7 [] ([], []) qT 0 [] (
 .ret ([], []) qT) qF 0 [] <|
 .ret ([], []) qF) qF 0 <|
 .ret ([], []) qF) qF 0 <|
 .call 14 [.atom (.var 5)] ([], []) (qv 15) 1 [] <|
 .calc2 (.binOp .neq 38 (.tmp 63) (.const (.int .i64 0)) 38) 4 [(63, qv 15)] ([], []) qT 0 (
 .calc2 (.binOp .eql 38 (.tmp 66) (.const (.int .i64 11)) 38) 4 [(66, qv 13)] ([], []) qT 0 (
 .call2 7 [] ([], []) qT 0 [] (
 .ret ([], []) qT) qF 0 [] <|
 .ret ([], []) qF) qF 0 <|
 .ret ([], []) qF) qF 0 <|
 .calc2 (.binOp .eql 38 (.tmp 71) (.const (.int .i64 0)) 38) 4 [(71, qv 13)] ([], []) qT 0 (
 .call 11 [.atom (.var 4), .agg [.whole 7 48]] ([], []) (.leaf (.agg [.whole 16 48])) 1 [] <|
 .call 11 [.atom (.var 5), .agg [.whole 9 48]] ([], []) (.leaf (.agg [.whole 17 48])) 1 [] <|
 .call 15 [.agg [.whole 16 48], .agg [.whole 17 48]] ([], []) (.leaf (.agg [.whole 18 48])) 1 [] <|
 .call2 10 [.agg [.whole 12 24], .agg [.whole 18 48]] ([], []) qT 0 [] (
 .call2 7 [] ([], []) qT 0 [] (
 .ret ([], []) qT) qF 0 [] <|
 .ret ([], []) qF) qF 0 [] <|
 .ret ([], []) qF) qF 0 <|
 .ret ([], []) qF) (.tup [.agg [.whole 8 24], .agg [.whole 9 48], .atom (.const (.bool false))]) 2 [] <|
 .new <|
 .new <|
 .call2 7 [] ([], []) qT 0 [] (
 .ret ([], []) qT) qF 0 [] <|
 .ret ([], []) qF) (.tup [.agg [.whole 6 24], .agg [.whole 7 48], .atom (.const (.bool false))]) 2 [] <|
 .new <|
 .new <|
 .call2 6 [.agg [.one (.var 2), .one (.var 3)]] ([], []) (.tup [.agg [.whole 8 24], .agg [.whole 9 48], .atom (.const (.bool true))]) 2 [] (
 .new <|
 .new <|
 .call2 7 [] ([], []) qT 0 [] (
 .ret ([], []) qT) qF 0 [] <|
 .ret ([], []) qF) (.tup [.agg [.whole 8 24], .agg [.whole 9 48], .atom (.const (.bool false))]) 2 [] <|
 .new <|
 .new <|
 .call2 7 [] ([], []) qT 0 [] (
 .ret ([], []) qT) qF 0 [] <|
 .ret ([], []) qF
theorem c_multboth : compF Tryz.prog Tryz.f5 o_multboth (Tryz.f5.body.getD .skip) (symIn [.agg [.one (.var 0), .one (.var 1), .one (.var 2), .one (.var 3)], .agg [.one (.var 4), .one (.var 5)]] Tryz.f5.ntmps 6) = some t_multboth := by kernel_rfl
theorem g_multboth : goodC Tryz.prog o_multboth.ords (Tryz.f5.body.getD .skip) = true := by kernel_rfl
set_option maxRecDepth 100000 in
set_option maxHeartbeats 1000000 in
theorem aw_multboth (b1 : List Int) (yb1 : By b1) (n1 : Int) (r1 : I64 n1) (c1 : List Int) (yc1 : By c1) (m1 : Int) (q1 : I64 m1) (b2 : List Int) (yb2 : By b2) (c2 : List Int) (yc2 : By c2) : AWp Tryz.prog tmL (fun a => a = .bool true) t_multboth [] [.isl .u8 b1, .int .i64 n1, .isl .u8 c1, .int .i64 m1, .isl .u8 b2, .isl .u8 c2] := by
  repeat ((conv => whnf) <;> first | with_reducible first | refine wI (by omega) ?_ | refine wB (by omega) ?_ | refine And.intro rfl ?_ | rfl | refine And.intro ‹_› ?_ | refine cTe ‹_› ?_ | refine cFe ‹_› ?_ | refine cN (cTe ‹_› ?_) | refine cN (cFe ‹_› ?_) | refine cTe rfl ?_ | refine cEq ‹_› ?_ | refine cTt ?_ | refine cNt ?_ | refine cF (Eq.refl false) ?_ | refine cN (cF (Eq.refl false) ?_) | refine cTd (by omega) ?_ | refine cFd (by omega) ?_ | refine cN (cTd (by omega) ?_) | refine cN (cFd (by omega) ?_) | refine And.intro (by omega) ?_ | refine And.intro (Eq.refl true) ?_)
  refine ⟨fun hh => ?_, fun k1 k2 k3 => ?_⟩
  · repeat ((conv => whnf) <;> first | with_reducible first | refine wI (by omega) ?_ | refine wB (by omega) ?_ | refine And.intro rfl ?_ | rfl | refine And.intro ‹_› ?_ | refine cTe ‹_› ?_ | refine cFe ‹_› ?_ | refine cN (cTe ‹_› ?_) | refine cN (cFe ‹_› ?_) | refine cTe rfl ?_ | refine cEq ‹_› ?_ | refine cTt ?_ | refine cNt ?_ | refine cF (Eq.refl false) ?_ | refine cN (cF (Eq.refl false) ?_) | refine cTd (by omega) ?_ | refine cFd (by omega) ?_ | refine cN (cTd (by omega) ?_) | refine cN (cFd (by omega) ?_) | refine And.intro (by omega) ?_ | refine And.intro (Eq.refl true) ?_)
    refine ⟨fun hh => by repeat ((conv => whnf) <;> first | with_reducible first | refine wI (by omega) ?_ | refine wB (by omega) ?_ | refine And.intro rfl ?_ | rfl | refine And.intro ‹_› ?_ | refine cTe ‹_› ?_ | refine cFe ‹_› ?_ | refine cN (cTe ‹_› ?_) | refine cN (cFe ‹_› ?_) | refine cTe rfl ?_ | refine cEq ‹_› ?_ | refine cTt ?_ | refine cNt ?_ | refine cF (Eq.refl false) ?_ | refine cN (cF (Eq.refl false) ?_) | refine cTd (by omega) ?_ | refine cFd (by omega) ?_ | refine cN (cTd (by omega) ?_) | refine cN (cFd (by omega) ?_) | refine And.intro (by omega) ?_ | refine And.intro (Eq.refl true) ?_), fun k4 k5 k6 => by repeat ((conv => whnf) <;> first | with_reducible first | refine wI (by omega) ?_ | refine wB (by omega) ?_ | refine And.intro rfl ?_ | rfl | refine And.intro ‹_› ?_ | refine cTe ‹_› ?_ | refine cFe ‹_› ?_ | refine cN (cTe ‹_› ?_) | refine cN (cFe ‹_› ?_) | refine cTe rfl ?_ | refine cEq ‹_› ?_ | refine cTt ?_ | refine cNt ?_ | refine cF (Eq.refl false) ?_ | refine cN (cF (Eq.refl false) ?_) | refine cTd (by omega) ?_ | refine cFd (by omega) ?_ | refine cN (cTd (by omega) ?_) | refine cN (cFd (by omega) ?_) | refine And.intro (by omega) ?_ | refine And.intro (Eq.refl true) ?_)⟩
  generalize sgG b1 n1 = g
  repeat ((conv => whnf) <;> first | with_reducible first | refine wI (by omega) ?_ | refine wB (by omega) ?_ | refine And.intro rfl ?_ | rfl | refine And.intro ‹_› ?_ | refine cTe ‹_› ?_ | refine cFe ‹_› ?_ | refine cN (cTe ‹_› ?_) | refine cN (cFe ‹_› ?_) | refine cTe rfl ?_ | refine cEq ‹_› ?_ | refine cTt ?_ | refine cNt ?_ | refine cF (Eq.refl false) ?_ | refine cN (cF (Eq.refl false) ?_) | refine cTd (by omega) ?_ | refine cFd (by omega) ?_ | refine cN (cTd (by omega) ?_) | refine cN (cFd (by omega) ?_) | refine And.intro (by omega) ?_ | refine And.intro (Eq.refl true) ?_)
  refine ⟨fun hh => by repeat ((conv => whnf) <;> first | with_reducible first | refine wI (by omega) ?_ | refine wB (by omega) ?_ | refine And.intro rfl ?_ | rfl | refine And.intro ‹_› ?_ | refine cTe ‹_› ?_ | refine cFe ‹_› ?_ | refine cN (cTe ‹_› ?_) | refine cN (cFe ‹_› ?_) | refine cTe rfl ?_ | refine cEq ‹_› ?_ | refine cTt ?_ | refine cNt ?_ | refine cF (Eq.refl false) ?_ | refine cN (cF (Eq.refl false) ?_) | refine cTd (by omega) ?_ | refine cFd (by omega) ?_ | refine cN (cTd (by omega) ?_) | refine cN (cFd (by omega) ?_) | refine And.intro (by omega) ?_ | refine And.intro (Eq.refl true) ?_), fun k4 k5 k6 => ?_⟩
  generalize sgG c1 m1 = g2
  by_cases a1 : (b2.length : Int) > 80
  · repeat ((conv => whnf) <;> first | with_reducible first | refine wI (by omega) ?_ | refine wB (by omega) ?_ | refine And.intro rfl ?_ | rfl | refine And.intro ‹_› ?_ | refine cTe ‹_› ?_ | refine cFe ‹_› ?_ | refine cN (cTe ‹_› ?_) | refine cN (cFe ‹_› ?_) | refine cTe rfl ?_ | refine cEq ‹_› ?_ | refine cTt ?_ | refine cNt ?_ | refine cF (Eq.refl false) ?_ | refine cN (cF (Eq.refl false) ?_) | refine cTd (by omega) ?_ | refine cFd (by omega) ?_ | refine cN (cTd (by omega) ?_) | refine cN (cFd (by omega) ?_) | refine And.intro (by omega) ?_ | refine And.intro (Eq.refl true) ?_)
  by_cases a2 : (c2.length : Int) > 80
  · repeat ((conv => whnf) <;> first | with_reducible first | refine wI (by omega) ?_ | refine wB (by omega) ?_ | refine And.intro rfl ?_ | rfl | refine And.intro ‹_› ?_ | refine cTe ‹_› ?_ | refine cFe ‹_› ?_ | refine cN (cTe ‹_› ?_) | refine cN (cFe ‹_› ?_) | refine cTe rfl ?_ | refine cEq ‹_› ?_ | refine cTt ?_ | refine cNt ?_ | refine cF (Eq.refl false) ?_ | refine cN (cF (Eq.refl false) ?_) | refine cTd (by omega) ?_ | refine cFd (by omega) ?_ | refine cN (cTd (by omega) ?_) | refine cN (cFd (by omega) ?_) | refine And.intro (by omega) ?_ | refine And.intro (Eq.refl true) ?_)
  have m0 : By b2 ∧ By c2 ∧ b2.length ≤ 100000 ∧ c2.length ≤ 100000 := ⟨yb2, yc2, by omega, by omega⟩
  have m2 : b2.length ≤ 1000 ∧ By b2 := ⟨by omega, yb2⟩
  have m3 : c2.length ≤ 1000 ∧ By c2 := ⟨by omega, yc2⟩
  have l1 : b2.length ≤ 100000 := by omega
  have l2 : c2.length ≤ 100000 := by omega
  by_cases a3 : 1 ≤ b2.length ∧ b2.length ≤ 64
  · by_cases a4 : 1 ≤ c2.length ∧ c2.length ≤ 64
    · have a5 : (1 ≤ b2.length ∧ b2.length ≤ 64) ∧ (1 ≤ c2.length ∧ c2.length ≤ 64) := ⟨a3, a4⟩
      repeat ((conv => whnf) <;> first | with_reducible first | refine wI (by omega) ?_ | refine wB (by omega) ?_ | refine And.intro rfl ?_ | rfl | refine And.intro ‹_› ?_ | refine cTe ‹_› ?_ | refine cFe ‹_› ?_ | refine cN (cTe ‹_› ?_) | refine cN (cFe ‹_› ?_) | refine cTe rfl ?_ | refine cEq ‹_› ?_ | refine cTt ?_ | refine cNt ?_ | refine cF (Eq.refl false) ?_ | refine cN (cF (Eq.refl false) ?_) | refine cTd (by omega) ?_ | refine cFd (by omega) ?_ | refine cN (cTd (by omega) ?_) | refine cN (cFd (by omega) ?_) | refine And.intro (by omega) ?_ | refine And.intro (Eq.refl true) ?_)
      intro _ _ _ _
      repeat ((conv => whnf) <;> first | with_reducible first | refine wI (by omega) ?_ | refine wB (by omega) ?_ | refine And.intro rfl ?_ | rfl | refine And.intro ‹_› ?_ | refine cTe ‹_› ?_ | refine cFe ‹_› ?_ | refine cN (cTe ‹_› ?_) | refine cN (cFe ‹_› ?_) | refine cTe rfl ?_ | refine cEq ‹_› ?_ | refine cTt ?_ | refine cNt ?_ | refine cF (Eq.refl false) ?_ | refine cN (cF (Eq.refl false) ?_) | refine cTd (by omega) ?_ | refine cFd (by omega) ?_ | refine cN (cTd (by omega) ?_) | refine cN (cFd (by omega) ?_) | refine And.intro (by omega) ?_ | refine And.intro (Eq.refl true) ?_)
      intro _ _
      repeat ((conv => whnf) <;> first | with_reducible first | refine wI (by omega) ?_ | refine wB (by omega) ?_ | refine And.intro rfl ?_ | rfl | refine And.intro ‹_› ?_ | refine cTe ‹_› ?_ | refine cFe ‹_› ?_ | refine cN (cTe ‹_› ?_) | refine cN (cFe ‹_› ?_) | refine cTe rfl ?_ | refine cEq ‹_› ?_ | refine cTt ?_ | refine cNt ?_ | refine cF (Eq.refl false) ?_ | refine cN (cF (Eq.refl false) ?_) | refine cTd (by omega) ?_ | refine cFd (by omega) ?_ | refine cN (cTd (by omega) ?_) | refine cN (cFd (by omega) ?_) | refine And.intro (by omega) ?_ | refine And.intro (Eq.refl true) ?_)
      intro _ _
      repeat ((conv => whnf) <;> first | with_reducible first | refine wI (by omega) ?_ | refine wB (by omega) ?_ | refine And.intro rfl ?_ | rfl | refine And.intro ‹_› ?_ | refine cTe ‹_› ?_ | refine cFe ‹_› ?_ | refine cN (cTe ‹_› ?_) | refine cN (cFe ‹_› ?_) | refine cTe rfl ?_ | refine cEq ‹_› ?_ | refine cTt ?_ | refine cNt ?_ | refine cF (Eq.refl false) ?_ | refine cN (cF (Eq.refl false) ?_) | refine cTd (by omega) ?_ | refine cFd (by omega) ?_ | refine cN (cTd (by omega) ?_) | refine cN (cFd (by omega) ?_) | refine And.intro (by omega) ?_ | refine And.intro (Eq.refl true) ?_)
      (conv => whnf)
      refine ⟨fun _ => ?_, fun hh => absurd rfl hh⟩
      repeat ((conv => whnf) <;> first | with_reducible first | refine wI (by omega) ?_ | refine wB (by omega) ?_ | refine And.intro rfl ?_ | rfl | refine And.intro ‹_› ?_ | refine cTe ‹_› ?_ | refine cFe ‹_› ?_ | refine cN (cTe ‹_› ?_) | refine cN (cFe ‹_› ?_) | refine cTe rfl ?_ | refine cEq ‹_› ?_ | refine cTt ?_ | refine cNt ?_ | refine cF (Eq.refl false) ?_ | refine cN (cF (Eq.refl false) ?_) | refine cTd (by omega) ?_ | refine cFd (by omega) ?_ | refine cN (cTd (by omega) ?_) | refine cN (cFd (by omega) ?_) | refine And.intro (by omega) ?_ | refine And.intro (Eq.refl true) ?_)
    · repeat ((conv => whnf) <;> first | with_reducible first | refine wI (by omega) ?_ | refine wB (by omega) ?_ | refine And.intro rfl ?_ | rfl | refine And.intro ‹_› ?_ | refine cTe ‹_› ?_ | refine cFe ‹_› ?_ | refine cN (cTe ‹_› ?_) | refine cN (cFe ‹_› ?_) | refine cTe rfl ?_ | refine cEq ‹_› ?_ | refine cTt ?_ | refine cNt ?_ | refine cF (Eq.refl false) ?_ | refine cN (cF (Eq.refl false) ?_) | refine cTd (by omega) ?_ | refine cFd (by omega) ?_ | refine cN (cTd (by omega) ?_) | refine cN (cFd (by omega) ?_) | refine And.intro (by omega) ?_ | refine And.intro (Eq.refl true) ?_)
      refine ⟨fun _ => ?_, fun q1 q2 q3 q4 => absurd ⟨q3, q4⟩ a4⟩
      repeat ((conv => whnf) <;> first | with_reducible first | refine wI (by omega) ?_ | refine wB (by omega) ?_ | refine And.intro rfl ?_ | rfl | refine And.intro ‹_› ?_ | refine cTe ‹_› ?_ | refine cFe ‹_› ?_ | refine cN (cTe ‹_› ?_) | refine cN (cFe ‹_› ?_) | refine cTe rfl ?_ | refine cEq ‹_› ?_ | refine cTt ?_ | refine cNt ?_ | refine cF (Eq.refl false) ?_ | refine cN (cF (Eq.refl false) ?_) | refine cTd (by omega) ?_ | refine cFd (by omega) ?_ | refine cN (cTd (by omega) ?_) | refine cN (cFd (by omega) ?_) | refine And.intro (by omega) ?_ | refine And.intro (Eq.refl true) ?_)
      intro _ _
      repeat ((conv => whnf) <;> first | with_reducible first | refine wI (by omega) ?_ | refine wB (by omega) ?_ | refine And.intro rfl ?_ | rfl | refine And.intro ‹_› ?_ | refine cTe ‹_› ?_ | refine cFe ‹_› ?_ | refine cN (cTe ‹_› ?_) | refine cN (cFe ‹_› ?_) | refine cTe rfl ?_ | refine cEq ‹_› ?_ | refine cTt ?_ | refine cNt ?_ | refine cF (Eq.refl false) ?_ | refine cN (cF (Eq.refl false) ?_) | refine cTd (by omega) ?_ | refine cFd (by omega) ?_ | refine cN (cTd (by omega) ?_) | refine cN (cFd (by omega) ?_) | refine And.intro (by omega) ?_ | refine And.intro (Eq.refl true) ?_)
      refine ⟨fun _ => ?_, fun q1 q2 => absurd ⟨q1, q2⟩ a4⟩
      repeat ((conv => whnf) <;> first | with_reducible first | refine wI (by omega) ?_ | refine wB (by omega) ?_ | refine And.intro rfl ?_ | rfl | refine And.intro ‹_› ?_ | refine cTe ‹_› ?_ | refine cFe ‹_› ?_ | refine cN (cTe ‹_› ?_) | refine cN (cFe ‹_› ?_) | refine cTe rfl ?_ | refine cEq ‹_› ?_ | refine cTt ?_ | refine cNt ?_ | refine cF (Eq.refl false) ?_ | refine cN (cF (Eq.refl false) ?_) | refine cTd (by omega) ?_ | refine cFd (by omega) ?_ | refine cN (cTd (by omega) ?_) | refine cN (cFd (by omega) ?_) | refine And.intro (by omega) ?_ | refine And.intro (Eq.refl true) ?_)
  · repeat ((conv => whnf) <;> first | with_reducible first | refine wI (by omega) ?_ | refine wB (by omega) ?_ | refine And.intro rfl ?_ | rfl | refine And.intro ‹_› ?_ | refine cTe ‹_› ?_ | refine cFe ‹_› ?_ | refine cN (cTe ‹_› ?_) | refine cN (cFe ‹_› ?_) | refine cTe rfl ?_ | refine cEq ‹_› ?_ | refine cTt ?_ | refine cNt ?_ | refine cF (Eq.refl false) ?_ | refine cN (cF (Eq.refl false) ?_) | refine cTd (by omega) ?_ | refine cFd (by omega) ?_ | refine cN (cTd (by omega) ?_) | refine cN (cFd (by omega) ?_) | refine And.intro (by omega) ?_ | refine And.intro (Eq.refl true) ?_)
    refine ⟨fun _ => ?_, fun q1 q2 q3 q4 => absurd ⟨q1, q2⟩ a3⟩
    repeat ((conv => whnf) <;> first | with_reducible first | refine wI (by omega) ?_ | refine wB (by omega) ?_ | refine And.intro rfl ?_ | rfl | refine And.intro ‹_› ?_ | refine cTe ‹_› ?_ | refine cFe ‹_› ?_ | refine cN (cTe ‹_› ?_) | refine cN (cFe ‹_› ?_) | refine cTe rfl ?_ | refine cEq ‹_› ?_ | refine cTt ?_ | refine cNt ?_ | refine cF (Eq.refl false) ?_ | refine cN (cF (Eq.refl false) ?_) | refine cTd (by omega) ?_ | refine cFd (by omega) ?_ | refine cN (cTd (by omega) ?_) | refine cN (cFd (by omega) ?_) | refine And.intro (by omega) ?_ | refine And.intro (Eq.refl true) ?_)
    refine ⟨fun _ => ?_, fun q1 q2 => absurd ⟨q1, q2⟩ a3⟩
    repeat ((conv => whnf) <;> first | with_reducible first | refine wI (by omega) ?_ | refine wB (by omega) ?_ | refine And.intro rfl ?_ | rfl | refine And.intro ‹_› ?_ | refine cTe ‹_› ?_ | refine cFe ‹_› ?_ | refine cN (cTe ‹_› ?_) | refine cN (cFe ‹_› ?_) | refine cTe rfl ?_ | refine cEq ‹_› ?_ | refine cTt ?_ | refine cNt ?_ | refine cF (Eq.refl false) ?_ | refine cN (cF (Eq.refl false) ?_) | refine cTd (by omega) ?_ | refine cFd (by omega) ?_ | refine cN (cTd (by omega) ?_) | refine cN (cFd (by omega) ?_) | refine And.intro (by omega) ?_ | refine And.intro (Eq.refl true) ?_)
set_option maxRecDepth 100000 in
theorem multboth_any (b1 : List Int) (yb1 : By b1) (v1 : Value) (n1 : Int) (r1 : I64 n1) (c1 : List Int) (yc1 : By c1) (u1 : Value) (m1 : Int) (q1 : I64 m1) (b2 : List Int) (yb2 : By b2) (v2 : Value) (c2 : List Int) (yc2 : By c2) (u2 : Value) (w : World) (s1 : Bv w v1 b1) (z1 : Bv w u1 c1) (s2 : Bv w v2 b2) (z2 : Bv w u2 c2) : Calls Tryz.prog 5 #[AG [v1, .int .i64 n1, u1, .int .i64 m1], AG [v2, u2]] w (OutV (.bool true) w) :=
  law_tree tmL_ok o_multboth [.agg [.one (.var 0), .one (.var 1), .one (.var 2), .one (.var 3)], .agg [.one (.var 4), .one (.var 5)]] [v1, .int .i64 n1, u1, .int .i64 m1, v2, u2] [.isl .u8 b1, .int .i64 n1, .isl .u8 c1, .int .i64 m1, .isl .u8 b2, .isl .u8 c2] Tryz.func5 rfl c_multboth (by simp [Leaf.den, catS, Seg.den, Atom.den, cellsAt, AG, Value.cells]) (by intro x hx; simp only [List.mem_cons, List.not_mem_nil, or_false] at hx; rcases hx with rfl | rfl <;> first | exact ok_four (v := v1) (v' := .int .i64 n1) (u := u1) (u' := .int .i64 m1) rfl (bv_one s1) rfl rfl rfl (bv_one z1) rfl rfl | exact ok_two (v := v2) (v' := u2) rfl (bv_one s2) rfl (bv_one z2)) ⟨_, _, rfl, bv_val s1, _, _, rfl, int_val n1, _, _, rfl, bv_val z1, _, _, rfl, int_val m1, ⟨_, _, rfl, bv_val s2, _, _, rfl, bv_val z2, rfl⟩⟩ g_multboth (aw_multboth b1 yb1 n1 r1 c1 yc1 m1 q1 b2 yb2 c2 yc2)
end Go.Proofs.YtpapfkihjhhjkaaGreat
