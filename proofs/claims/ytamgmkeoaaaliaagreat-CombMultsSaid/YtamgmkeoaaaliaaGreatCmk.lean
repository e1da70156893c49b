/- CombMults -/
import Derived.Test.YtamgmkeoaaaliaaGreatCmi
import Derived.Test.YtamgmkeoaaaliaaGreatCme
import Derived.Test.YtamgmkeoaaaliaaGreatCma
set_option linter.unusedSimpArgs false
set_option linter.unusedVariables false
namespace Go.Proofs.YtamgmkeoaaaliaaGreat
open Go.RowKit FdP FdP.Ch
def tcU : Tab := tb_awake11 :: tb_made11 :: tb_newT :: tb_tmul :: tb_rptimes :: tb_same11 :: []
theorem tcU_ok : tcU.OK Tryz.prog := tab_cons tb_awake11_ok <| tab_cons tb_made11_ok <| tab_cons tb_newT_ok <| tab_cons tb_tmul_ok <| tab_cons tb_rptimes_ok <| tab_cons tb_same11_ok <| tab_nil _
def o_combmults : Orc := { ans := [(15, .one ⟨.leaf (.agg [.one (.var 0), .one (.var 1)]), 2, []⟩), (16, .two ⟨.tup [.agg [.whole 0 24], .agg [.whole 1 48], .atom (.const (.bool true))], 2, []⟩ ⟨.tup [.agg [.whole 0 24], .agg [.whole 1 48], .atom (.const (.bool false))], 2, []⟩), (21, oV), (23, oV), (24, oV), (25, oB), (26, oV), (28, oV), (29, oV), (30, oB), (31, oV), (33, oV), (34, oV), (35, oB), (36, oV), (38, oV), (39, oV), (40, oB), (41, oV), (44, oV), (45, oB), (46, oV), (47, oB), (49, .one ⟨.leaf (.agg [.whole 0 24]), 1, []⟩), (50, oV), (51, oV), (52, oV), (53, oV), (54, .one ⟨.tup [.atom (.var 0), .atom (.var 1)], 2, []⟩), (58, oB), (61, oB), (62, oV), (66, .one ⟨.tup [.agg [.whole 0 24], .atom (.var 1)], 2, []⟩), (70, oV), (71, oV), (72, oV), (73, oB), (75, oB), (77, oB), (78, oV), (80, oB), (82, .one ⟨.leaf (.agg [.whole 0 24]), 1, []⟩), (84, .one ⟨.leaf (.agg [.whole 0 48]), 1, []⟩), (85, .one ⟨.leaf (.agg [.whole 0 48]), 1, []⟩), (86, oB), (87, oV), (89, oB), (90, oV)], lps := [], ords := [(10, [.pure 0, .quiet 1, .pure 2, .quiet 3, .pure 4, .quiet 5, .call 6 [], .call 7 [], .quiet 8, .pure 9, .call 10 [], .quiet 11, .pure 12])] }
def t_combmults : Tree :=
  .new <|
  .new <|
  .call2 4 [.agg [.one (.var 0), .one (.var 1)]] ([], []) (.tup [.agg [.whole 5 24], .agg [.whole 6 48], .atom (.const (.bool true))]) 2 [] (
    .new <|
    .new <|
    .calc2 (.binOp .lss 3 (.tmp 24) (.const (.int .i64 1)) 3) 4 [(24, .leaf (.atom (.var 2)))] ([], []) (.leaf (.atom (.const (.bool true)))) 0 (
      .call2 5 [] ([], []) (.leaf (.atom (.const (.bool true)))) 0 [] (
        .ret ([], []) (.leaf (.atom (.const (.bool true))))) (.leaf (.atom (.const (.bool false)))) 0 [] <|
      .ret ([], []) (.leaf (.atom (.const (.bool false))))) (.leaf (.atom (.const (.bool false)))) 0 <|
    .calc2 (.binOp .gtr 3 (.tmp 29) (.const (.int .i64 5)) 3) 4 [(29, .leaf (.atom (.var 2)))] ([], []) (.leaf (.atom (.const (.bool true)))) 0 (
      .call2 5 [] ([], []) (.leaf (.atom (.const (.bool true)))) 0 [] (
        .ret ([], []) (.leaf (.atom (.const (.bool true))))) (.leaf (.atom (.const (.bool false)))) 0 [] <|
      .ret ([], []) (.leaf (.atom (.const (.bool false))))) (.leaf (.atom (.const (.bool false)))) 0 <|
    .calc2 (.binOp .lss 3 (.tmp 34) (.const (.int .i64 1)) 3) 4 [(34, .leaf (.atom (.var 3)))] ([], []) (.leaf (.atom (.const (.bool true)))) 0 (
      .call2 5 [] ([], []) (.leaf (.atom (.const (.bool true)))) 0 [] (
        .ret ([], []) (.leaf (.atom (.const (.bool true))))) (.leaf (.atom (.const (.bool false)))) 0 [] <|
      .ret ([], []) (.leaf (.atom (.const (.bool false))))) (.leaf (.atom (.const (.bool false)))) 0 <|
    .calc2 (.binOp .gtr 3 (.tmp 39) (.const (.int .i64 20)) 3) 4 [(39, .leaf (.atom (.var 3)))] ([], []) (.leaf (.atom (.const (.bool true)))) 0 (
      .call2 5 [] ([], []) (.leaf (.atom (.const (.bool true)))) 0 [] (
        .ret ([], []) (.leaf (.atom (.const (.bool true))))) (.leaf (.atom (.const (.bool false)))) 0 [] <|
      .ret ([], []) (.leaf (.atom (.const (.bool false))))) (.leaf (.atom (.const (.bool false)))) 0 <|
    .calc (.call { callee := .builtin .len, args := #[.tmp 43], argTypes := #[22] }) 3 [(43, .leaf (.atom (.var 4)))] ([], []) (.leaf (.atom (.var 7))) 1 <|
    .calc2 (.binOp .gtr 3 (.tmp 44) (.const (.int .i64 20)) 3) 4 [(44, .leaf (.atom (.var 7)))] ([], []) (.leaf (.atom (.const (.bool true)))) 0 (
      .call2 5 [] ([], []) (.leaf (.atom (.const (.bool true)))) 0 [] (
        .ret ([], []) (.leaf (.atom (.const (.bool true))))) (.leaf (.atom (.const (.bool false)))) 0 [] <|
      .ret ([], []) (.leaf (.atom (.const (.bool false))))) (.leaf (.atom (.const (.bool false)))) 0 <|
    .call 6 [.agg [.whole 5 24], .atom (.var 2), .atom (.var 3)] ([], []) (.tup [.atom (.var 8), .atom (.var 9)]) 2 [] <|
    .calc2 (.binOp .neq 41 (.tmp 57) (.const (.int .i64 0)) 41) 4 [(57, .leaf (.atom (.var 9)))] ([], []) (.leaf (.atom (.const (.bool true)))) 0 (
      .ret ([], []) (.leaf (.atom (.const (.bool false))))) (.leaf (.atom (.const (.bool false)))) 0 <|
    .calc2 (.binOp .eql 40 (.tmp 60) (.const (.pointer none)) 40) 4 [(60, .leaf (.atom (.var 8)))] ([], []) (.leaf (.atom (.const (.bool true)))) 0 (
      .ret ([], []) (.leaf (.atom (.const (.bool false))))) (.leaf (.atom (.const (.bool false)))) 0 <|
    .call 7 [.atom (.var 8), .atom (.var 4)] ([], []) (.tup [.agg [.whole 10 24], .atom (.var 11)]) 2 [] <|
    .new <|
    .calc (.call { callee := .builtin .len, args := #[.tmp 69], argTypes := #[22] }) 3 [(69, .leaf (.atom (.var 4)))] ([], []) (.leaf (.atom (.var 12))) 1 <|
    .calc2 (.binOp .neq 3 (.tmp 70) (.tmp 72) 3) 4 [(70, .leaf (.atom (.var 12))), (72, .leaf (.atom (.var 3)))] ([], []) (.leaf (.atom (.const (.bool true)))) 0 (
      .calc2 (.binOp .eql 41 (.tmp 74) (.const (.int .i64 11)) 41) 4 [(74, .leaf (.atom (.var 11)))] ([], []) (.leaf (.atom (.const (.bool true)))) 0 (
        .call2 5 [] ([], []) (.leaf (.atom (.const (.bool true)))) 0 [] (
          .ret ([], []) (.leaf (.atom (.const (.bool true))))) (.leaf (.atom (.const (.bool false)))) 0 [] <|
        .ret ([], []) (.leaf (.atom (.const (.bool false))))) (.leaf (.atom (.const (.bool false)))) 0 <|
      .ret ([], []) (.leaf (.atom (.const (.bool false))))) (.leaf (.atom (.const (.bool false)))) 0 <|
    .calc2 (.binOp .eql 41 (.tmp 79) (.const (.int .i64 0)) 41) 4 [(79, .leaf (.atom (.var 11)))] ([], []) (.leaf (.atom (.const (.bool true)))) 0 (
      .call 9 [.atom (.var 4), .agg [.whole 6 48]] ([], []) (.leaf (.agg [.whole 13 48])) 1 [] <|
      .call2 8 [.agg [.whole 10 24], .agg [.whole 13 48]] ([], []) (.leaf (.atom (.const (.bool true)))) 0 [] (
        .call2 5 [] ([], []) (.leaf (.atom (.const (.bool true)))) 0 [] (
          .ret ([], []) (.leaf (.atom (.const (.bool true))))) (.leaf (.atom (.const (.bool false)))) 0 [] <|
        .ret ([], []) (.leaf (.atom (.const (.bool false))))) (.leaf (.atom (.const (.bool false)))) 0 [] <|
      .ret ([], []) (.leaf (.atom (.const (.bool false))))) (.leaf (.atom (.const (.bool false)))) 0 <|
    .ret ([], []) (.leaf (.atom (.const (.bool false))))) (.tup [.agg [.whole 5 24], .agg [.whole 6 48], .atom (.const (.bool false))]) 2 [] <|
  .new <|
  .new <|
  .call2 5 [] ([], []) (.leaf (.atom (.const (.bool true)))) 0 [] (
    .ret ([], []) (.leaf (.atom (.const (.bool true))))) (.leaf (.atom (.const (.bool false)))) 0 [] <|
  .ret ([], []) (.leaf (.atom (.const (.bool false))))
theorem c_combmults : compF Tryz.prog Tryz.f3 o_combmults (Tryz.f3.body.getD .skip) (symIn [.agg [.one (.var 0), .one (.var 1)], .agg [.one (.var 2), .one (.var 3)], .atom (.var 4)] Tryz.f3.ntmps 5) = some t_combmults := by kernel_rfl
theorem g_combmults : goodC Tryz.prog o_combmults.ords (Tryz.f3.body.getD .skip) = true := by kernel_rfl
set_option maxRecDepth 100000 in
set_option maxHeartbeats 1000000 in
theorem aw_combmults (b1 : List Int) (yb1 : By b1) (n1 : Int) (r1 : I64 n1) (n2 : Int) (r2 : I64 n2) (m2 : Int) (q2 : I64 m2) (b3 : List Int) (yb3 : By b3) : AWp Tryz.prog tcU (fun a => a = .bool true) t_combmults [] [.isl .u8 b1, .int .i64 n1, .int .i64 n2, .int .i64 m2, .isl .u8 b3] := by
  repeat ((conv => whnf) <;> first | with_reducible first | refine wI (by omega) ?_ | refine wB (by omega) ?_ | refine And.intro rfl ?_ | rfl | refine And.intro ‹_› ?_ | refine cTe ‹_› ?_ | refine cFe ‹_› ?_ | refine cN (cTe ‹_› ?_) | refine cN (cFe ‹_› ?_) | refine cTe rfl ?_ | refine cEq ‹_› ?_ | refine cTt ?_ | refine cNt ?_ | refine cF (Eq.refl false) ?_ | refine cN (cF (Eq.refl false) ?_) | refine cTd (by omega) ?_ | refine cFd (by omega) ?_ | refine cN (cTd (by omega) ?_) | refine cN (cFd (by omega) ?_) | refine And.intro (by omega) ?_ | refine And.intro (Eq.refl true) ?_)
  refine ⟨fun hh => by repeat ((conv => whnf) <;> first | with_reducible first | refine wI (by omega) ?_ | refine wB (by omega) ?_ | refine And.intro rfl ?_ | rfl | refine And.intro ‹_› ?_ | refine cTe ‹_› ?_ | refine cFe ‹_› ?_ | refine cN (cTe ‹_› ?_) | refine cN (cFe ‹_› ?_) | refine cTe rfl ?_ | refine cEq ‹_› ?_ | refine cTt ?_ | refine cNt ?_ | refine cF (Eq.refl false) ?_ | refine cN (cF (Eq.refl false) ?_) | refine cTd (by omega) ?_ | refine cFd (by omega) ?_ | refine cN (cTd (by omega) ?_) | refine cN (cFd (by omega) ?_) | refine And.intro (by omega) ?_ | refine And.intro (Eq.refl true) ?_), fun k1 k2 k3 => ?_⟩
  generalize sgG b1 n1 = g
  by_cases a1 : n2 < 1
  · repeat ((conv => whnf) <;> first | with_reducible first | refine wI (by omega) ?_ | refine wB (by omega) ?_ | refine And.intro rfl ?_ | rfl | refine And.intro ‹_› ?_ | refine cTe ‹_› ?_ | refine cFe ‹_› ?_ | refine cN (cTe ‹_› ?_) | refine cN (cFe ‹_› ?_) | refine cTe rfl ?_ | refine cEq ‹_› ?_ | refine cTt ?_ | refine cNt ?_ | refine cF (Eq.refl false) ?_ | refine cN (cF (Eq.refl false) ?_) | refine cTd (by omega) ?_ | refine cFd (by omega) ?_ | refine cN (cTd (by omega) ?_) | refine cN (cFd (by omega) ?_) | refine And.intro (by omega) ?_ | refine And.intro (Eq.refl true) ?_)
  by_cases a2 : n2 > 5
  · repeat ((conv => whnf) <;> first | with_reducible first | refine wI (by omega) ?_ | refine wB (by omega) ?_ | refine And.intro rfl ?_ | rfl | refine And.intro ‹_› ?_ | refine cTe ‹_› ?_ | refine cFe ‹_› ?_ | refine cN (cTe ‹_› ?_) | refine cN (cFe ‹_› ?_) | refine cTe rfl ?_ | refine cEq ‹_› ?_ | refine cTt ?_ | refine cNt ?_ | refine cF (Eq.refl false) ?_ | refine cN (cF (Eq.refl false) ?_) | refine cTd (by omega) ?_ | refine cFd (by omega) ?_ | refine cN (cTd (by omega) ?_) | refine cN (cFd (by omega) ?_) | refine And.intro (by omega) ?_ | refine And.intro (Eq.refl true) ?_)
  by_cases a3 : m2 < 1
  · repeat ((conv => whnf) <;> first | with_reducible first | refine wI (by omega) ?_ | refine wB (by omega) ?_ | refine And.intro rfl ?_ | rfl | refine And.intro ‹_› ?_ | refine cTe ‹_› ?_ | refine cFe ‹_› ?_ | refine cN (cTe ‹_› ?_) | refine cN (cFe ‹_› ?_) | refine cTe rfl ?_ | refine cEq ‹_› ?_ | refine cTt ?_ | refine cNt ?_ | refine cF (Eq.refl false) ?_ | refine cN (cF (Eq.refl false) ?_) | refine cTd (by omega) ?_ | refine cFd (by omega) ?_ | refine cN (cTd (by omega) ?_) | refine cN (cFd (by omega) ?_) | refine And.intro (by omega) ?_ | refine And.intro (Eq.refl true) ?_)
  by_cases a4 : m2 > 20
  · repeat ((conv => whnf) <;> first | with_reducible first | refine wI (by omega) ?_ | refine wB (by omega) ?_ | refine And.intro rfl ?_ | rfl | refine And.intro ‹_› ?_ | refine cTe ‹_› ?_ | refine cFe ‹_› ?_ | refine cN (cTe ‹_› ?_) | refine cN (cFe ‹_› ?_) | refine cTe rfl ?_ | refine cEq ‹_› ?_ | refine cTt ?_ | refine cNt ?_ | refine cF (Eq.refl false) ?_ | refine cN (cF (Eq.refl false) ?_) | refine cTd (by omega) ?_ | refine cFd (by omega) ?_ | refine cN (cTd (by omega) ?_) | refine cN (cFd (by omega) ?_) | refine And.intro (by omega) ?_ | refine And.intro (Eq.refl true) ?_)
  by_cases a5 : (b3.length : Int) > 20
  · repeat ((conv => whnf) <;> first | with_reducible first | refine wI (by omega) ?_ | refine wB (by omega) ?_ | refine And.intro rfl ?_ | rfl | refine And.intro ‹_› ?_ | refine cTe ‹_› ?_ | refine cFe ‹_› ?_ | refine cN (cTe ‹_› ?_) | refine cN (cFe ‹_› ?_) | refine cTe rfl ?_ | refine cEq ‹_› ?_ | refine cTt ?_ | refine cNt ?_ | refine cF (Eq.refl false) ?_ | refine cN (cF (Eq.refl false) ?_) | refine cTd (by omega) ?_ | refine cFd (by omega) ?_ | refine cN (cTd (by omega) ?_) | refine cN (cFd (by omega) ?_) | refine And.intro (by omega) ?_ | refine And.intro (Eq.refl true) ?_)
  have hb1 : b3.length ≤ 1000 ∧ By b3 := ⟨by omega, yb3⟩
  repeat ((conv => whnf) <;> first | with_reducible first | refine wI (by omega) ?_ | refine wB (by omega) ?_ | refine And.intro rfl ?_ | rfl | refine And.intro ‹_› ?_ | refine cTe ‹_› ?_ | refine cFe ‹_› ?_ | refine cN (cTe ‹_› ?_) | refine cN (cFe ‹_› ?_) | refine cTe rfl ?_ | refine cEq ‹_› ?_ | refine cTt ?_ | refine cNt ?_ | refine cF (Eq.refl false) ?_ | refine cN (cF (Eq.refl false) ?_) | refine cTd (by omega) ?_ | refine cFd (by omega) ?_ | refine cN (cTd (by omega) ?_) | refine cN (cFd (by omega) ?_) | refine And.intro (by omega) ?_ | refine And.intro (Eq.refl true) ?_)
  intro _ _ _ _
  repeat ((conv => whnf) <;> first | with_reducible first | refine wI (by omega) ?_ | refine wB (by omega) ?_ | refine And.intro rfl ?_ | rfl | refine And.intro ‹_› ?_ | refine cTe ‹_› ?_ | refine cFe ‹_› ?_ | refine cN (cTe ‹_› ?_) | refine cN (cFe ‹_› ?_) | refine cTe rfl ?_ | refine cEq ‹_› ?_ | refine cTt ?_ | refine cNt ?_ | refine cF (Eq.refl false) ?_ | refine cN (cF (Eq.refl false) ?_) | refine cTd (by omega) ?_ | refine cFd (by omega) ?_ | refine cN (cTd (by omega) ?_) | refine cN (cFd (by omega) ?_) | refine And.intro (by omega) ?_ | refine And.intro (Eq.refl true) ?_)
  by_cases a6 : (b3.length : Int) = m2
  · refine ⟨g, rfl, ⟨yb3, by omega, by omega, by omega, by omega, by omega⟩, fun hh => absurd a6 hh, fun _ => ?_⟩
    repeat ((conv => whnf) <;> first | with_reducible first | refine wI (by omega) ?_ | refine wB (by omega) ?_ | refine And.intro rfl ?_ | rfl | refine And.intro ‹_› ?_ | refine cTe ‹_› ?_ | refine cFe ‹_› ?_ | refine cN (cTe ‹_› ?_) | refine cN (cFe ‹_› ?_) | refine cTe rfl ?_ | refine cEq ‹_› ?_ | refine cTt ?_ | refine cNt ?_ | refine cF (Eq.refl false) ?_ | refine cN (cF (Eq.refl false) ?_) | refine cTd (by omega) ?_ | refine cFd (by omega) ?_ | refine cN (cTd (by omega) ?_) | refine cN (cFd (by omega) ?_) | refine And.intro (by omega) ?_ | refine And.intro (Eq.refl true) ?_)
    (conv => whnf)
    refine ⟨fun _ => ?_, fun hh => absurd rfl hh⟩
    repeat ((conv => whnf) <;> first | with_reducible first | refine wI (by omega) ?_ | refine wB (by omega) ?_ | refine And.intro rfl ?_ | rfl | refine And.intro ‹_› ?_ | refine cTe ‹_› ?_ | refine cFe ‹_› ?_ | refine cN (cTe ‹_› ?_) | refine cN (cFe ‹_› ?_) | refine cTe rfl ?_ | refine cEq ‹_› ?_ | refine cTt ?_ | refine cNt ?_ | refine cF (Eq.refl false) ?_ | refine cN (cF (Eq.refl false) ?_) | refine cTd (by omega) ?_ | refine cFd (by omega) ?_ | refine cN (cTd (by omega) ?_) | refine cN (cFd (by omega) ?_) | refine And.intro (by omega) ?_ | refine And.intro (Eq.refl true) ?_)
  · refine ⟨g, rfl, ⟨yb3, by omega, by omega, by omega, by omega, by omega⟩, fun _ => ?_, fun hh => absurd hh a6⟩
    repeat ((conv => whnf) <;> first | with_reducible first | refine wI (by omega) ?_ | refine wB (by omega) ?_ | refine And.intro rfl ?_ | rfl | refine And.intro ‹_› ?_ | refine cTe ‹_› ?_ | refine cFe ‹_› ?_ | refine cN (cTe ‹_› ?_) | refine cN (cFe ‹_› ?_) | refine cTe rfl ?_ | refine cEq ‹_› ?_ | refine cTt ?_ | refine cNt ?_ | refine cF (Eq.refl false) ?_ | refine cN (cF (Eq.refl false) ?_) | refine cTd (by omega) ?_ | refine cFd (by omega) ?_ | refine cN (cTd (by omega) ?_) | refine cN (cFd (by omega) ?_) | refine And.intro (by omega) ?_ | refine And.intro (Eq.refl true) ?_)
set_option maxRecDepth 100000 in
theorem combmults_any (b1 : List Int) (yb1 : By b1) (v1 : Value) (n1 : Int) (r1 : I64 n1) (n2 : Int) (r2 : I64 n2) (m2 : Int) (q2 : I64 m2) (b3 : List Int) (yb3 : By b3) (v3 : Value) (w : World) (s1 : Bv w v1 b1) (s3 : Bv w v3 b3) : Calls Tryz.prog 3 #[AG [v1, .int .i64 n1], AG [.int .i64 n2, .int .i64 m2], v3] w (OutV (.bool true) w) :=
  law_tree tcU_ok o_combmults [.agg [.one (.var 0), .one (.var 1)], .agg [.one (.var 2), .one (.var 3)], .atom (.var 4)] [v1, .int .i64 n1, .int .i64 n2, .int .i64 m2, v3] [.isl .u8 b1, .int .i64 n1, .int .i64 n2, .int .i64 m2, .isl .u8 b3] Tryz.func3 rfl c_combmults (by simp [Leaf.den, catS, Seg.den, Atom.den, cellsAt, AG, Value.cells]) (by intro x hx; simp only [List.mem_cons, List.not_mem_nil, or_false] at hx; rcases hx with rfl | rfl | rfl <;> first | exact ok_two (v := v1) (v' := .int .i64 n1) rfl (bv_one s1) rfl rfl | exact ok_two rfl rfl rfl rfl | exact ok_one rfl (bv_one s3)) ⟨_, _, rfl, bv_val s1, _, _, rfl, int_val n1, ⟨_, _, rfl, int_val n2, _, _, rfl, int_val m2, ⟨_, _, rfl, bv_val s3, rfl⟩⟩⟩ g_combmults (aw_combmults b1 yb1 n1 r1 n2 r2 m2 q2 b3 yb3)
end Go.Proofs.YtamgmkeoaaaliaaGreat
