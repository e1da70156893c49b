/- Chapter 8: PointPicks -/
import Derived.Test.YtnglocmggmhldaaPnp
set_option linter.unusedSimpArgs false
set_option linter.unusedVariables false
namespace Go.Proofs.Ytnglocmggmhldaa
open Go.RowKit FdP FdP.Ch
theorem tmod2 (n : Int) : (n % 2 = 0 ∧ n.tmod 2 = 0) ∨ (n % 2 = 1 ∧ n.tmod 2 ≠ 0) := by
  rcases Int.le_total 0 n with h | h
  · rw [Int.tmod_eq_emod_of_nonneg h]; omega
  · have : n.tmod 2 = -((-n).tmod 2) := by rw [Int.neg_tmod]; omega
    rw [this, Int.tmod_eq_emod_of_nonneg (by omega)]; omega
theorem wT2 {n : Int} {K : Int → Prop} (k : K (n.tmod 2)) : ∀ r : Int, r = n.tmod 2 → (0 ≤ n → (0 : Int) < 2 → r = n % 2) → K r := by
  intro r hr _
  rw [hr]; exact k
theorem pick_0 {n : Int} (h : n % 2 = 0) (a b : G) : (if n % 2 = 0 then a else b) = a := if_pos h
theorem pick_1 {n : Int} (h : n % 2 = 1) (a b : G) : (if n % 2 = 0 then a else b) = b := if_neg (by omega)
def o_picks : Orc := { ans := [(14, .one ⟨.leaf (.agg [.whole 0 57, .one (.var 1)]), 2, []⟩), (15, .two ⟨.tup [.agg [.whole 0 24], .atom (.const (.bool true))], 1, []⟩ ⟨.tup [.agg [.whole 0 24], .atom (.const (.bool false))], 1, []⟩), (19, .one ⟨.leaf (.agg [.whole 0 57, .one (.var 1)]), 2, []⟩), (20, .one ⟨.tup [.agg [.whole 0 24], .atom (.var 1)], 2, []⟩), (24, .one ⟨.leaf (.atom (.var 0)), 1, []⟩), (27, .one ⟨.leaf (.atom (.var 0)), 1, []⟩), (28, .one ⟨.leaf (.atom (.var 0)), 1, []⟩), (29, .one ⟨.leaf (.agg [.whole 0 57, .one (.var 1)]), 2, []⟩), (30, .one ⟨.leaf (.agg [.whole 0 48]), 1, []⟩), (31, .one ⟨.leaf (.agg [.whole 0 57, .one (.var 1)]), 2, []⟩), (32, .one ⟨.leaf (.agg [.whole 0 48]), 1, []⟩), (33, .one ⟨.leaf (.agg [.whole 0 24]), 1, []⟩), (34, .one ⟨.leaf (.agg [.whole 0 24]), 1, []⟩), (35, .one ⟨.leaf (.atom (.var 0)), 1, []⟩), (36, .one ⟨.leaf (.agg [.whole 0 48]), 1, []⟩), (37, .one ⟨.leaf (.agg [.whole 0 48]), 1, []⟩), (38, .one ⟨.leaf (.atom (.var 0)), 1, []⟩), (39, .two ⟨.leaf (.atom (.const (.bool true))), 0, []⟩ ⟨.leaf (.atom (.const (.bool false))), 0, []⟩), (41, .one ⟨.leaf (.agg [.whole 0 24]), 1, []⟩), (42, .one ⟨.leaf (.agg [.whole 0 24]), 1, []⟩), (43, .one ⟨.leaf (.agg [.whole 0 24]), 1, []⟩), (44, .one ⟨.leaf (.atom (.var 0)), 1, []⟩), (45, .one ⟨.leaf (.agg [.whole 0 48]), 1, []⟩), (46, .one ⟨.leaf (.agg [.whole 0 48]), 1, []⟩), (47, .one ⟨.leaf (.agg [.whole 0 48]), 1, []⟩), (48, .one ⟨.leaf (.atom (.var 0)), 1, []⟩), (49, .two ⟨.leaf (.atom (.const (.bool true))), 0, []⟩ ⟨.leaf (.atom (.const (.bool false))), 0, []⟩), (50, .one ⟨.leaf (.atom (.var 0)), 1, []⟩), (52, .one ⟨.leaf (.agg [.whole 0 24]), 1, []⟩), (53, .one ⟨.leaf (.agg [.whole 0 48]), 1, []⟩), (54, .two ⟨.leaf (.atom (.const (.bool true))), 0, []⟩ ⟨.leaf (.atom (.const (.bool false))), 0, []⟩), (55, .one ⟨.leaf (.atom (.var 0)), 1, []⟩), (56, .one ⟨.leaf (.atom (.var 0)), 1, []⟩), (58, .one ⟨.leaf (.agg [.whole 0 24]), 1, []⟩), (59, .one ⟨.leaf (.agg [.whole 0 48]), 1, []⟩), (60, .two ⟨.leaf (.atom (.const (.bool true))), 0, []⟩ ⟨.leaf (.atom (.const (.bool false))), 0, []⟩), (61, .one ⟨.leaf (.atom (.var 0)), 1, []⟩), (62, .one ⟨.leaf (.atom (.var 0)), 1, []⟩), (64, .one ⟨.leaf (.atom (.var 0)), 1, []⟩), (65, .two ⟨.leaf (.atom (.const (.bool true))), 0, []⟩ ⟨.leaf (.atom (.const (.bool false))), 0, []⟩), (67, .one ⟨.leaf (.agg [.whole 0 24]), 1, []⟩), (68, .one ⟨.leaf (.agg [.whole 0 24]), 1, []⟩), (69, .one ⟨.leaf (.agg [.whole 0 24]), 1, []⟩), (70, .one ⟨.leaf (.agg [.whole 0 48]), 1, []⟩), (71, .two ⟨.leaf (.atom (.const (.bool true))), 0, []⟩ ⟨.leaf (.atom (.const (.bool false))), 0, []⟩), (73, .two ⟨.leaf (.atom (.const (.bool true))), 0, []⟩ ⟨.leaf (.atom (.const (.bool false))), 0, []⟩), (74, .one ⟨.leaf (.atom (.var 0)), 1, []⟩), (76, .one ⟨.leaf (.agg [.whole 0 24]), 1, []⟩), (77, .one ⟨.leaf (.agg [.whole 0 24]), 1, []⟩), (78, .one ⟨.leaf (.agg [.whole 0 24]), 1, []⟩), (79, .one ⟨.leaf (.agg [.whole 0 48]), 1, []⟩), (80, .two ⟨.leaf (.atom (.const (.bool true))), 0, []⟩ ⟨.leaf (.atom (.const (.bool false))), 0, []⟩), (82, .two ⟨.leaf (.atom (.const (.bool true))), 0, []⟩ ⟨.leaf (.atom (.const (.bool false))), 0, []⟩), (83, .one ⟨.leaf (.atom (.var 0)), 1, []⟩)], lps := [], ords := [(7, [.quiet 0, .quiet 1, .quiet 3, .quiet 4, .call 2 [], .call 5 [], .quiet 6, .pure 7, .quiet 8, .quiet 9, .quiet 12, .quiet 13, .call 10 [], .call 11 [], .call 14 [], .call 15 [], .quiet 16, .quiet 17, .pure 18, .call 19 [], .call 20 [], .call 21 [], .quiet 22, .quiet 23, .pure 24, .call 25 [], .call 26 [], .call 27 [], .quiet 28, .quiet 29]), (10, [.pure 0, .quiet 1, .quiet 2, .quiet 4, .call 3 [], .call 5 [], .pure 6, .call 7 [], .quiet 8, .pure 9]), (11, [.pure 0, .quiet 1, .quiet 2, .quiet 4, .call 3 [], .call 5 [], .pure 6, .call 7 [], .quiet 8, .pure 9])] }
def t_picks : Tree :=
  .new <|
  .new <|
  .call2 10 [.agg [.whole 0 57, .one (.var 1)]] ([], []) (.tup [.agg [.whole 5 24], .atom (.const (.bool true))]) 1 [] (
    .new <|
    .call 10 [.agg [.whole 2 57, .one (.var 3)]] ([], []) (.tup [.agg [.whole 6 24], .atom (.var 7)]) 2 [] <|
    .new <|
    .calc (.unOp .not 4 (.tmp 26)) 4 [(26, .leaf (.atom (.var 7)))] ([], []) (.leaf (.atom (.var 8))) 1 <|
    .ite (.var 8) (
      .ret ([], []) (.leaf (.atom (.const (.bool false))))) <|
    .call 30 [.agg [.whole 0 57, .one (.var 1)]] ([], []) (.leaf (.agg [.whole 9 48])) 1 [] <|
    .new <|
    .call 30 [.agg [.whole 2 57, .one (.var 3)]] ([], []) (.leaf (.agg [.whole 10 48])) 1 [] <|
    .new <|
    .call 16 [.agg [.whole 5 24], .agg [.whole 6 24]] ([], []) (.leaf (.atom (.var 11))) 1 [] <|
    .call 33 [.agg [.whole 9 48], .agg [.whole 10 48]] ([], []) (.leaf (.atom (.var 12))) 1 [] <|
    .calc2 (.binOp .neq 4 (.tmp 35) (.tmp 38) 4) 4 [(35, .leaf (.atom (.var 11))), (38, .leaf (.atom (.var 12)))] ([], []) (.leaf (.atom (.const (.bool true)))) 0 (
      .ret ([], []) (.leaf (.atom (.const (.bool false))))) (.leaf (.atom (.const (.bool false)))) 0 <|
    .call 25 [.agg [.whole 5 24]] ([], []) (.leaf (.agg [.whole 13 24])) 1 [] <|
    .call 16 [.agg [.whole 5 24], .agg [.whole 13 24]] ([], []) (.leaf (.atom (.var 14))) 1 [] <|
    .call 32 [.agg [.whole 9 48]] ([], []) (.leaf (.agg [.whole 15 48])) 1 [] <|
    .call 33 [.agg [.whole 9 48], .agg [.whole 15 48]] ([], []) (.leaf (.atom (.var 16))) 1 [] <|
    .calc2 (.binOp .neq 4 (.tmp 44) (.tmp 48) 4) 4 [(44, .leaf (.atom (.var 14))), (48, .leaf (.atom (.var 16)))] ([], []) (.leaf (.atom (.const (.bool true)))) 0 (
      .ret ([], []) (.leaf (.atom (.const (.bool false))))) (.leaf (.atom (.const (.bool false)))) 0 <|
    .call 18 [] ([], []) (.leaf (.agg [.whole 17 24])) 1 [] <|
    .call 34 [] ([], []) (.leaf (.agg [.whole 18 48])) 1 [] <|
    .call2 29 [.agg [.whole 17 24], .agg [.whole 18 48]] ([], []) (.leaf (.atom (.const (.bool true)))) 0 [] (
      .call 17 [] ([], []) (.leaf (.agg [.whole 19 24])) 1 [] <|
      .call 35 [] ([], []) (.leaf (.agg [.whole 20 48])) 1 [] <|
      .call2 29 [.agg [.whole 19 24], .agg [.whole 20 48]] ([], []) (.leaf (.atom (.const (.bool true)))) 0 [] (
        .calc (.binOp .rem 3 (.tmp 63) (.const (.int .i64 2)) 3) 3 [(63, .leaf (.atom (.var 4)))] ([], []) (.leaf (.atom (.var 21))) 1 <|
        .calc2 (.binOp .eql 3 (.tmp 64) (.const (.int .i64 0)) 3) 4 [(64, .leaf (.atom (.var 21)))] ([], []) (.leaf (.atom (.const (.bool true)))) 0 (
          .call 36 [.atom (.var 4), .agg [.whole 5 24], .agg [.whole 6 24]] ([], []) (.leaf (.agg [.whole 22 24])) 1 [] <|
          .call2 29 [.agg [.whole 22 24], .agg [.whole 9 48]] ([], []) (.leaf (.atom (.const (.bool true)))) 0 [] (
            .call2 20 [] ([], []) (.leaf (.atom (.const (.bool true)))) 0 [] (
              .ret ([], []) (.leaf (.atom (.const (.bool true))))) (.leaf (.atom (.const (.bool false)))) 0 [] <|
            .ret ([], []) (.leaf (.atom (.const (.bool false))))) (.leaf (.atom (.const (.bool false)))) 0 [] <|
          .ret ([], []) (.leaf (.atom (.const (.bool false))))) (.leaf (.atom (.const (.bool false)))) 0 <|
        .call 36 [.atom (.var 4), .agg [.whole 5 24], .agg [.whole 6 24]] ([], []) (.leaf (.agg [.whole 22 24])) 1 [] <|
        .call2 29 [.agg [.whole 22 24], .agg [.whole 10 48]] ([], []) (.leaf (.atom (.const (.bool true)))) 0 [] (
          .call2 20 [] ([], []) (.leaf (.atom (.const (.bool true)))) 0 [] (
            .ret ([], []) (.leaf (.atom (.const (.bool true))))) (.leaf (.atom (.const (.bool false)))) 0 [] <|
          .ret ([], []) (.leaf (.atom (.const (.bool false))))) (.leaf (.atom (.const (.bool false)))) 0 [] <|
        .ret ([], []) (.leaf (.atom (.const (.bool false))))) (.leaf (.atom (.const (.bool false)))) 0 [] <|
      .ret ([], []) (.leaf (.atom (.const (.bool false))))) (.leaf (.atom (.const (.bool false)))) 0 [] <|
    .ret ([], []) (.leaf (.atom (.const (.bool false))))) (.tup [.agg [.whole 5 24], .atom (.const (.bool false))]) 1 [] <|
  .new <|
  .call 10 [.agg [.whole 2 57, .one (.var 3)]] ([], []) (.tup [.agg [.whole 6 24], .atom (.var 7)]) 2 [] <|
  .new <|
  .ret ([], []) (.leaf (.atom (.const (.bool false))))
theorem c_picks : compF Try.prog Try.f9 o_picks (Try.f9.body.getD .skip) (symIn [.agg [.whole 0 57, .one (.var 1)], .agg [.whole 2 57, .one (.var 3)], .atom (.var 4)] Try.f9.ntmps 5) = some t_picks := by kernel_rfl
theorem g_picks : goodC Try.prog o_picks.ords (Try.f9.body.getD .skip) = true := by kernel_rfl
set_option maxRecDepth 100000 in
set_option maxHeartbeats 4000000 in
theorem aw_picks (b1 : List Int) (lb1 : b1.length = 57) (yb1 : By b1) (n1 : Int) (r1 : I64 n1) (b2 : List Int) (lb2 : b2.length = 57) (yb2 : By b2) (n2 : Int) (r2 : I64 n2) (n3 : Int) (r3 : I64 n3) : AWp Try.prog tblqS (fun a => a = .bool true) t_picks [] [.ints .u8 b1, .int .i64 n1, .ints .u8 b2, .int .i64 n2, .int .i64 n3] := by
  have m1 := And.intro lb1 yb1
  have m2 := And.intro lb2 yb2
  have pk : ∀ {K : Prop}, (n3 % 2 = 0 → n3.tmod 2 = 0 → K) → (n3 % 2 = 1 → n3.tmod 2 ≠ 0 → K) → K := fun f g => (tmod2 n3).elim (fun h => f h.1 h.2) (fun h => g h.1 h.2)
  refine pk (fun p1 p2 => ?_) (fun p1 p2 => ?_)
  · have q1 := pick_0 p1 (spotG b1 n1) (spotG b2 n2)
    repeat ((conv => whnf) <;> first | exact rfl | with_reducible refine And.intro (by assumption) ?_ | with_reducible refine cTe (by assumption) ?_ | with_reducible refine cTe rfl ?_ | with_reducible refine cFe (by assumption) ?_ | with_reducible refine cEq (by assumption) ?_ | with_reducible refine cTt ?_ | with_reducible refine cNt ?_ | with_reducible refine cTd rfl ?_ | with_reducible refine cN (cTd rfl ?_) | refine And.intro (by decide) ?_ | refine cFd (by decide) ?_ | refine cTd (by decide) ?_ | refine cN (cFd (by decide) ?_) | with_reducible refine cNe rfl ?_ | refine wT2 ?_ | refine cTd p2 ?_ | refine cFd p2 ?_)
  · have q1 := pick_1 p1 (spotG b1 n1) (spotG b2 n2)
    repeat ((conv => whnf) <;> first | exact rfl | with_reducible refine And.intro (by assumption) ?_ | with_reducible refine cTe (by assumption) ?_ | with_reducible refine cTe rfl ?_ | with_reducible refine cFe (by assumption) ?_ | with_reducible refine cEq (by assumption) ?_ | with_reducible refine cTt ?_ | with_reducible refine cNt ?_ | with_reducible refine cTd rfl ?_ | with_reducible refine cN (cTd rfl ?_) | refine And.intro (by decide) ?_ | refine cFd (by decide) ?_ | refine cTd (by decide) ?_ | refine cN (cFd (by decide) ?_) | with_reducible refine cNe rfl ?_ | refine wT2 ?_ | refine cTd p2 ?_ | refine cFd p2 ?_)
set_option maxRecDepth 100000 in
theorem picks_any (b1 : List Int) (lb1 : b1.length = 57) (yb1 : By b1) (n1 : Int) (r1 : I64 n1) (b2 : List Int) (lb2 : b2.length = 57) (yb2 : By b2) (n2 : Int) (r2 : I64 n2) (n3 : Int) (r3 : I64 n3) (w : World) : Calls Try.prog 9 #[AG (ys b1 ++ [.int .i64 n1]), AG (ys b2 ++ [.int .i64 n2]), .int .i64 n3] w (OutV (.bool true) w) :=
  law_tree tblqS_ok o_picks [.agg [.whole 0 57, .one (.var 1)], .agg [.whole 2 57, .one (.var 3)], .atom (.var 4)] [AG (ys b1), .int .i64 n1, AG (ys b2), .int .i64 n2, .int .i64 n3] [.ints .u8 b1, .int .i64 n1, .ints .u8 b2, .int .i64 n2, .int .i64 n3] Try.func9 rfl c_picks (by simp [Leaf.den, catS, Seg.den, Atom.den, cellsAt, AG, Value.cells]) (by intro x hx; simp only [List.mem_cons, List.not_mem_nil, or_false] at hx; rcases hx with rfl | rfl | rfl <;> first | exact ok_spot rfl lb1 rfl rfl | exact ok_spot rfl lb2 rfl rfl | exact ok_one rfl rfl) ⟨_, _, rfl, arr_val b1, _, _, rfl, int_val n1, ⟨_, _, rfl, arr_val b2, _, _, rfl, int_val n2, ⟨_, _, rfl, int_val n3, rfl⟩⟩⟩ g_picks (aw_picks b1 lb1 yb1 n1 r1 b2 lb2 yb2 n2 r2 n3 r3)
end Go.Proofs.Ytnglocmggmhldaa
