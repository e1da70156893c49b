/- Chapter 8: laws -/
import Derived.Test.YtnglocmggmhldaaPnw
set_option linter.unusedSimpArgs false
set_option linter.unusedVariables false
namespace Go.Proofs.Ytnglocmggmhldaa
open Go.RowKit FdP FdP.Ch
def tbl8l : Tab := tb_made8 :: tbl8h
theorem tbl8l_ok : tbl8l.OK Try.prog := tab_cons tb_made8_ok <| tbl8h_ok
theorem of_pt (g : G) : g.x * g.x + g.y * g.y = 1 + cd * (g.x * g.x * (g.y * g.y)) := g.on
theorem add_TT (g : G) : (g + mulG (quart 2) TG).x = -g.x ∧ (g + mulG (quart 2) TG).y = -g.y := by
  show (g + mulG 2 TG).x = -g.x ∧ (g + mulG 2 TG).y = -g.y
  rw [mulG_two, ← G.assoc]
  exact ⟨by rw [(add_TG _).1, (add_TG _).2], by rw [(add_TG _).2, (add_TG _).1]⟩
theorem quart1 : mulG (quart 1) TG = TG := mulG_one TG
theorem add_q1 (g : G) : (g + mulG (quart 1) TG).x = g.y ∧ (g + mulG (quart 1) TG).y = -g.x := by rw [quart1]; exact add_TG g
theorem quart2 : mulG (quart 2) TG = mulG 2 TG := rfl
def o_turns : Orc := { ans := [(16, .one ⟨.leaf (.agg [.whole 0 57, .one (.var 1)]), 2, []⟩), (17, .two ⟨.tup [.agg [.whole 0 24], .atom (.const (.bool true))], 1, []⟩ ⟨.tup [.agg [.whole 0 24], .atom (.const (.bool false))], 1, []⟩), (21, .two ⟨.tup [.agg [.whole 0 24], .atom (.const (.bool true))], 1, []⟩ ⟨.tup [.agg [.whole 0 24], .atom (.const (.bool false))], 1, []⟩), (25, .one ⟨.tup [.agg [.whole 0 24], .atom (.var 1)], 2, []⟩), (29, .one ⟨.leaf (.atom (.var 0)), 1, []⟩), (32, .one ⟨.leaf (.atom (.var 0)), 1, []⟩), (33, .one ⟨.leaf (.atom (.var 0)), 1, []⟩), (36, .one ⟨.leaf (.atom (.var 0)), 1, []⟩), (37, .one ⟨.leaf (.atom (.var 0)), 1, []⟩), (39, .one ⟨.leaf (.agg [.whole 0 24]), 1, []⟩), (40, .one ⟨.tup [.agg [.whole 0 8], .agg [.whole 1 8]], 2, []⟩), (44, .one ⟨.leaf (.agg [.whole 0 24]), 1, []⟩), (45, .one ⟨.leaf (.agg [.whole 0 24]), 1, []⟩), (46, .one ⟨.leaf (.agg [.whole 0 24]), 1, []⟩), (47, .one ⟨.tup [.agg [.whole 0 8], .agg [.whole 1 8]], 2, []⟩), (51, .one ⟨.leaf (.agg [.whole 0 24]), 1, []⟩), (52, .one ⟨.leaf (.agg [.whole 0 24]), 1, []⟩), (53, .one ⟨.leaf (.agg [.whole 0 24]), 1, []⟩), (54, .one ⟨.tup [.agg [.whole 0 8], .agg [.whole 1 8]], 2, []⟩), (57, .one ⟨.leaf (.agg [.whole 0 8]), 1, []⟩), (58, .one ⟨.leaf (.agg [.whole 0 8]), 1, []⟩), (59, .two ⟨.leaf (.atom (.const (.bool true))), 0, []⟩ ⟨.leaf (.atom (.const (.bool false))), 0, []⟩), (61, .one ⟨.leaf (.agg [.whole 0 8]), 1, []⟩), (62, .one ⟨.leaf (.agg [.whole 0 8]), 1, []⟩), (63, .one ⟨.leaf (.agg [.whole 0 8]), 1, []⟩), (64, .two ⟨.leaf (.atom (.const (.bool true))), 0, []⟩ ⟨.leaf (.atom (.const (.bool false))), 0, []⟩), (65, .one ⟨.leaf (.atom (.var 0)), 1, []⟩), (67, .one ⟨.leaf (.agg [.whole 0 8]), 1, []⟩), (68, .one ⟨.leaf (.agg [.whole 0 8]), 1, []⟩), (69, .one ⟨.leaf (.agg [.whole 0 8]), 1, []⟩), (70, .two ⟨.leaf (.atom (.const (.bool true))), 0, []⟩ ⟨.leaf (.atom (.const (.bool false))), 0, []⟩), (71, .one ⟨.leaf (.atom (.var 0)), 1, []⟩), (73, .one ⟨.leaf (.agg [.whole 0 8]), 1, []⟩), (74, .one ⟨.leaf (.agg [.whole 0 8]), 1, []⟩), (75, .one ⟨.leaf (.agg [.whole 0 8]), 1, []⟩), (76, .two ⟨.leaf (.atom (.const (.bool true))), 0, []⟩ ⟨.leaf (.atom (.const (.bool false))), 0, []⟩), (77, .one ⟨.leaf (.atom (.var 0)), 1, []⟩), (79, .two ⟨.leaf (.atom (.const (.bool true))), 0, []⟩ ⟨.leaf (.atom (.const (.bool false))), 0, []⟩), (80, .one ⟨.leaf (.atom (.var 0)), 1, []⟩)], lps := [], ords := [(9, [.quiet 0, .quiet 1, .call 2 [], .pure 3, .quiet 4, .quiet 5, .call 6 [], .call 7 [], .quiet 8, .pure 9, .quiet 10, .quiet 11, .call 12 [], .call 13 [], .quiet 14, .pure 15, .quiet 16, .quiet 17, .call 18 [], .call 19 [], .quiet 20, .pure 21, .call 22 [], .quiet 23, .pure 24])] }
def t_turns : Tree :=
  .new <|
  .call2 10 [.agg [.whole 0 57, .one (.var 1)]] ([], []) (.tup [.agg [.whole 2 24], .atom (.const (.bool true))]) 1 [] (
    .new <|
    .call2 11 [.atom (.const (.int .i64 1))] ([], []) (.tup [.agg [.whole 3 24], .atom (.const (.bool true))]) 1 [] (
      .new <|
      .call 11 [.atom (.const (.int .i64 2))] ([], []) (.tup [.agg [.whole 4 24], .atom (.var 5)]) 2 [] <|
      .new <|
      .calc (.unOp .not 4 (.tmp 35)) 4 [(35, .leaf (.atom (.var 5)))] ([], []) (.leaf (.atom (.var 6))) 1 <|
      .ite (.var 6) (
        .ret ([], []) (.leaf (.atom (.const (.bool false))))) <|
      .call 21 [.agg [.whole 2 24]] ([], []) (.tup [.agg [.whole 7 8], .agg [.whole 8 8]]) 2 [] <|
      .new <|
      .new <|
      .call 14 [.agg [.whole 2 24], .agg [.whole 3 24]] ([], []) (.leaf (.agg [.whole 9 24])) 1 [] <|
      .call 21 [.agg [.whole 9 24]] ([], []) (.tup [.agg [.whole 10 8], .agg [.whole 11 8]]) 2 [] <|
      .new <|
      .new <|
      .call 14 [.agg [.whole 2 24], .agg [.whole 4 24]] ([], []) (.leaf (.agg [.whole 12 24])) 1 [] <|
      .call 21 [.agg [.whole 12 24]] ([], []) (.tup [.agg [.whole 13 8], .agg [.whole 14 8]]) 2 [] <|
      .new <|
      .new <|
      .call2 22 [.agg [.whole 10 8], .agg [.whole 8 8]] ([], []) (.leaf (.atom (.const (.bool true)))) 0 [] (
        .call 23 [.agg [.whole 7 8]] ([], []) (.leaf (.agg [.whole 15 8])) 1 [] <|
        .call2 22 [.agg [.whole 11 8], .agg [.whole 15 8]] ([], []) (.leaf (.atom (.const (.bool true)))) 0 [] (
          .call 23 [.agg [.whole 7 8]] ([], []) (.leaf (.agg [.whole 16 8])) 1 [] <|
          .call2 22 [.agg [.whole 13 8], .agg [.whole 16 8]] ([], []) (.leaf (.atom (.const (.bool true)))) 0 [] (
            .call 23 [.agg [.whole 8 8]] ([], []) (.leaf (.agg [.whole 17 8])) 1 [] <|
            .call2 22 [.agg [.whole 14 8], .agg [.whole 17 8]] ([], []) (.leaf (.atom (.const (.bool true)))) 0 [] (
              .call2 20 [] ([], []) (.leaf (.atom (.const (.bool true)))) 0 [] (
                .ret ([], []) (.leaf (.atom (.const (.bool true))))) (.leaf (.atom (.const (.bool false)))) 0 [] <|
              .ret ([], []) (.leaf (.atom (.const (.bool false))))) (.leaf (.atom (.const (.bool false)))) 0 [] <|
            .ret ([], []) (.leaf (.atom (.const (.bool false))))) (.leaf (.atom (.const (.bool false)))) 0 [] <|
          .ret ([], []) (.leaf (.atom (.const (.bool false))))) (.leaf (.atom (.const (.bool false)))) 0 [] <|
        .ret ([], []) (.leaf (.atom (.const (.bool false))))) (.leaf (.atom (.const (.bool false)))) 0 [] <|
      .ret ([], []) (.leaf (.atom (.const (.bool false))))) (.tup [.agg [.whole 3 24], .atom (.const (.bool false))]) 1 [] <|
    .new <|
    .call 11 [.atom (.const (.int .i64 2))] ([], []) (.tup [.agg [.whole 4 24], .atom (.var 5)]) 2 [] <|
    .new <|
    .ret ([], []) (.leaf (.atom (.const (.bool false))))) (.tup [.agg [.whole 2 24], .atom (.const (.bool false))]) 1 [] <|
  .new <|
  .call2 11 [.atom (.const (.int .i64 1))] ([], []) (.tup [.agg [.whole 3 24], .atom (.const (.bool true))]) 1 [] (
    .new <|
    .call 11 [.atom (.const (.int .i64 2))] ([], []) (.tup [.agg [.whole 4 24], .atom (.var 5)]) 2 [] <|
    .new <|
    .ret ([], []) (.leaf (.atom (.const (.bool false))))) (.tup [.agg [.whole 3 24], .atom (.const (.bool false))]) 1 [] <|
  .new <|
  .call 11 [.atom (.const (.int .i64 2))] ([], []) (.tup [.agg [.whole 4 24], .atom (.var 5)]) 2 [] <|
  .new <|
  .ret ([], []) (.leaf (.atom (.const (.bool false))))
theorem c_turns : compF Try.prog Try.f5 o_turns (Try.f5.body.getD .skip) (symIn [.agg [.whole 0 57, .one (.var 1)]] Try.f5.ntmps 2) = some t_turns := by kernel_rfl
theorem g_turns : goodC Try.prog o_turns.ords (Try.f5.body.getD .skip) = true := by kernel_rfl
set_option maxRecDepth 100000 in
set_option maxHeartbeats 4000000 in
theorem aw_turns (b1 : List Int) (lb1 : b1.length = 57) (yb1 : By b1) (n1 : Int) (r1 : I64 n1) : AWp Try.prog tbl8l (fun a => a = .bool true) t_turns [] [.ints .u8 b1, .int .i64 n1] := by
  have m1 := And.intro lb1 yb1
  obtain ⟨a1, a3⟩ := add_q1 (mulG (nval b1) BG + mulG (quart n1) TG)
  obtain ⟨a2, a4⟩ := add_TT (mulG (nval b1) BG + mulG (quart n1) TG)
  repeat ((conv => whnf) <;> first | exact rfl | with_reducible refine And.intro (by assumption) ?_ | with_reducible refine cTe (by assumption) ?_ | with_reducible refine cEq (by assumption) ?_ | with_reducible refine cTt ?_ | with_reducible refine cNt ?_ | with_reducible refine cTd rfl ?_ | refine And.intro (by decide) ?_)
set_option maxRecDepth 100000 in
theorem turns_any (b1 : List Int) (lb1 : b1.length = 57) (yb1 : By b1) (n1 : Int) (r1 : I64 n1) (w : World) : Calls Try.prog 5 #[AG (ys b1 ++ [.int .i64 n1])] w (OutV (.bool true) w) :=
  law_tree tbl8l_ok o_turns [.agg [.whole 0 57, .one (.var 1)]] [AG (ys b1), .int .i64 n1] [.ints .u8 b1, .int .i64 n1] Try.func5 rfl c_turns (by simp [Leaf.den, catS, Seg.den, Atom.den, cellsAt, AG, Value.cells]) (by intro x hx; simp only [List.mem_cons, List.not_mem_nil, or_false] at hx; subst hx <;> first | exact ok_spot rfl lb1 rfl rfl) ⟨_, _, rfl, arr_val b1, _, _, rfl, int_val n1, rfl⟩ g_turns (aw_turns b1 lb1 yb1 n1 r1)
def o_group : Orc := { ans := [(19, .one ⟨.leaf (.agg [.whole 0 57, .one (.var 1)]), 2, []⟩), (20, .two ⟨.tup [.agg [.whole 0 24], .atom (.const (.bool true))], 1, []⟩ ⟨.tup [.agg [.whole 0 24], .atom (.const (.bool false))], 1, []⟩), (24, .one ⟨.leaf (.agg [.whole 0 57, .one (.var 1)]), 2, []⟩), (25, .two ⟨.tup [.agg [.whole 0 24], .atom (.const (.bool true))], 1, []⟩ ⟨.tup [.agg [.whole 0 24], .atom (.const (.bool false))], 1, []⟩), (29, .one ⟨.leaf (.agg [.whole 0 57, .one (.var 1)]), 2, []⟩), (30, .one ⟨.tup [.agg [.whole 0 24], .atom (.var 1)], 2, []⟩), (34, .one ⟨.leaf (.atom (.var 0)), 1, []⟩), (37, .one ⟨.leaf (.atom (.var 0)), 1, []⟩), (38, .one ⟨.leaf (.atom (.var 0)), 1, []⟩), (41, .one ⟨.leaf (.atom (.var 0)), 1, []⟩), (42, .one ⟨.leaf (.atom (.var 0)), 1, []⟩), (43, .one ⟨.leaf (.agg [.whole 0 24]), 1, []⟩), (44, .one ⟨.leaf (.agg [.whole 0 24]), 1, []⟩), (45, .one ⟨.leaf (.agg [.whole 0 24]), 1, []⟩), (46, .one ⟨.leaf (.agg [.whole 0 24]), 1, []⟩), (47, .one ⟨.leaf (.agg [.whole 0 24]), 1, []⟩), (48, .one ⟨.leaf (.agg [.whole 0 24]), 1, []⟩), (49, .one ⟨.leaf (.agg [.whole 0 24]), 1, []⟩), (50, .two ⟨.leaf (.atom (.const (.bool true))), 0, []⟩ ⟨.leaf (.atom (.const (.bool false))), 0, []⟩), (51, .one ⟨.leaf (.atom (.var 0)), 1, []⟩), (53, .one ⟨.leaf (.agg [.whole 0 24]), 1, []⟩), (54, .one ⟨.leaf (.agg [.whole 0 24]), 1, []⟩), (55, .one ⟨.leaf (.agg [.whole 0 24]), 1, []⟩), (56, .one ⟨.leaf (.agg [.whole 0 24]), 1, []⟩), (57, .one ⟨.leaf (.agg [.whole 0 24]), 1, []⟩), (58, .one ⟨.leaf (.agg [.whole 0 24]), 1, []⟩), (59, .one ⟨.leaf (.agg [.whole 0 24]), 1, []⟩), (60, .one ⟨.leaf (.agg [.whole 0 24]), 1, []⟩), (61, .two ⟨.leaf (.atom (.const (.bool true))), 0, []⟩ ⟨.leaf (.atom (.const (.bool false))), 0, []⟩), (62, .one ⟨.leaf (.atom (.var 0)), 1, []⟩), (63, .one ⟨.leaf (.atom (.var 0)), 1, []⟩), (65, .one ⟨.leaf (.agg [.whole 0 24]), 1, []⟩), (66, .one ⟨.leaf (.agg [.whole 0 24]), 1, []⟩), (67, .one ⟨.leaf (.agg [.whole 0 24]), 1, []⟩), (68, .one ⟨.leaf (.agg [.whole 0 24]), 1, []⟩), (69, .two ⟨.leaf (.atom (.const (.bool true))), 0, []⟩ ⟨.leaf (.atom (.const (.bool false))), 0, []⟩), (70, .one ⟨.leaf (.atom (.var 0)), 1, []⟩), (71, .one ⟨.leaf (.atom (.var 0)), 1, []⟩), (73, .one ⟨.leaf (.agg [.whole 0 24]), 1, []⟩), (74, .one ⟨.tup [.agg [.whole 0 8], .agg [.whole 1 8]], 2, []⟩), (78, .one ⟨.leaf (.agg [.whole 0 8]), 1, []⟩), (79, .one ⟨.leaf (.agg [.whole 0 8]), 1, []⟩), (80, .one ⟨.tup [.agg [.whole 0 24], .atom (.var 1)], 2, []⟩), (84, .two ⟨.leaf (.atom (.const (.bool true))), 0, []⟩ ⟨.leaf (.atom (.const (.bool false))), 0, []⟩), (86, .one ⟨.leaf (.agg [.whole 0 24]), 1, []⟩), (87, .one ⟨.leaf (.agg [.whole 0 24]), 1, []⟩), (88, .two ⟨.leaf (.atom (.const (.bool true))), 0, []⟩ ⟨.leaf (.atom (.const (.bool false))), 0, []⟩), (89, .one ⟨.leaf (.atom (.var 0)), 1, []⟩), (91, .one ⟨.leaf (.agg [.whole 0 24]), 1, []⟩), (92, .one ⟨.leaf (.agg [.whole 0 24]), 1, []⟩), (93, .one ⟨.leaf (.agg [.whole 0 24]), 1, []⟩), (94, .one ⟨.leaf (.agg [.whole 0 24]), 1, []⟩), (95, .one ⟨.leaf (.agg [.whole 0 24]), 1, []⟩), (96, .two ⟨.leaf (.atom (.const (.bool true))), 0, []⟩ ⟨.leaf (.atom (.const (.bool false))), 0, []⟩), (97, .one ⟨.leaf (.atom (.var 0)), 1, []⟩), (99, .one ⟨.leaf (.agg [.whole 0 24]), 1, []⟩), (100, .one ⟨.leaf (.agg [.whole 0 24]), 1, []⟩), (101, .one ⟨.leaf (.agg [.whole 0 24]), 1, []⟩), (102, .one ⟨.leaf (.agg [.whole 0 24]), 1, []⟩), (103, .one ⟨.leaf (.agg [.whole 0 24]), 1, []⟩), (104, .two ⟨.leaf (.atom (.const (.bool true))), 0, []⟩ ⟨.leaf (.atom (.const (.bool false))), 0, []⟩), (105, .one ⟨.leaf (.atom (.var 0)), 1, []⟩), (107, .one ⟨.leaf (.agg [.whole 0 24]), 1, []⟩), (108, .one ⟨.leaf (.agg [.whole 0 24]), 1, []⟩), (109, .one ⟨.leaf (.agg [.whole 0 24]), 1, []⟩), (110, .one ⟨.leaf (.agg [.whole 0 24]), 1, []⟩), (111, .one ⟨.leaf (.agg [.whole 0 24]), 1, []⟩), (112, .two ⟨.leaf (.atom (.const (.bool true))), 0, []⟩ ⟨.leaf (.atom (.const (.bool false))), 0, []⟩), (113, .one ⟨.leaf (.atom (.var 0)), 1, []⟩), (115, .two ⟨.leaf (.atom (.const (.bool true))), 0, []⟩ ⟨.leaf (.atom (.const (.bool false))), 0, []⟩), (116, .one ⟨.leaf (.atom (.var 0)), 1, []⟩)], lps := [], ords := [(7, [.quiet 0, .quiet 1, .quiet 2, .call 3 [], .call 4 [], .quiet 5, .pure 6, .quiet 7, .quiet 8, .quiet 10, .quiet 11, .quiet 12, .call 9 [], .call 13 [], .call 14 [], .call 15 [], .quiet 16, .quiet 17, .pure 18, .quiet 19, .quiet 22, .call 20 [], .call 21 [], .call 23 [], .quiet 24, .quiet 25]), (11, [.pure 0, .quiet 1, .pure 2, .quiet 3, .quiet 4, .call 5 [], .quiet 6, .pure 7, .quiet 8, .quiet 9, .call 10 [], .call 11 [], .call 12 [], .call 13 [], .quiet 14, .pure 15, .quiet 16, .quiet 18, .quiet 19, .call 17 [], .call 20 [], .call 21 [], .quiet 22, .pure 23, .quiet 24, .quiet 25, .quiet 28, .call 26 [], .call 27 [], .call 29 [], .quiet 30, .pure 31, .call 32 [], .quiet 33, .pure 34])] }
def t_group : Tree :=
  .new <|
  .new <|
  .new <|
  .call2 10 [.agg [.whole 0 57, .one (.var 1)]] ([], []) (.tup [.agg [.whole 6 24], .atom (.const (.bool true))]) 1 [] (
    .new <|
    .call2 10 [.agg [.whole 2 57, .one (.var 3)]] ([], []) (.tup [.agg [.whole 7 24], .atom (.const (.bool true))]) 1 [] (
      .new <|
      .call 10 [.agg [.whole 4 57, .one (.var 5)]] ([], []) (.tup [.agg [.whole 8 24], .atom (.var 9)]) 2 [] <|
      .new <|
      .calc (.unOp .not 4 (.tmp 40)) 4 [(40, .leaf (.atom (.var 9)))] ([], []) (.leaf (.atom (.var 10))) 1 <|
      .ite (.var 10) (
        .ret ([], []) (.leaf (.atom (.const (.bool false))))) <|
      .call 14 [.agg [.whole 6 24], .agg [.whole 7 24]] ([], []) (.leaf (.agg [.whole 11 24])) 1 [] <|
      .new <|
      .call 14 [.agg [.whole 7 24], .agg [.whole 6 24]] ([], []) (.leaf (.agg [.whole 12 24])) 1 [] <|
      .call2 16 [.agg [.whole 11 24], .agg [.whole 12 24]] ([], []) (.leaf (.atom (.const (.bool true)))) 0 [] (
        .call 14 [.agg [.whole 11 24], .agg [.whole 8 24]] ([], []) (.leaf (.agg [.whole 13 24])) 1 [] <|
        .call 14 [.agg [.whole 7 24], .agg [.whole 8 24]] ([], []) (.leaf (.agg [.whole 14 24])) 1 [] <|
        .call 14 [.agg [.whole 6 24], .agg [.whole 14 24]] ([], []) (.leaf (.agg [.whole 15 24])) 1 [] <|
        .call2 16 [.agg [.whole 13 24], .agg [.whole 15 24]] ([], []) (.leaf (.atom (.const (.bool true)))) 0 [] (
          .call 18 [] ([], []) (.leaf (.agg [.whole 16 24])) 1 [] <|
          .call 14 [.agg [.whole 6 24], .agg [.whole 16 24]] ([], []) (.leaf (.agg [.whole 17 24])) 1 [] <|
          .call2 16 [.agg [.whole 17 24], .agg [.whole 6 24]] ([], []) (.leaf (.atom (.const (.bool true)))) 0 [] (
            .call 21 [.agg [.whole 11 24]] ([], []) (.tup [.agg [.whole 18 8], .agg [.whole 19 8]]) 2 [] <|
            .new <|
            .new <|
            .call 24 [.agg [.whole 18 8], .agg [.whole 19 8]] ([], []) (.tup [.agg [.whole 20 24], .atom (.var 21)]) 2 [] <|
            .new <|
            .calc2 (.binOp .eql 48 (.tmp 83) (.const (.int .i64 0)) 48) 4 [(83, .leaf (.atom (.var 21)))] ([], []) (.leaf (.atom (.const (.bool true)))) 0 (
              .call2 16 [.agg [.whole 20 24], .agg [.whole 11 24]] ([], []) (.leaf (.atom (.const (.bool true)))) 0 [] (
                .call 25 [.agg [.whole 6 24]] ([], []) (.leaf (.agg [.whole 22 24])) 1 [] <|
                .call 14 [.agg [.whole 6 24], .agg [.whole 22 24]] ([], []) (.leaf (.agg [.whole 23 24])) 1 [] <|
                .call 18 [] ([], []) (.leaf (.agg [.whole 24 24])) 1 [] <|
                .call2 16 [.agg [.whole 23 24], .agg [.whole 24 24]] ([], []) (.leaf (.atom (.const (.bool true)))) 0 [] (
                  .call 15 [.agg [.whole 6 24]] ([], []) (.leaf (.agg [.whole 25 24])) 1 [] <|
                  .call 14 [.agg [.whole 6 24], .agg [.whole 6 24]] ([], []) (.leaf (.agg [.whole 26 24])) 1 [] <|
                  .call2 16 [.agg [.whole 25 24], .agg [.whole 26 24]] ([], []) (.leaf (.atom (.const (.bool true)))) 0 [] (
                    .call 25 [.agg [.whole 7 24]] ([], []) (.leaf (.agg [.whole 27 24])) 1 [] <|
                    .call 14 [.agg [.whole 11 24], .agg [.whole 27 24]] ([], []) (.leaf (.agg [.whole 28 24])) 1 [] <|
                    .call2 16 [.agg [.whole 28 24], .agg [.whole 6 24]] ([], []) (.leaf (.atom (.const (.bool true)))) 0 [] (
                      .call2 20 [] ([], []) (.leaf (.atom (.const (.bool true)))) 0 [] (
                        .ret ([], []) (.leaf (.atom (.const (.bool true))))) (.leaf (.atom (.const (.bool false)))) 0 [] <|
                      .ret ([], []) (.leaf (.atom (.const (.bool false))))) (.leaf (.atom (.const (.bool false)))) 0 [] <|
                    .ret ([], []) (.leaf (.atom (.const (.bool false))))) (.leaf (.atom (.const (.bool false)))) 0 [] <|
                  .ret ([], []) (.leaf (.atom (.const (.bool false))))) (.leaf (.atom (.const (.bool false)))) 0 [] <|
                .ret ([], []) (.leaf (.atom (.const (.bool false))))) (.leaf (.atom (.const (.bool false)))) 0 [] <|
              .ret ([], []) (.leaf (.atom (.const (.bool false))))) (.leaf (.atom (.const (.bool false)))) 0 <|
            .ret ([], []) (.leaf (.atom (.const (.bool false))))) (.leaf (.atom (.const (.bool false)))) 0 [] <|
          .ret ([], []) (.leaf (.atom (.const (.bool false))))) (.leaf (.atom (.const (.bool false)))) 0 [] <|
        .ret ([], []) (.leaf (.atom (.const (.bool false))))) (.leaf (.atom (.const (.bool false)))) 0 [] <|
      .ret ([], []) (.leaf (.atom (.const (.bool false))))) (.tup [.agg [.whole 7 24], .atom (.const (.bool false))]) 1 [] <|
    .new <|
    .call 10 [.agg [.whole 4 57, .one (.var 5)]] ([], []) (.tup [.agg [.whole 8 24], .atom (.var 9)]) 2 [] <|
    .new <|
    .ret ([], []) (.leaf (.atom (.const (.bool false))))) (.tup [.agg [.whole 6 24], .atom (.const (.bool false))]) 1 [] <|
  .new <|
  .call2 10 [.agg [.whole 2 57, .one (.var 3)]] ([], []) (.tup [.agg [.whole 7 24], .atom (.const (.bool true))]) 1 [] (
    .new <|
    .call 10 [.agg [.whole 4 57, .one (.var 5)]] ([], []) (.tup [.agg [.whole 8 24], .atom (.var 9)]) 2 [] <|
    .new <|
    .ret ([], []) (.leaf (.atom (.const (.bool false))))) (.tup [.agg [.whole 7 24], .atom (.const (.bool false))]) 1 [] <|
  .new <|
  .call 10 [.agg [.whole 4 57, .one (.var 5)]] ([], []) (.tup [.agg [.whole 8 24], .atom (.var 9)]) 2 [] <|
  .new <|
  .ret ([], []) (.leaf (.atom (.const (.bool false))))
theorem c_group : compF Try.prog Try.f6 o_group (Try.f6.body.getD .skip) (symIn [.agg [.whole 0 57, .one (.var 1)], .agg [.whole 2 57, .one (.var 3)], .agg [.whole 4 57, .one (.var 5)]] Try.f6.ntmps 6) = some t_group := by kernel_rfl
theorem g_group : goodC Try.prog o_group.ords (Try.f6.body.getD .skip) = true := by kernel_rfl
set_option maxRecDepth 100000 in
set_option maxHeartbeats 4000000 in
theorem aw_group (b1 : List Int) (lb1 : b1.length = 57) (yb1 : By b1) (n1 : Int) (r1 : I64 n1) (b2 : List Int) (lb2 : b2.length = 57) (yb2 : By b2) (n2 : Int) (r2 : I64 n2) (b3 : List Int) (lb3 : b3.length = 57) (yb3 : By b3) (n3 : Int) (r3 : I64 n3) : AWp Try.prog tbl8l (fun a => a = .bool true) t_group [] [.ints .u8 b1, .int .i64 n1, .ints .u8 b2, .int .i64 n2, .ints .u8 b3, .int .i64 n3] := by
  have m1 := And.intro lb1 yb1
  have m2 := And.intro lb2 yb2
  have m3 := And.intro lb3 yb3
  have a1 := G.comm (mulG (nval b1) BG + mulG (quart n1) TG) (mulG (nval b2) BG + mulG (quart n2) TG)
  have a2 := G.assoc (mulG (nval b1) BG + mulG (quart n1) TG) (mulG (nval b2) BG + mulG (quart n2) TG) (mulG (nval b3) BG + mulG (quart n3) TG)
  have a3 := G.add_zero (mulG (nval b1) BG + mulG (quart n1) TG)
  have a4 := of_pt ((mulG (nval b1) BG + mulG (quart n1) TG) + (mulG (nval b2) BG + mulG (quart n2) TG))
  have a5 := ofP_eq ((mulG (nval b1) BG + mulG (quart n1) TG) + (mulG (nval b2) BG + mulG (quart n2) TG))
  have a6 := G.add_neg (mulG (nval b1) BG + mulG (quart n1) TG)
  have a7 := G.sub_add (mulG (nval b1) BG + mulG (quart n1) TG) (mulG (nval b2) BG + mulG (quart n2) TG)
  have a8 : (mulG (nval b1) BG + mulG (quart n1) TG) + (mulG (nval b1) BG + mulG (quart n1) TG) = (mulG (nval b1) BG + mulG (quart n1) TG) + (mulG (nval b1) BG + mulG (quart n1) TG) := rfl
  repeat ((conv => whnf) <;> first | exact rfl | with_reducible refine And.intro (by assumption) ?_ | with_reducible refine cTe (by assumption) ?_ | with_reducible refine cEq (by assumption) ?_ | with_reducible refine cTt ?_ | with_reducible refine cNt ?_ | with_reducible refine cTd rfl ?_ | refine And.intro (by decide) ?_)
set_option maxRecDepth 100000 in
theorem group_any (b1 : List Int) (lb1 : b1.length = 57) (yb1 : By b1) (n1 : Int) (r1 : I64 n1) (b2 : List Int) (lb2 : b2.length = 57) (yb2 : By b2) (n2 : Int) (r2 : I64 n2) (b3 : List Int) (lb3 : b3.length = 57) (yb3 : By b3) (n3 : Int) (r3 : I64 n3) (w : World) : Calls Try.prog 6 #[AG (ys b1 ++ [.int .i64 n1]), AG (ys b2 ++ [.int .i64 n2]), AG (ys b3 ++ [.int .i64 n3])] w (OutV (.bool true) w) :=
  law_tree tbl8l_ok o_group [.agg [.whole 0 57, .one (.var 1)], .agg [.whole 2 57, .one (.var 3)], .agg [.whole 4 57, .one (.var 5)]] [AG (ys b1), .int .i64 n1, AG (ys b2), .int .i64 n2, AG (ys b3), .int .i64 n3] [.ints .u8 b1, .int .i64 n1, .ints .u8 b2, .int .i64 n2, .ints .u8 b3, .int .i64 n3] Try.func6 rfl c_group (by simp [Leaf.den, catS, Seg.den, Atom.den, cellsAt, AG, Value.cells]) (by intro x hx; simp only [List.mem_cons, List.not_mem_nil, or_false] at hx; rcases hx with rfl | rfl | rfl <;> first | exact ok_spot rfl lb1 rfl rfl | exact ok_spot rfl lb2 rfl rfl | exact ok_spot rfl lb3 rfl rfl) ⟨_, _, rfl, arr_val b1, _, _, rfl, int_val n1, ⟨_, _, rfl, arr_val b2, _, _, rfl, int_val n2, ⟨_, _, rfl, arr_val b3, _, _, rfl, int_val n3, rfl⟩⟩⟩ g_group (aw_group b1 lb1 yb1 n1 r1 b2 lb2 yb2 n2 r2 b3 lb3 yb3 n3 r3)
end Go.Proofs.Ytnglocmggmhldaa
