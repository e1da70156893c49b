/- RootScales' walk -/
import Derived.Test.YtohjkkmgcibemaaVr
import Derived.Test.YtohjkkmgcibemaaRtb
set_option linter.unusedSimpArgs false
set_option linter.unusedVariables false
namespace Go.Proofs.Ytohjkkmgcibemaa
open Go.RowKit FdP FdP.Ch
def tb_awake5 : FuncId × Trans := (16, tTrue)
theorem tb_awake5_ok : Con Try.prog tb_awake5.1 tb_awake5.2 := con_True awake5_c
def tab5 : Tab := tb_made :: tb_mul :: tb_square :: tb_neg :: tb_int :: tb_equal :: tb_zero :: tb_inverse :: tb_negative :: tb_abs :: tb_root :: tb_ratio :: tb_awake5 :: []
theorem tab5_ok : tab5.OK Try.prog := tab_cons tb_made_ok <| tab_cons tb_mul_ok <| tab_cons tb_square_ok <| tab_cons tb_neg_ok <| tab_cons tb_int_ok <| tab_cons tb_equal_ok <| tab_cons tb_zero_ok <| tab_cons tb_inverse_ok <| tab_cons tb_negative_ok <| tab_cons tb_abs_ok <| tab_cons tb_root_ok <| tab_cons tb_ratio_ok <| tab_cons tb_awake5_ok <| tab_nil _
def o_scales : Orc := { ans := [(21, .one ⟨.leaf (.atom (.var 0)), 1, []⟩), (22, .two ⟨.tup [.agg [.whole 0 8], .atom (.const (.bool true))], 1, []⟩ ⟨.tup [.agg [.whole 0 8], .atom (.const (.bool false))], 1, []⟩), (26, .one ⟨.leaf (.atom (.var 0)), 1, []⟩), (27, .two ⟨.tup [.agg [.whole 0 8], .atom (.const (.bool true))], 1, []⟩ ⟨.tup [.agg [.whole 0 8], .atom (.const (.bool false))], 1, []⟩), (31, .one ⟨.leaf (.atom (.var 0)), 1, []⟩), (32, .one ⟨.tup [.agg [.whole 0 8], .atom (.var 1)], 2, []⟩), (36, .one ⟨.leaf (.atom (.var 0)), 1, []⟩), (39, .one ⟨.leaf (.atom (.var 0)), 1, []⟩), (40, .one ⟨.leaf (.atom (.var 0)), 1, []⟩), (43, .one ⟨.leaf (.atom (.var 0)), 1, []⟩), (44, .one ⟨.leaf (.atom (.var 0)), 1, []⟩), (46, .one ⟨.leaf (.atom (.var 0)), 1, []⟩), (47, .one ⟨.leaf (.atom (.var 0)), 1, []⟩), (48, .one ⟨.tup [.agg [.whole 0 8], .atom (.var 1)], 2, []⟩), (52, .one ⟨.leaf (.atom (.var 0)), 1, []⟩), (53, .one ⟨.leaf (.atom (.var 0)), 1, []⟩), (54, .one ⟨.leaf (.agg [.whole 0 8]), 1, []⟩), (55, .one ⟨.leaf (.atom (.var 0)), 1, []⟩), (56, .one ⟨.leaf (.atom (.var 0)), 1, []⟩), (57, .one ⟨.leaf (.agg [.whole 0 8]), 1, []⟩), (58, .one ⟨.tup [.agg [.whole 0 8], .atom (.var 1)], 2, []⟩), (61, .one ⟨.leaf (.atom (.var 0)), 1, []⟩), (62, .two ⟨.leaf (.atom (.const (.bool true))), 0, []⟩ ⟨.leaf (.atom (.const (.bool false))), 0, []⟩), (63, .one ⟨.leaf (.atom (.var 0)), 1, []⟩), (65, .one ⟨.leaf (.atom (.var 0)), 1, []⟩), (66, .one ⟨.leaf (.atom (.var 0)), 1, []⟩), (67, .two ⟨.leaf (.atom (.const (.bool true))), 0, []⟩ ⟨.leaf (.atom (.const (.bool false))), 0, []⟩), (68, .one ⟨.leaf (.atom (.var 0)), 1, []⟩), (72, .two ⟨.leaf (.atom (.const (.bool true))), 0, []⟩ ⟨.leaf (.atom (.const (.bool false))), 0, []⟩), (73, .one ⟨.leaf (.atom (.var 0)), 1, []⟩), (74, .one ⟨.leaf (.atom (.var 0)), 1, []⟩), (76, .one ⟨.leaf (.atom (.var 0)), 1, []⟩), (77, .one ⟨.leaf (.agg [.whole 0 8]), 1, []⟩), (78, .one ⟨.leaf (.atom (.var 0)), 1, []⟩), (79, .one ⟨.leaf (.agg [.whole 0 8]), 1, []⟩), (80, .one ⟨.leaf (.agg [.whole 0 8]), 1, []⟩), (81, .one ⟨.tup [.agg [.whole 0 8], .atom (.var 1)], 2, []⟩), (84, .one ⟨.leaf (.atom (.var 0)), 1, []⟩), (85, .one ⟨.leaf (.agg [.whole 0 8]), 1, []⟩), (87, .two ⟨.leaf (.atom (.const (.bool true))), 0, []⟩ ⟨.leaf (.atom (.const (.bool false))), 0, []⟩), (89, .one ⟨.leaf (.atom (.var 0)), 1, []⟩), (90, .one ⟨.leaf (.atom (.var 0)), 1, []⟩), (91, .one ⟨.leaf (.atom (.var 0)), 1, []⟩), (92, .one ⟨.leaf (.agg [.whole 0 8]), 1, []⟩), (93, .one ⟨.leaf (.agg [.whole 0 8]), 1, []⟩), (94, .two ⟨.leaf (.atom (.const (.bool true))), 0, []⟩ ⟨.leaf (.atom (.const (.bool false))), 0, []⟩), (95, .one ⟨.leaf (.atom (.var 0)), 1, []⟩), (97, .one ⟨.leaf (.atom (.var 0)), 1, []⟩), (98, .one ⟨.leaf (.agg [.whole 0 8]), 1, []⟩), (99, .one ⟨.leaf (.atom (.var 0)), 1, []⟩), (100, .two ⟨.leaf (.atom (.const (.bool true))), 0, []⟩ ⟨.leaf (.atom (.const (.bool false))), 0, []⟩), (101, .one ⟨.leaf (.atom (.var 0)), 1, []⟩), (103, .one ⟨.leaf (.atom (.var 0)), 1, []⟩), (104, .one ⟨.leaf (.atom (.var 0)), 1, []⟩), (105, .one ⟨.leaf (.agg [.whole 0 8]), 1, []⟩), (106, .one ⟨.leaf (.agg [.whole 0 8]), 1, []⟩), (107, .one ⟨.leaf (.atom (.var 0)), 1, []⟩), (108, .one ⟨.leaf (.atom (.var 0)), 1, []⟩), (109, .one ⟨.leaf (.agg [.whole 0 8]), 1, []⟩), (110, .one ⟨.leaf (.agg [.whole 0 8]), 1, []⟩), (111, .two ⟨.leaf (.atom (.const (.bool true))), 0, []⟩ ⟨.leaf (.atom (.const (.bool false))), 0, []⟩), (112, .one ⟨.leaf (.atom (.var 0)), 1, []⟩), (114, .two ⟨.leaf (.atom (.const (.bool true))), 0, []⟩ ⟨.leaf (.atom (.const (.bool false))), 0, []⟩), (115, .one ⟨.leaf (.atom (.var 0)), 1, []⟩)], lps := [], ords := [(7, [.quiet 0, .quiet 1, .quiet 3, .quiet 4, .call 2 [10], .call 5 [10], .call 6 [10], .pure 7, .pure 8, .pure 9, .make 10 [], .last 11, .last 12]), (10, [.quiet 0, .quiet 2, .call 1 [9], .call 3 [9], .call 4 [9], .call 5 [9], .pure 6, .pure 7, .pure 8, .make 9 [], .last 10, .last 11]), (12, [.pure 0, .quiet 1, .pure 2, .quiet 3, .quiet 4, .quiet 5, .call 6 [], .call 7 [], .call 8 [], .quiet 9, .pure 10, .quiet 11, .quiet 13, .call 12 [], .call 14 [], .quiet 15, .pure 16, .quiet 17, .quiet 18, .quiet 21, .quiet 22, .call 19 [], .call 20 [], .call 23 [], .call 24 [], .call 25 [], .quiet 26, .pure 27, .call 28 [], .quiet 29, .pure 30])] }
def t_scales : Tree :=
  .new <|
  .new <|
  .new <|
  .call2 11 [.agg [.whole 0 56]] ([], []) (.tup [.agg [.whole 3 8], .atom (.const (.bool true))]) 1 [] (
    .new <|
    .call2 11 [.agg [.whole 1 56]] ([], []) (.tup [.agg [.whole 4 8], .atom (.const (.bool true))]) 1 [] (
      .new <|
      .call 11 [.agg [.whole 2 56]] ([], []) (.tup [.agg [.whole 5 8], .atom (.var 6)]) 2 [] <|
      .new <|
      .calc (.unOp .not 4 (.tmp 42)) 4 [(42, .leaf (.atom (.var 6)))] ([], []) (.leaf (.atom (.var 7))) 1 <|
      .ite (.var 7) (
        .ret ([], []) (.leaf (.atom (.const (.bool false))))) <|
      .call 18 [.agg [.whole 3 8], .agg [.whole 4 8]] ([], []) (.tup [.agg [.whole 8 8], .atom (.var 9)]) 2 [] <|
      .new <|
      .call 20 [.agg [.whole 3 8], .agg [.whole 5 8]] ([], []) (.leaf (.agg [.whole 10 8])) 1 [] <|
      .call 20 [.agg [.whole 4 8], .agg [.whole 5 8]] ([], []) (.leaf (.agg [.whole 11 8])) 1 [] <|
      .call 18 [.agg [.whole 10 8], .agg [.whole 11 8]] ([], []) (.tup [.agg [.whole 12 8], .atom (.var 13)]) 2 [] <|
      .new <|
      .call2 15 [.agg [.whole 5 8]] ([], []) (.leaf (.atom (.const (.bool true)))) 0 [] (
        .call 22 [.agg [.whole 3 8]] ([], []) (.leaf (.agg [.whole 14 8])) 1 [] <|
        .call 22 [.agg [.whole 4 8]] ([], []) (.leaf (.agg [.whole 15 8])) 1 [] <|
        .call 20 [.agg [.whole 14 8], .agg [.whole 15 8]] ([], []) (.leaf (.agg [.whole 16 8])) 1 [] <|
        .call 12 [.agg [.whole 16 8]] ([], []) (.tup [.agg [.whole 17 8], .atom (.var 18)]) 2 [] <|
        .new <|
        .call 23 [.agg [.whole 3 8]] ([], []) (.leaf (.agg [.whole 19 8])) 1 [] <|
        .new <|
        .calc2 (.binOp .eql 30 (.tmp 86) (.const (.int .i64 0)) 30) 4 [(86, .leaf (.atom (.var 18)))] ([], []) (.leaf (.atom (.const (.bool true)))) 0 (
          .call 20 [.agg [.whole 3 8], .agg [.whole 4 8]] ([], []) (.leaf (.agg [.whole 20 8])) 1 [] <|
          .call 24 [.agg [.whole 20 8]] ([], []) (.leaf (.agg [.whole 21 8])) 1 [] <|
          .call2 21 [.agg [.whole 17 8], .agg [.whole 21 8]] ([], []) (.leaf (.atom (.const (.bool true)))) 0 [] (
            .call 23 [.agg [.whole 19 8]] ([], []) (.leaf (.agg [.whole 22 8])) 1 [] <|
            .call2 21 [.agg [.whole 22 8], .agg [.whole 3 8]] ([], []) (.leaf (.atom (.const (.bool true)))) 0 [] (
              .call 20 [.agg [.whole 3 8], .agg [.whole 4 8]] ([], []) (.leaf (.agg [.whole 23 8])) 1 [] <|
              .call 23 [.agg [.whole 23 8]] ([], []) (.leaf (.agg [.whole 24 8])) 1 [] <|
              .call 23 [.agg [.whole 4 8]] ([], []) (.leaf (.agg [.whole 25 8])) 1 [] <|
              .call 20 [.agg [.whole 19 8], .agg [.whole 25 8]] ([], []) (.leaf (.agg [.whole 26 8])) 1 [] <|
              .call2 21 [.agg [.whole 24 8], .agg [.whole 26 8]] ([], []) (.leaf (.atom (.const (.bool true)))) 0 [] (
                .call2 16 [] ([], []) (.leaf (.atom (.const (.bool true)))) 0 [] (
                  .ret ([], []) (.leaf (.atom (.const (.bool true))))) (.leaf (.atom (.const (.bool false)))) 0 [] <|
                .ret ([], []) (.leaf (.atom (.const (.bool false))))) (.leaf (.atom (.const (.bool false)))) 0 [] <|
              .ret ([], []) (.leaf (.atom (.const (.bool false))))) (.leaf (.atom (.const (.bool false)))) 0 [] <|
            .ret ([], []) (.leaf (.atom (.const (.bool false))))) (.leaf (.atom (.const (.bool false)))) 0 [] <|
          .ret ([], []) (.leaf (.atom (.const (.bool false))))) (.leaf (.atom (.const (.bool false)))) 0 <|
        .ret ([], []) (.leaf (.atom (.const (.bool false))))) (.leaf (.atom (.const (.bool false)))) 0 [] <|
      .call2 21 [.agg [.whole 8 8], .agg [.whole 12 8]] ([], []) (.leaf (.atom (.const (.bool true)))) 0 [] (
        .calc2 (.binOp .neq 4 (.tmp 70) (.tmp 71) 4) 4 [(70, .leaf (.atom (.var 9))), (71, .leaf (.atom (.var 13)))] ([], []) (.leaf (.atom (.const (.bool true)))) 0 (
          .ret ([], []) (.leaf (.atom (.const (.bool false))))) (.leaf (.atom (.const (.bool false)))) 0 <|
        .call 22 [.agg [.whole 3 8]] ([], []) (.leaf (.agg [.whole 14 8])) 1 [] <|
        .call 22 [.agg [.whole 4 8]] ([], []) (.leaf (.agg [.whole 15 8])) 1 [] <|
        .call 20 [.agg [.whole 14 8], .agg [.whole 15 8]] ([], []) (.leaf (.agg [.whole 16 8])) 1 [] <|
        .call 12 [.agg [.whole 16 8]] ([], []) (.tup [.agg [.whole 17 8], .atom (.var 18)]) 2 [] <|
        .new <|
        .call 23 [.agg [.whole 3 8]] ([], []) (.leaf (.agg [.whole 19 8])) 1 [] <|
        .new <|
        .calc2 (.binOp .eql 30 (.tmp 86) (.const (.int .i64 0)) 30) 4 [(86, .leaf (.atom (.var 18)))] ([], []) (.leaf (.atom (.const (.bool true)))) 0 (
          .call 20 [.agg [.whole 3 8], .agg [.whole 4 8]] ([], []) (.leaf (.agg [.whole 20 8])) 1 [] <|
          .call 24 [.agg [.whole 20 8]] ([], []) (.leaf (.agg [.whole 21 8])) 1 [] <|
          .call2 21 [.agg [.whole 17 8], .agg [.whole 21 8]] ([], []) (.leaf (.atom (.const (.bool true)))) 0 [] (
            .call 23 [.agg [.whole 19 8]] ([], []) (.leaf (.agg [.whole 22 8])) 1 [] <|
            .call2 21 [.agg [.whole 22 8], .agg [.whole 3 8]] ([], []) (.leaf (.atom (.const (.bool true)))) 0 [] (
              .call 20 [.agg [.whole 3 8], .agg [.whole 4 8]] ([], []) (.leaf (.agg [.whole 23 8])) 1 [] <|
              .call 23 [.agg [.whole 23 8]] ([], []) (.leaf (.agg [.whole 24 8])) 1 [] <|
              .call 23 [.agg [.whole 4 8]] ([], []) (.leaf (.agg [.whole 25 8])) 1 [] <|
              .call 20 [.agg [.whole 19 8], .agg [.whole 25 8]] ([], []) (.leaf (.agg [.whole 26 8])) 1 [] <|
              .call2 21 [.agg [.whole 24 8], .agg [.whole 26 8]] ([], []) (.leaf (.atom (.const (.bool true)))) 0 [] (
                .call2 16 [] ([], []) (.leaf (.atom (.const (.bool true)))) 0 [] (
                  .ret ([], []) (.leaf (.atom (.const (.bool true))))) (.leaf (.atom (.const (.bool false)))) 0 [] <|
                .ret ([], []) (.leaf (.atom (.const (.bool false))))) (.leaf (.atom (.const (.bool false)))) 0 [] <|
              .ret ([], []) (.leaf (.atom (.const (.bool false))))) (.leaf (.atom (.const (.bool false)))) 0 [] <|
            .ret ([], []) (.leaf (.atom (.const (.bool false))))) (.leaf (.atom (.const (.bool false)))) 0 [] <|
          .ret ([], []) (.leaf (.atom (.const (.bool false))))) (.leaf (.atom (.const (.bool false)))) 0 <|
        .ret ([], []) (.leaf (.atom (.const (.bool false))))) (.leaf (.atom (.const (.bool false)))) 0 [] <|
      .ret ([], []) (.leaf (.atom (.const (.bool false))))) (.tup [.agg [.whole 4 8], .atom (.const (.bool false))]) 1 [] <|
    .new <|
    .call 11 [.agg [.whole 2 56]] ([], []) (.tup [.agg [.whole 5 8], .atom (.var 6)]) 2 [] <|
    .new <|
    .ret ([], []) (.leaf (.atom (.const (.bool false))))) (.tup [.agg [.whole 3 8], .atom (.const (.bool false))]) 1 [] <|
  .new <|
  .call2 11 [.agg [.whole 1 56]] ([], []) (.tup [.agg [.whole 4 8], .atom (.const (.bool true))]) 1 [] (
    .new <|
    .call 11 [.agg [.whole 2 56]] ([], []) (.tup [.agg [.whole 5 8], .atom (.var 6)]) 2 [] <|
    .new <|
    .ret ([], []) (.leaf (.atom (.const (.bool false))))) (.tup [.agg [.whole 4 8], .atom (.const (.bool false))]) 1 [] <|
  .new <|
  .call 11 [.agg [.whole 2 56]] ([], []) (.tup [.agg [.whole 5 8], .atom (.var 6)]) 2 [] <|
  .new <|
  .ret ([], []) (.leaf (.atom (.const (.bool false))))
theorem c_scales : compF Try.prog Try.f5 o_scales (Try.f5.body.getD .skip) (symIn [.agg [.whole 0 56], .agg [.whole 1 56], .agg [.whole 2 56]] Try.f5.ntmps 3) = some t_scales := by kernel_rfl
theorem g_scales : goodC Try.prog o_scales.ords (Try.f5.body.getD .skip) = true := by kernel_rfl
set_option maxRecDepth 100000 in
set_option maxHeartbeats 4000000 in
theorem aw_scales (b1 : List Int) (lb1 : b1.length = 56) (yb1 : By b1) (b2 : List Int) (lb2 : b2.length = 56) (yb2 : By b2) (b3 : List Int) (lb3 : b3.length = 56) (yb3 : By b3) : AWp Try.prog tab5 (fun a => a = .bool true) t_scales [] [.ints .u8 b1, .ints .u8 b2, .ints .u8 b3] := by
  have m1 := And.intro lb1 yb1
  have m2 := And.intro lb2 yb2
  have m3 := And.intro lb3 yb3
  have f0 : ∀ a b : F, a * a * (b * b) = (a * b) * (a * b) := fun a b => by grind
  have f1 : ∀ a b : F, rt (a * a * (b * b)) * rt (a * a * (b * b)) = a * a * (b * b) := fun a b => by rw [f0]; exact rt_square _
  have e1 := rootE_yes (f1 (z (bval b1)) (z (bval b2)))
  have e2 : rootV (z (bval b1) * z (bval b1) * (z (bval b2) * z (bval b2))) = abs (z (bval b1) * z (bval b2)) := by rw [rootV_yes (f1 _ _), f0]; exact rt_abs _
  have e3 := inv_inv (z (bval b1))
  have e4 := inv_mul (z (bval b1)) (z (bval b2))
  have g1 : z (bval b3) ≠ 0 → abs (rat (z (bval b1)) (z (bval b2))) = abs (rat (z (bval b1) * z (bval b3)) (z (bval b2) * z (bval b3))) := fun h => (rat_scale_abs _ _ h).symm
  have g2 : z (bval b3) ≠ 0 → dec (z (bval b2) * (rat (z (bval b1)) (z (bval b2)) * rat (z (bval b1)) (z (bval b2))) = z (bval b1)) = dec (z (bval b2) * z (bval b3) * (rat (z (bval b1) * z (bval b3)) (z (bval b2) * z (bval b3)) * rat (z (bval b1) * z (bval b3)) (z (bval b2) * z (bval b3))) = z (bval b1) * z (bval b3)) := fun h => dec_congr (rat_scale_is _ _ h).symm
  by_cases hw : z (bval b3) = 0
  · repeat ((conv => whnf) <;> first | exact rfl | refine cT rfl ?_ | refine cF rfl ?_ | with_reducible refine ⟨by assumption, ?_⟩ | with_reducible refine cTe (by assumption) ?_ | with_reducible refine cFe (by assumption) ?_ | with_reducible refine cTd (by assumption) ?_ | with_reducible refine cFd (by assumption) ?_ | with_reducible refine cNe (by assumption) ?_ | with_reducible refine cEq (by assumption) ?_ | with_reducible refine cN ?_)
  · have q1 := g1 hw
    have q2 := g2 hw
    repeat ((conv => whnf) <;> first | exact rfl | refine cT rfl ?_ | refine cF rfl ?_ | with_reducible refine ⟨by assumption, ?_⟩ | with_reducible refine cTe (by assumption) ?_ | with_reducible refine cFe (by assumption) ?_ | with_reducible refine cTd (by assumption) ?_ | with_reducible refine cFd (by assumption) ?_ | with_reducible refine cNe (by assumption) ?_ | with_reducible refine cEq (by assumption) ?_ | with_reducible refine cN ?_)
theorem scales_any (b1 : List Int) (lb1 : b1.length = 56) (yb1 : By b1) (b2 : List Int) (lb2 : b2.length = 56) (yb2 : By b2) (b3 : List Int) (lb3 : b3.length = 56) (yb3 : By b3) (w : World) : Calls Try.prog 5 #[AG (ys b1), AG (ys b2), AG (ys b3)] w (OutV (.bool true) w) :=
  law_tree tab5_ok o_scales [.agg [.whole 0 56], .agg [.whole 1 56], .agg [.whole 2 56]] [AG (ys b1), AG (ys b2), AG (ys b3)] [.ints .u8 b1, .ints .u8 b2, .ints .u8 b3] Try.func5 rfl c_scales rfl (by intro x hx; simp only [List.mem_cons, List.not_mem_nil, or_false] at hx; rcases hx with rfl | rfl | rfl <;> first | exact ok_arr rfl lb1 | exact ok_arr rfl lb2 | exact ok_arr rfl lb3) ⟨_, _, rfl, arr_val b1, ⟨_, _, rfl, arr_val b2, ⟨_, _, rfl, arr_val b3, rfl⟩⟩⟩ g_scales (aw_scales b1 lb1 yb1 b2 lb2 yb2 b3 lb3 yb3)
end Go.Proofs.Ytohjkkmgcibemaa
