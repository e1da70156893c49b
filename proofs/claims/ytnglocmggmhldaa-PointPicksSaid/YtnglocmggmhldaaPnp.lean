/- Chapter 8: PointOf -/
import Derived.Test.YtnglocmggmhldaaPnq
set_option linter.unusedSimpArgs false
set_option linter.unusedVariables false
namespace Go.Proofs.Ytnglocmggmhldaa
open Go.RowKit FdP FdP.Ch
theorem spot_ex : ∃ f : List Int → Int → G, ∀ l n, f l n = mulG (nval l) BG + mulG (quart n) TG := ⟨_, fun _ _ => rfl⟩
/-- a spot's point: no term for the kernel to open -/
noncomputable def spotG : List Int → Int → G := spot_ex.choose
theorem spotG_eq (l : List Int) (n : Int) : spotG l n = mulG (nval l) BG + mulG (quart n) TG := spot_ex.choose_spec l n
def tMadeS : Trans := fun zs Q => match zs with
  | [.agg [.ints .u8 l, .int .i64 n]] => (l.length = 57 ∧ By l) ∧ Q (.tup [.ob (.pt (spotG l n)), .bool true])
  | _ => False
def tPlainS : Trans := fun zs Q => match zs with
  | [.agg [.ints .u8 l, .int .i64 n]] => (l.length = 57 ∧ By l) ∧ Q (.ob (.fpt (spotG l n)))
  | _ => False
theorem tMadeS_eq : tMadeS = tMade8 := by
  funext zs Q
  unfold tMadeS tMade8
  split
  · simp only [spotG_eq]
  · rename_i hn
    split
    · exact absurd rfl (hn _ _)
    · rfl
theorem tPlainS_eq : tPlainS = tPlain8 := by
  funext zs Q
  unfold tPlainS tPlain8
  split
  · simp only [spotG_eq]
  · rename_i hn
    split
    · exact absurd rfl (hn _ _)
    · rfl
def tb_madeS : FuncId × Trans := (tb_made8.1, tMadeS)
theorem tb_madeS_ok : Con Try.prog tb_madeS.1 tb_madeS.2 := by
  show Con Try.prog tb_made8.1 tMadeS
  rw [tMadeS_eq]; exact tb_made8_ok
def tb_plainS : FuncId × Trans := (tb_plain8.1, tPlainS)
theorem tb_plainS_ok : Con Try.prog tb_plainS.1 tb_plainS.2 := by
  show Con Try.prog tb_plain8.1 tPlainS
  rw [tPlainS_eq]; exact tb_plain8_ok
theorem of_ng (g : G) : -g.x * -g.x + g.y * g.y = 1 + cd * ((-g.x * -g.x) * (g.y * g.y)) := of_pt (-g)
theorem ofP_ng (g : G) : ofP (-g.x) g.y = -g := ofP_eq (-g)
def tblqS : Tab := tb_madeS :: tb_plainS :: tblq
theorem tblqS_ok : tblqS.OK Try.prog := tab_cons tb_madeS_ok <| tab_cons tb_plainS_ok <| tblq_ok
def o_pof : Orc := { ans := [(24, .one ⟨.leaf (.agg [.whole 0 56]), 1, []⟩), (25, .two ⟨.tup [.agg [.whole 0 8], .atom (.const (.bool true))], 1, []⟩ ⟨.tup [.agg [.whole 0 8], .atom (.const (.bool false))], 1, []⟩), (29, .one ⟨.leaf (.agg [.whole 0 56]), 1, []⟩), (30, .one ⟨.tup [.agg [.whole 0 8], .atom (.var 1)], 2, []⟩), (34, .one ⟨.leaf (.atom (.var 0)), 1, []⟩), (37, .one ⟨.leaf (.atom (.var 0)), 1, []⟩), (38, .one ⟨.leaf (.atom (.var 0)), 1, []⟩), (40, .one ⟨.leaf (.agg [.whole 0 8]), 1, []⟩), (41, .one ⟨.leaf (.agg [.whole 0 8]), 1, []⟩), (42, .one ⟨.tup [.agg [.whole 0 24], .atom (.var 1)], 2, []⟩), (45, .one ⟨.leaf (.agg [.whole 0 56]), 1, []⟩), (46, .one ⟨.leaf (.agg [.whole 0 16]), 1, []⟩), (47, .one ⟨.leaf (.agg [.whole 0 56]), 1, []⟩), (48, .one ⟨.leaf (.agg [.whole 0 16]), 1, []⟩), (49, .two ⟨.leaf (.atom (.const (.bool true))), 0, []⟩ ⟨.leaf (.atom (.const (.bool false))), 0, []⟩), (51, .one ⟨.leaf (.agg [.whole 0 24]), 1, []⟩), (52, .one ⟨.tup [.agg [.whole 0 8], .agg [.whole 1 8]], 2, []⟩), (56, .two ⟨.leaf (.atom (.const (.bool true))), 0, []⟩ ⟨.leaf (.atom (.const (.bool false))), 0, []⟩), (58, .one ⟨.leaf (.agg [.whole 0 8]), 1, []⟩), (59, .one ⟨.leaf (.agg [.whole 0 8]), 1, []⟩), (60, .two ⟨.leaf (.atom (.const (.bool true))), 0, []⟩ ⟨.leaf (.atom (.const (.bool false))), 0, []⟩), (61, .one ⟨.leaf (.atom (.var 0)), 1, []⟩), (62, .one ⟨.leaf (.atom (.var 0)), 1, []⟩), (64, .one ⟨.leaf (.agg [.whole 0 8]), 1, []⟩), (65, .one ⟨.leaf (.agg [.whole 0 8]), 1, []⟩), (66, .two ⟨.leaf (.atom (.const (.bool true))), 0, []⟩ ⟨.leaf (.atom (.const (.bool false))), 0, []⟩), (67, .one ⟨.leaf (.atom (.var 0)), 1, []⟩), (68, .one ⟨.leaf (.atom (.var 0)), 1, []⟩), (70, .two ⟨.leaf (.atom (.const (.bool true))), 0, []⟩ ⟨.leaf (.atom (.const (.bool false))), 0, []⟩), (72, .one ⟨.leaf (.agg [.whole 0 57, .one (.var 1)]), 2, []⟩), (73, .two ⟨.tup [.agg [.whole 0 24], .atom (.const (.bool true))], 1, []⟩ ⟨.tup [.agg [.whole 0 24], .atom (.const (.bool false))], 1, []⟩), (77, .one ⟨.leaf (.agg [.whole 0 24]), 1, []⟩), (78, .one ⟨.tup [.agg [.whole 0 8], .agg [.whole 1 8]], 2, []⟩), (82, .one ⟨.leaf (.agg [.whole 0 8]), 1, []⟩), (83, .one ⟨.leaf (.agg [.whole 0 8]), 1, []⟩), (84, .one ⟨.tup [.agg [.whole 0 24], .atom (.var 1)], 2, []⟩), (88, .one ⟨.leaf (.agg [.whole 0 8]), 1, []⟩), (89, .one ⟨.leaf (.agg [.whole 0 8]), 1, []⟩), (90, .one ⟨.leaf (.agg [.whole 0 8]), 1, []⟩), (91, .one ⟨.tup [.agg [.whole 0 24], .atom (.var 1)], 2, []⟩), (97, .two ⟨.leaf (.atom (.const (.bool true))), 0, []⟩ ⟨.leaf (.atom (.const (.bool false))), 0, []⟩), (98, .one ⟨.leaf (.atom (.var 0)), 1, []⟩), (100, .one ⟨.leaf (.agg [.whole 0 24]), 1, []⟩), (101, .one ⟨.leaf (.agg [.whole 0 24]), 1, []⟩), (102, .two ⟨.leaf (.atom (.const (.bool true))), 0, []⟩ ⟨.leaf (.atom (.const (.bool false))), 0, []⟩), (103, .one ⟨.leaf (.atom (.var 0)), 1, []⟩), (106, .two ⟨.leaf (.atom (.const (.bool true))), 0, []⟩ ⟨.leaf (.atom (.const (.bool false))), 0, []⟩), (107, .one ⟨.leaf (.atom (.var 0)), 1, []⟩), (109, .one ⟨.leaf (.agg [.whole 0 24]), 1, []⟩), (110, .one ⟨.leaf (.agg [.whole 0 24]), 1, []⟩), (111, .one ⟨.leaf (.agg [.whole 0 24]), 1, []⟩), (112, .two ⟨.leaf (.atom (.const (.bool true))), 0, []⟩ ⟨.leaf (.atom (.const (.bool false))), 0, []⟩), (113, .one ⟨.leaf (.atom (.var 0)), 1, []⟩), (115, .one ⟨.leaf (.agg [.whole 0 24]), 1, []⟩), (116, .one ⟨.leaf (.agg [.whole 0 57, .one (.var 1)]), 2, []⟩), (117, .one ⟨.leaf (.agg [.whole 0 48]), 1, []⟩), (118, .two ⟨.leaf (.atom (.const (.bool true))), 0, []⟩ ⟨.leaf (.atom (.const (.bool false))), 0, []⟩), (119, .one ⟨.leaf (.atom (.var 0)), 1, []⟩), (121, .two ⟨.leaf (.atom (.const (.bool true))), 0, []⟩ ⟨.leaf (.atom (.const (.bool false))), 0, []⟩), (122, .one ⟨.leaf (.atom (.var 0)), 1, []⟩)], lps := [], ords := [(6, [.quiet 0, .quiet 2, .call 1 [], .call 3 [], .call 4 []]), (15, [.quiet 0, .quiet 2, .call 1 [7], .call 3 [7], .pure 4, .pure 5, .pure 6, .make 7 [], .last 8, .last 9]), (16, [.pure 0, .pure 1, .pure 2, .quiet 3, .quiet 4, .pure 5, .quiet 6, .quiet 7, .call 8 [], .quiet 9, .pure 10, .pure 11, .quiet 12, .quiet 13, .pure 14, .quiet 15, .quiet 16, .call 17 [], .call 18 [], .quiet 19, .pure 20, .quiet 21, .quiet 22, .call 23 [], .call 24 [], .quiet 25, .pure 26, .call 27 [], .quiet 28, .pure 29])] }
def t_pof : Tree :=
  .new <|
  .new <|
  .new <|
  .call2 26 [.agg [.whole 0 56]] ([], []) (.tup [.agg [.whole 4 8], .atom (.const (.bool true))]) 1 [] (
    .new <|
    .call 26 [.agg [.whole 1 56]] ([], []) (.tup [.agg [.whole 5 8], .atom (.var 6)]) 2 [] <|
    .new <|
    .calc (.unOp .not 4 (.tmp 36)) 4 [(36, .leaf (.atom (.var 6)))] ([], []) (.leaf (.atom (.var 7))) 1 <|
    .ite (.var 7) (
      .ret ([], []) (.leaf (.atom (.const (.bool false))))) <|
    .call 24 [.agg [.whole 4 8], .agg [.whole 5 8]] ([], []) (.tup [.agg [.whole 8 24], .atom (.var 9)]) 2 [] <|
    .new <|
    .call 28 [.agg [.whole 0 56]] ([], []) (.leaf (.agg [.whole 10 16])) 1 [] <|
    .call 28 [.agg [.whole 1 56]] ([], []) (.leaf (.agg [.whole 11 16])) 1 [] <|
    .call2 27 [.agg [.whole 10 16], .agg [.whole 11 16]] ([], []) (.leaf (.atom (.const (.bool true)))) 0 [] (
      .call 21 [.agg [.whole 8 24]] ([], []) (.tup [.agg [.whole 12 8], .agg [.whole 13 8]]) 2 [] <|
      .new <|
      .new <|
      .calc2 (.binOp .neq 48 (.tmp 55) (.const (.int .i64 0)) 48) 4 [(55, .leaf (.atom (.var 9)))] ([], []) (.leaf (.atom (.const (.bool true)))) 0 (
        .ret ([], []) (.leaf (.atom (.const (.bool false))))) (.leaf (.atom (.const (.bool false)))) 0 <|
      .call2 22 [.agg [.whole 12 8], .agg [.whole 4 8]] ([], []) (.leaf (.atom (.const (.bool true)))) 0 [] (
        .call2 22 [.agg [.whole 13 8], .agg [.whole 5 8]] ([], []) (.leaf (.atom (.const (.bool true)))) 0 [] (
          .call2 10 [.agg [.whole 2 57, .one (.var 3)]] ([], []) (.tup [.agg [.whole 14 24], .atom (.const (.bool true))]) 1 [] (
            .new <|
            .call 21 [.agg [.whole 14 24]] ([], []) (.tup [.agg [.whole 15 8], .agg [.whole 16 8]]) 2 [] <|
            .new <|
            .new <|
            .call 24 [.agg [.whole 15 8], .agg [.whole 16 8]] ([], []) (.tup [.agg [.whole 17 24], .atom (.var 18)]) 2 [] <|
            .new <|
            .call 23 [.agg [.whole 15 8]] ([], []) (.leaf (.agg [.whole 19 8])) 1 [] <|
            .call 24 [.agg [.whole 19 8], .agg [.whole 16 8]] ([], []) (.tup [.agg [.whole 20 24], .atom (.var 21)]) 2 [] <|
            .new <|
            .calc2 (.binOp .eql 48 (.tmp 96) (.const (.int .i64 0)) 48) 4 [(96, .leaf (.atom (.var 18)))] ([], []) (.leaf (.atom (.const (.bool true)))) 0 (
              .call2 16 [.agg [.whole 17 24], .agg [.whole 14 24]] ([], []) (.leaf (.atom (.const (.bool true)))) 0 [] (
                .calc2 (.binOp .eql 48 (.tmp 105) (.const (.int .i64 0)) 48) 4 [(105, .leaf (.atom (.var 21)))] ([], []) (.leaf (.atom (.const (.bool true)))) 0 (
                  .call 25 [.agg [.whole 14 24]] ([], []) (.leaf (.agg [.whole 22 24])) 1 [] <|
                  .call2 16 [.agg [.whole 20 24], .agg [.whole 22 24]] ([], []) (.leaf (.atom (.const (.bool true)))) 0 [] (
                    .call 30 [.agg [.whole 2 57, .one (.var 3)]] ([], []) (.leaf (.agg [.whole 23 48])) 1 [] <|
                    .call2 29 [.agg [.whole 14 24], .agg [.whole 23 48]] ([], []) (.leaf (.atom (.const (.bool true)))) 0 [] (
                      .call2 20 [] ([], []) (.leaf (.atom (.const (.bool true)))) 0 [] (
                        .ret ([], []) (.leaf (.atom (.const (.bool true))))) (.leaf (.atom (.const (.bool false)))) 0 [] <|
                      .ret ([], []) (.leaf (.atom (.const (.bool false))))) (.leaf (.atom (.const (.bool false)))) 0 [] <|
                    .ret ([], []) (.leaf (.atom (.const (.bool false))))) (.leaf (.atom (.const (.bool false)))) 0 [] <|
                  .ret ([], []) (.leaf (.atom (.const (.bool false))))) (.leaf (.atom (.const (.bool false)))) 0 <|
                .ret ([], []) (.leaf (.atom (.const (.bool false))))) (.leaf (.atom (.const (.bool false)))) 0 [] <|
              .ret ([], []) (.leaf (.atom (.const (.bool false))))) (.leaf (.atom (.const (.bool false)))) 0 <|
            .ret ([], []) (.leaf (.atom (.const (.bool false))))) (.tup [.agg [.whole 14 24], .atom (.const (.bool false))]) 1 [] <|
          .new <|
          .call 21 [.agg [.whole 14 24]] ([], []) (.tup [.agg [.whole 15 8], .agg [.whole 16 8]]) 2 [] <|
          .new <|
          .new <|
          .call 24 [.agg [.whole 15 8], .agg [.whole 16 8]] ([], []) (.tup [.agg [.whole 17 24], .atom (.var 18)]) 2 [] <|
          .new <|
          .call 23 [.agg [.whole 15 8]] ([], []) (.leaf (.agg [.whole 19 8])) 1 [] <|
          .call 24 [.agg [.whole 19 8], .agg [.whole 16 8]] ([], []) (.tup [.agg [.whole 20 24], .atom (.var 21)]) 2 [] <|
          .new <|
          .ret ([], []) (.leaf (.atom (.const (.bool false))))) (.leaf (.atom (.const (.bool false)))) 0 [] <|
        .ret ([], []) (.leaf (.atom (.const (.bool false))))) (.leaf (.atom (.const (.bool false)))) 0 [] <|
      .ret ([], []) (.leaf (.atom (.const (.bool false))))) (.leaf (.atom (.const (.bool false)))) 0 [] <|
    .calc2 (.binOp .neq 48 (.tmp 69) (.const (.int .i64 13)) 48) 4 [(69, .leaf (.atom (.var 9)))] ([], []) (.leaf (.atom (.const (.bool true)))) 0 (
      .ret ([], []) (.leaf (.atom (.const (.bool false))))) (.leaf (.atom (.const (.bool false)))) 0 <|
    .call2 10 [.agg [.whole 2 57, .one (.var 3)]] ([], []) (.tup [.agg [.whole 12 24], .atom (.const (.bool true))]) 1 [] (
      .new <|
      .call 21 [.agg [.whole 12 24]] ([], []) (.tup [.agg [.whole 13 8], .agg [.whole 14 8]]) 2 [] <|
      .new <|
      .new <|
      .call 24 [.agg [.whole 13 8], .agg [.whole 14 8]] ([], []) (.tup [.agg [.whole 15 24], .atom (.var 16)]) 2 [] <|
      .new <|
      .call 23 [.agg [.whole 13 8]] ([], []) (.leaf (.agg [.whole 17 8])) 1 [] <|
      .call 24 [.agg [.whole 17 8], .agg [.whole 14 8]] ([], []) (.tup [.agg [.whole 18 24], .atom (.var 19)]) 2 [] <|
      .new <|
      .calc2 (.binOp .eql 48 (.tmp 96) (.const (.int .i64 0)) 48) 4 [(96, .leaf (.atom (.var 16)))] ([], []) (.leaf (.atom (.const (.bool true)))) 0 (
        .call2 16 [.agg [.whole 15 24], .agg [.whole 12 24]] ([], []) (.leaf (.atom (.const (.bool true)))) 0 [] (
          .calc2 (.binOp .eql 48 (.tmp 105) (.const (.int .i64 0)) 48) 4 [(105, .leaf (.atom (.var 19)))] ([], []) (.leaf (.atom (.const (.bool true)))) 0 (
            .call 25 [.agg [.whole 12 24]] ([], []) (.leaf (.agg [.whole 20 24])) 1 [] <|
            .call2 16 [.agg [.whole 18 24], .agg [.whole 20 24]] ([], []) (.leaf (.atom (.const (.bool true)))) 0 [] (
              .call 30 [.agg [.whole 2 57, .one (.var 3)]] ([], []) (.leaf (.agg [.whole 21 48])) 1 [] <|
              .call2 29 [.agg [.whole 12 24], .agg [.whole 21 48]] ([], []) (.leaf (.atom (.const (.bool true)))) 0 [] (
                .call2 20 [] ([], []) (.leaf (.atom (.const (.bool true)))) 0 [] (
                  .ret ([], []) (.leaf (.atom (.const (.bool true))))) (.leaf (.atom (.const (.bool false)))) 0 [] <|
                .ret ([], []) (.leaf (.atom (.const (.bool false))))) (.leaf (.atom (.const (.bool false)))) 0 [] <|
              .ret ([], []) (.leaf (.atom (.const (.bool false))))) (.leaf (.atom (.const (.bool false)))) 0 [] <|
            .ret ([], []) (.leaf (.atom (.const (.bool false))))) (.leaf (.atom (.const (.bool false)))) 0 <|
          .ret ([], []) (.leaf (.atom (.const (.bool false))))) (.leaf (.atom (.const (.bool false)))) 0 [] <|
        .ret ([], []) (.leaf (.atom (.const (.bool false))))) (.leaf (.atom (.const (.bool false)))) 0 <|
      .ret ([], []) (.leaf (.atom (.const (.bool false))))) (.tup [.agg [.whole 12 24], .atom (.const (.bool false))]) 1 [] <|
    .new <|
    .call 21 [.agg [.whole 12 24]] ([], []) (.tup [.agg [.whole 13 8], .agg [.whole 14 8]]) 2 [] <|
    .new <|
    .new <|
    .call 24 [.agg [.whole 13 8], .agg [.whole 14 8]] ([], []) (.tup [.agg [.whole 15 24], .atom (.var 16)]) 2 [] <|
    .new <|
    .call 23 [.agg [.whole 13 8]] ([], []) (.leaf (.agg [.whole 17 8])) 1 [] <|
    .call 24 [.agg [.whole 17 8], .agg [.whole 14 8]] ([], []) (.tup [.agg [.whole 18 24], .atom (.var 19)]) 2 [] <|
    .new <|
    .ret ([], []) (.leaf (.atom (.const (.bool false))))) (.tup [.agg [.whole 4 8], .atom (.const (.bool false))]) 1 [] <|
  .new <|
  .call 26 [.agg [.whole 1 56]] ([], []) (.tup [.agg [.whole 5 8], .atom (.var 6)]) 2 [] <|
  .new <|
  .ret ([], []) (.leaf (.atom (.const (.bool false))))
theorem c_pof : compF Try.prog Try.f7 o_pof (Try.f7.body.getD .skip) (symIn [.agg [.whole 0 56], .agg [.whole 1 56], .agg [.whole 2 57, .one (.var 3)]] Try.f7.ntmps 4) = some t_pof := by kernel_rfl
theorem g_pof : goodC Try.prog o_pof.ords (Try.f7.body.getD .skip) = true := by kernel_rfl
set_option maxRecDepth 100000 in
set_option maxHeartbeats 4000000 in
theorem aw_pof (b1 : List Int) (lb1 : b1.length = 56) (yb1 : By b1) (b2 : List Int) (lb2 : b2.length = 56) (yb2 : By b2) (b3 : List Int) (lb3 : b3.length = 57) (yb3 : By b3) (n3 : Int) (r3 : I64 n3) : AWp Try.prog tblqS (fun a => a = .bool true) t_pof [] [.ints .u8 b1, .ints .u8 b2, .ints .u8 b3, .int .i64 n3] := by
  have m1 := And.intro lb1 yb1
  have m2 := And.intro lb2 yb2
  have m3 := And.intro lb3 yb3
  have a3 := of_pt (spotG b3 n3)
  have a4 := ofP_eq (spotG b3 n3)
  have a5 := of_ng (spotG b3 n3)
  have a6 := ofP_ng (spotG b3 n3)
  by_cases hon : z (bval b1) * z (bval b1) + z (bval b2) * z (bval b2) = 1 + cd * ((z (bval b1) * z (bval b1)) * (z (bval b2) * z (bval b2)))
  · have a1 := (ofP_x hon).1
    have a2 := (ofP_x hon).2
    repeat ((conv => whnf) <;> first | exact rfl | with_reducible refine And.intro (by assumption) ?_ | with_reducible refine cTe (by assumption) ?_ | with_reducible refine cTe rfl ?_ | with_reducible refine cFe (by assumption) ?_ | with_reducible refine cEq (by assumption) ?_ | with_reducible refine cTt ?_ | with_reducible refine cNt ?_ | with_reducible refine cTd rfl ?_ | with_reducible refine cN (cTd rfl ?_) | refine And.intro (by decide) ?_ | refine cFd (by decide) ?_ | refine cTd (by decide) ?_ | refine cN (cFd (by decide) ?_))
  · repeat ((conv => whnf) <;> first | exact rfl | with_reducible refine And.intro (by assumption) ?_ | with_reducible refine cTe (by assumption) ?_ | with_reducible refine cTe rfl ?_ | with_reducible refine cFe (by assumption) ?_ | with_reducible refine cEq (by assumption) ?_ | with_reducible refine cTt ?_ | with_reducible refine cNt ?_ | with_reducible refine cTd rfl ?_ | with_reducible refine cN (cTd rfl ?_) | refine And.intro (by decide) ?_ | refine cFd (by decide) ?_ | refine cTd (by decide) ?_ | refine cN (cFd (by decide) ?_))
set_option maxRecDepth 100000 in
theorem pof_any (b1 : List Int) (lb1 : b1.length = 56) (yb1 : By b1) (b2 : List Int) (lb2 : b2.length = 56) (yb2 : By b2) (b3 : List Int) (lb3 : b3.length = 57) (yb3 : By b3) (n3 : Int) (r3 : I64 n3) (w : World) : Calls Try.prog 7 #[AG (ys b1), AG (ys b2), AG (ys b3 ++ [.int .i64 n3])] w (OutV (.bool true) w) :=
  law_tree tblqS_ok o_pof [.agg [.whole 0 56], .agg [.whole 1 56], .agg [.whole 2 57, .one (.var 3)]] [AG (ys b1), AG (ys b2), AG (ys b3), .int .i64 n3] [.ints .u8 b1, .ints .u8 b2, .ints .u8 b3, .int .i64 n3] Try.func7 rfl c_pof (by simp [Leaf.den, catS, Seg.den, Atom.den, cellsAt, AG, Value.cells]) (by intro x hx; simp only [List.mem_cons, List.not_mem_nil, or_false] at hx; rcases hx with rfl | rfl | rfl <;> first | exact ok_arr rfl lb1 | exact ok_arr rfl lb2 | exact ok_spot rfl lb3 rfl rfl) ⟨_, _, rfl, arr_val b1, ⟨_, _, rfl, arr_val b2, ⟨_, _, rfl, arr_val b3, _, _, rfl, int_val n3, rfl⟩⟩⟩ g_pof (aw_pof b1 lb1 yb1 b2 lb2 yb2 b3 lb3 yb3 n3 r3)
end Go.Proofs.Ytnglocmggmhldaa
