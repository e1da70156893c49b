/- Chapter 5: laws with the document's answer -/
import Derived.Test.YtohjkkmgcibemaaRfw
import Derived.Test.YtohjkkmgcibemaaRtd
import Derived.Test.YtohjkkmgcibemaaOpb
set_option linter.unusedSimpArgs false
set_option linter.unusedVariables false
namespace Go.Proofs.Ytohjkkmgcibemaa
open Go.RowKit FdP FdP.Ch
def tbl5 : Tab := tb_powE0 :: tb_made :: tb_plain :: tb_is :: tb_zero :: tb_inverse :: tb_negative :: tb_abs :: tb_root :: tb_ratio :: tb_awake5 :: tb_rpow :: tb_rinv :: tb_rneg5 :: tb_rabs5 :: tb_rroot5 :: tb_rratio5 :: []
theorem tbl5_ok : tbl5.OK Try.prog := tab_cons tb_powE0_ok <| tab_cons tb_made_ok <| tab_cons tb_plain_ok <| tab_cons tb_is_ok <| tab_cons tb_zero_ok <| tab_cons tb_inverse_ok <| tab_cons tb_negative_ok <| tab_cons tb_abs_ok <| tab_cons tb_root_ok <| tab_cons tb_ratio_ok <| tab_cons tb_awake5_ok <| tab_cons tb_rpow_ok <| tab_cons tb_rinv_ok <| tab_cons tb_rneg5_ok <| tab_cons tb_rabs5_ok <| tab_cons tb_rroot5_ok <| tab_cons tb_rratio5_ok <| tab_nil _
theorem cB1 {p A B : Prop} (h : p) (a : A) : Sel (dec p == true) A B := by rw [dec_true h]; exact cT rfl a
theorem cB0 {p A B : Prop} (h : ¬ p) (a : A) : Sel (dec p == false) A B := by rw [dec_false h]; exact cT rfl a
theorem cBB {b : Bool} {A B : Prop} (a : A) : Sel (b == b) A B := cT (by simp) a
theorem cNB {b : Bool} {A B : Prop} (a : B) : Sel (!(b == b)) A B := cF (by simp) a
def o_rpowers : Orc := { ans := [(8, .one ⟨.leaf (.atom (.var 0)), 1, []⟩), (9, .two ⟨.leaf (.atom (.const (.bool true))), 0, []⟩ ⟨.leaf (.atom (.const (.bool false))), 0, []⟩), (10, .two ⟨.leaf (.atom (.const (.bool true))), 0, []⟩ ⟨.leaf (.atom (.const (.bool false))), 0, []⟩), (12, .one ⟨.leaf (.agg [.whole 0 56]), 1, []⟩), (13, .two ⟨.tup [.agg [.whole 0 8], .atom (.const (.bool true))], 1, []⟩ ⟨.tup [.agg [.whole 0 8], .atom (.const (.bool false))], 1, []⟩), (18, .one ⟨.leaf (.agg [.whole 0 8]), 1, []⟩), (20, .one ⟨.leaf (.agg [.whole 0 8]), 1, []⟩), (21, .one ⟨.leaf (.agg [.whole 0 56]), 1, []⟩), (22, .one ⟨.leaf (.agg [.whole 0 16]), 1, []⟩), (24, .one ⟨.leaf (.agg [.whole 0 16]), 1, []⟩), (25, .two ⟨.leaf (.atom (.const (.bool true))), 0, []⟩ ⟨.leaf (.atom (.const (.bool false))), 0, []⟩), (26, .one ⟨.leaf (.atom (.var 0)), 1, []⟩), (28, .two ⟨.leaf (.atom (.const (.bool true))), 0, []⟩ ⟨.leaf (.atom (.const (.bool false))), 0, []⟩), (29, .one ⟨.leaf (.atom (.var 0)), 1, []⟩)], lps := [], ords := [(4, [.pure 0, .pure 1, .quiet 2, .pure 3, .quiet 5, .pure 7, .call 4 [], .call 6 [], .call 8 [], .call 9 [], .quiet 10, .pure 11, .call 12 [], .quiet 13, .pure 14])] }
def t_rpowers : Tree :=
  .new <|
  .calc (.call { callee := .builtin .len, args := #[.tmp 7], argTypes := #[52] }) 3 [(7, .leaf (.atom (.var 1)))] ([], []) (.leaf (.atom (.var 2))) 1 <|
  .calc2 (.binOp .gtr 3 (.tmp 8) (.const (.int .i64 60)) 3) 4 [(8, .leaf (.atom (.var 2)))] ([], []) (.leaf (.atom (.const (.bool true)))) 0 (
    .call2 16 [] ([], []) (.leaf (.atom (.const (.bool true)))) 0 [] (
      .ret ([], []) (.leaf (.atom (.const (.bool true))))) (.leaf (.atom (.const (.bool false)))) 0 [] <|
    .ret ([], []) (.leaf (.atom (.const (.bool false))))) (.leaf (.atom (.const (.bool false)))) 0 <|
  .call2 11 [.agg [.whole 0 56]] ([], []) (.tup [.agg [.whole 3 8], .atom (.const (.bool true))]) 1 [] (
    .new <|
    .call 31 [.agg [.whole 3 8], .atom (.var 1)] ([], []) (.leaf (.agg [.whole 4 8])) 1 [] <|
    .call 14 [.agg [.whole 0 56]] ([], []) (.leaf (.agg [.whole 5 16])) 1 [] <|
    .call 32 [.agg [.whole 5 16], .atom (.var 1)] ([], []) (.leaf (.agg [.whole 6 16])) 1 [] <|
    .call2 17 [.agg [.whole 4 8], .agg [.whole 6 16]] ([], []) (.leaf (.atom (.const (.bool true)))) 0 [] (
      .call2 16 [] ([], []) (.leaf (.atom (.const (.bool true)))) 0 [] (
        .ret ([], []) (.leaf (.atom (.const (.bool true))))) (.leaf (.atom (.const (.bool false)))) 0 [] <|
      .ret ([], []) (.leaf (.atom (.const (.bool false))))) (.leaf (.atom (.const (.bool false)))) 0 [] <|
    .ret ([], []) (.leaf (.atom (.const (.bool false))))) (.tup [.agg [.whole 3 8], .atom (.const (.bool false))]) 1 [] <|
  .new <|
  .ret ([], []) (.leaf (.atom (.const (.bool false))))
theorem c_rpowers : compF Try.prog Try.f9 o_rpowers (Try.f9.body.getD .skip) (symIn [.agg [.whole 0 56], .atom (.var 1)] Try.f9.ntmps 2) = some t_rpowers := by kernel_rfl
theorem g_rpowers : goodC Try.prog o_rpowers.ords (Try.f9.body.getD .skip) = true := by kernel_rfl
set_option maxRecDepth 100000 in
set_option maxHeartbeats 4000000 in
theorem aw_rpowers (b1 : List Int) (lb1 : b1.length = 56) (yb1 : By b1) (b2 : List Int) (yb2 : By b2) : AWp Try.prog tbl5 (fun a => a = .bool true) t_rpowers [] [.ints .u8 b1, .isl .u8 b2] := by
  have m1 := And.intro lb1 yb1
  by_cases hl : (b2.length : Int) > 60
  · repeat ((conv => whnf) <;> first | exact rfl | with_reducible refine And.intro (by assumption) ?_ | with_reducible refine cTe (by assumption) ?_ | with_reducible refine cFe (by assumption) ?_ | with_reducible refine cTe rfl ?_ | with_reducible refine cTd (by assumption) ?_ | with_reducible refine cFd (by assumption) ?_ | with_reducible refine cTt ?_ | with_reducible refine cNt ?_ | with_reducible refine cBB ?_ | with_reducible refine cB1 (by assumption) ?_ | with_reducible refine cB0 (by assumption) ?_ | with_reducible refine cNB ?_)
  · have m2 : By b2 ∧ b2.length ≤ 100000 := ⟨yb2, by omega⟩
    repeat ((conv => whnf) <;> first | exact rfl | with_reducible refine And.intro (by assumption) ?_ | with_reducible refine cTe (by assumption) ?_ | with_reducible refine cFe (by assumption) ?_ | with_reducible refine cTe rfl ?_ | with_reducible refine cTd (by assumption) ?_ | with_reducible refine cFd (by assumption) ?_ | with_reducible refine cTt ?_ | with_reducible refine cNt ?_ | with_reducible refine cBB ?_ | with_reducible refine cB1 (by assumption) ?_ | with_reducible refine cB0 (by assumption) ?_ | with_reducible refine cNB ?_)
set_option maxRecDepth 100000 in
theorem rpowers_any (b1 : List Int) (lb1 : b1.length = 56) (yb1 : By b1) (b2 : List Int) (yb2 : By b2) (v2 : Value) (w : World) (s2 : Bv w v2 b2) : Calls Try.prog 9 #[AG (ys b1), v2] w (OutV (.bool true) w) :=
  law_tree tbl5_ok o_rpowers [.agg [.whole 0 56], .atom (.var 1)] [AG (ys b1), v2] [.ints .u8 b1, .isl .u8 b2] Try.func9 rfl c_rpowers rfl (by intro x hx; simp only [List.mem_cons, List.not_mem_nil, or_false] at hx; rcases hx with rfl | rfl <;> first | exact ok_arr rfl lb1 | exact ok_one rfl (bv_one s2)) ⟨_, _, rfl, arr_val b1, ⟨_, _, rfl, bv_val s2, rfl⟩⟩ g_rpowers (aw_rpowers b1 lb1 yb1 b2 yb2)
def o_rinverts : Orc := { ans := [(7, .one ⟨.leaf (.agg [.whole 0 56]), 1, []⟩), (8, .two ⟨.tup [.agg [.whole 0 8], .atom (.const (.bool true))], 1, []⟩ ⟨.tup [.agg [.whole 0 8], .atom (.const (.bool false))], 1, []⟩), (11, .one ⟨.leaf (.agg [.whole 0 56]), 1, []⟩), (12, .one ⟨.leaf (.agg [.whole 0 16]), 1, []⟩), (15, .one ⟨.leaf (.agg [.whole 0 8]), 1, []⟩), (16, .one ⟨.leaf (.agg [.whole 0 8]), 1, []⟩), (17, .one ⟨.leaf (.agg [.whole 0 16]), 1, []⟩), (18, .one ⟨.leaf (.agg [.whole 0 16]), 1, []⟩), (19, .two ⟨.leaf (.atom (.const (.bool true))), 0, []⟩ ⟨.leaf (.atom (.const (.bool false))), 0, []⟩), (20, .one ⟨.leaf (.atom (.var 0)), 1, []⟩), (22, .one ⟨.leaf (.agg [.whole 0 8]), 1, []⟩), (23, .one ⟨.leaf (.atom (.var 0)), 1, []⟩), (24, .one ⟨.leaf (.agg [.whole 0 16]), 1, []⟩), (25, .one ⟨.leaf (.atom (.var 0)), 1, []⟩), (26, .two ⟨.leaf (.atom (.const (.bool true))), 0, []⟩ ⟨.leaf (.atom (.const (.bool false))), 0, []⟩), (27, .one ⟨.leaf (.atom (.var 0)), 1, []⟩), (29, .one ⟨.leaf (.agg [.whole 0 8]), 1, []⟩), (30, .one ⟨.leaf (.agg [.whole 0 8]), 1, []⟩), (31, .one ⟨.leaf (.agg [.whole 0 16]), 1, []⟩), (32, .one ⟨.leaf (.agg [.whole 0 16]), 1, []⟩), (33, .two ⟨.leaf (.atom (.const (.bool true))), 0, []⟩ ⟨.leaf (.atom (.const (.bool false))), 0, []⟩), (34, .one ⟨.leaf (.atom (.var 0)), 1, []⟩), (36, .two ⟨.leaf (.atom (.const (.bool true))), 0, []⟩ ⟨.leaf (.atom (.const (.bool false))), 0, []⟩), (37, .one ⟨.leaf (.atom (.var 0)), 1, []⟩)], lps := [], ords := [(3, [.pure 0, .pure 1, .quiet 2, .quiet 4, .call 3 [], .call 5 [], .call 6 [], .quiet 7, .pure 8, .quiet 9, .quiet 11, .call 10 [], .call 12 [], .quiet 13, .quiet 14, .pure 15, .quiet 16, .quiet 18, .call 17 [], .call 19 [], .call 20 [], .quiet 21, .pure 22, .call 23 [], .quiet 24, .pure 25])] }
def t_rinverts : Tree :=
  .new <|
  .call2 11 [.agg [.whole 0 56]] ([], []) (.tup [.agg [.whole 1 8], .atom (.const (.bool true))]) 1 [] (
    .new <|
    .call 14 [.agg [.whole 0 56]] ([], []) (.leaf (.agg [.whole 2 16])) 1 [] <|
    .new <|
    .call 23 [.agg [.whole 1 8]] ([], []) (.leaf (.agg [.whole 3 8])) 1 [] <|
    .call 25 [.agg [.whole 2 16]] ([], []) (.leaf (.agg [.whole 4 16])) 1 [] <|
    .call2 17 [.agg [.whole 3 8], .agg [.whole 4 16]] ([], []) (.leaf (.atom (.const (.bool true)))) 0 [] (
      .call 26 [.agg [.whole 1 8]] ([], []) (.leaf (.atom (.var 5))) 1 [] <|
      .call 27 [.agg [.whole 2 16]] ([], []) (.leaf (.atom (.var 6))) 1 [] <|
      .calc2 (.binOp .eql 4 (.tmp 23) (.tmp 25) 4) 4 [(23, .leaf (.atom (.var 5))), (25, .leaf (.atom (.var 6)))] ([], []) (.leaf (.atom (.const (.bool true)))) 0 (
        .call 24 [.agg [.whole 1 8]] ([], []) (.leaf (.agg [.whole 7 8])) 1 [] <|
        .call 28 [.agg [.whole 2 16]] ([], []) (.leaf (.agg [.whole 8 16])) 1 [] <|
        .call2 17 [.agg [.whole 7 8], .agg [.whole 8 16]] ([], []) (.leaf (.atom (.const (.bool true)))) 0 [] (
          .call2 16 [] ([], []) (.leaf (.atom (.const (.bool true)))) 0 [] (
            .ret ([], []) (.leaf (.atom (.const (.bool true))))) (.leaf (.atom (.const (.bool false)))) 0 [] <|
          .ret ([], []) (.leaf (.atom (.const (.bool false))))) (.leaf (.atom (.const (.bool false)))) 0 [] <|
        .ret ([], []) (.leaf (.atom (.const (.bool false))))) (.leaf (.atom (.const (.bool false)))) 0 <|
      .ret ([], []) (.leaf (.atom (.const (.bool false))))) (.leaf (.atom (.const (.bool false)))) 0 [] <|
    .ret ([], []) (.leaf (.atom (.const (.bool false))))) (.tup [.agg [.whole 1 8], .atom (.const (.bool false))]) 1 [] <|
  .new <|
  .call 14 [.agg [.whole 0 56]] ([], []) (.leaf (.agg [.whole 2 16])) 1 [] <|
  .new <|
  .ret ([], []) (.leaf (.atom (.const (.bool false))))
theorem c_rinverts : compF Try.prog Try.f6 o_rinverts (Try.f6.body.getD .skip) (symIn [.agg [.whole 0 56]] Try.f6.ntmps 1) = some t_rinverts := by kernel_rfl
theorem g_rinverts : goodC Try.prog o_rinverts.ords (Try.f6.body.getD .skip) = true := by kernel_rfl
set_option maxRecDepth 100000 in
set_option maxHeartbeats 4000000 in
theorem aw_rinverts (b1 : List Int) (lb1 : b1.length = 56) (yb1 : By b1) : AWp Try.prog tbl5 (fun a => a = .bool true) t_rinverts [] [.ints .u8 b1] := by
  have m1 := And.intro lb1 yb1
  repeat ((conv => whnf) <;> first | exact rfl | with_reducible refine And.intro (by assumption) ?_ | with_reducible refine cTe (by assumption) ?_ | with_reducible refine cFe (by assumption) ?_ | with_reducible refine cTe rfl ?_ | with_reducible refine cTd (by assumption) ?_ | with_reducible refine cFd (by assumption) ?_ | with_reducible refine cTt ?_ | with_reducible refine cNt ?_ | with_reducible refine cBB ?_ | with_reducible refine cB1 (by assumption) ?_ | with_reducible refine cB0 (by assumption) ?_ | with_reducible refine cNB ?_)
set_option maxRecDepth 100000 in
theorem rinverts_any (b1 : List Int) (lb1 : b1.length = 56) (yb1 : By b1) (w : World) : Calls Try.prog 6 #[AG (ys b1)] w (OutV (.bool true) w) :=
  law_tree tbl5_ok o_rinverts [.agg [.whole 0 56]] [AG (ys b1)] [.ints .u8 b1] Try.func6 rfl c_rinverts rfl (by intro x hx; simp only [List.mem_cons, List.not_mem_nil, or_false] at hx; subst hx <;> first | exact ok_arr rfl lb1) ⟨_, _, rfl, arr_val b1, rfl⟩ g_rinverts (aw_rinverts b1 lb1 yb1)
def o_rtakes : Orc := { ans := [(10, .one ⟨.leaf (.agg [.whole 0 56]), 1, []⟩), (11, .two ⟨.tup [.agg [.whole 0 8], .atom (.const (.bool true))], 1, []⟩ ⟨.tup [.agg [.whole 0 8], .atom (.const (.bool false))], 1, []⟩), (15, .one ⟨.leaf (.agg [.whole 0 8]), 1, []⟩), (16, .one ⟨.tup [.agg [.whole 0 8], .atom (.var 1)], 2, []⟩), (20, .one ⟨.leaf (.agg [.whole 0 56]), 1, []⟩), (21, .one ⟨.leaf (.agg [.whole 0 16]), 1, []⟩), (22, .one ⟨.tup [.agg [.whole 0 16], .atom (.var 1)], 2, []⟩), (26, .one ⟨.leaf (.atom (.var 0)), 1, []⟩), (29, .one ⟨.leaf (.agg [.whole 0 8]), 1, []⟩), (30, .two ⟨.leaf (.atom (.const (.bool true))), 0, []⟩ ⟨.leaf (.atom (.const (.bool false))), 0, []⟩), (31, .one ⟨.leaf (.atom (.var 0)), 1, []⟩), (34, .two ⟨.leaf (.atom (.const (.bool true))), 0, []⟩ ⟨.leaf (.atom (.const (.bool false))), 0, []⟩), (35, .one ⟨.leaf (.atom (.var 0)), 1, []⟩), (37, .two ⟨.leaf (.atom (.const (.bool true))), 0, []⟩ ⟨.leaf (.atom (.const (.bool false))), 0, []⟩), (38, .one ⟨.leaf (.atom (.var 0)), 1, []⟩), (41, .one ⟨.leaf (.agg [.whole 0 8]), 1, []⟩), (42, .one ⟨.leaf (.agg [.whole 0 16]), 1, []⟩), (43, .two ⟨.leaf (.atom (.const (.bool true))), 0, []⟩ ⟨.leaf (.atom (.const (.bool false))), 0, []⟩), (44, .one ⟨.leaf (.atom (.var 0)), 1, []⟩), (47, .two ⟨.leaf (.atom (.const (.bool true))), 0, []⟩ ⟨.leaf (.atom (.const (.bool false))), 0, []⟩), (48, .one ⟨.leaf (.atom (.var 0)), 1, []⟩), (50, .two ⟨.leaf (.atom (.const (.bool true))), 0, []⟩ ⟨.leaf (.atom (.const (.bool false))), 0, []⟩), (51, .one ⟨.leaf (.atom (.var 0)), 1, []⟩)], lps := [] }
def t_rtakes : Tree :=
  .new <|
  .call2 11 [.agg [.whole 0 56]] ([], []) (.tup [.agg [.whole 1 8], .atom (.const (.bool true))]) 1 [] (
    .new <|
    .call 12 [.agg [.whole 1 8]] ([], []) (.tup [.agg [.whole 2 8], .atom (.var 3)]) 2 [] <|
    .new <|
    .call 14 [.agg [.whole 0 56]] ([], []) (.leaf (.agg [.whole 4 16])) 1 [] <|
    .call 13 [.agg [.whole 4 16]] ([], []) (.tup [.agg [.whole 5 16], .atom (.var 6)]) 2 [] <|
    .new <|
    .calc (.unOp .not 4 (.tmp 25)) 4 [(25, .leaf (.atom (.var 6)))] ([], []) (.leaf (.atom (.var 7))) 1 <|
    .ite (.var 7) (
      .call2 15 [.agg [.whole 2 8]] ([], []) (.leaf (.atom (.const (.bool true)))) 0 [] (
        .calc2 (.binOp .eql 30 (.tmp 33) (.const (.int .i64 17)) 30) 4 [(33, .leaf (.atom (.var 3)))] ([], []) (.leaf (.atom (.const (.bool true)))) 0 (
          .call2 16 [] ([], []) (.leaf (.atom (.const (.bool true)))) 0 [] (
            .ret ([], []) (.leaf (.atom (.const (.bool true))))) (.leaf (.atom (.const (.bool false)))) 0 [] <|
          .ret ([], []) (.leaf (.atom (.const (.bool false))))) (.leaf (.atom (.const (.bool false)))) 0 <|
        .ret ([], []) (.leaf (.atom (.const (.bool false))))) (.leaf (.atom (.const (.bool false)))) 0 [] <|
      .ret ([], []) (.leaf (.atom (.const (.bool false))))) <|
    .call2 17 [.agg [.whole 2 8], .agg [.whole 5 16]] ([], []) (.leaf (.atom (.const (.bool true)))) 0 [] (
      .calc2 (.binOp .eql 30 (.tmp 46) (.const (.int .i64 0)) 30) 4 [(46, .leaf (.atom (.var 3)))] ([], []) (.leaf (.atom (.const (.bool true)))) 0 (
        .call2 16 [] ([], []) (.leaf (.atom (.const (.bool true)))) 0 [] (
          .ret ([], []) (.leaf (.atom (.const (.bool true))))) (.leaf (.atom (.const (.bool false)))) 0 [] <|
        .ret ([], []) (.leaf (.atom (.const (.bool false))))) (.leaf (.atom (.const (.bool false)))) 0 <|
      .ret ([], []) (.leaf (.atom (.const (.bool false))))) (.leaf (.atom (.const (.bool false)))) 0 [] <|
    .ret ([], []) (.leaf (.atom (.const (.bool false))))) (.tup [.agg [.whole 1 8], .atom (.const (.bool false))]) 1 [] <|
  .new <|
  .call 12 [.agg [.whole 1 8]] ([], []) (.tup [.agg [.whole 2 8], .atom (.var 3)]) 2 [] <|
  .new <|
  .call 14 [.agg [.whole 0 56]] ([], []) (.leaf (.agg [.whole 4 16])) 1 [] <|
  .call 13 [.agg [.whole 4 16]] ([], []) (.tup [.agg [.whole 5 16], .atom (.var 6)]) 2 [] <|
  .new <|
  .calc (.unOp .not 4 (.tmp 25)) 4 [(25, .leaf (.atom (.var 6)))] ([], []) (.leaf (.atom (.var 7))) 1 <|
  .ite (.var 7) (
    .ret ([], []) (.leaf (.atom (.const (.bool false))))) <|
  .ret ([], []) (.leaf (.atom (.const (.bool false))))
theorem c_rtakes : compF Try.prog Try.f3 o_rtakes (Try.f3.body.getD .skip) (symIn [.agg [.whole 0 56]] Try.f3.ntmps 1) = some t_rtakes := by kernel_rfl
theorem g_rtakes : goodC Try.prog o_rtakes.ords (Try.f3.body.getD .skip) = true := by kernel_rfl
set_option maxRecDepth 100000 in
set_option maxHeartbeats 4000000 in
theorem aw_rtakes (b1 : List Int) (lb1 : b1.length = 56) (yb1 : By b1) : AWp Try.prog tbl5 (fun a => a = .bool true) t_rtakes [] [.ints .u8 b1] := by
  have m1 := And.intro lb1 yb1
  by_cases e : rt (z (bval b1)) * rt (z (bval b1)) = z (bval b1)
  · have a1 := rootV_yes e
    have a2 := rootE_yes e
    repeat ((conv => whnf) <;> first | exact rfl | with_reducible refine And.intro (by assumption) ?_ | with_reducible refine cTe (by assumption) ?_ | with_reducible refine cFe (by assumption) ?_ | with_reducible refine cTe rfl ?_ | with_reducible refine cTd (by assumption) ?_ | with_reducible refine cFd (by assumption) ?_ | with_reducible refine cTt ?_ | with_reducible refine cNt ?_ | with_reducible refine cBB ?_ | with_reducible refine cB1 (by assumption) ?_ | with_reducible refine cB0 (by assumption) ?_ | with_reducible refine cNB ?_)
    refine ⟨fun _ => ?_, fun hn => absurd e hn⟩
    repeat ((conv => whnf) <;> first | exact rfl | with_reducible refine And.intro (by assumption) ?_ | with_reducible refine cTe (by assumption) ?_ | with_reducible refine cFe (by assumption) ?_ | with_reducible refine cTe rfl ?_ | with_reducible refine cTd (by assumption) ?_ | with_reducible refine cFd (by assumption) ?_ | with_reducible refine cTt ?_ | with_reducible refine cNt ?_ | with_reducible refine cBB ?_ | with_reducible refine cB1 (by assumption) ?_ | with_reducible refine cB0 (by assumption) ?_ | with_reducible refine cNB ?_)
  · have a1 := rootV_no e
    have a2 := rootE_no e
    repeat ((conv => whnf) <;> first | exact rfl | with_reducible refine And.intro (by assumption) ?_ | with_reducible refine cTe (by assumption) ?_ | with_reducible refine cFe (by assumption) ?_ | with_reducible refine cTe rfl ?_ | with_reducible refine cTd (by assumption) ?_ | with_reducible refine cFd (by assumption) ?_ | with_reducible refine cTt ?_ | with_reducible refine cNt ?_ | with_reducible refine cBB ?_ | with_reducible refine cB1 (by assumption) ?_ | with_reducible refine cB0 (by assumption) ?_ | with_reducible refine cNB ?_)
    refine ⟨fun hn => absurd hn e, fun _ => ?_⟩
    repeat ((conv => whnf) <;> first | exact rfl | with_reducible refine And.intro (by assumption) ?_ | with_reducible refine cTe (by assumption) ?_ | with_reducible refine cFe (by assumption) ?_ | with_reducible refine cTe rfl ?_ | with_reducible refine cTd (by assumption) ?_ | with_reducible refine cFd (by assumption) ?_ | with_reducible refine cTt ?_ | with_reducible refine cNt ?_ | with_reducible refine cBB ?_ | with_reducible refine cB1 (by assumption) ?_ | with_reducible refine cB0 (by assumption) ?_ | with_reducible refine cNB ?_)
    refine ⟨fun _ => ?_, fun hh => absurd hh (by decide)⟩
    repeat ((conv => whnf) <;> first | exact rfl | with_reducible refine And.intro (by assumption) ?_ | with_reducible refine cTe (by assumption) ?_ | with_reducible refine cFe (by assumption) ?_ | with_reducible refine cTe rfl ?_ | with_reducible refine cTd (by assumption) ?_ | with_reducible refine cFd (by assumption) ?_ | with_reducible refine cTt ?_ | with_reducible refine cNt ?_ | with_reducible refine cBB ?_ | with_reducible refine cB1 (by assumption) ?_ | with_reducible refine cB0 (by assumption) ?_ | with_reducible refine cNB ?_)
set_option maxRecDepth 100000 in
theorem rtakes_any (b1 : List Int) (lb1 : b1.length = 56) (yb1 : By b1) (w : World) : Calls Try.prog 3 #[AG (ys b1)] w (OutV (.bool true) w) :=
  law_tree tbl5_ok o_rtakes [.agg [.whole 0 56]] [AG (ys b1)] [.ints .u8 b1] Try.func3 rfl c_rtakes rfl (by intro x hx; simp only [List.mem_cons, List.not_mem_nil, or_false] at hx; subst hx <;> first | exact ok_arr rfl lb1) ⟨_, _, rfl, arr_val b1, rfl⟩ g_rtakes (aw_rtakes b1 lb1 yb1)
def o_rratios : Orc := { ans := [(14, .one ⟨.leaf (.agg [.whole 0 56]), 1, []⟩), (15, .two ⟨.tup [.agg [.whole 0 8], .atom (.const (.bool true))], 1, []⟩ ⟨.tup [.agg [.whole 0 8], .atom (.const (.bool false))], 1, []⟩), (19, .one ⟨.leaf (.agg [.whole 0 56]), 1, []⟩), (20, .two ⟨.tup [.agg [.whole 0 8], .atom (.const (.bool true))], 1, []⟩ ⟨.tup [.agg [.whole 0 8], .atom (.const (.bool false))], 1, []⟩), (24, .one ⟨.leaf (.agg [.whole 0 8]), 1, []⟩), (25, .one ⟨.leaf (.agg [.whole 0 8]), 1, []⟩), (26, .one ⟨.tup [.agg [.whole 0 8], .atom (.var 1)], 2, []⟩), (30, .one ⟨.leaf (.agg [.whole 0 56]), 1, []⟩), (31, .one ⟨.leaf (.agg [.whole 0 16]), 1, []⟩), (32, .one ⟨.leaf (.agg [.whole 0 56]), 1, []⟩), (33, .one ⟨.leaf (.agg [.whole 0 16]), 1, []⟩), (34, .one ⟨.tup [.agg [.whole 0 16], .atom (.var 1)], 2, []⟩), (40, .one ⟨.leaf (.atom (.var 0)), 1, []⟩), (42, .one ⟨.leaf (.agg [.whole 0 8]), 1, []⟩), (43, .one ⟨.leaf (.agg [.whole 0 16]), 1, []⟩), (44, .two ⟨.leaf (.atom (.const (.bool true))), 0, []⟩ ⟨.leaf (.atom (.const (.bool false))), 0, []⟩), (45, .one ⟨.leaf (.atom (.var 0)), 1, []⟩), (49, .two ⟨.leaf (.atom (.const (.bool true))), 0, []⟩ ⟨.leaf (.atom (.const (.bool false))), 0, []⟩), (50, .one ⟨.leaf (.atom (.var 0)), 1, []⟩), (52, .two ⟨.leaf (.atom (.const (.bool true))), 0, []⟩ ⟨.leaf (.atom (.const (.bool false))), 0, []⟩), (53, .one ⟨.leaf (.atom (.var 0)), 1, []⟩)], lps := [], ords := [(4, [.quiet 0, .quiet 2, .call 1 [8], .call 3 [8], .call 4 [8], .pure 5, .pure 6, .pure 7, .make 8 [], .last 9, .last 10])] }
def t_rratios : Tree :=
  .new <|
  .new <|
  .call2 11 [.agg [.whole 0 56]] ([], []) (.tup [.agg [.whole 2 8], .atom (.const (.bool true))]) 1 [] (
    .new <|
    .call2 11 [.agg [.whole 1 56]] ([], []) (.tup [.agg [.whole 3 8], .atom (.const (.bool true))]) 1 [] (
      .new <|
      .call 18 [.agg [.whole 2 8], .agg [.whole 3 8]] ([], []) (.tup [.agg [.whole 4 8], .atom (.var 5)]) 2 [] <|
      .new <|
      .call 14 [.agg [.whole 0 56]] ([], []) (.leaf (.agg [.whole 6 16])) 1 [] <|
      .call 14 [.agg [.whole 1 56]] ([], []) (.leaf (.agg [.whole 7 16])) 1 [] <|
      .call 19 [.agg [.whole 6 16], .agg [.whole 7 16]] ([], []) (.tup [.agg [.whole 8 16], .atom (.var 9)]) 2 [] <|
      .new <|
      .call2 17 [.agg [.whole 4 8], .agg [.whole 8 16]] ([], []) (.leaf (.atom (.const (.bool true)))) 0 [] (
        .calc2 (.binOp .eql 4 (.tmp 47) (.tmp 48) 4) 4 [(47, .leaf (.atom (.var 5))), (48, .leaf (.atom (.var 9)))] ([], []) (.leaf (.atom (.const (.bool true)))) 0 (
          .call2 16 [] ([], []) (.leaf (.atom (.const (.bool true)))) 0 [] (
            .ret ([], []) (.leaf (.atom (.const (.bool true))))) (.leaf (.atom (.const (.bool false)))) 0 [] <|
          .ret ([], []) (.leaf (.atom (.const (.bool false))))) (.leaf (.atom (.const (.bool false)))) 0 <|
        .ret ([], []) (.leaf (.atom (.const (.bool false))))) (.leaf (.atom (.const (.bool false)))) 0 [] <|
      .ret ([], []) (.leaf (.atom (.const (.bool false))))) (.tup [.agg [.whole 3 8], .atom (.const (.bool false))]) 1 [] <|
    .new <|
    .call 18 [.agg [.whole 2 8], .agg [.whole 3 8]] ([], []) (.tup [.agg [.whole 4 8], .atom (.var 5)]) 2 [] <|
    .new <|
    .call 14 [.agg [.whole 0 56]] ([], []) (.leaf (.agg [.whole 6 16])) 1 [] <|
    .call 14 [.agg [.whole 1 56]] ([], []) (.leaf (.agg [.whole 7 16])) 1 [] <|
    .call 19 [.agg [.whole 6 16], .agg [.whole 7 16]] ([], []) (.tup [.agg [.whole 8 16], .atom (.var 9)]) 2 [] <|
    .new <|
    .ret ([], []) (.leaf (.atom (.const (.bool false))))) (.tup [.agg [.whole 2 8], .atom (.const (.bool false))]) 1 [] <|
  .new <|
  .call2 11 [.agg [.whole 1 56]] ([], []) (.tup [.agg [.whole 3 8], .atom (.const (.bool true))]) 1 [] (
    .new <|
    .call 18 [.agg [.whole 2 8], .agg [.whole 3 8]] ([], []) (.tup [.agg [.whole 4 8], .atom (.var 5)]) 2 [] <|
    .new <|
    .call 14 [.agg [.whole 0 56]] ([], []) (.leaf (.agg [.whole 6 16])) 1 [] <|
    .call 14 [.agg [.whole 1 56]] ([], []) (.leaf (.agg [.whole 7 16])) 1 [] <|
    .call 19 [.agg [.whole 6 16], .agg [.whole 7 16]] ([], []) (.tup [.agg [.whole 8 16], .atom (.var 9)]) 2 [] <|
    .new <|
    .ret ([], []) (.leaf (.atom (.const (.bool false))))) (.tup [.agg [.whole 3 8], .atom (.const (.bool false))]) 1 [] <|
  .new <|
  .call 18 [.agg [.whole 2 8], .agg [.whole 3 8]] ([], []) (.tup [.agg [.whole 4 8], .atom (.var 5)]) 2 [] <|
  .new <|
  .call 14 [.agg [.whole 0 56]] ([], []) (.leaf (.agg [.whole 6 16])) 1 [] <|
  .call 14 [.agg [.whole 1 56]] ([], []) (.leaf (.agg [.whole 7 16])) 1 [] <|
  .call 19 [.agg [.whole 6 16], .agg [.whole 7 16]] ([], []) (.tup [.agg [.whole 8 16], .atom (.var 9)]) 2 [] <|
  .new <|
  .ret ([], []) (.leaf (.atom (.const (.bool false))))
theorem c_rratios : compF Try.prog Try.f4 o_rratios (Try.f4.body.getD .skip) (symIn [.agg [.whole 0 56], .agg [.whole 1 56]] Try.f4.ntmps 2) = some t_rratios := by kernel_rfl
theorem g_rratios : goodC Try.prog o_rratios.ords (Try.f4.body.getD .skip) = true := by kernel_rfl
set_option maxRecDepth 100000 in
set_option maxHeartbeats 4000000 in
theorem aw_rratios (b1 : List Int) (lb1 : b1.length = 56) (yb1 : By b1) (b2 : List Int) (lb2 : b2.length = 56) (yb2 : By b2) : AWp Try.prog tbl5 (fun a => a = .bool true) t_rratios [] [.ints .u8 b1, .ints .u8 b2] := by
  have m1 := And.intro lb1 yb1
  have m2 := And.intro lb2 yb2
  by_cases eu : z (bval b1) = 0
  · have a1 : abs (rat (z (bval b1)) (z (bval b2))) = 0 := by rw [rat_zero _ _ (.inl eu), abs_zero]
    have a2 : z (bval b2) * (rat (z (bval b1)) (z (bval b2)) * rat (z (bval b1)) (z (bval b2))) = z (bval b1) := by rw [rat_zero _ _ (.inl eu), eu]; grind
    repeat ((conv => whnf) <;> first | exact rfl | with_reducible refine And.intro (by assumption) ?_ | with_reducible refine cTe (by assumption) ?_ | with_reducible refine cFe (by assumption) ?_ | with_reducible refine cTe rfl ?_ | with_reducible refine cTd (by assumption) ?_ | with_reducible refine cFd (by assumption) ?_ | with_reducible refine cTt ?_ | with_reducible refine cNt ?_ | with_reducible refine cBB ?_ | with_reducible refine cB1 (by assumption) ?_ | with_reducible refine cB0 (by assumption) ?_ | with_reducible refine cNB ?_)
    refine ⟨fun _ => ?_, fun hn _ => absurd eu hn, fun hn _ => absurd eu hn⟩
    repeat ((conv => whnf) <;> first | exact rfl | with_reducible refine And.intro (by assumption) ?_ | with_reducible refine cTe (by assumption) ?_ | with_reducible refine cFe (by assumption) ?_ | with_reducible refine cTe rfl ?_ | with_reducible refine cTd (by assumption) ?_ | with_reducible refine cFd (by assumption) ?_ | with_reducible refine cTt ?_ | with_reducible refine cNt ?_ | with_reducible refine cBB ?_ | with_reducible refine cB1 (by assumption) ?_ | with_reducible refine cB0 (by assumption) ?_ | with_reducible refine cNB ?_)
  by_cases ev : z (bval b2) = 0
  · have a1 : abs (rat (z (bval b1)) (z (bval b2))) = 0 := by rw [rat_zero _ _ (.inr ev), abs_zero]
    have a2 : ¬ z (bval b2) * (rat (z (bval b1)) (z (bval b2)) * rat (z (bval b1)) (z (bval b2))) = z (bval b1) := by rw [rat_zero _ _ (.inr ev)]; intro hh; exact eu (by grind)
    repeat ((conv => whnf) <;> first | exact rfl | with_reducible refine And.intro (by assumption) ?_ | with_reducible refine cTe (by assumption) ?_ | with_reducible refine cFe (by assumption) ?_ | with_reducible refine cTe rfl ?_ | with_reducible refine cTd (by assumption) ?_ | with_reducible refine cFd (by assumption) ?_ | with_reducible refine cTt ?_ | with_reducible refine cNt ?_ | with_reducible refine cBB ?_ | with_reducible refine cB1 (by assumption) ?_ | with_reducible refine cB0 (by assumption) ?_ | with_reducible refine cNB ?_)
    refine ⟨fun hn => absurd hn eu, fun _ _ => ?_, fun _ hn => absurd ev hn⟩
    repeat ((conv => whnf) <;> first | exact rfl | with_reducible refine And.intro (by assumption) ?_ | with_reducible refine cTe (by assumption) ?_ | with_reducible refine cFe (by assumption) ?_ | with_reducible refine cTe rfl ?_ | with_reducible refine cTd (by assumption) ?_ | with_reducible refine cFd (by assumption) ?_ | with_reducible refine cTt ?_ | with_reducible refine cNt ?_ | with_reducible refine cBB ?_ | with_reducible refine cB1 (by assumption) ?_ | with_reducible refine cB0 (by assumption) ?_ | with_reducible refine cNB ?_)
  repeat ((conv => whnf) <;> first | exact rfl | with_reducible refine And.intro (by assumption) ?_ | with_reducible refine cTe (by assumption) ?_ | with_reducible refine cFe (by assumption) ?_ | with_reducible refine cTe rfl ?_ | with_reducible refine cTd (by assumption) ?_ | with_reducible refine cFd (by assumption) ?_ | with_reducible refine cTt ?_ | with_reducible refine cNt ?_ | with_reducible refine cBB ?_ | with_reducible refine cB1 (by assumption) ?_ | with_reducible refine cB0 (by assumption) ?_ | with_reducible refine cNB ?_)
  refine ⟨fun hn => absurd hn eu, fun _ hn => absurd hn ev, fun _ _ => ?_⟩
  repeat ((conv => whnf) <;> first | exact rfl | with_reducible refine And.intro (by assumption) ?_ | with_reducible refine cTe (by assumption) ?_ | with_reducible refine cFe (by assumption) ?_ | with_reducible refine cTe rfl ?_ | with_reducible refine cTd (by assumption) ?_ | with_reducible refine cFd (by assumption) ?_ | with_reducible refine cTt ?_ | with_reducible refine cNt ?_ | with_reducible refine cBB ?_ | with_reducible refine cB1 (by assumption) ?_ | with_reducible refine cB0 (by assumption) ?_ | with_reducible refine cNB ?_)
set_option maxRecDepth 100000 in
theorem rratios_any (b1 : List Int) (lb1 : b1.length = 56) (yb1 : By b1) (b2 : List Int) (lb2 : b2.length = 56) (yb2 : By b2) (w : World) : Calls Try.prog 4 #[AG (ys b1), AG (ys b2)] w (OutV (.bool true) w) :=
  law_tree tbl5_ok o_rratios [.agg [.whole 0 56], .agg [.whole 1 56]] [AG (ys b1), AG (ys b2)] [.ints .u8 b1, .ints .u8 b2] Try.func4 rfl c_rratios rfl (by intro x hx; simp only [List.mem_cons, List.not_mem_nil, or_false] at hx; rcases hx with rfl | rfl <;> first | exact ok_arr rfl lb1 | exact ok_arr rfl lb2) ⟨_, _, rfl, arr_val b1, ⟨_, _, rfl, arr_val b2, rfl⟩⟩ g_rratios (aw_rratios b1 lb1 yb1 b2 lb2 yb2)
end Go.Proofs.Ytohjkkmgcibemaa
