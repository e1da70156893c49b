/- Chapter 9: CodingSame -/
import Derived.Test.YtmhpagceheekcaaCdw
set_option linter.unusedSimpArgs false
set_option linter.unusedVariables false
namespace Go.Proofs.Ytmhpagceheekcaa
open Go.RowKit FdP FdP.Ch
def tNegS : Trans := fun zs Q => match zs with
  | [.ob (.pt g)] => Q (.ob (.pt (-g)))
  | _ => False
def tb_pnegS : FuncId × Trans := (tb_pneg.1, tNegS)
theorem tb_pnegS_ok : Con Try.prog tb_pnegS.1 tb_pnegS.2 := fun w x vals zs Q hx hv hg => by
  replace hg : tNegS zs Q := hg
  unfold tNegS at hg
  split at hg
  · exact tb_pneg_ok w x vals _ Q hx hv hg
  · exact hg.elim
def tbln : Tab := tb_awake9 :: tb_enc :: tb_madeS :: tb_bytesEq :: tb_pnegS :: tb_paff :: tb_peq :: tb_zero :: []
theorem tbln_ok : tbln.OK Try.prog := tab_cons tb_awake9_ok <| tab_cons tb_enc_ok <| tab_cons tb_madeS_ok <| tab_cons tb_bytesEq_ok <| tab_cons tb_pnegS_ok <| tab_cons tb_paff_ok <| tab_cons tb_peq_ok <| tab_cons tb_zero_ok <| tab_nil _
def o_csame : Orc := { ans := [(15, .one ⟨.leaf (.agg [.whole 0 57, .one (.var 1)]), 2, []⟩), (16, .two ⟨.tup [.agg [.whole 0 24], .atom (.const (.bool true))], 1, []⟩ ⟨.tup [.agg [.whole 0 24], .atom (.const (.bool false))], 1, []⟩), (20, .one ⟨.leaf (.agg [.whole 0 57, .one (.var 1)]), 2, []⟩), (21, .one ⟨.tup [.agg [.whole 0 24], .atom (.var 1)], 2, []⟩), (25, .one ⟨.leaf (.atom (.var 0)), 1, []⟩), (28, .one ⟨.leaf (.atom (.var 0)), 1, []⟩), (29, .one ⟨.leaf (.atom (.var 0)), 1, []⟩), (30, .one ⟨.leaf (.agg [.whole 0 24]), 1, []⟩), (31, .one ⟨.leaf (.atom (.var 0)), 1, []⟩), (32, .one ⟨.leaf (.agg [.whole 0 24]), 1, []⟩), (33, .one ⟨.leaf (.atom (.var 0)), 1, []⟩), (34, .one ⟨.leaf (.agg [.whole 0 24]), 1, []⟩), (35, .one ⟨.leaf (.agg [.whole 0 24]), 1, []⟩), (36, .one ⟨.leaf (.atom (.var 0)), 1, []⟩), (38, .one ⟨.leaf (.atom (.var 0)), 1, []⟩), (39, .two ⟨.leaf (.atom (.const (.bool true))), 0, []⟩ ⟨.leaf (.atom (.const (.bool false))), 0, []⟩), (42, .one ⟨.leaf (.atom (.var 0)), 1, []⟩), (43, .two ⟨.leaf (.atom (.const (.bool true))), 0, []⟩ ⟨.leaf (.atom (.const (.bool false))), 0, []⟩), (44, .one ⟨.leaf (.atom (.var 0)), 1, []⟩), (47, .one ⟨.leaf (.atom (.var 0)), 1, []⟩), (48, .two ⟨.leaf (.atom (.const (.bool true))), 0, []⟩ ⟨.leaf (.atom (.const (.bool false))), 0, []⟩), (49, .one ⟨.leaf (.atom (.var 0)), 1, []⟩), (51, .one ⟨.leaf (.agg [.whole 0 24]), 1, []⟩), (52, .one ⟨.tup [.agg [.whole 0 8], .agg [.whole 1 8]], 2, []⟩), (57, .one ⟨.leaf (.atom (.var 0)), 1, []⟩), (58, .one ⟨.leaf (.agg [.whole 0 24]), 1, []⟩), (59, .one ⟨.leaf (.agg [.whole 0 24]), 1, []⟩), (60, .one ⟨.leaf (.atom (.var 0)), 1, []⟩), (61, .two ⟨.leaf (.atom (.const (.bool true))), 0, []⟩ ⟨.leaf (.atom (.const (.bool false))), 0, []⟩), (64, .one ⟨.leaf (.atom (.var 0)), 1, []⟩), (66, .one ⟨.leaf (.atom (.var 0)), 1, []⟩), (67, .two ⟨.leaf (.atom (.const (.bool true))), 0, []⟩ ⟨.leaf (.atom (.const (.bool false))), 0, []⟩), (68, .one ⟨.leaf (.atom (.var 0)), 1, []⟩), (71, .one ⟨.leaf (.atom (.var 0)), 1, []⟩), (72, .one ⟨.leaf (.atom (.var 0)), 1, []⟩), (74, .one ⟨.leaf (.atom (.var 0)), 1, []⟩), (75, .one ⟨.leaf (.atom (.var 0)), 1, []⟩), (76, .one ⟨.leaf (.atom (.var 0)), 1, []⟩), (77, .one ⟨.leaf (.agg [.whole 0 8]), 1, []⟩), (78, .one ⟨.leaf (.atom (.var 0)), 1, []⟩), (79, .two ⟨.leaf (.atom (.const (.bool true))), 0, []⟩ ⟨.leaf (.atom (.const (.bool false))), 0, []⟩), (80, .one ⟨.leaf (.atom (.var 0)), 1, []⟩), (82, .two ⟨.leaf (.atom (.const (.bool true))), 0, []⟩ ⟨.leaf (.atom (.const (.bool false))), 0, []⟩), (83, .one ⟨.leaf (.atom (.var 0)), 1, []⟩)], lps := [], ords := [(11, [.pure 0, .pure 1, .quiet 3, .quiet 4, .call 2 [], .call 5 [], .quiet 6, .pure 7, .pure 8, .quiet 9, .pure 10, .quiet 11, .call 12 [], .quiet 13, .pure 14, .pure 15, .quiet 16, .quiet 17, .pure 18, .quiet 19, .quiet 20, .quiet 21, .quiet 22, .call 23 [], .quiet 24, .quiet 25, .pure 26, .call 27 [], .quiet 28, .pure 29])] }
def t_csame : Tree :=
  .new <|
  .new <|
  .call2 23 [.agg [.whole 0 57, .one (.var 1)]] ([], []) (.tup [.agg [.whole 4 24], .atom (.const (.bool true))]) 1 [] (
    .new <|
    .call 23 [.agg [.whole 2 57, .one (.var 3)]] ([], []) (.tup [.agg [.whole 5 24], .atom (.var 6)]) 2 [] <|
    .new <|
    .calc (.unOp .not 4 (.tmp 27)) 4 [(27, .leaf (.atom (.var 6)))] ([], []) (.leaf (.atom (.var 7))) 1 <|
    .ite (.var 7) (
      .ret ([], []) (.leaf (.atom (.const (.bool false))))) <|
    .call 25 [.agg [.whole 4 24]] ([], []) (.leaf (.atom (.var 8))) 1 [] <|
    .call 25 [.agg [.whole 5 24]] ([], []) (.leaf (.atom (.var 9))) 1 [] <|
    .call 22 [.agg [.whole 4 24]] ([], []) (.leaf (.agg [.whole 10 24])) 1 [] <|
    .call 25 [.agg [.whole 10 24]] ([], []) (.leaf (.atom (.var 11))) 1 [] <|
    .calc (.call { callee := .builtin .len, args := #[.tmp 37], argTypes := #[22] }) 3 [(37, .leaf (.atom (.var 8)))] ([], []) (.leaf (.atom (.var 12))) 1 <|
    .calc2 (.binOp .neq 3 (.tmp 38) (.const (.int .i64 57)) 3) 4 [(38, .leaf (.atom (.var 12)))] ([], []) (.leaf (.atom (.const (.bool true)))) 0 (
      .ret ([], []) (.leaf (.atom (.const (.bool false))))) (.leaf (.atom (.const (.bool false)))) 0 <|
    .calc (.call { callee := .builtin .len, args := #[.tmp 41], argTypes := #[22] }) 3 [(41, .leaf (.atom (.var 9)))] ([], []) (.leaf (.atom (.var 13))) 1 <|
    .calc2 (.binOp .neq 3 (.tmp 42) (.const (.int .i64 57)) 3) 4 [(42, .leaf (.atom (.var 13)))] ([], []) (.leaf (.atom (.const (.bool true)))) 0 (
      .ret ([], []) (.leaf (.atom (.const (.bool false))))) (.leaf (.atom (.const (.bool false)))) 0 <|
    .calc (.call { callee := .builtin .len, args := #[.tmp 46], argTypes := #[22] }) 3 [(46, .leaf (.atom (.var 11)))] ([], []) (.leaf (.atom (.var 14))) 1 <|
    .calc2 (.binOp .neq 3 (.tmp 47) (.const (.int .i64 57)) 3) 4 [(47, .leaf (.atom (.var 14)))] ([], []) (.leaf (.atom (.const (.bool true)))) 0 (
      .ret ([], []) (.leaf (.atom (.const (.bool false))))) (.leaf (.atom (.const (.bool false)))) 0 <|
    .call 18 [.agg [.whole 4 24]] ([], []) (.tup [.agg [.whole 15 8], .agg [.whole 16 8]]) 2 [] <|
    .new <|
    .new <|
    .call 24 [.atom (.var 8), .atom (.var 9)] ([], []) (.leaf (.atom (.var 17))) 1 [] <|
    .call 21 [.agg [.whole 4 24], .agg [.whole 5 24]] ([], []) (.leaf (.atom (.var 18))) 1 [] <|
    .calc2 (.binOp .eql 4 (.tmp 57) (.tmp 60) 4) 4 [(57, .leaf (.atom (.var 17))), (60, .leaf (.atom (.var 18)))] ([], []) (.leaf (.atom (.const (.bool true)))) 0 (
      .calc (.slice 22 (.tmp 63) none (some (.const (.int .i64 56))) none) 22 [(63, .leaf (.atom (.var 8)))] ([], []) (.leaf (.atom (.var 19))) 1 <|
      .calc (.slice 22 (.tmp 65) none (some (.const (.int .i64 56))) none) 22 [(65, .leaf (.atom (.var 11)))] ([], []) (.leaf (.atom (.var 20))) 1 <|
      .call2 24 [.atom (.var 19), .atom (.var 20)] ([], []) (.leaf (.atom (.const (.bool true)))) 0 [] (
        .calc (.indexAddr 22 (.tmp 70) (.const (.int .i64 56))) 0 [(70, .leaf (.atom (.var 8)))] ([], []) (.leaf (.atom (.var 21))) 1 <|
        .calc (.load 5 (.tmp 71)) 5 [(71, .leaf (.atom (.var 21)))] ([], []) (.leaf (.atom (.var 22))) 1 <|
        .calc (.indexAddr 22 (.tmp 73) (.const (.int .i64 56))) 0 [(73, .leaf (.atom (.var 11)))] ([], []) (.leaf (.atom (.var 23))) 1 <|
        .calc (.load 5 (.tmp 74)) 5 [(74, .leaf (.atom (.var 23)))] ([], []) (.leaf (.atom (.var 24))) 1 <|
        .calc (.binOp .eql 5 (.tmp 72) (.tmp 75) 5) 4 [(72, .leaf (.atom (.var 22))), (75, .leaf (.atom (.var 24)))] ([], []) (.leaf (.atom (.var 25))) 1 <|
        .call 20 [.agg [.whole 15 8]] ([], []) (.leaf (.atom (.var 26))) 1 [] <|
        .calc2 (.binOp .eql 4 (.tmp 76) (.tmp 78) 4) 4 [(76, .leaf (.atom (.var 25))), (78, .leaf (.atom (.var 26)))] ([], []) (.leaf (.atom (.const (.bool true)))) 0 (
          .call2 8 [] ([], []) (.leaf (.atom (.const (.bool true)))) 0 [] (
            .ret ([], []) (.leaf (.atom (.const (.bool true))))) (.leaf (.atom (.const (.bool false)))) 0 [] <|
          .ret ([], []) (.leaf (.atom (.const (.bool false))))) (.leaf (.atom (.const (.bool false)))) 0 <|
        .ret ([], []) (.leaf (.atom (.const (.bool false))))) (.leaf (.atom (.const (.bool false)))) 0 [] <|
      .ret ([], []) (.leaf (.atom (.const (.bool false))))) (.leaf (.atom (.const (.bool false)))) 0 <|
    .ret ([], []) (.leaf (.atom (.const (.bool false))))) (.tup [.agg [.whole 4 24], .atom (.const (.bool false))]) 1 [] <|
  .new <|
  .call 23 [.agg [.whole 2 57, .one (.var 3)]] ([], []) (.tup [.agg [.whole 5 24], .atom (.var 6)]) 2 [] <|
  .new <|
  .ret ([], []) (.leaf (.atom (.const (.bool false))))
theorem c_csame : compF Try.prog Try.f7 o_csame (Try.f7.body.getD .skip) (symIn [.agg [.whole 0 57, .one (.var 1)], .agg [.whole 2 57, .one (.var 3)]] Try.f7.ntmps 4) = some t_csame := by kernel_rfl
theorem g_csame : goodC Try.prog o_csame.ords (Try.f7.body.getD .skip) = true := by kernel_rfl
set_option maxRecDepth 100000 in
set_option maxHeartbeats 1000000 in
theorem aw_csame (b1 : List Int) (lb1 : b1.length = 57) (yb1 : By b1) (n1 : Int) (r1 : I64 n1) (b2 : List Int) (lb2 : b2.length = 57) (yb2 : By b2) (n2 : Int) (r2 : I64 n2) : AWp Try.prog tbln (fun a => a = .bool true) t_csame [] [.ints .u8 b1, .int .i64 n1, .ints .u8 b2, .int .i64 n2] := by
  have m1 := And.intro lb1 yb1
  have m2 := And.intro lb2 yb2
  have ns : (none : Option Operand).isSome = true → (some (Operand.const (Value.int IntKind.i64 56))).isSome = true := fun _ => rfl
  have l1 := encB_len (spotG b1 n1)
  have l2 := encB_len (spotG b2 n2)
  have l3 := encB_len (-(spotG b1 n1))
  have q1 : dec (encB (spotG b1 n1) = encB (spotG b2 n2)) = dec ((spotG b1 n1) = (spotG b2 n2)) := dec_iff5 encB_iff
  have t1 : (List.drop (0 : Int).toNat (encB (spotG b1 n1))).take ((56 : Int) - 0).toNat = (List.drop (0 : Int).toNat (encB (-(spotG b1 n1)))).take ((56 : Int) - 0).toNat := (encB_neg (spotG b1 n1)).1
  have q2 : decide ((encB (spotG b1 n1)).getD (56 : Int).toNat 0 = (encB (-(spotG b1 n1))).getD (56 : Int).toNat 0) = dec (((spotG b1 n1)).x = 0) := by
    have hq := (encB_neg (spotG b1 n1)).2
    by_cases e : ((spotG b1 n1)).x = 0
    · rw [dec_true e]; exact decide_eq_true (hq.2 e)
    · rw [dec_false e]; exact decide_eq_false (fun h => e (hq.1 h))
  have tl : ((List.drop (0 : Int).toNat (encB (spotG b1 n1))).take ((56 : Int) - 0).toNat).length ≤ 1000000 := Nat.le_trans (List.length_take_le _ _) (by decide)
  repeat ((conv => whnf) <;> first | with_reducible rfl | with_reducible refine And.intro (by assumption) ?_ | with_reducible refine cTe (by assumption) ?_ | with_reducible refine cFe (by assumption) ?_ | with_reducible refine cN (cTe (by assumption) ?_) | with_reducible refine cN (cFe (by assumption) ?_) | with_reducible refine cTe rfl ?_ | with_reducible refine cEq (by assumption) ?_ | with_reducible refine cTt ?_ | with_reducible refine cNt ?_ | with_reducible refine cF (Eq.refl false) ?_ | with_reducible refine cN (cF (Eq.refl false) ?_) | with_reducible refine cTd (by omega) ?_ | with_reducible refine cFd (by omega) ?_ | with_reducible refine cN (cTd (by omega) ?_) | with_reducible refine cN (cFd (by omega) ?_) | with_reducible refine And.intro (fun hh : Option.isSome none = true => by cases hh) ?_ | with_reducible refine And.intro (by omega) ?_)
set_option maxRecDepth 100000 in
theorem csame_any (b1 : List Int) (lb1 : b1.length = 57) (yb1 : By b1) (n1 : Int) (r1 : I64 n1) (b2 : List Int) (lb2 : b2.length = 57) (yb2 : By b2) (n2 : Int) (r2 : I64 n2) (w : World) : Calls Try.prog 7 #[AG (ys b1 ++ [.int .i64 n1]), AG (ys b2 ++ [.int .i64 n2])] w (OutV (.bool true) w) :=
  law_tree tbln_ok o_csame [.agg [.whole 0 57, .one (.var 1)], .agg [.whole 2 57, .one (.var 3)]] [AG (ys b1), .int .i64 n1, AG (ys b2), .int .i64 n2] [.ints .u8 b1, .int .i64 n1, .ints .u8 b2, .int .i64 n2] Try.func7 rfl c_csame (by simp [Leaf.den, catS, Seg.den, Atom.den, cellsAt, AG, Value.cells]) (by intro x hx; simp only [List.mem_cons, List.not_mem_nil, or_false] at hx; rcases hx with rfl | rfl <;> first | exact ok_spot rfl lb1 rfl rfl | exact ok_spot rfl lb2 rfl rfl) ⟨_, _, rfl, arr_val b1, _, _, rfl, int_val n1, ⟨_, _, rfl, arr_val b2, _, _, rfl, int_val n2, rfl⟩⟩ g_csame (aw_csame b1 lb1 yb1 n1 r1 b2 lb2 yb2 n2 r2)
end Go.Proofs.Ytmhpagceheekcaa
