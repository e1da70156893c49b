/- Chapter 10: the examples; LadderSteps, LadderClimbs, LadderProducts -/
import Derived.Test.YtmbapbbneapcnaaLdc
import Derived.Test.YtmbapbbneapcnaaOpb
import Derived.Test.YtmbapbbneapcnaaOpr
set_option linter.unusedSimpArgs false
set_option linter.unusedVariables false
namespace Go.Proofs.Ytmbapbbneapcnaa
open Go.RowKit FdP FdP.Ch
theorem sub_nil : Sub (.val (.slice none 0 0)) (.isl .u8 []) := by
  intro β v hv
  obtain rfl := hv.val_inv
  exact valR0.mk1 rfl ⟨_, rfl, none, 0, rfl, Nat.le_refl _, rfl, fun h => absurd h (by simp)⟩
/-- a contract whose arguments may be told otherwise -/
def tSub10 (g : Trans) : Trans := fun zs Q => ∃ ys, Subs zs ys ∧ g ys Q
theorem con_tSub10 {P : Program} {fn : FuncId} {g : Trans} (hc : Con P fn g) : Con P fn (tSub10 g) := fun w x vals zs Q hx hv ⟨ys, hs, hg⟩ => hc w x vals ys Q hx (hs.ok hv) hg
def tb_ladderS : FuncId × Trans := (tb_ladder.1, tSub10 tb_ladder.2)
theorem tb_ladderS_ok : Con Try.prog tb_ladderS.1 tb_ladderS.2 := con_tSub10 tb_ladder_ok
def tb_x448S : FuncId × Trans := (tb_x448.1, tSub10 tb_x448.2)
theorem tb_x448S_ok : Con Try.prog tb_x448S.1 tb_x448S.2 := con_tSub10 tb_x448_ok
def b56 : List Int := List.replicate 56 0
theorem b56_z : z (bval b56) = 0 := by rw [show bval b56 = 0 from by decide +kernel, z_zero]
theorem nval1 : nval [1] = 1 := by decide +kernel
theorem nval0 : nval [] = 0 := by decide +kernel
def tjK : Tab := tb_int :: tb_ladderS :: tb_x448S :: tb_equal :: tb_zero :: []
theorem tjK_ok : tjK.OK Try.prog := tab_cons tb_int_ok <| tab_cons tb_ladderS_ok <| tab_cons tb_x448S_ok <| tab_cons tb_equal_ok <| tab_cons tb_zero_ok <| tab_nil _
def o_awake10 : Orc := { ans := [(9, .one ⟨.leaf (.agg [.whole 0 8]), 1, []⟩), (10, .one ⟨.tup [.agg [.whole 0 8], .atom (.var 1)], 2, []⟩), (14, .one ⟨.leaf (.agg [.whole 0 8]), 1, []⟩), (15, .one ⟨.tup [.agg [.whole 0 8], .atom (.var 1)], 2, []⟩), (19, .one ⟨.leaf (.atom (.var 0)), 1, []⟩), (20, .one ⟨.leaf (.atom (.var 0)), 1, []⟩), (21, .one ⟨.tup [.atom (.var 0), .atom (.var 1)], 2, []⟩), (24, .one ⟨.leaf (.agg [.whole 0 8]), 1, []⟩), (25, .one ⟨.leaf (.agg [.whole 0 8]), 1, []⟩), (26, .two ⟨.leaf (.atom (.const (.bool true))), 0, []⟩ ⟨.leaf (.atom (.const (.bool false))), 0, []⟩), (29, .two ⟨.leaf (.atom (.const (.bool true))), 0, []⟩ ⟨.leaf (.atom (.const (.bool false))), 0, []⟩), (30, .one ⟨.leaf (.atom (.var 0)), 1, []⟩), (32, .one ⟨.leaf (.agg [.whole 0 8]), 1, []⟩), (33, .two ⟨.leaf (.atom (.const (.bool true))), 0, []⟩ ⟨.leaf (.atom (.const (.bool false))), 0, []⟩), (34, .one ⟨.leaf (.atom (.var 0)), 1, []⟩), (37, .two ⟨.leaf (.atom (.const (.bool true))), 0, []⟩ ⟨.leaf (.atom (.const (.bool false))), 0, []⟩), (38, .one ⟨.leaf (.atom (.var 0)), 1, []⟩), (41, .one ⟨.leaf (.atom (.var 0)), 1, []⟩), (42, .two ⟨.leaf (.atom (.const (.bool true))), 0, []⟩ ⟨.leaf (.atom (.const (.bool false))), 0, []⟩), (43, .one ⟨.leaf (.atom (.var 0)), 1, []⟩), (46, .two ⟨.leaf (.atom (.const (.bool true))), 0, []⟩ ⟨.leaf (.atom (.const (.bool false))), 0, []⟩), (47, .one ⟨.leaf (.atom (.var 0)), 1, []⟩)], lps := [], ords := [(3, [.make 0 [1], .make 1 [], .call 2 [], .pure 3, .pure 4, .pure 5, .pure 6, .pure 7]), (4, [.quiet 0, .call 1 [], .call 2 [], .pure 3, .pure 4, .quiet 5, .quiet 6, .pure 7, .quiet 8, .call 9 [], .quiet 10, .pure 11, .pure 12, .quiet 13, .quiet 14, .pure 15, .pure 16, .quiet 17, .quiet 18, .quiet 19, .pure 20, .pure 21, .quiet 22, .quiet 23, .pure 24])] }
def t_awake10 : Tree :=
  .new <|
  .call 28 [.atom (.const (.int .i64 7))] ([], []) (.leaf (.agg [.whole 0 8])) 1 [] <|
  .call 16 [.atom (.slc 0 0 1 1), .agg [.whole 0 8]] ([([.one (.const (.int .u8 1))], 5)], []) (.tup [.agg [.whole 1 8], .atom (.var 2)]) 2 [] <|
  .new <|
  .call 28 [.atom (.const (.int .i64 7))] ([], []) (.leaf (.agg [.whole 3 8])) 1 [] <|
  .call 16 [.atom (.const (.slice none 0 0)), .agg [.whole 3 8]] ([], []) (.tup [.agg [.whole 4 8], .atom (.var 5)]) 2 [] <|
  .new <|
  .new <|
  .new <|
  .call 21 [.atom (.slc 3 0 56 56), .atom (.slc 4 0 56 56)] ([([.one (.const (.int .u8 1))], 5), ([.whole 1 8], 29), ([.whole 4 8], 29), ([.lit [.int .u8 0, .int .u8 0, .int .u8 0, .int .u8 0, .int .u8 0, .int .u8 0, .int .u8 0, .int .u8 0, .int .u8 0, .int .u8 0, .int .u8 0, .int .u8 0, .int .u8 0, .int .u8 0, .int .u8 0, .int .u8 0, .int .u8 0, .int .u8 0, .int .u8 0, .int .u8 0, .int .u8 0, .int .u8 0, .int .u8 0, .int .u8 0, .int .u8 0, .int .u8 0, .int .u8 0, .int .u8 0, .int .u8 0, .int .u8 0, .int .u8 0, .int .u8 0, .int .u8 0, .int .u8 0, .int .u8 0, .int .u8 0, .int .u8 0, .int .u8 0, .int .u8 0, .int .u8 0, .int .u8 0, .int .u8 0, .int .u8 0, .int .u8 0, .int .u8 0, .int .u8 0, .int .u8 0, .int .u8 0, .int .u8 0, .int .u8 0, .int .u8 0, .int .u8 0, .int .u8 0, .int .u8 0, .int .u8 0, .int .u8 0]], 5), ([.lit [.int .u8 0, .int .u8 0, .int .u8 0, .int .u8 0, .int .u8 0, .int .u8 0, .int .u8 0, .int .u8 0, .int .u8 0, .int .u8 0, .int .u8 0, .int .u8 0, .int .u8 0, .int .u8 0, .int .u8 0, .int .u8 0, .int .u8 0, .int .u8 0, .int .u8 0, .int .u8 0, .int .u8 0, .int .u8 0, .int .u8 0, .int .u8 0, .int .u8 0, .int .u8 0, .int .u8 0, .int .u8 0, .int .u8 0, .int .u8 0, .int .u8 0, .int .u8 0, .int .u8 0, .int .u8 0, .int .u8 0, .int .u8 0, .int .u8 0, .int .u8 0, .int .u8 0, .int .u8 0, .int .u8 0, .int .u8 0, .int .u8 0, .int .u8 0, .int .u8 0, .int .u8 0, .int .u8 0, .int .u8 0, .int .u8 0, .int .u8 0, .int .u8 0, .int .u8 0, .int .u8 0, .int .u8 0, .int .u8 0, .int .u8 0]], 5)], []) (.tup [.atom (.var 6), .atom (.var 7)]) 2 [] <|
  .call 28 [.atom (.const (.int .i64 7))] ([], []) (.leaf (.agg [.whole 8 8])) 1 [] <|
  .call2 22 [.agg [.whole 1 8], .agg [.whole 8 8]] ([], []) (.leaf (.atom (.const (.bool true)))) 0 [] (
    .calc2 (.binOp .eql 45 (.tmp 28) (.const (.int .i64 0)) 45) 4 [(28, .leaf (.atom (.var 2)))] ([], []) (.leaf (.atom (.const (.bool true)))) 0 (
      .call2 17 [.agg [.whole 4 8]] ([], []) (.leaf (.atom (.const (.bool true)))) 0 [] (
        .calc2 (.binOp .eql 45 (.tmp 36) (.const (.int .i64 0)) 45) 4 [(36, .leaf (.atom (.var 5)))] ([], []) (.leaf (.atom (.const (.bool true)))) 0 (
          .calc (.call { callee := .builtin .len, args := #[.tmp 40], argTypes := #[44] }) 3 [(40, .leaf (.atom (.var 6)))] ([], []) (.leaf (.atom (.var 9))) 1 <|
          .calc2 (.binOp .eql 3 (.tmp 41) (.const (.int .i64 0)) 3) 4 [(41, .leaf (.atom (.var 9)))] ([], []) (.leaf (.atom (.const (.bool true)))) 0 (
            .calc2 (.binOp .eql 45 (.tmp 45) (.const (.int .i64 15)) 45) 4 [(45, .leaf (.atom (.var 7)))] ([], []) (.leaf (.atom (.const (.bool true)))) 0 (
              .ret ([], []) (.leaf (.atom (.const (.bool true))))) (.leaf (.atom (.const (.bool false)))) 0 <|
            .ret ([], []) (.leaf (.atom (.const (.bool false))))) (.leaf (.atom (.const (.bool false)))) 0 <|
          .ret ([], []) (.leaf (.atom (.const (.bool false))))) (.leaf (.atom (.const (.bool false)))) 0 <|
        .ret ([], []) (.leaf (.atom (.const (.bool false))))) (.leaf (.atom (.const (.bool false)))) 0 [] <|
      .ret ([], []) (.leaf (.atom (.const (.bool false))))) (.leaf (.atom (.const (.bool false)))) 0 <|
    .ret ([], []) (.leaf (.atom (.const (.bool false))))) (.leaf (.atom (.const (.bool false)))) 0 [] <|
  .ret ([], []) (.leaf (.atom (.const (.bool false))))
theorem c_awake10 : compF Try.prog Try.f15 o_awake10 (Try.f15.body.getD .skip) (symIn [] Try.f15.ntmps 0) = some t_awake10 := by kernel_rfl
theorem g_awake10 : goodC Try.prog o_awake10.ords (Try.f15.body.getD .skip) = true := by kernel_rfl
def tb_awake10 : FuncId × Trans := (15, tTrue)
set_option maxRecDepth 100000 in
theorem aw_awake10 : ∀ zs Q, tb_awake10.2 zs Q → bindLs 0 [] zs fun ae => bif Nat.beq ae.length 0 then AWp Try.prog tjK Q t_awake10 [] ae else False := by
  intro zs Q h
  replace h : tTrue zs Q := h
  unfold tTrue at h
  split at h
  case h_2 => exact h.elim
  have i7 : I64 7 := by unfold I64; omega
  have u1 := ladU_one (z 7)
  have u0 := ladU_zero (z 7)
  have ux : xU b56 b56 = 0 := by rw [xU_eq, b56_z]; exact ladU_nil rfl _
  rw [← nval1] at u1
  rw [← nval0] at u0
  have m1 : By [1] ∧ [1].length ≤ 100000 := by decide +kernel
  have m0 : By [] ∧ ([] : List Int).length ≤ 100000 := by decide +kernel
  have mb : By b56 ∧ By b56 ∧ b56.length ≤ 100000 ∧ b56.length ≤ 100000 := by decide +kernel
  have lb : b56.length = 56 := by decide +kernel
  repeat ((conv => whnf) <;> first | with_reducible rfl | with_reducible refine And.intro (by assumption) ?_ | with_reducible refine cTe (by assumption) ?_ | with_reducible refine cFe (by assumption) ?_ | with_reducible refine cN (cTe (by assumption) ?_) | with_reducible refine cN (cFe (by assumption) ?_) | with_reducible refine cTe rfl ?_ | with_reducible refine cEq (by assumption) ?_ | with_reducible refine cTt ?_ | with_reducible refine cNt ?_ | with_reducible refine cF (Eq.refl false) ?_ | with_reducible refine cN (cF (Eq.refl false) ?_) | with_reducible refine cTd (by omega) ?_ | with_reducible refine cFd (by omega) ?_ | with_reducible refine cN (cTd (by omega) ?_) | with_reducible refine cN (cFd (by omega) ?_) | with_reducible refine And.intro (fun hh : Option.isSome none = true => by cases hh) ?_ | with_reducible refine And.intro (by omega) ?_)
  refine And.intro rfl ?_
  (conv => whnf)
  refine ⟨[.isl .u8 [1], .el (z 7)], ⟨Sub.refl' _, Sub.refl' _, trivial⟩, ?_⟩
  (conv => whnf)
  refine ⟨m1, fun h => absurd h (by decide), fun _ => ⟨rfl, ?_⟩⟩
  rw [u1]
  repeat ((conv => whnf) <;> first | with_reducible rfl | with_reducible refine And.intro (by assumption) ?_ | with_reducible refine cTe (by assumption) ?_ | with_reducible refine cFe (by assumption) ?_ | with_reducible refine cN (cTe (by assumption) ?_) | with_reducible refine cN (cFe (by assumption) ?_) | with_reducible refine cTe rfl ?_ | with_reducible refine cEq (by assumption) ?_ | with_reducible refine cTt ?_ | with_reducible refine cNt ?_ | with_reducible refine cF (Eq.refl false) ?_ | with_reducible refine cN (cF (Eq.refl false) ?_) | with_reducible refine cTd (by omega) ?_ | with_reducible refine cFd (by omega) ?_ | with_reducible refine cN (cTd (by omega) ?_) | with_reducible refine cN (cFd (by omega) ?_) | with_reducible refine And.intro (fun hh : Option.isSome none = true => by cases hh) ?_ | with_reducible refine And.intro (by omega) ?_)
  refine ⟨[.isl .u8 [], .el (z 7)], ⟨sub_nil, Sub.refl' _, trivial⟩, ?_⟩
  (conv => whnf)
  refine ⟨m0, fun h => absurd h (by decide), fun _ => ?_⟩
  rw [u0]
  repeat ((conv => whnf) <;> first | with_reducible rfl | with_reducible refine And.intro (by assumption) ?_ | with_reducible refine cTe (by assumption) ?_ | with_reducible refine cFe (by assumption) ?_ | with_reducible refine cN (cTe (by assumption) ?_) | with_reducible refine cN (cFe (by assumption) ?_) | with_reducible refine cTe rfl ?_ | with_reducible refine cEq (by assumption) ?_ | with_reducible refine cTt ?_ | with_reducible refine cNt ?_ | with_reducible refine cF (Eq.refl false) ?_ | with_reducible refine cN (cF (Eq.refl false) ?_) | with_reducible refine cTd (by omega) ?_ | with_reducible refine cFd (by omega) ?_ | with_reducible refine cN (cTd (by omega) ?_) | with_reducible refine cN (cFd (by omega) ?_) | with_reducible refine And.intro (fun hh : Option.isSome none = true => by cases hh) ?_ | with_reducible refine And.intro (by omega) ?_)
  refine And.intro rfl ?_
  (conv => whnf)
  refine And.intro rfl ?_
  (conv => whnf)
  refine ⟨[.isl .u8 b56, .isl .u8 b56], ⟨Sub.refl' _, Sub.refl' _, trivial⟩, ?_⟩
  generalize b56 = l56 at *
  (conv => whnf)
  refine ⟨mb, fun h => absurd ⟨lb, lb⟩ h, fun _ _ _ => ⟨rfl, ?_⟩, fun _ _ h => absurd ux h⟩
  repeat ((conv => whnf) <;> first | with_reducible rfl | with_reducible refine And.intro (by assumption) ?_ | with_reducible refine cTe (by assumption) ?_ | with_reducible refine cFe (by assumption) ?_ | with_reducible refine cN (cTe (by assumption) ?_) | with_reducible refine cN (cFe (by assumption) ?_) | with_reducible refine cTe rfl ?_ | with_reducible refine cEq (by assumption) ?_ | with_reducible refine cTt ?_ | with_reducible refine cNt ?_ | with_reducible refine cF (Eq.refl false) ?_ | with_reducible refine cN (cF (Eq.refl false) ?_) | with_reducible refine cTd (by omega) ?_ | with_reducible refine cFd (by omega) ?_ | with_reducible refine cN (cTd (by omega) ?_) | with_reducible refine cN (cFd (by omega) ?_) | with_reducible refine And.intro (fun hh : Option.isSome none = true => by cases hh) ?_ | with_reducible refine And.intro (by omega) ?_)
  (conv => whnf)
  exact h
theorem tb_awake10_ok : Con Try.prog tb_awake10.1 tb_awake10.2 := con_tree tjK_ok o_awake10 [] 0 Try.func15 rfl c_awake10 aw_awake10 g_awake10
def tjL : Tab := tb_awake10 :: tb_made :: tb_plain :: tb_is :: tb_lstep :: tb_rstep10 :: tb_ladder :: tb_rladder :: tb_zero :: []
theorem tjL_ok : tjL.OK Try.prog := tab_cons tb_awake10_ok <| tab_cons tb_made_ok <| tab_cons tb_plain_ok <| tab_cons tb_is_ok <| tab_cons tb_lstep_ok <| tab_cons tb_rstep10_ok <| tab_cons tb_ladder_ok <| tab_cons tb_rladder_ok <| tab_cons tb_zero_ok <| tab_nil _
def o_lsteps : Orc := { ans := [(21, .one ⟨.leaf (.agg [.whole 0 56]), 1, []⟩), (22, .one ⟨.tup [.agg [.whole 0 8], .atom (.const (.bool true))], 1, []⟩), (26, .one ⟨.leaf (.atom (.var 0)), 1, []⟩), (27, .one ⟨.leaf (.agg [.whole 0 56]), 1, []⟩), (28, .one ⟨.tup [.agg [.whole 0 8], .atom (.const (.bool true))], 1, []⟩), (32, .one ⟨.leaf (.atom (.var 0)), 1, []⟩), (33, .one ⟨.leaf (.agg [.whole 0 56]), 1, []⟩), (34, .one ⟨.tup [.agg [.whole 0 8], .atom (.const (.bool true))], 1, []⟩), (38, .one ⟨.leaf (.atom (.var 0)), 1, []⟩), (39, .one ⟨.leaf (.agg [.whole 0 56]), 1, []⟩), (40, .one ⟨.tup [.agg [.whole 0 8], .atom (.const (.bool true))], 1, []⟩), (44, .one ⟨.leaf (.atom (.var 0)), 1, []⟩), (45, .one ⟨.leaf (.agg [.whole 0 56]), 1, []⟩), (46, .one ⟨.tup [.agg [.whole 0 8], .atom (.const (.bool true))], 1, []⟩), (50, .one ⟨.leaf (.atom (.var 0)), 1, []⟩), (53, .one ⟨.leaf (.atom (.var 0)), 1, []⟩), (54, .one ⟨.leaf (.atom (.var 0)), 1, []⟩), (57, .one ⟨.leaf (.atom (.var 0)), 1, []⟩), (58, .one ⟨.leaf (.atom (.var 0)), 1, []⟩), (61, .one ⟨.leaf (.atom (.var 0)), 1, []⟩), (62, .one ⟨.leaf (.atom (.var 0)), 1, []⟩), (65, .one ⟨.leaf (.atom (.var 0)), 1, []⟩), (66, .one ⟨.leaf (.atom (.var 0)), 1, []⟩), (68, .one ⟨.leaf (.agg [.whole 0 8]), 1, []⟩), (69, .one ⟨.leaf (.agg [.whole 0 8]), 1, []⟩), (70, .one ⟨.leaf (.agg [.whole 0 8]), 1, []⟩), (72, .one ⟨.leaf (.agg [.whole 0 8]), 1, []⟩), (73, .one ⟨.leaf (.agg [.whole 0 8]), 1, []⟩), (75, .one ⟨.tup [.agg [.whole 0 8, .whole 1 8], .agg [.whole 2 8, .whole 3 8]], 4, []⟩), (78, .one ⟨.leaf (.agg [.whole 0 56]), 1, []⟩), (79, .one ⟨.leaf (.agg [.whole 0 16]), 1, []⟩), (80, .one ⟨.leaf (.atom (.var 0)), 1, []⟩), (81, .one ⟨.leaf (.agg [.whole 0 56]), 1, []⟩), (82, .one ⟨.leaf (.agg [.whole 0 16]), 1, []⟩), (83, .one ⟨.leaf (.atom (.var 0)), 1, []⟩), (84, .one ⟨.leaf (.agg [.whole 0 56]), 1, []⟩), (85, .one ⟨.leaf (.agg [.whole 0 16]), 1, []⟩), (86, .one ⟨.leaf (.atom (.var 0)), 1, []⟩), (87, .one ⟨.leaf (.agg [.whole 0 56]), 1, []⟩), (88, .one ⟨.leaf (.agg [.whole 0 16]), 1, []⟩), (89, .one ⟨.leaf (.atom (.var 0)), 1, []⟩), (90, .one ⟨.leaf (.agg [.whole 0 56]), 1, []⟩), (91, .one ⟨.leaf (.agg [.whole 0 16]), 1, []⟩), (93, .one ⟨.leaf (.agg [.whole 0 16, .whole 1 16, .whole 2 16, .whole 3 16]), 4, []⟩), (94, .one ⟨.leaf (.atom (.var 0)), 1, []⟩), (95, .one ⟨.leaf (.agg [.whole 0 8]), 1, []⟩), (96, .one ⟨.leaf (.atom (.var 0)), 1, []⟩), (97, .one ⟨.leaf (.agg [.whole 0 16]), 1, []⟩), (98, .two ⟨.leaf (.atom (.const (.bool true))), 0, []⟩ ⟨.leaf (.atom (.const (.bool false))), 0, []⟩), (100, .one ⟨.leaf (.atom (.var 0)), 1, []⟩), (101, .one ⟨.leaf (.agg [.whole 0 8]), 1, []⟩), (102, .one ⟨.leaf (.atom (.var 0)), 1, []⟩), (103, .one ⟨.leaf (.agg [.whole 0 16]), 1, []⟩), (104, .two ⟨.leaf (.atom (.const (.bool true))), 0, []⟩ ⟨.leaf (.atom (.const (.bool false))), 0, []⟩), (105, .one ⟨.leaf (.atom (.var 0)), 1, []⟩), (107, .one ⟨.leaf (.atom (.var 0)), 1, []⟩), (108, .one ⟨.leaf (.agg [.whole 0 8]), 1, []⟩), (109, .one ⟨.leaf (.atom (.var 0)), 1, []⟩), (110, .one ⟨.leaf (.agg [.whole 0 16]), 1, []⟩), (111, .two ⟨.leaf (.atom (.const (.bool true))), 0, []⟩ ⟨.leaf (.atom (.const (.bool false))), 0, []⟩), (112, .one ⟨.leaf (.atom (.var 0)), 1, []⟩), (114, .one ⟨.leaf (.atom (.var 0)), 1, []⟩), (115, .one ⟨.leaf (.agg [.whole 0 8]), 1, []⟩), (116, .one ⟨.leaf (.atom (.var 0)), 1, []⟩), (117, .one ⟨.leaf (.agg [.whole 0 16]), 1, []⟩), (118, .two ⟨.leaf (.atom (.const (.bool true))), 0, []⟩ ⟨.leaf (.atom (.const (.bool false))), 0, []⟩), (119, .one ⟨.leaf (.atom (.var 0)), 1, []⟩), (121, .two ⟨.leaf (.atom (.const (.bool true))), 0, []⟩ ⟨.leaf (.atom (.const (.bool false))), 0, []⟩), (122, .one ⟨.leaf (.atom (.var 0)), 1, []⟩)], lps := [], ords := [(9, [.quiet 0, .quiet 2, .quiet 3, .quiet 5, .quiet 6, .quiet 8, .quiet 9, .quiet 11, .quiet 12, .call 1 [16], .call 4 [16], .call 7 [16], .call 10 [16], .call 13 [16], .pure 14, .call 15 [16], .make 16 [], .last 17])] }
def t_lsteps : Tree :=
  .new <|
  .new <|
  .new <|
  .call 10 [.agg [.whole 0 56]] ([], []) (.tup [.agg [.whole 5 8], .atom (.const (.bool true))]) 1 [] <|
  .new <|
  .call 10 [.agg [.whole 1 56]] ([], []) (.tup [.agg [.whole 6 8], .atom (.const (.bool true))]) 1 [] <|
  .new <|
  .call 10 [.agg [.whole 2 56]] ([], []) (.tup [.agg [.whole 7 8], .atom (.const (.bool true))]) 1 [] <|
  .new <|
  .call 10 [.agg [.whole 3 56]] ([], []) (.tup [.agg [.whole 8 8], .atom (.const (.bool true))]) 1 [] <|
  .new <|
  .call 10 [.agg [.whole 4 56]] ([], []) (.tup [.agg [.whole 9 8], .atom (.const (.bool true))]) 1 [] <|
  .new <|
  .call 11 [.agg [.whole 5 8], .agg [.whole 6 8, .whole 7 8], .agg [.whole 8 8, .whole 9 8]] ([], []) (.tup [.agg [.whole 10 8, .whole 11 8], .agg [.whole 12 8, .whole 13 8]]) 4 [] <|
  .new <|
  .new <|
  .call 13 [.agg [.whole 0 56]] ([], []) (.leaf (.agg [.whole 14 16])) 1 [] <|
  .call 13 [.agg [.whole 1 56]] ([], []) (.leaf (.agg [.whole 15 16])) 1 [] <|
  .call 13 [.agg [.whole 3 56]] ([], []) (.leaf (.agg [.whole 16 16])) 1 [] <|
  .call 13 [.agg [.whole 2 56]] ([], []) (.leaf (.agg [.whole 17 16])) 1 [] <|
  .call 13 [.agg [.whole 4 56]] ([], []) (.leaf (.agg [.whole 18 16])) 1 [] <|
  .call 12 [.agg [.whole 14 16], .agg [.whole 15 16, .whole 16 16, .whole 17 16, .whole 18 16]] ([], []) (.leaf (.agg [.whole 19 16, .whole 20 16, .whole 21 16, .whole 22 16])) 4 [] <|
  .new <|
  .call2 14 [.agg [.whole 10 8], .agg [.whole 19 16]] ([], []) (.leaf (.atom (.const (.bool true)))) 0 [] (
    .call2 14 [.agg [.whole 12 8], .agg [.whole 20 16]] ([], []) (.leaf (.atom (.const (.bool true)))) 0 [] (
      .call2 14 [.agg [.whole 11 8], .agg [.whole 21 16]] ([], []) (.leaf (.atom (.const (.bool true)))) 0 [] (
        .call2 14 [.agg [.whole 13 8], .agg [.whole 22 16]] ([], []) (.leaf (.atom (.const (.bool true)))) 0 [] (
          .call2 15 [] ([], []) (.leaf (.atom (.const (.bool true)))) 0 [] (
            .ret ([], []) (.leaf (.atom (.const (.bool true))))) (.leaf (.atom (.const (.bool false)))) 0 [] <|
          .ret ([], []) (.leaf (.atom (.const (.bool false))))) (.leaf (.atom (.const (.bool false)))) 0 [] <|
        .ret ([], []) (.leaf (.atom (.const (.bool false))))) (.leaf (.atom (.const (.bool false)))) 0 [] <|
      .ret ([], []) (.leaf (.atom (.const (.bool false))))) (.leaf (.atom (.const (.bool false)))) 0 [] <|
    .ret ([], []) (.leaf (.atom (.const (.bool false))))) (.leaf (.atom (.const (.bool false)))) 0 [] <|
  .ret ([], []) (.leaf (.atom (.const (.bool false))))
theorem c_lsteps : compF Try.prog Try.f3 o_lsteps (Try.f3.body.getD .skip) (symIn [.agg [.whole 0 56], .agg [.whole 1 56, .whole 2 56], .agg [.whole 3 56, .whole 4 56]] Try.f3.ntmps 5) = some t_lsteps := by kernel_rfl
theorem g_lsteps : goodC Try.prog o_lsteps.ords (Try.f3.body.getD .skip) = true := by kernel_rfl
set_option maxRecDepth 100000 in
set_option maxHeartbeats 1000000 in
theorem aw_lsteps (b1 : List Int) (lb1 : b1.length = 56) (yb1 : By b1) (b2 c2 : List Int) (lb2 : b2.length = 56) (yb2 : By b2) (lc2 : c2.length = 56) (yc2 : By c2) (b3 c3 : List Int) (lb3 : b3.length = 56) (yb3 : By b3) (lc3 : c3.length = 56) (yc3 : By c3) : AWp Try.prog tjL (fun a => a = .bool true) t_lsteps [] [.ints .u8 b1, .ints .u8 b2, .ints .u8 c2, .ints .u8 b3, .ints .u8 c3] := by
  have m1 := And.intro lb1 yb1
  have m2 := And.intro lb2 yb2
  have n2 := And.intro lc2 yc2
  have m3 := And.intro lb3 yb3
  have n3 := And.intro lc3 yc3
  repeat ((conv => whnf) <;> first | with_reducible rfl | with_reducible refine And.intro (by assumption) ?_ | with_reducible refine cTe (by assumption) ?_ | with_reducible refine cFe (by assumption) ?_ | with_reducible refine cN (cTe (by assumption) ?_) | with_reducible refine cN (cFe (by assumption) ?_) | with_reducible refine cTe rfl ?_ | with_reducible refine cEq (by assumption) ?_ | with_reducible refine cTt ?_ | with_reducible refine cNt ?_ | with_reducible refine cF (Eq.refl false) ?_ | with_reducible refine cN (cF (Eq.refl false) ?_) | with_reducible refine cTd (by omega) ?_ | with_reducible refine cFd (by omega) ?_ | with_reducible refine cN (cTd (by omega) ?_) | with_reducible refine cN (cFd (by omega) ?_) | with_reducible refine And.intro (fun hh : Option.isSome none = true => by cases hh) ?_ | with_reducible refine And.intro (by omega) ?_)
set_option maxRecDepth 100000 in
theorem lsteps_any (b1 : List Int) (lb1 : b1.length = 56) (yb1 : By b1) (b2 c2 : List Int) (lb2 : b2.length = 56) (yb2 : By b2) (lc2 : c2.length = 56) (yc2 : By c2) (b3 c3 : List Int) (lb3 : b3.length = 56) (yb3 : By b3) (lc3 : c3.length = 56) (yc3 : By c3) (w : World) : Calls Try.prog 3 #[AG (ys b1), AG (ys b2 ++ ys c2), AG (ys b3 ++ ys c3)] w (OutV (.bool true) w) :=
  law_tree tjL_ok o_lsteps [.agg [.whole 0 56], .agg [.whole 1 56, .whole 2 56], .agg [.whole 3 56, .whole 4 56]] [AG (ys b1), AG (ys b2), AG (ys c2), AG (ys b3), AG (ys c3)] [.ints .u8 b1, .ints .u8 b2, .ints .u8 c2, .ints .u8 b3, .ints .u8 c3] Try.func3 rfl c_lsteps (by simp [Leaf.den, catS, Seg.den, Atom.den, cellsAt, AG, Value.cells]) (by intro x hx; simp only [List.mem_cons, List.not_mem_nil, or_false] at hx; rcases hx with rfl | rfl | rfl <;> first | exact ok_arr rfl lb1 | exact ok_raws rfl lb2 rfl lc2 | exact ok_raws rfl lb3 rfl lc3) ⟨_, _, rfl, arr_val b1, ⟨_, _, rfl, arr_val b2, _, _, rfl, arr_val c2, ⟨_, _, rfl, arr_val b3, _, _, rfl, arr_val c3, rfl⟩⟩⟩ g_lsteps (aw_lsteps b1 lb1 yb1 b2 c2 lb2 yb2 lc2 yc2 b3 c3 lb3 yb3 lc3 yc3)
def o_lclimbs : Orc := { ans := [(10, .one ⟨.leaf (.agg [.whole 0 56]), 1, []⟩), (11, .one ⟨.tup [.agg [.whole 0 8], .atom (.const (.bool true))], 1, []⟩), (15, .one ⟨.leaf (.atom (.var 0)), 1, []⟩), (18, .one ⟨.leaf (.atom (.var 0)), 1, []⟩), (19, .two ⟨.leaf (.atom (.const (.bool true))), 0, []⟩ ⟨.leaf (.atom (.const (.bool false))), 0, []⟩), (20, .one ⟨.leaf (.atom (.var 0)), 1, []⟩), (23, .two ⟨.leaf (.atom (.const (.bool true))), 0, []⟩ ⟨.leaf (.atom (.const (.bool false))), 0, []⟩), (24, .one ⟨.leaf (.atom (.var 0)), 1, []⟩), (27, .one ⟨.leaf (.agg [.whole 0 8]), 1, []⟩), (28, .one ⟨.tup [.agg [.whole 0 8], .atom (.var 1)], 2, []⟩), (32, .one ⟨.leaf (.atom (.var 0)), 1, []⟩), (33, .two ⟨.leaf (.atom (.const (.bool true))), 0, []⟩ ⟨.leaf (.atom (.const (.bool false))), 0, []⟩), (34, .one ⟨.leaf (.agg [.whole 0 8]), 1, []⟩), (35, .two ⟨.leaf (.atom (.const (.bool true))), 0, []⟩ ⟨.leaf (.atom (.const (.bool false))), 0, []⟩), (38, .two ⟨.leaf (.atom (.const (.bool true))), 0, []⟩ ⟨.leaf (.atom (.const (.bool false))), 0, []⟩), (39, .one ⟨.leaf (.atom (.var 0)), 1, []⟩), (41, .two ⟨.leaf (.atom (.const (.bool true))), 0, []⟩ ⟨.leaf (.atom (.const (.bool false))), 0, []⟩), (42, .one ⟨.leaf (.atom (.var 0)), 1, []⟩), (43, .one ⟨.leaf (.agg [.whole 0 8]), 1, []⟩), (45, .one ⟨.leaf (.agg [.whole 0 56]), 1, []⟩), (46, .one ⟨.leaf (.agg [.whole 0 16]), 1, []⟩), (47, .one ⟨.leaf (.agg [.whole 0 16]), 1, []⟩), (48, .two ⟨.leaf (.atom (.const (.bool true))), 0, []⟩ ⟨.leaf (.atom (.const (.bool false))), 0, []⟩), (51, .two ⟨.leaf (.atom (.const (.bool true))), 0, []⟩ ⟨.leaf (.atom (.const (.bool false))), 0, []⟩), (52, .one ⟨.leaf (.atom (.var 0)), 1, []⟩), (54, .two ⟨.leaf (.atom (.const (.bool true))), 0, []⟩ ⟨.leaf (.atom (.const (.bool false))), 0, []⟩), (55, .one ⟨.leaf (.atom (.var 0)), 1, []⟩)], lps := [], ords := [(7, [.quiet 0, .pure 1, .quiet 2, .call 3 [], .call 4 [], .call 5 [], .pure 6, .pure 7, .quiet 8, .quiet 9, .pure 10, .call 11 [], .quiet 12, .pure 13])] }
def t_lclimbs : Tree :=
  .new <|
  .call 10 [.agg [.whole 1 56]] ([], []) (.tup [.agg [.whole 2 8], .atom (.const (.bool true))]) 1 [] <|
  .new <|
  .calc (.call { callee := .builtin .len, args := #[.tmp 17], argTypes := #[44] }) 3 [(17, .leaf (.atom (.var 0)))] ([], []) (.leaf (.atom (.var 3))) 1 <|
  .calc2 (.binOp .gtr 3 (.tmp 18) (.const (.int .i64 100)) 3) 4 [(18, .leaf (.atom (.var 3)))] ([], []) (.leaf (.atom (.const (.bool true)))) 0 (
    .call2 15 [] ([], []) (.leaf (.atom (.const (.bool true)))) 0 [] (
      .ret ([], []) (.leaf (.atom (.const (.bool true))))) (.leaf (.atom (.const (.bool false)))) 0 [] <|
    .ret ([], []) (.leaf (.atom (.const (.bool false))))) (.leaf (.atom (.const (.bool false)))) 0 <|
  .call 16 [.atom (.var 0), .agg [.whole 2 8]] ([], []) (.tup [.agg [.whole 4 8], .atom (.var 5)]) 2 [] <|
  .new <|
  .calc (.call { callee := .builtin .len, args := #[.tmp 31], argTypes := #[44] }) 3 [(31, .leaf (.atom (.var 0)))] ([], []) (.leaf (.atom (.var 6))) 1 <|
  .calc2 (.binOp .gtr 3 (.tmp 32) (.const (.int .i64 64)) 3) 4 [(32, .leaf (.atom (.var 6)))] ([], []) (.leaf (.atom (.const (.bool true)))) 0 (
    .call2 17 [.agg [.whole 4 8]] ([], []) (.leaf (.atom (.const (.bool true)))) 0 [] (
      .calc2 (.binOp .eql 45 (.tmp 37) (.const (.int .i64 11)) 45) 4 [(37, .leaf (.atom (.var 5)))] ([], []) (.leaf (.atom (.const (.bool true)))) 0 (
        .call2 15 [] ([], []) (.leaf (.atom (.const (.bool true)))) 0 [] (
          .ret ([], []) (.leaf (.atom (.const (.bool true))))) (.leaf (.atom (.const (.bool false)))) 0 [] <|
        .ret ([], []) (.leaf (.atom (.const (.bool false))))) (.leaf (.atom (.const (.bool false)))) 0 <|
      .ret ([], []) (.leaf (.atom (.const (.bool false))))) (.leaf (.atom (.const (.bool false)))) 0 [] <|
    .ret ([], []) (.leaf (.atom (.const (.bool false))))) (.leaf (.atom (.const (.bool false)))) 0 <|
  .call 13 [.agg [.whole 1 56]] ([], []) (.leaf (.agg [.whole 7 16])) 1 [] <|
  .call 18 [.atom (.var 0), .agg [.whole 7 16]] ([], []) (.leaf (.agg [.whole 8 16])) 1 [] <|
  .call2 14 [.agg [.whole 4 8], .agg [.whole 8 16]] ([], []) (.leaf (.atom (.const (.bool true)))) 0 [] (
    .calc2 (.binOp .eql 45 (.tmp 50) (.const (.int .i64 0)) 45) 4 [(50, .leaf (.atom (.var 5)))] ([], []) (.leaf (.atom (.const (.bool true)))) 0 (
      .call2 15 [] ([], []) (.leaf (.atom (.const (.bool true)))) 0 [] (
        .ret ([], []) (.leaf (.atom (.const (.bool true))))) (.leaf (.atom (.const (.bool false)))) 0 [] <|
      .ret ([], []) (.leaf (.atom (.const (.bool false))))) (.leaf (.atom (.const (.bool false)))) 0 <|
    .ret ([], []) (.leaf (.atom (.const (.bool false))))) (.leaf (.atom (.const (.bool false)))) 0 [] <|
  .ret ([], []) (.leaf (.atom (.const (.bool false))))
theorem c_lclimbs : compF Try.prog Try.f4 o_lclimbs (Try.f4.body.getD .skip) (symIn [.atom (.var 0), .agg [.whole 1 56]] Try.f4.ntmps 2) = some t_lclimbs := by kernel_rfl
theorem g_lclimbs : goodC Try.prog o_lclimbs.ords (Try.f4.body.getD .skip) = true := by kernel_rfl
set_option maxRecDepth 100000 in
set_option maxHeartbeats 1000000 in
theorem aw_lclimbs (b1 : List Int) (yb1 : By b1) (b2 : List Int) (lb2 : b2.length = 56) (yb2 : By b2) : AWp Try.prog tjL (fun a => a = .bool true) t_lclimbs [] [.isl .u8 b1, .ints .u8 b2] := by
  have m2 := And.intro lb2 yb2
  by_cases h100 : (b1.length : Int) > 100
  · repeat ((conv => whnf) <;> first | with_reducible rfl | with_reducible refine And.intro (by assumption) ?_ | with_reducible refine cTe (by assumption) ?_ | with_reducible refine cFe (by assumption) ?_ | with_reducible refine cN (cTe (by assumption) ?_) | with_reducible refine cN (cFe (by assumption) ?_) | with_reducible refine cTe rfl ?_ | with_reducible refine cEq (by assumption) ?_ | with_reducible refine cTt ?_ | with_reducible refine cNt ?_ | with_reducible refine cF (Eq.refl false) ?_ | with_reducible refine cN (cF (Eq.refl false) ?_) | with_reducible refine cTd (by omega) ?_ | with_reducible refine cFd (by omega) ?_ | with_reducible refine cN (cTd (by omega) ?_) | with_reducible refine cN (cFd (by omega) ?_) | with_reducible refine And.intro (fun hh : Option.isSome none = true => by cases hh) ?_ | with_reducible refine And.intro (by omega) ?_)
  have mb : By b1 ∧ b1.length ≤ 100000 := ⟨yb1, by omega⟩
  by_cases h64 : 64 < b1.length
  · repeat ((conv => whnf) <;> first | with_reducible rfl | with_reducible refine And.intro (by assumption) ?_ | with_reducible refine cTe (by assumption) ?_ | with_reducible refine cFe (by assumption) ?_ | with_reducible refine cN (cTe (by assumption) ?_) | with_reducible refine cN (cFe (by assumption) ?_) | with_reducible refine cTe rfl ?_ | with_reducible refine cEq (by assumption) ?_ | with_reducible refine cTt ?_ | with_reducible refine cNt ?_ | with_reducible refine cF (Eq.refl false) ?_ | with_reducible refine cN (cF (Eq.refl false) ?_) | with_reducible refine cTd (by omega) ?_ | with_reducible refine cFd (by omega) ?_ | with_reducible refine cN (cTd (by omega) ?_) | with_reducible refine cN (cFd (by omega) ?_) | with_reducible refine And.intro (fun hh : Option.isSome none = true => by cases hh) ?_ | with_reducible refine And.intro (by omega) ?_)
    refine ⟨fun _ => ?_, fun h => absurd h (by omega)⟩
    repeat ((conv => whnf) <;> first | with_reducible rfl | with_reducible refine And.intro (by assumption) ?_ | with_reducible refine cTe (by assumption) ?_ | with_reducible refine cFe (by assumption) ?_ | with_reducible refine cN (cTe (by assumption) ?_) | with_reducible refine cN (cFe (by assumption) ?_) | with_reducible refine cTe rfl ?_ | with_reducible refine cEq (by assumption) ?_ | with_reducible refine cTt ?_ | with_reducible refine cNt ?_ | with_reducible refine cF (Eq.refl false) ?_ | with_reducible refine cN (cF (Eq.refl false) ?_) | with_reducible refine cTd (by omega) ?_ | with_reducible refine cFd (by omega) ?_ | with_reducible refine cN (cTd (by omega) ?_) | with_reducible refine cN (cFd (by omega) ?_) | with_reducible refine And.intro (fun hh : Option.isSome none = true => by cases hh) ?_ | with_reducible refine And.intro (by omega) ?_)
  · repeat ((conv => whnf) <;> first | with_reducible rfl | with_reducible refine And.intro (by assumption) ?_ | with_reducible refine cTe (by assumption) ?_ | with_reducible refine cFe (by assumption) ?_ | with_reducible refine cN (cTe (by assumption) ?_) | with_reducible refine cN (cFe (by assumption) ?_) | with_reducible refine cTe rfl ?_ | with_reducible refine cEq (by assumption) ?_ | with_reducible refine cTt ?_ | with_reducible refine cNt ?_ | with_reducible refine cF (Eq.refl false) ?_ | with_reducible refine cN (cF (Eq.refl false) ?_) | with_reducible refine cTd (by omega) ?_ | with_reducible refine cFd (by omega) ?_ | with_reducible refine cN (cTd (by omega) ?_) | with_reducible refine cN (cFd (by omega) ?_) | with_reducible refine And.intro (fun hh : Option.isSome none = true => by cases hh) ?_ | with_reducible refine And.intro (by omega) ?_)
    intro _
    repeat ((conv => whnf) <;> first | with_reducible rfl | with_reducible refine And.intro (by assumption) ?_ | with_reducible refine cTe (by assumption) ?_ | with_reducible refine cFe (by assumption) ?_ | with_reducible refine cN (cTe (by assumption) ?_) | with_reducible refine cN (cFe (by assumption) ?_) | with_reducible refine cTe rfl ?_ | with_reducible refine cEq (by assumption) ?_ | with_reducible refine cTt ?_ | with_reducible refine cNt ?_ | with_reducible refine cF (Eq.refl false) ?_ | with_reducible refine cN (cF (Eq.refl false) ?_) | with_reducible refine cTd (by omega) ?_ | with_reducible refine cFd (by omega) ?_ | with_reducible refine cN (cTd (by omega) ?_) | with_reducible refine cN (cFd (by omega) ?_) | with_reducible refine And.intro (fun hh : Option.isSome none = true => by cases hh) ?_ | with_reducible refine And.intro (by omega) ?_)
set_option maxRecDepth 100000 in
theorem lclimbs_any (b1 : List Int) (yb1 : By b1) (v1 : Value) (b2 : List Int) (lb2 : b2.length = 56) (yb2 : By b2) (w : World) (s1 : Bv w v1 b1) : Calls Try.prog 4 #[v1, AG (ys b2)] w (OutV (.bool true) w) :=
  law_tree tjL_ok o_lclimbs [.atom (.var 0), .agg [.whole 1 56]] [v1, AG (ys b2)] [.isl .u8 b1, .ints .u8 b2] Try.func4 rfl c_lclimbs rfl (by intro x hx; simp only [List.mem_cons, List.not_mem_nil, or_false] at hx; rcases hx with rfl | rfl <;> first | exact ok_one rfl (bv_one s1) | exact ok_arr rfl lb2) ⟨_, _, rfl, bv_val s1, ⟨_, _, rfl, arr_val b2, rfl⟩⟩ g_lclimbs (aw_lclimbs b1 yb1 b2 lb2 yb2)
end Go.Proofs.Ytmbapbbneapcnaa
