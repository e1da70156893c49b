/- Chapter 11: awake, CombSame, CombNil -/
import Derived.Test.YtamgmkeoaaaliaaGreatCmc
import Derived.Test.YtamgmkeoaaaliaaGreatOpc
set_option linter.unusedSimpArgs false
set_option linter.unusedVariables false
namespace Go.Proofs.YtamgmkeoaaaliaaGreat
open Go.RowKit FdP FdP.Ch
def tAw11 : Trans := fun zs Q => zs = [] ∧ Q (.bool true)
theorem tab2 : tabL (qN BG 2 1) (Int.toNat 2) = [0, 0 + qN BG 2 1 0, 0 + qN BG 2 1 1, (0 + qN BG 2 1 0) + qN BG 2 1 1] := rfl
theorem tbN0 : qN BG 2 1 0 = BG := by show mulG (2 ^ (apN 2 1 * 0)) BG = BG; rw [Nat.mul_zero, Nat.pow_zero, mulG_one]
theorem tab_a (g : G) : (0 + BG) + g = (0 + g) + BG := by rw [G.zero_add, G.zero_add, G.comm]
theorem tab_b (g : G) : ¬ (0 + BG) + g = 0 + g := fun h => BG_ne (by
  rw [G.zero_add, G.zero_add] at h
  have h2 : (BG + g) + -g = g + -g := by rw [h]
  rw [G.assoc, G.add_neg, G.add_zero] at h2
  exact h2)
def tcJ : Tab := tb_pbase :: tb_newT :: tb_tlen :: tb_tlook :: tb_padd :: tb_peq :: tb_csame :: []
theorem tcJ_ok : tcJ.OK Tryz.prog := tab_cons tb_pbase_ok <| tab_cons tb_newT_ok <| tab_cons tb_tlen_ok <| tab_cons tb_tlook_ok <| tab_cons tb_padd_ok <| tab_cons tb_peq_ok <| tab_cons tb_csame_ok <| tab_nil _
def o_awake11 : Orc := { ans := [(8, .one ⟨.leaf (.agg [.whole 0 24]), 1, []⟩), (9, .one ⟨.tup [.atom (.var 0), .atom (.var 1)], 2, []⟩), (13, oB), (16, oB), (17, oV), (20, oV), (21, oB), (22, oV), (25, .one ⟨.tup [.agg [.whole 0 24], .atom (.var 1)], 2, []⟩), (30, .one ⟨.tup [.agg [.whole 0 24], .atom (.var 1)], 2, []⟩), (34, oB), (37, oB), (38, oV), (40, .one ⟨.leaf (.agg [.whole 0 24]), 1, []⟩), (41, .one ⟨.leaf (.agg [.whole 0 24]), 1, []⟩), (42, .one ⟨.leaf (.agg [.whole 0 24]), 1, []⟩), (43, .one ⟨.leaf (.agg [.whole 0 24]), 1, []⟩), (44, oB), (45, oV), (47, .one ⟨.leaf (.agg [.whole 0 24]), 1, []⟩), (48, .one ⟨.leaf (.agg [.whole 0 24]), 1, []⟩), (49, oB), (50, oV), (51, oV), (53, oV), (54, oB), (55, oV), (57, oV), (58, oB), (59, oV)], lps := [], ords := [(6, [.pure 0, .quiet 1, .pure 2, .pure 3, .quiet 4, .quiet 5, .pure 6, .quiet 7, .quiet 8, .call 9 [], .call 10 [], .call 11 [], .quiet 12, .pure 13, .quiet 14, .quiet 15, .call 16 [], .quiet 17, .quiet 18, .pure 19, .call 20 [], .quiet 21, .quiet 22, .pure 23, .call 24 [], .quiet 25, .quiet 26, .pure 27])] }
def t_awake11 : Tree :=
  .call 17 [] ([], []) (.leaf (.agg [.whole 0 24])) 1 [] <|
  .call 6 [.agg [.whole 0 24], .atom (.const (.int .i64 2)), .atom (.const (.int .i64 1))] ([], []) (.tup [.atom (.var 1), .atom (.var 2)]) 2 [] <|
  .calc2 (.binOp .neq 41 (.tmp 12) (.const (.int .i64 0)) 41) 4 [(12, .leaf (.atom (.var 2)))] ([], []) (.leaf (.atom (.const (.bool true)))) 0 (
    .ret ([], []) (.leaf (.atom (.const (.bool false))))) (.leaf (.atom (.const (.bool false)))) 0 <|
  .calc2 (.binOp .eql 40 (.tmp 15) (.const (.pointer none)) 40) 4 [(15, .leaf (.atom (.var 1)))] ([], []) (.leaf (.atom (.const (.bool true)))) 0 (
    .ret ([], []) (.leaf (.atom (.const (.bool false))))) (.leaf (.atom (.const (.bool false)))) 0 <|
  .call 18 [.atom (.var 1)] ([], []) (.leaf (.atom (.var 3))) 1 [] <|
  .calc2 (.binOp .neq 3 (.tmp 20) (.const (.int .i64 4)) 3) 4 [(20, .leaf (.atom (.var 3)))] ([], []) (.leaf (.atom (.const (.bool true)))) 0 (
    .ret ([], []) (.leaf (.atom (.const (.bool false))))) (.leaf (.atom (.const (.bool false)))) 0 <|
  .call 19 [.atom (.var 1), .atom (.const (.int .i64 3))] ([], []) (.tup [.agg [.whole 4 24], .atom (.var 5)]) 2 [] <|
  .new <|
  .call 19 [.atom (.var 1), .atom (.const (.int .i64 2))] ([], []) (.tup [.agg [.whole 6 24], .atom (.var 7)]) 2 [] <|
  .new <|
  .calc2 (.binOp .eql 41 (.tmp 33) (.const (.int .i64 0)) 41) 4 [(33, .leaf (.atom (.var 5)))] ([], []) (.leaf (.atom (.const (.bool true)))) 0 (
    .calc2 (.binOp .eql 41 (.tmp 36) (.const (.int .i64 0)) 41) 4 [(36, .leaf (.atom (.var 7)))] ([], []) (.leaf (.atom (.const (.bool true)))) 0 (
      .call 17 [] ([], []) (.leaf (.agg [.whole 8 24])) 1 [] <|
      .call 21 [.agg [.whole 6 24], .agg [.whole 8 24]] ([], []) (.leaf (.agg [.whole 9 24])) 1 [] <|
      .call2 20 [.agg [.whole 4 24], .agg [.whole 9 24]] ([], []) (.leaf (.atom (.const (.bool true)))) 0 [] (
        .call2 20 [.agg [.whole 4 24], .agg [.whole 6 24]] ([], []) (.leaf (.atom (.const (.bool true)))) 0 [] (
          .ret ([], []) (.leaf (.atom (.const (.bool false))))) (.leaf (.atom (.const (.bool false)))) 0 [] <|
        .call 22 [.atom (.const (.int .i64 5)), .atom (.const (.int .i64 5))] ([], []) (.leaf (.atom (.var 10))) 1 [] <|
        .calc2 (.binOp .eql 3 (.tmp 53) (.const (.int .i64 1)) 3) 4 [(53, .leaf (.atom (.var 10)))] ([], []) (.leaf (.atom (.const (.bool true)))) 0 (
          .call 22 [.atom (.const (.int .i64 5)), .atom (.const (.int .i64 4))] ([], []) (.leaf (.atom (.var 11))) 1 [] <|
          .calc2 (.binOp .eql 3 (.tmp 57) (.const (.int .i64 0)) 3) 4 [(57, .leaf (.atom (.var 11)))] ([], []) (.leaf (.atom (.const (.bool true)))) 0 (
            .ret ([], []) (.leaf (.atom (.const (.bool true))))) (.leaf (.atom (.const (.bool false)))) 0 <|
          .ret ([], []) (.leaf (.atom (.const (.bool false))))) (.leaf (.atom (.const (.bool false)))) 0 <|
        .ret ([], []) (.leaf (.atom (.const (.bool false))))) (.leaf (.atom (.const (.bool false)))) 0 [] <|
      .ret ([], []) (.leaf (.atom (.const (.bool false))))) (.leaf (.atom (.const (.bool false)))) 0 <|
    .ret ([], []) (.leaf (.atom (.const (.bool false))))) (.leaf (.atom (.const (.bool false)))) 0 <|
  .ret ([], []) (.leaf (.atom (.const (.bool false))))
theorem c_awake11 : compF Tryz.prog Tryz.f5 o_awake11 (Tryz.f5.body.getD .skip) (symIn [] Tryz.f5.ntmps 0) = some t_awake11 := by kernel_rfl
theorem g_awake11 : goodC Tryz.prog o_awake11.ords (Tryz.f5.body.getD .skip) = true := by kernel_rfl
def tb_awake11 : FuncId × Trans := (5, tAw11)
set_option maxRecDepth 100000 in
theorem aw_awake11 : ∀ zs Q, tb_awake11.2 zs Q → bindLs 0 [] zs fun ae => bif Nat.beq ae.length 0 then AWp Tryz.prog tcJ Q t_awake11 [] ae else False := by
  intro zs Q h
  obtain ⟨rfl, h⟩ := h
  repeat ((conv => whnf) <;> first | with_reducible first | refine wI (by omega) ?_ | refine And.intro rfl ?_ | rfl | refine And.intro ‹_› ?_ | refine cTe ‹_› ?_ | refine cFe ‹_› ?_ | refine cN (cTe ‹_› ?_) | refine cN (cFe ‹_› ?_) | refine cTe rfl ?_ | refine cEq ‹_› ?_ | refine cTt ?_ | refine cNt ?_ | refine cF (Eq.refl false) ?_ | refine cN (cF (Eq.refl false) ?_) | refine cTd (by omega) ?_ | refine cFd (by omega) ?_ | refine cN (cTd (by omega) ?_) | refine cN (cFd (by omega) ?_) | refine And.intro (by omega) ?_ | refine And.intro (Eq.refl true) ?_)
  intro _ _ _ _
  have e := tab2
  rw [tbN0] at e
  generalize tabL (qN BG 2 1) (Int.toNat 2) = L at *
  generalize qN BG 2 1 1 = g at *
  have t1 := tab_a g
  have t2 := tab_b g
  have hl : L.length = 4 := by rw [e]; rfl
  have hl4 := pts_len L
  have d1 : L.getD (Int.toNat 3) 0 = L.getD (Int.toNat 2) 0 + BG := by rw [e]; exact t1
  have d2 : ¬ L.getD (Int.toNat 3) 0 = L.getD (Int.toNat 2) 0 := by rw [e]; exact t2
  clear e t1 t2
  have s55 : smI 5 5 = 1 := rfl
  have s54 : smI 5 4 = 0 := rfl
  have i3 : I64 3 := by unfold I64; omega
  have i2 : I64 2 := by unfold I64; omega
  have i54 : I64 5 ∧ I64 4 := ⟨by unfold I64; omega, by unfold I64; omega⟩
  have i55 : I64 5 ∧ I64 5 := ⟨by unfold I64; omega, by unfold I64; omega⟩
  repeat ((conv => whnf) <;> first | with_reducible first | refine wI (by omega) ?_ | refine And.intro rfl ?_ | rfl | refine And.intro ‹_› ?_ | refine cTe ‹_› ?_ | refine cFe ‹_› ?_ | refine cN (cTe ‹_› ?_) | refine cN (cFe ‹_› ?_) | refine cTe rfl ?_ | refine cEq ‹_› ?_ | refine cTt ?_ | refine cNt ?_ | refine cF (Eq.refl false) ?_ | refine cN (cF (Eq.refl false) ?_) | refine cTd (by omega) ?_ | refine cFd (by omega) ?_ | refine cN (cTd (by omega) ?_) | refine cN (cFd (by omega) ?_) | refine And.intro (by omega) ?_ | refine And.intro (Eq.refl true) ?_)
  refine ⟨L, rfl, by omega, fun hh => absurd ⟨by omega, by omega⟩ hh, fun _ _ => ?_⟩
  repeat ((conv => whnf) <;> first | with_reducible first | refine wI (by omega) ?_ | refine And.intro rfl ?_ | rfl | refine And.intro ‹_› ?_ | refine cTe ‹_› ?_ | refine cFe ‹_› ?_ | refine cN (cTe ‹_› ?_) | refine cN (cFe ‹_› ?_) | refine cTe rfl ?_ | refine cEq ‹_› ?_ | refine cTt ?_ | refine cNt ?_ | refine cF (Eq.refl false) ?_ | refine cN (cF (Eq.refl false) ?_) | refine cTd (by omega) ?_ | refine cFd (by omega) ?_ | refine cN (cTd (by omega) ?_) | refine cN (cFd (by omega) ?_) | refine And.intro (by omega) ?_ | refine And.intro (Eq.refl true) ?_)
  refine ⟨L, rfl, by omega, fun hh => absurd ⟨by omega, by omega⟩ hh, fun _ _ => ?_⟩
  repeat ((conv => whnf) <;> first | with_reducible first | refine wI (by omega) ?_ | refine And.intro rfl ?_ | rfl | refine And.intro ‹_› ?_ | refine cTe ‹_› ?_ | refine cFe ‹_› ?_ | refine cN (cTe ‹_› ?_) | refine cN (cFe ‹_› ?_) | refine cTe rfl ?_ | refine cEq ‹_› ?_ | refine cTt ?_ | refine cNt ?_ | refine cF (Eq.refl false) ?_ | refine cN (cF (Eq.refl false) ?_) | refine cTd (by omega) ?_ | refine cFd (by omega) ?_ | refine cN (cTd (by omega) ?_) | refine cN (cFd (by omega) ?_) | refine And.intro (by omega) ?_ | refine And.intro (Eq.refl true) ?_)
  (conv => whnf)
  exact h
theorem tb_awake11_ok : Con Tryz.prog tb_awake11.1 tb_awake11.2 := con_tree tcJ_ok o_awake11 [] 0 Tryz.func5 rfl c_awake11 aw_awake11 g_awake11
end Go.Proofs.YtamgmkeoaaaliaaGreat
