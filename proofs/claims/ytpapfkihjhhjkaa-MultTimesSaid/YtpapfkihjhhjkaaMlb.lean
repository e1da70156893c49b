/- Chapter 12: the example; MultTimes -/
import Derived.Test.YtpapfkihjhhjkaaMla
import Derived.Test.YtpapfkihjhhjkaaCma
import Derived.Test.YtpapfkihjhhjkaaOpc
import Derived.Test.YtpapfkihjhhjkaaOpb
set_option linter.unusedSimpArgs false
set_option linter.unusedVariables false
namespace Go.Proofs.Ytpapfkihjhhjkaa
open Go.RowKit FdP FdP.Ch
theorem BGx_no : BG.x ≠ 0 := by
  intro this
  have : (z bxN) = 0 := this
  rw [← z_zero, z_eq] at this
  revert this; decide +kernel
theorem BG2_ne : ¬ BG + BG = 0 := by
  intro h
  have e : BG = -BG := G.neg_uniq h
  have e2 : BG.x = -BG.x := congrArg Ed.x e
  have e3 : (2 : F) * BG.x = 0 := by grind
  exact (mul_zero e3).elim two_ne BGx_no
theorem BG3 : mulG (nval [3]) BG = BG + (BG + BG) := by
  have : nval [3] = 2 + 1 := by decide
  rw [this, mulG_add, mulG_two, mulG_one, G.comm]
theorem BG3_ne : ¬ mulG (nval [3]) BG = BG := by
  rw [BG3]
  intro h
  have h2 : (BG + BG) + BG + -BG = BG + -BG := by rw [G.comm (BG + BG), h]
  rw [G.sub_add, G.add_neg] at h2
  exact BG2_ne h2
def tAw12 : Trans := fun zs Q => zs = [] ∧ Q (.bool true)
def tWrong : Trans := fun zs Q => match zs with
  | [.isl .u8 b] => b.length ≤ 100000 ∧ (¬ (1 ≤ b.length ∧ b.length ≤ 64) → Q (.int .i64 11)) ∧ (1 ≤ b.length → b.length ≤ 64 → Q (.int .i64 0))
  | _ => False
def tmC : Tab := tb_pbase :: tb_mult :: tb_pdbl :: tb_padd :: tb_peq :: []
theorem tmC_ok : tmC.OK Try.prog := tab_cons tb_pbase_ok <| tab_cons tb_mult_ok <| tab_cons tb_pdbl_ok <| tab_cons tb_padd_ok <| tab_cons tb_peq_ok <| tab_nil _
def o_awake12 : Orc := { ans := [(4, .one ⟨.leaf (.agg [.whole 0 24]), 1, []⟩), (7, .one ⟨.leaf (.agg [.whole 0 24]), 1, []⟩), (8, .one ⟨.tup [.agg [.whole 0 24], .atom (.var 1)], 2, []⟩), (12, .two ⟨.leaf (.atom (.const (.bool true))), 0, []⟩ ⟨.leaf (.atom (.const (.bool false))), 0, []⟩), (14, .one ⟨.leaf (.agg [.whole 0 24]), 1, []⟩), (15, .one ⟨.leaf (.agg [.whole 0 24]), 1, []⟩), (16, .one ⟨.leaf (.agg [.whole 0 24]), 1, []⟩), (17, .one ⟨.leaf (.agg [.whole 0 24]), 1, []⟩), (18, .one ⟨.leaf (.agg [.whole 0 24]), 1, []⟩), (19, .two ⟨.leaf (.atom (.const (.bool true))), 0, []⟩ ⟨.leaf (.atom (.const (.bool false))), 0, []⟩), (20, .one ⟨.leaf (.atom (.var 0)), 1, []⟩), (22, .one ⟨.leaf (.agg [.whole 0 24]), 1, []⟩), (23, .one ⟨.leaf (.agg [.whole 0 24]), 1, []⟩), (24, .two ⟨.leaf (.atom (.const (.bool true))), 0, []⟩ ⟨.leaf (.atom (.const (.bool false))), 0, []⟩), (25, .one ⟨.leaf (.atom (.var 0)), 1, []⟩), (26, .one ⟨.leaf (.atom (.var 0)), 1, []⟩)], lps := [], ords := [(3, [.pure 0, .quiet 1, .pure 2, .quiet 3, .quiet 4, .quiet 5, .call 6 [], .call 7 [], .call 8 [], .quiet 9, .pure 10, .quiet 11, .quiet 12, .call 13 [], .quiet 14, .quiet 15, .pure 16])] }
def t_awake12 : Tree :=
  .call 25 [] ([], []) (.leaf (.agg [.whole 0 24])) 1 [] <|
  .new <|
  .new <|
  .call 8 [.atom (.slc 1 0 1 1), .agg [.whole 0 24]] ([([.whole 0 24], 31), ([.one (.const (.int .u8 3))], 5)], []) (.tup [.agg [.whole 1 24], .atom (.var 2)]) 2 [] <|
  .new <|
  .calc2 (.binOp .eql 39 (.tmp 11) (.const (.int .i64 0)) 39) 4 [(11, .leaf (.atom (.var 2)))] ([], []) (.leaf (.atom (.const (.bool true)))) 0 (
    .call 27 [.agg [.whole 0 24]] ([], []) (.leaf (.agg [.whole 3 24])) 1 [] <|
    .call 26 [.agg [.whole 0 24], .agg [.whole 3 24]] ([], []) (.leaf (.agg [.whole 4 24])) 1 [] <|
    .call2 10 [.agg [.whole 1 24], .agg [.whole 4 24]] ([], []) (.leaf (.atom (.const (.bool true)))) 0 [] (
      .call2 10 [.agg [.whole 1 24], .agg [.whole 0 24]] ([], []) (.leaf (.atom (.const (.bool true)))) 0 [] (
        .ret ([], []) (.leaf (.atom (.const (.bool false))))) (.leaf (.atom (.const (.bool false)))) 0 [] <|
      .ret ([], []) (.leaf (.atom (.const (.bool true))))) (.leaf (.atom (.const (.bool false)))) 0 [] <|
    .ret ([], []) (.leaf (.atom (.const (.bool false))))) (.leaf (.atom (.const (.bool false)))) 0 <|
  .ret ([], []) (.leaf (.atom (.const (.bool false))))
theorem c_awake12 : compF Try.prog Try.f7 o_awake12 (Try.f7.body.getD .skip) (symIn [] Try.f7.ntmps 0) = some t_awake12 := by kernel_rfl
theorem g_awake12 : goodC Try.prog o_awake12.ords (Try.f7.body.getD .skip) = true := by kernel_rfl
def tb_awake12 : FuncId × Trans := (7, tAw12)
set_option maxRecDepth 100000 in
theorem aw_awake12 : ∀ zs Q, tb_awake12.2 zs Q → bindLs 0 [] zs fun ae => bif Nat.beq ae.length 0 then AWp Try.prog tmC Q t_awake12 [] ae else False := by
  intro zs Q h
  obtain ⟨rfl, h⟩ := h
  have h3 : By [3] ∧ ([3] : List Int).length ≤ 100000 := ⟨by decide, by decide⟩
  have hl3 : ([3] : List Int).length = 1 := rfl
  have e1 := BG3
  have e2 := BG3_ne
  repeat ((conv => whnf) <;> first | with_reducible first | refine wI (by omega) ?_ | refine wB (by omega) ?_ | refine wR (by omega) ?_ | refine wQ (by omega) ?_ | refine And.intro rfl ?_ | rfl | refine And.intro ‹_› ?_ | refine cTe ‹_› ?_ | refine cFe ‹_› ?_ | refine cN (cTe ‹_› ?_) | refine cN (cFe ‹_› ?_) | refine cTe rfl ?_ | refine cEq ‹_› ?_ | refine cTt ?_ | refine cNt ?_ | refine cF (Eq.refl false) ?_ | refine cN (cF (Eq.refl false) ?_) | refine cTd (by omega) ?_ | refine cFd (by omega) ?_ | refine cN (cTd (by omega) ?_) | refine cN (cFd (by omega) ?_) | refine And.intro (fun hh : Option.isSome none = true => by cases hh) ?_ | refine And.intro (by omega) ?_ | refine And.intro (Eq.refl true) ?_ | refine And.intro (Eq.refl (1 : Nat)) ?_)
  intro _ _
  generalize mulG (nval [3]) BG = g at *
  repeat ((conv => whnf) <;> first | with_reducible first | refine wI (by omega) ?_ | refine wB (by omega) ?_ | refine wR (by omega) ?_ | refine wQ (by omega) ?_ | refine And.intro rfl ?_ | rfl | refine And.intro ‹_› ?_ | refine cTe ‹_› ?_ | refine cFe ‹_› ?_ | refine cN (cTe ‹_› ?_) | refine cN (cFe ‹_› ?_) | refine cTe rfl ?_ | refine cEq ‹_› ?_ | refine cTt ?_ | refine cNt ?_ | refine cF (Eq.refl false) ?_ | refine cN (cF (Eq.refl false) ?_) | refine cTd (by omega) ?_ | refine cFd (by omega) ?_ | refine cN (cTd (by omega) ?_) | refine cN (cFd (by omega) ?_) | refine And.intro (fun hh : Option.isSome none = true => by cases hh) ?_ | refine And.intro (by omega) ?_ | refine And.intro (Eq.refl true) ?_ | refine And.intro (Eq.refl (1 : Nat)) ?_)
  (conv => whnf)
  exact h
theorem tb_awake12_ok : Con Try.prog tb_awake12.1 tb_awake12.2 := con_tree tmC_ok o_awake12 [] 0 Try.func7 rfl c_awake12 aw_awake12 g_awake12
def o_wrong : Orc := { ans := [(4, .one ⟨.leaf (.atom (.var 0)), 1, []⟩), (5, .two ⟨.leaf (.atom (.const (.bool true))), 0, []⟩ ⟨.leaf (.atom (.const (.bool false))), 0, []⟩), (8, .one ⟨.leaf (.atom (.var 0)), 1, []⟩), (9, .two ⟨.leaf (.atom (.const (.bool true))), 0, []⟩ ⟨.leaf (.atom (.const (.bool false))), 0, []⟩), (10, .one ⟨.leaf (.atom (.var 0)), 1, []⟩)], lps := [] }
def t_wrong : Tree :=
  .calc (.call { callee := .builtin .len, args := #[.tmp 3], argTypes := #[22] }) 3 [(3, .leaf (.atom (.var 0)))] ([], []) (.leaf (.atom (.var 1))) 1 <|
  .calc2 (.binOp .lss 3 (.tmp 4) (.const (.int .i64 1)) 3) 4 [(4, .leaf (.atom (.var 1)))] ([], []) (.leaf (.atom (.const (.bool true)))) 0 (
    .ret ([], []) (.leaf (.atom (.const (.int .i64 11))))) (.leaf (.atom (.const (.bool false)))) 0 <|
  .calc (.call { callee := .builtin .len, args := #[.tmp 7], argTypes := #[22] }) 3 [(7, .leaf (.atom (.var 0)))] ([], []) (.leaf (.atom (.var 2))) 1 <|
  .calc2 (.binOp .gtr 3 (.tmp 8) (.const (.int .i64 64)) 3) 4 [(8, .leaf (.atom (.var 2)))] ([], []) (.leaf (.atom (.const (.bool true)))) 0 (
    .ret ([], []) (.leaf (.atom (.const (.int .i64 11))))) (.leaf (.atom (.const (.bool false)))) 0 <|
  .ret ([], []) (.leaf (.atom (.const (.int .i64 0))))
theorem c_wrong : compF Try.prog Try.f11 o_wrong (Try.f11.body.getD .skip) (symIn [.atom (.var 0)] Try.f11.ntmps 1) = some t_wrong := by kernel_rfl
theorem g_wrong : goodC Try.prog o_wrong.ords (Try.f11.body.getD .skip) = true := by kernel_rfl
def tb_wrong : FuncId × Trans := (11, tWrong)
set_option maxRecDepth 100000 in
theorem aw_wrong : ∀ zs Q, tb_wrong.2 zs Q → bindLs 0 [.atom (.var 0)] zs fun ae => bif Nat.beq ae.length 1 then AWp Try.prog tmNil Q t_wrong [] ae else False := by
  intro zs Q h
  replace h : tWrong zs Q := h
  unfold tWrong at h
  split at h
  case h_2 => exact h.elim
  rename_i b
  obtain ⟨hl, h1, h2⟩ := h
  by_cases a1 : b.length = 0
  · have h := h1 (by omega)
    repeat ((conv => whnf) <;> first | with_reducible first | refine wI (by omega) ?_ | refine wB (by omega) ?_ | refine wR (by omega) ?_ | refine wQ (by omega) ?_ | refine And.intro rfl ?_ | rfl | refine And.intro ‹_› ?_ | refine cTe ‹_› ?_ | refine cFe ‹_› ?_ | refine cN (cTe ‹_› ?_) | refine cN (cFe ‹_› ?_) | refine cTe rfl ?_ | refine cEq ‹_› ?_ | refine cTt ?_ | refine cNt ?_ | refine cF (Eq.refl false) ?_ | refine cN (cF (Eq.refl false) ?_) | refine cTd (by omega) ?_ | refine cFd (by omega) ?_ | refine cN (cTd (by omega) ?_) | refine cN (cFd (by omega) ?_) | refine And.intro (fun hh : Option.isSome none = true => by cases hh) ?_ | refine And.intro (by omega) ?_ | refine And.intro (Eq.refl true) ?_ | refine And.intro (Eq.refl (1 : Nat)) ?_)
    (conv => whnf)
    exact h
  by_cases a2 : 64 < b.length
  · have h := h1 (by omega)
    repeat ((conv => whnf) <;> first | with_reducible first | refine wI (by omega) ?_ | refine wB (by omega) ?_ | refine wR (by omega) ?_ | refine wQ (by omega) ?_ | refine And.intro rfl ?_ | rfl | refine And.intro ‹_› ?_ | refine cTe ‹_› ?_ | refine cFe ‹_› ?_ | refine cN (cTe ‹_› ?_) | refine cN (cFe ‹_› ?_) | refine cTe rfl ?_ | refine cEq ‹_› ?_ | refine cTt ?_ | refine cNt ?_ | refine cF (Eq.refl false) ?_ | refine cN (cF (Eq.refl false) ?_) | refine cTd (by omega) ?_ | refine cFd (by omega) ?_ | refine cN (cTd (by omega) ?_) | refine cN (cFd (by omega) ?_) | refine And.intro (fun hh : Option.isSome none = true => by cases hh) ?_ | refine And.intro (by omega) ?_ | refine And.intro (Eq.refl true) ?_ | refine And.intro (Eq.refl (1 : Nat)) ?_)
    (conv => whnf)
    exact h
  have h := h2 (by omega) (by omega)
  repeat ((conv => whnf) <;> first | with_reducible first | refine wI (by omega) ?_ | refine wB (by omega) ?_ | refine wR (by omega) ?_ | refine wQ (by omega) ?_ | refine And.intro rfl ?_ | rfl | refine And.intro ‹_› ?_ | refine cTe ‹_› ?_ | refine cFe ‹_› ?_ | refine cN (cTe ‹_› ?_) | refine cN (cFe ‹_› ?_) | refine cTe rfl ?_ | refine cEq ‹_› ?_ | refine cTt ?_ | refine cNt ?_ | refine cF (Eq.refl false) ?_ | refine cN (cF (Eq.refl false) ?_) | refine cTd (by omega) ?_ | refine cFd (by omega) ?_ | refine cN (cTd (by omega) ?_) | refine cN (cFd (by omega) ?_) | refine And.intro (fun hh : Option.isSome none = true => by cases hh) ?_ | refine And.intro (by omega) ?_ | refine And.intro (Eq.refl true) ?_ | refine And.intro (Eq.refl (1 : Nat)) ?_)
  (conv => whnf)
  exact h
theorem tb_wrong_ok : Con Try.prog tb_wrong.1 tb_wrong.2 := con_tree tmNil_ok o_wrong [.atom (.var 0)] 1 Try.func11 rfl c_wrong aw_wrong g_wrong
def tmD : Tab := tb_awake12 :: tb_made11 :: tb_mult :: tb_wrong :: tb_rptimes :: tb_same11 :: []
theorem tmD_ok : tmD.OK Try.prog := tab_cons tb_awake12_ok <| tab_cons tb_made11_ok <| tab_cons tb_mult_ok <| tab_cons tb_wrong_ok <| tab_cons tb_rptimes_ok <| tab_cons tb_same11_ok <| tab_nil _
def o_multtimes : Orc := { ans := [(11, .one ⟨.leaf (.agg [.one (.var 0), .one (.var 1)]), 2, []⟩), (12, .two ⟨.tup [.agg [.whole 0 24], .agg [.whole 1 48], .atom (.const (.bool true))], 2, []⟩ ⟨.tup [.agg [.whole 0 24], .agg [.whole 1 48], .atom (.const (.bool false))], 2, []⟩), (17, .one ⟨.leaf (.atom (.var 0)), 1, []⟩), (20, .one ⟨.leaf (.atom (.var 0)), 1, []⟩), (21, .two ⟨.leaf (.atom (.const (.bool true))), 0, []⟩ ⟨.leaf (.atom (.const (.bool false))), 0, []⟩), (22, .one ⟨.leaf (.atom (.var 0)), 1, []⟩), (23, .two ⟨.leaf (.atom (.const (.bool true))), 0, []⟩ ⟨.leaf (.atom (.const (.bool false))), 0, []⟩), (26, .one ⟨.leaf (.agg [.whole 0 24]), 1, []⟩), (27, .one ⟨.tup [.agg [.whole 0 24], .atom (.var 1)], 2, []⟩), (31, .one ⟨.leaf (.atom (.var 0)), 1, []⟩), (32, .two ⟨.leaf (.atom (.const (.bool true))), 0, []⟩ ⟨.leaf (.atom (.const (.bool false))), 0, []⟩), (35, .one ⟨.leaf (.atom (.var 0)), 1, []⟩), (36, .two ⟨.leaf (.atom (.const (.bool true))), 0, []⟩ ⟨.leaf (.atom (.const (.bool false))), 0, []⟩), (38, .two ⟨.leaf (.atom (.const (.bool true))), 0, []⟩ ⟨.leaf (.atom (.const (.bool false))), 0, []⟩), (39, .one ⟨.leaf (.atom (.var 0)), 1, []⟩), (41, .two ⟨.leaf (.atom (.const (.bool true))), 0, []⟩ ⟨.leaf (.atom (.const (.bool false))), 0, []⟩), (43, .one ⟨.leaf (.agg [.whole 0 24]), 1, []⟩), (45, .one ⟨.leaf (.agg [.whole 0 48]), 1, []⟩), (46, .one ⟨.leaf (.agg [.whole 0 48]), 1, []⟩), (47, .two ⟨.leaf (.atom (.const (.bool true))), 0, []⟩ ⟨.leaf (.atom (.const (.bool false))), 0, []⟩), (48, .one ⟨.leaf (.atom (.var 0)), 1, []⟩), (50, .two ⟨.leaf (.atom (.const (.bool true))), 0, []⟩ ⟨.leaf (.atom (.const (.bool false))), 0, []⟩), (51, .one ⟨.leaf (.atom (.var 0)), 1, []⟩)], lps := [], ords := [(7, [.pure 0, .quiet 1, .pure 2, .quiet 3, .pure 4, .quiet 5, .call 6 [], .call 7 [], .quiet 8, .pure 9, .call 10 [], .quiet 11, .pure 12])] }
def t_multtimes : Tree :=
  .new <|
  .call2 6 [.agg [.one (.var 0), .one (.var 1)]] ([], []) (.tup [.agg [.whole 3 24], .agg [.whole 4 48], .atom (.const (.bool true))]) 2 [] (
    .new <|
    .new <|
    .calc (.call { callee := .builtin .len, args := #[.tmp 19], argTypes := #[22] }) 3 [(19, .leaf (.atom (.var 2)))] ([], []) (.leaf (.atom (.var 5))) 1 <|
    .calc2 (.binOp .gtr 3 (.tmp 20) (.const (.int .i64 80)) 3) 4 [(20, .leaf (.atom (.var 5)))] ([], []) (.leaf (.atom (.const (.bool true)))) 0 (
      .call2 7 [] ([], []) (.leaf (.atom (.const (.bool true)))) 0 [] (
        .ret ([], []) (.leaf (.atom (.const (.bool true))))) (.leaf (.atom (.const (.bool false)))) 0 [] <|
      .ret ([], []) (.leaf (.atom (.const (.bool false))))) (.leaf (.atom (.const (.bool false)))) 0 <|
    .call 8 [.atom (.var 2), .agg [.whole 3 24]] ([], []) (.tup [.agg [.whole 6 24], .atom (.var 7)]) 2 [] <|
    .new <|
    .call 11 [.atom (.var 2)] ([], []) (.leaf (.atom (.var 8))) 1 [] <|
    .calc2 (.binOp .neq 39 (.tmp 31) (.const (.int .i64 0)) 39) 4 [(31, .leaf (.atom (.var 8)))] ([], []) (.leaf (.atom (.const (.bool true)))) 0 (
      .call 11 [.atom (.var 2)] ([], []) (.leaf (.atom (.var 9))) 1 [] <|
      .calc2 (.binOp .eql 39 (.tmp 33) (.tmp 35) 39) 4 [(33, .leaf (.atom (.var 7))), (35, .leaf (.atom (.var 9)))] ([], []) (.leaf (.atom (.const (.bool true)))) 0 (
        .call2 7 [] ([], []) (.leaf (.atom (.const (.bool true)))) 0 [] (
          .ret ([], []) (.leaf (.atom (.const (.bool true))))) (.leaf (.atom (.const (.bool false)))) 0 [] <|
        .ret ([], []) (.leaf (.atom (.const (.bool false))))) (.leaf (.atom (.const (.bool false)))) 0 <|
      .ret ([], []) (.leaf (.atom (.const (.bool false))))) (.leaf (.atom (.const (.bool false)))) 0 <|
    .calc2 (.binOp .eql 39 (.tmp 40) (.const (.int .i64 0)) 39) 4 [(40, .leaf (.atom (.var 7)))] ([], []) (.leaf (.atom (.const (.bool true)))) 0 (
      .call 13 [.atom (.var 2), .agg [.whole 4 48]] ([], []) (.leaf (.agg [.whole 9 48])) 1 [] <|
      .call2 12 [.agg [.whole 6 24], .agg [.whole 9 48]] ([], []) (.leaf (.atom (.const (.bool true)))) 0 [] (
        .call2 7 [] ([], []) (.leaf (.atom (.const (.bool true)))) 0 [] (
          .ret ([], []) (.leaf (.atom (.const (.bool true))))) (.leaf (.atom (.const (.bool false)))) 0 [] <|
        .ret ([], []) (.leaf (.atom (.const (.bool false))))) (.leaf (.atom (.const (.bool false)))) 0 [] <|
      .ret ([], []) (.leaf (.atom (.const (.bool false))))) (.leaf (.atom (.const (.bool false)))) 0 <|
    .ret ([], []) (.leaf (.atom (.const (.bool false))))) (.tup [.agg [.whole 3 24], .agg [.whole 4 48], .atom (.const (.bool false))]) 2 [] <|
  .new <|
  .new <|
  .call2 7 [] ([], []) (.leaf (.atom (.const (.bool true)))) 0 [] (
    .ret ([], []) (.leaf (.atom (.const (.bool true))))) (.leaf (.atom (.const (.bool false)))) 0 [] <|
  .ret ([], []) (.leaf (.atom (.const (.bool false))))
theorem c_multtimes : compF Try.prog Try.f4 o_multtimes (Try.f4.body.getD .skip) (symIn [.agg [.one (.var 0), .one (.var 1)], .atom (.var 2)] Try.f4.ntmps 3) = some t_multtimes := by kernel_rfl
theorem g_multtimes : goodC Try.prog o_multtimes.ords (Try.f4.body.getD .skip) = true := by kernel_rfl
set_option maxRecDepth 100000 in
set_option maxHeartbeats 1000000 in
theorem aw_multtimes (b1 : List Int) (yb1 : By b1) (n1 : Int) (r1 : I64 n1) (b2 : List Int) (yb2 : By b2) : AWp Try.prog tmD (fun a => a = .bool true) t_multtimes [] [.isl .u8 b1, .int .i64 n1, .isl .u8 b2] := by
  repeat ((conv => whnf) <;> first | with_reducible first | refine wI (by omega) ?_ | refine wB (by omega) ?_ | refine wR (by omega) ?_ | refine wQ (by omega) ?_ | refine And.intro rfl ?_ | rfl | refine And.intro ‹_› ?_ | refine cTe ‹_› ?_ | refine cFe ‹_› ?_ | refine cN (cTe ‹_› ?_) | refine cN (cFe ‹_› ?_) | refine cTe rfl ?_ | refine cEq ‹_› ?_ | refine cTt ?_ | refine cNt ?_ | refine cF (Eq.refl false) ?_ | refine cN (cF (Eq.refl false) ?_) | refine cTd (by omega) ?_ | refine cFd (by omega) ?_ | refine cN (cTd (by omega) ?_) | refine cN (cFd (by omega) ?_) | refine And.intro (fun hh : Option.isSome none = true => by cases hh) ?_ | refine And.intro (by omega) ?_ | refine And.intro (Eq.refl true) ?_ | refine And.intro (Eq.refl (1 : Nat)) ?_)
  refine ⟨fun hh => by repeat ((conv => whnf) <;> first | with_reducible first | refine wI (by omega) ?_ | refine wB (by omega) ?_ | refine wR (by omega) ?_ | refine wQ (by omega) ?_ | refine And.intro rfl ?_ | rfl | refine And.intro ‹_› ?_ | refine cTe ‹_› ?_ | refine cFe ‹_› ?_ | refine cN (cTe ‹_› ?_) | refine cN (cFe ‹_› ?_) | refine cTe rfl ?_ | refine cEq ‹_› ?_ | refine cTt ?_ | refine cNt ?_ | refine cF (Eq.refl false) ?_ | refine cN (cF (Eq.refl false) ?_) | refine cTd (by omega) ?_ | refine cFd (by omega) ?_ | refine cN (cTd (by omega) ?_) | refine cN (cFd (by omega) ?_) | refine And.intro (fun hh : Option.isSome none = true => by cases hh) ?_ | refine And.intro (by omega) ?_ | refine And.intro (Eq.refl true) ?_ | refine And.intro (Eq.refl (1 : Nat)) ?_), fun k1 k2 k3 => ?_⟩
  generalize sgG b1 n1 = g
  by_cases a1 : b2.length > 80
  · repeat ((conv => whnf) <;> first | with_reducible first | refine wI (by omega) ?_ | refine wB (by omega) ?_ | refine wR (by omega) ?_ | refine wQ (by omega) ?_ | refine And.intro rfl ?_ | rfl | refine And.intro ‹_› ?_ | refine cTe ‹_› ?_ | refine cFe ‹_› ?_ | refine cN (cTe ‹_› ?_) | refine cN (cFe ‹_› ?_) | refine cTe rfl ?_ | refine cEq ‹_› ?_ | refine cTt ?_ | refine cNt ?_ | refine cF (Eq.refl false) ?_ | refine cN (cF (Eq.refl false) ?_) | refine cTd (by omega) ?_ | refine cFd (by omega) ?_ | refine cN (cTd (by omega) ?_) | refine cN (cFd (by omega) ?_) | refine And.intro (fun hh : Option.isSome none = true => by cases hh) ?_ | refine And.intro (by omega) ?_ | refine And.intro (Eq.refl true) ?_ | refine And.intro (Eq.refl (1 : Nat)) ?_)
  have hb : By b2 ∧ b2.length ≤ 100000 := ⟨yb2, by omega⟩
  have hb1 : b2.length ≤ 1000 ∧ By b2 := ⟨by omega, yb2⟩
  have hb0 : b2.length ≤ 100000 := by omega
  by_cases a2 : 1 ≤ b2.length ∧ b2.length ≤ 64
  · repeat ((conv => whnf) <;> first | with_reducible first | refine wI (by omega) ?_ | refine wB (by omega) ?_ | refine wR (by omega) ?_ | refine wQ (by omega) ?_ | refine And.intro rfl ?_ | rfl | refine And.intro ‹_› ?_ | refine cTe ‹_› ?_ | refine cFe ‹_› ?_ | refine cN (cTe ‹_› ?_) | refine cN (cFe ‹_› ?_) | refine cTe rfl ?_ | refine cEq ‹_› ?_ | refine cTt ?_ | refine cNt ?_ | refine cF (Eq.refl false) ?_ | refine cN (cF (Eq.refl false) ?_) | refine cTd (by omega) ?_ | refine cFd (by omega) ?_ | refine cN (cTd (by omega) ?_) | refine cN (cFd (by omega) ?_) | refine And.intro (fun hh : Option.isSome none = true => by cases hh) ?_ | refine And.intro (by omega) ?_ | refine And.intro (Eq.refl true) ?_ | refine And.intro (Eq.refl (1 : Nat)) ?_)
    intro _ _
    repeat ((conv => whnf) <;> first | with_reducible first | refine wI (by omega) ?_ | refine wB (by omega) ?_ | refine wR (by omega) ?_ | refine wQ (by omega) ?_ | refine And.intro rfl ?_ | rfl | refine And.intro ‹_› ?_ | refine cTe ‹_› ?_ | refine cFe ‹_› ?_ | refine cN (cTe ‹_› ?_) | refine cN (cFe ‹_› ?_) | refine cTe rfl ?_ | refine cEq ‹_› ?_ | refine cTt ?_ | refine cNt ?_ | refine cF (Eq.refl false) ?_ | refine cN (cF (Eq.refl false) ?_) | refine cTd (by omega) ?_ | refine cFd (by omega) ?_ | refine cN (cTd (by omega) ?_) | refine cN (cFd (by omega) ?_) | refine And.intro (fun hh : Option.isSome none = true => by cases hh) ?_ | refine And.intro (by omega) ?_ | refine And.intro (Eq.refl true) ?_ | refine And.intro (Eq.refl (1 : Nat)) ?_)
    intro _ _
    repeat ((conv => whnf) <;> first | with_reducible first | refine wI (by omega) ?_ | refine wB (by omega) ?_ | refine wR (by omega) ?_ | refine wQ (by omega) ?_ | refine And.intro rfl ?_ | rfl | refine And.intro ‹_› ?_ | refine cTe ‹_› ?_ | refine cFe ‹_› ?_ | refine cN (cTe ‹_› ?_) | refine cN (cFe ‹_› ?_) | refine cTe rfl ?_ | refine cEq ‹_› ?_ | refine cTt ?_ | refine cNt ?_ | refine cF (Eq.refl false) ?_ | refine cN (cF (Eq.refl false) ?_) | refine cTd (by omega) ?_ | refine cFd (by omega) ?_ | refine cN (cTd (by omega) ?_) | refine cN (cFd (by omega) ?_) | refine And.intro (fun hh : Option.isSome none = true => by cases hh) ?_ | refine And.intro (by omega) ?_ | refine And.intro (Eq.refl true) ?_ | refine And.intro (Eq.refl (1 : Nat)) ?_)
    (conv => whnf)
    refine ⟨fun _ => ?_, fun hh => absurd rfl hh⟩
    repeat ((conv => whnf) <;> first | with_reducible first | refine wI (by omega) ?_ | refine wB (by omega) ?_ | refine wR (by omega) ?_ | refine wQ (by omega) ?_ | refine And.intro rfl ?_ | rfl | refine And.intro ‹_› ?_ | refine cTe ‹_› ?_ | refine cFe ‹_› ?_ | refine cN (cTe ‹_› ?_) | refine cN (cFe ‹_› ?_) | refine cTe rfl ?_ | refine cEq ‹_› ?_ | refine cTt ?_ | refine cNt ?_ | refine cF (Eq.refl false) ?_ | refine cN (cF (Eq.refl false) ?_) | refine cTd (by omega) ?_ | refine cFd (by omega) ?_ | refine cN (cTd (by omega) ?_) | refine cN (cFd (by omega) ?_) | refine And.intro (fun hh : Option.isSome none = true => by cases hh) ?_ | refine And.intro (by omega) ?_ | refine And.intro (Eq.refl true) ?_ | refine And.intro (Eq.refl (1 : Nat)) ?_)
  · repeat ((conv => whnf) <;> first | with_reducible first | refine wI (by omega) ?_ | refine wB (by omega) ?_ | refine wR (by omega) ?_ | refine wQ (by omega) ?_ | refine And.intro rfl ?_ | rfl | refine And.intro ‹_› ?_ | refine cTe ‹_› ?_ | refine cFe ‹_› ?_ | refine cN (cTe ‹_› ?_) | refine cN (cFe ‹_› ?_) | refine cTe rfl ?_ | refine cEq ‹_› ?_ | refine cTt ?_ | refine cNt ?_ | refine cF (Eq.refl false) ?_ | refine cN (cF (Eq.refl false) ?_) | refine cTd (by omega) ?_ | refine cFd (by omega) ?_ | refine cN (cTd (by omega) ?_) | refine cN (cFd (by omega) ?_) | refine And.intro (fun hh : Option.isSome none = true => by cases hh) ?_ | refine And.intro (by omega) ?_ | refine And.intro (Eq.refl true) ?_ | refine And.intro (Eq.refl (1 : Nat)) ?_)
    refine ⟨fun _ => ?_, fun q1 q2 => absurd ⟨q1, q2⟩ a2⟩
    repeat ((conv => whnf) <;> first | with_reducible first | refine wI (by omega) ?_ | refine wB (by omega) ?_ | refine wR (by omega) ?_ | refine wQ (by omega) ?_ | refine And.intro rfl ?_ | rfl | refine And.intro ‹_› ?_ | refine cTe ‹_› ?_ | refine cFe ‹_› ?_ | refine cN (cTe ‹_› ?_) | refine cN (cFe ‹_› ?_) | refine cTe rfl ?_ | refine cEq ‹_› ?_ | refine cTt ?_ | refine cNt ?_ | refine cF (Eq.refl false) ?_ | refine cN (cF (Eq.refl false) ?_) | refine cTd (by omega) ?_ | refine cFd (by omega) ?_ | refine cN (cTd (by omega) ?_) | refine cN (cFd (by omega) ?_) | refine And.intro (fun hh : Option.isSome none = true => by cases hh) ?_ | refine And.intro (by omega) ?_ | refine And.intro (Eq.refl true) ?_ | refine And.intro (Eq.refl (1 : Nat)) ?_)
    refine ⟨fun _ => ?_, fun q1 q2 => absurd ⟨q1, q2⟩ a2⟩
    repeat ((conv => whnf) <;> first | with_reducible first | refine wI (by omega) ?_ | refine wB (by omega) ?_ | refine wR (by omega) ?_ | refine wQ (by omega) ?_ | refine And.intro rfl ?_ | rfl | refine And.intro ‹_› ?_ | refine cTe ‹_› ?_ | refine cFe ‹_› ?_ | refine cN (cTe ‹_› ?_) | refine cN (cFe ‹_› ?_) | refine cTe rfl ?_ | refine cEq ‹_› ?_ | refine cTt ?_ | refine cNt ?_ | refine cF (Eq.refl false) ?_ | refine cN (cF (Eq.refl false) ?_) | refine cTd (by omega) ?_ | refine cFd (by omega) ?_ | refine cN (cTd (by omega) ?_) | refine cN (cFd (by omega) ?_) | refine And.intro (fun hh : Option.isSome none = true => by cases hh) ?_ | refine And.intro (by omega) ?_ | refine And.intro (Eq.refl true) ?_ | refine And.intro (Eq.refl (1 : Nat)) ?_)
    refine ⟨fun _ => ?_, fun q1 q2 => absurd ⟨q1, q2⟩ a2⟩
    repeat ((conv => whnf) <;> first | with_reducible first | refine wI (by omega) ?_ | refine wB (by omega) ?_ | refine wR (by omega) ?_ | refine wQ (by omega) ?_ | refine And.intro rfl ?_ | rfl | refine And.intro ‹_› ?_ | refine cTe ‹_› ?_ | refine cFe ‹_› ?_ | refine cN (cTe ‹_› ?_) | refine cN (cFe ‹_› ?_) | refine cTe rfl ?_ | refine cEq ‹_› ?_ | refine cTt ?_ | refine cNt ?_ | refine cF (Eq.refl false) ?_ | refine cN (cF (Eq.refl false) ?_) | refine cTd (by omega) ?_ | refine cFd (by omega) ?_ | refine cN (cTd (by omega) ?_) | refine cN (cFd (by omega) ?_) | refine And.intro (fun hh : Option.isSome none = true => by cases hh) ?_ | refine And.intro (by omega) ?_ | refine And.intro (Eq.refl true) ?_ | refine And.intro (Eq.refl (1 : Nat)) ?_)
set_option maxRecDepth 100000 in
theorem multtimes_any (b1 : List Int) (yb1 : By b1) (v1 : Value) (n1 : Int) (r1 : I64 n1) (b2 : List Int) (yb2 : By b2) (v2 : Value) (w : World) (s1 : Bv w v1 b1) (s2 : Bv w v2 b2) : Calls Try.prog 4 #[AG [v1, .int .i64 n1], v2] w (OutV (.bool true) w) :=
  law_tree tmD_ok o_multtimes [.agg [.one (.var 0), .one (.var 1)], .atom (.var 2)] [v1, .int .i64 n1, v2] [.isl .u8 b1, .int .i64 n1, .isl .u8 b2] Try.func4 rfl c_multtimes (by simp [Leaf.den, catS, Seg.den, Atom.den, cellsAt, AG, Value.cells]) (by intro x hx; simp only [List.mem_cons, List.not_mem_nil, or_false] at hx; rcases hx with rfl | rfl <;> first | exact ok_two (v := v1) (v' := .int .i64 n1) rfl (bv_one s1) rfl rfl | exact ok_one rfl (bv_one s2)) ⟨_, _, rfl, bv_val s1, _, _, rfl, int_val n1, ⟨_, _, rfl, bv_val s2, rfl⟩⟩ g_multtimes (aw_multtimes b1 yb1 n1 r1 b2 yb2)
end Go.Proofs.Ytpapfkihjhhjkaa
