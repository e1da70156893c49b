/- Small multiples -/
import Derived.Test.YtohebkkiicbdoaaGreatNfp
import Derived.Test.YtohebkkiicbdoaaGreatMlb
set_option linter.unusedSimpArgs false
set_option linter.unusedVariables false
namespace Go.Proofs.YtohebkkiicbdoaaGreat
open Go.RowKit FdP FdP.Ch
def tSmallM : Trans := fun zs Q => match zs with
  | [.int .i64 n, .ob (.pt p)] => I64 n ∧ (¬ (-65536 ≤ n ∧ n ≤ 65536) → Q (.tup [ptA 0, .int .i64 10])) ∧ (-65536 ≤ n → n ≤ 65536 → Q (.tup [ptA (zG n p), .int .i64 0]))
  | _ => False
theorem nval3 {n a b c : Int} (h : n = a + 256 * b + 65536 * c) (ha : 0 ≤ a ∧ a < 256) (hb : 0 ≤ b ∧ b < 256) (hc : 0 ≤ c ∧ c < 256) : nval [a, b, c] = n.toNat ∧ By [a, b, c] := by
  have hy : By [a, b, c] := fun x hx => by
    simp only [List.mem_cons, List.not_mem_nil, or_false] at hx
    rcases hx with rfl | rfl | rfl <;> assumption
  refine ⟨?_, hy⟩
  have e := nval_eq hy
  have : bval [a, b, c] = a + 256 * (b + 256 * (c + 256 * 0)) := rfl
  omega
theorem three {n a b c q0 q1 q2 : Int} (hn : 0 ≤ n ∧ n ≤ 65536) (h0 : a = n + q0 * 256) (l0 : 0 ≤ a) (u0 : a < 256) (h1 : b = n.fdiv (2 ^ min (Int.toNat 8) IntKind.i64.bits) + q1 * 256) (l1 : 0 ≤ b) (u1 : b < 256)
    (h2 : c = n.fdiv (2 ^ min (Int.toNat 16) IntKind.i64.bits) + q2 * 256) (l2 : 0 ≤ c) (u2 : c < 256) : nval [a, b, c] = n.toNat ∧ By [a, b, c] ∧ [a, b, c].length ≤ 100000 ∧ [a, b, c].length = 3 := by
  have e1 : (2 : Int) ^ min (Int.toNat 8) IntKind.i64.bits = 256 := by decide
  have e2 : (2 : Int) ^ min (Int.toNat 16) IntKind.i64.bits = 65536 := by decide
  rw [e1, Int.fdiv_eq_ediv_of_nonneg _ (by omega)] at h1
  rw [e2, Int.fdiv_eq_ediv_of_nonneg _ (by omega)] at h2
  obtain ⟨g1, g2⟩ := nval3 (n := n) (a := a) (b := b) (c := c) (by omega) ⟨l0, u0⟩ ⟨l1, u1⟩ ⟨l2, u2⟩
  exact ⟨g1, g2, by show 3 ≤ 100000; omega, rfl⟩
def tmS : Tab := tb_pid :: tb_pneg :: tb_mult :: []
theorem tmS_ok : tmS.OK Tryz.prog := tab_cons tb_pid_ok <| tab_cons tb_pneg_ok <| tab_cons tb_mult_ok <| tab_nil _
def o_msmall : Orc := { ans := [(7, oB), (10, oB), (11, oV), (12, oA 24), (14, oB), (16, oV), (17, oA 24), (18, oA 24), (20, oV), (22, oV), (23, oV), (25, oV), (26, oV), (28, oA 24), (29, .one ⟨.tup [.agg [.whole 0 24], .atom (.var 1)], 2, []⟩)], lps := [] }
def t_msmall : Tree :=
 .new <|
 .new <|
 .calc2 (.binOp .lss 3 (.tmp 6) (.const (.int .i64 (-65536))) 3) 4 [(6, qv 0)] ([], []) qT 0 (
 .call 16 [] ([], []) (.leaf (.agg [.whole 2 24])) 1 [] <|
 .ret ([], []) (.tup [.agg [.whole 2 24], .atom (.const (.int .i64 10))])) qF 0 <|
 .calc2 (.binOp .gtr 3 (.tmp 9) (.const (.int .i64 65536)) 3) 4 [(9, qv 0)] ([], []) qT 0 (
 .call 16 [] ([], []) (.leaf (.agg [.whole 2 24])) 1 [] <|
 .ret ([], []) (.tup [.agg [.whole 2 24], .atom (.const (.int .i64 10))])) qF 0 <|
 .calc2 (.binOp .lss 3 (.tmp 13) (.const (.int .i64 0)) 3) 4 [(13, qv 0)] ([], []) qT 0 (
 .calc (.unOp .neg 3 (.tmp 15)) 3 [(15, qv 0)] ([], []) (qv 2) 1 <|
 .call 7 [.agg [.whole 1 24]] ([], []) (.leaf (.agg [.whole 3 24])) 1 [] <|
 .calc (.convert 3 5 (.tmp 19)) 5 [(19, qv 2)] ([], []) (qv 4) 1 <|
 .calc (.binOp .shr 3 (.tmp 21) (.const (.int .u64 8)) 68) 3 [(21, qv 2)] ([], []) (qv 5) 1 <|
 .calc (.convert 3 5 (.tmp 22)) 5 [(22, qv 5)] ([], []) (qv 6) 1 <|
 .calc (.binOp .shr 3 (.tmp 24) (.const (.int .u64 16)) 68) 3 [(24, qv 2)] ([], []) (qv 7) 1 <|
 .calc (.convert 3 5 (.tmp 25)) 5 [(25, qv 7)] ([], []) (qv 8) 1 <|
 .new <|
 .call 28 [.atom (.slc 2 0 3 3), .agg [.whole 3 24]] ([([.whole 3 24], 31), ([.lit [.int .u64 0, .int .u64 0, .int .u64 0, .int .u64 0, .int .u64 0, .int .u64 0, .int .u64 0, .int .u64 0, .int .u64 0, .int .u64 0, .int .u64 0, .int .u64 0, .int .u64 0, .int .u64 0, .int .u64 0, .int .u64 0, .int .u64 0, .int .u64 0, .int .u64 0, .int .u64 0, .int .u64 0, .int .u64 0, .int .u64 0, .int .u64 0]], 31), ([.one (.var 4), .one (.var 6), .one (.var 8)], 5)], []) (.tup [.agg [.whole 9 24], .atom (.var 10)]) 2 [] <|
 .ret ([], []) (.tup [.agg [.whole 9 24], .atom (.var 10)])) qF 0 <|
 .calc (.convert 3 5 (.tmp 19)) 5 [(19, qv 0)] ([], []) (qv 2) 1 <|
 .calc (.binOp .shr 3 (.tmp 21) (.const (.int .u64 8)) 68) 3 [(21, qv 0)] ([], []) (qv 3) 1 <|
 .calc (.convert 3 5 (.tmp 22)) 5 [(22, qv 3)] ([], []) (qv 4) 1 <|
 .calc (.binOp .shr 3 (.tmp 24) (.const (.int .u64 16)) 68) 3 [(24, qv 0)] ([], []) (qv 5) 1 <|
 .calc (.convert 3 5 (.tmp 25)) 5 [(25, qv 5)] ([], []) (qv 6) 1 <|
 .new <|
 .call 28 [.atom (.slc 2 0 3 3), .agg [.whole 1 24]] ([([.whole 1 24], 31), ([.lit [.int .u64 0, .int .u64 0, .int .u64 0, .int .u64 0, .int .u64 0, .int .u64 0, .int .u64 0, .int .u64 0, .int .u64 0, .int .u64 0, .int .u64 0, .int .u64 0, .int .u64 0, .int .u64 0, .int .u64 0, .int .u64 0, .int .u64 0, .int .u64 0, .int .u64 0, .int .u64 0, .int .u64 0, .int .u64 0, .int .u64 0, .int .u64 0]], 31), ([.one (.var 2), .one (.var 4), .one (.var 6)], 5)], []) (.tup [.agg [.whole 7 24], .atom (.var 8)]) 2 [] <|
 .ret ([], []) (.tup [.agg [.whole 7 24], .atom (.var 8)])
theorem c_msmall : compF Tryz.prog Tryz.f8 o_msmall (Tryz.f8.body.getD .skip) (symIn [.atom (.var 0), .agg [.whole 1 24]] Tryz.f8.ntmps 2) = some t_msmall := by kernel_rfl
theorem g_msmall : goodC Tryz.prog o_msmall.ords (Tryz.f8.body.getD .skip) = true := by kernel_rfl
def tb_msmall : FuncId × Trans := (8, tSmallM)
set_option maxRecDepth 100000 in
theorem aw_msmall : ∀ zs Q, tb_msmall.2 zs Q → bindLs 0 [.atom (.var 0), .agg [.whole 1 24]] zs fun ae => bif Nat.beq ae.length 2 then AWp Tryz.prog tmS Q t_msmall [] ae else False := by
  intro zs Q h
  replace h : tSmallM zs Q := h
  unfold tSmallM at h
  split at h
  case h_2 => exact h.elim
  rename_i n p
  obtain ⟨hn, h1, h2⟩ := h
  unfold I64 at hn
  by_cases a1 : n < -65536
  · have h := h1 (by omega)
    repeat ((conv => whnf) <;> first | with_reducible first | refine wI (by omega) ?_ | refine wB (by omega) ?_ | refine And.intro rfl ?_ | rfl | refine And.intro ‹_› ?_ | refine cTe ‹_› ?_ | refine cFe ‹_› ?_ | refine cN (cTe ‹_› ?_) | refine cN (cFe ‹_› ?_) | refine cTe rfl ?_ | refine cEq ‹_› ?_ | refine cTt ?_ | refine cNt ?_ | refine cF (Eq.refl false) ?_ | refine cN (cF (Eq.refl false) ?_) | refine cTd (by omega) ?_ | refine cFd (by omega) ?_ | refine cN (cTd (by omega) ?_) | refine cN (cFd (by omega) ?_) | refine And.intro (by omega) ?_ | refine And.intro (Eq.refl true) ?_)
    (conv => whnf)
    exact h
  by_cases a2 : n > 65536
  · have h := h1 (by omega)
    repeat ((conv => whnf) <;> first | with_reducible first | refine wI (by omega) ?_ | refine wB (by omega) ?_ | refine And.intro rfl ?_ | rfl | refine And.intro ‹_› ?_ | refine cTe ‹_› ?_ | refine cFe ‹_› ?_ | refine cN (cTe ‹_› ?_) | refine cN (cFe ‹_› ?_) | refine cTe rfl ?_ | refine cEq ‹_› ?_ | refine cTt ?_ | refine cNt ?_ | refine cF (Eq.refl false) ?_ | refine cN (cF (Eq.refl false) ?_) | refine cTd (by omega) ?_ | refine cFd (by omega) ?_ | refine cN (cTd (by omega) ?_) | refine cN (cFd (by omega) ?_) | refine And.intro (by omega) ?_ | refine And.intro (Eq.refl true) ?_)
    (conv => whnf)
    exact h
  have h := h2 (by omega) (by omega)
  clear h1 h2
  unfold zG at h
  by_cases a3 : n < 0
  · rw [if_neg (by omega), ← mulG_neg, show (-n).toNat = (0 - n).toNat by omega] at h
    repeat ((conv => whnf) <;> first | with_reducible first | refine wI (by omega) ?_ | refine wB (by omega) ?_ | refine And.intro rfl ?_ | rfl | refine And.intro ‹_› ?_ | refine cTe ‹_› ?_ | refine cFe ‹_› ?_ | refine cN (cTe ‹_› ?_) | refine cN (cFe ‹_› ?_) | refine cTe rfl ?_ | refine cEq ‹_› ?_ | refine cTt ?_ | refine cNt ?_ | refine cF (Eq.refl false) ?_ | refine cN (cF (Eq.refl false) ?_) | refine cTd (by omega) ?_ | refine cFd (by omega) ?_ | refine cN (cTd (by omega) ?_) | refine cN (cFd (by omega) ?_) | refine And.intro (by omega) ?_ | refine And.intro (Eq.refl true) ?_)
    intro r0 q0 e0 l0 u0
    repeat ((conv => whnf) <;> first | with_reducible first | refine wI (by omega) ?_ | refine wB (by omega) ?_ | refine And.intro rfl ?_ | rfl | refine And.intro ‹_› ?_ | refine cTe ‹_› ?_ | refine cFe ‹_› ?_ | refine cN (cTe ‹_› ?_) | refine cN (cFe ‹_› ?_) | refine cTe rfl ?_ | refine cEq ‹_› ?_ | refine cTt ?_ | refine cNt ?_ | refine cF (Eq.refl false) ?_ | refine cN (cF (Eq.refl false) ?_) | refine cTd (by omega) ?_ | refine cFd (by omega) ?_ | refine cN (cTd (by omega) ?_) | refine cN (cFd (by omega) ?_) | refine And.intro (by omega) ?_ | refine And.intro (Eq.refl true) ?_)
    intro r1 q1 e1 l1 u1
    repeat ((conv => whnf) <;> first | with_reducible first | refine wI (by omega) ?_ | refine wB (by omega) ?_ | refine And.intro rfl ?_ | rfl | refine And.intro ‹_› ?_ | refine cTe ‹_› ?_ | refine cFe ‹_› ?_ | refine cN (cTe ‹_› ?_) | refine cN (cFe ‹_› ?_) | refine cTe rfl ?_ | refine cEq ‹_› ?_ | refine cTt ?_ | refine cNt ?_ | refine cF (Eq.refl false) ?_ | refine cN (cF (Eq.refl false) ?_) | refine cTd (by omega) ?_ | refine cFd (by omega) ?_ | refine cN (cTd (by omega) ?_) | refine cN (cFd (by omega) ?_) | refine And.intro (by omega) ?_ | refine And.intro (Eq.refl true) ?_)
    intro r2 q2 e2 l2 u2
    obtain ⟨g1, g2, g3, g4⟩ := three (by omega) e0 l0 u0 e1 l1 u1 e2 l2 u2
    have mb : By ([r0] ++ ([r1] ++ [r2])) ∧ ([r0] ++ ([r1] ++ [r2])).length ≤ 100000 := ⟨g2, g3⟩
    have g5 : ([r0] ++ ([r1] ++ [r2])).length = 3 := g4
    rw [← g1, show [r0, r1, r2] = [r0] ++ ([r1] ++ [r2]) from rfl] at h
    repeat ((conv => whnf) <;> first | with_reducible first | refine wI (by omega) ?_ | refine wB (by omega) ?_ | refine And.intro rfl ?_ | rfl | refine And.intro ‹_› ?_ | refine cTe ‹_› ?_ | refine cFe ‹_› ?_ | refine cN (cTe ‹_› ?_) | refine cN (cFe ‹_› ?_) | refine cTe rfl ?_ | refine cEq ‹_› ?_ | refine cTt ?_ | refine cNt ?_ | refine cF (Eq.refl false) ?_ | refine cN (cF (Eq.refl false) ?_) | refine cTd (by omega) ?_ | refine cFd (by omega) ?_ | refine cN (cTd (by omega) ?_) | refine cN (cFd (by omega) ?_) | refine And.intro (by omega) ?_ | refine And.intro (Eq.refl true) ?_)
    intro _ _
    repeat ((conv => whnf) <;> first | with_reducible first | refine wI (by omega) ?_ | refine wB (by omega) ?_ | refine And.intro rfl ?_ | rfl | refine And.intro ‹_› ?_ | refine cTe ‹_› ?_ | refine cFe ‹_› ?_ | refine cN (cTe ‹_› ?_) | refine cN (cFe ‹_› ?_) | refine cTe rfl ?_ | refine cEq ‹_› ?_ | refine cTt ?_ | refine cNt ?_ | refine cF (Eq.refl false) ?_ | refine cN (cF (Eq.refl false) ?_) | refine cTd (by omega) ?_ | refine cFd (by omega) ?_ | refine cN (cTd (by omega) ?_) | refine cN (cFd (by omega) ?_) | refine And.intro (by omega) ?_ | refine And.intro (Eq.refl true) ?_)
    (conv => whnf)
    exact h
  · rw [if_pos (by omega)] at h
    repeat ((conv => whnf) <;> first | with_reducible first | refine wI (by omega) ?_ | refine wB (by omega) ?_ | refine And.intro rfl ?_ | rfl | refine And.intro ‹_› ?_ | refine cTe ‹_› ?_ | refine cFe ‹_› ?_ | refine cN (cTe ‹_› ?_) | refine cN (cFe ‹_› ?_) | refine cTe rfl ?_ | refine cEq ‹_› ?_ | refine cTt ?_ | refine cNt ?_ | refine cF (Eq.refl false) ?_ | refine cN (cF (Eq.refl false) ?_) | refine cTd (by omega) ?_ | refine cFd (by omega) ?_ | refine cN (cTd (by omega) ?_) | refine cN (cFd (by omega) ?_) | refine And.intro (by omega) ?_ | refine And.intro (Eq.refl true) ?_)
    intro r0 q0 e0 l0 u0
    repeat ((conv => whnf) <;> first | with_reducible first | refine wI (by omega) ?_ | refine wB (by omega) ?_ | refine And.intro rfl ?_ | rfl | refine And.intro ‹_› ?_ | refine cTe ‹_› ?_ | refine cFe ‹_› ?_ | refine cN (cTe ‹_› ?_) | refine cN (cFe ‹_› ?_) | refine cTe rfl ?_ | refine cEq ‹_› ?_ | refine cTt ?_ | refine cNt ?_ | refine cF (Eq.refl false) ?_ | refine cN (cF (Eq.refl false) ?_) | refine cTd (by omega) ?_ | refine cFd (by omega) ?_ | refine cN (cTd (by omega) ?_) | refine cN (cFd (by omega) ?_) | refine And.intro (by omega) ?_ | refine And.intro (Eq.refl true) ?_)
    intro r1 q1 e1 l1 u1
    repeat ((conv => whnf) <;> first | with_reducible first | refine wI (by omega) ?_ | refine wB (by omega) ?_ | refine And.intro rfl ?_ | rfl | refine And.intro ‹_› ?_ | refine cTe ‹_› ?_ | refine cFe ‹_› ?_ | refine cN (cTe ‹_› ?_) | refine cN (cFe ‹_› ?_) | refine cTe rfl ?_ | refine cEq ‹_› ?_ | refine cTt ?_ | refine cNt ?_ | refine cF (Eq.refl false) ?_ | refine cN (cF (Eq.refl false) ?_) | refine cTd (by omega) ?_ | refine cFd (by omega) ?_ | refine cN (cTd (by omega) ?_) | refine cN (cFd (by omega) ?_) | refine And.intro (by omega) ?_ | refine And.intro (Eq.refl true) ?_)
    intro r2 q2 e2 l2 u2
    obtain ⟨g1, g2, g3, g4⟩ := three (by omega) e0 l0 u0 e1 l1 u1 e2 l2 u2
    have mb : By ([r0] ++ ([r1] ++ [r2])) ∧ ([r0] ++ ([r1] ++ [r2])).length ≤ 100000 := ⟨g2, g3⟩
    have g5 : ([r0] ++ ([r1] ++ [r2])).length = 3 := g4
    rw [← g1, show [r0, r1, r2] = [r0] ++ ([r1] ++ [r2]) from rfl] at h
    repeat ((conv => whnf) <;> first | with_reducible first | refine wI (by omega) ?_ | refine wB (by omega) ?_ | refine And.intro rfl ?_ | rfl | refine And.intro ‹_› ?_ | refine cTe ‹_› ?_ | refine cFe ‹_› ?_ | refine cN (cTe ‹_› ?_) | refine cN (cFe ‹_› ?_) | refine cTe rfl ?_ | refine cEq ‹_› ?_ | refine cTt ?_ | refine cNt ?_ | refine cF (Eq.refl false) ?_ | refine cN (cF (Eq.refl false) ?_) | refine cTd (by omega) ?_ | refine cFd (by omega) ?_ | refine cN (cTd (by omega) ?_) | refine cN (cFd (by omega) ?_) | refine And.intro (by omega) ?_ | refine And.intro (Eq.refl true) ?_)
    intro _ _
    repeat ((conv => whnf) <;> first | with_reducible first | refine wI (by omega) ?_ | refine wB (by omega) ?_ | refine And.intro rfl ?_ | rfl | refine And.intro ‹_› ?_ | refine cTe ‹_› ?_ | refine cFe ‹_› ?_ | refine cN (cTe ‹_› ?_) | refine cN (cFe ‹_› ?_) | refine cTe rfl ?_ | refine cEq ‹_› ?_ | refine cTt ?_ | refine cNt ?_ | refine cF (Eq.refl false) ?_ | refine cN (cF (Eq.refl false) ?_) | refine cTd (by omega) ?_ | refine cFd (by omega) ?_ | refine cN (cTd (by omega) ?_) | refine cN (cFd (by omega) ?_) | refine And.intro (by omega) ?_ | refine And.intro (Eq.refl true) ?_)
    (conv => whnf)
    exact h
theorem tb_msmall_ok : Con Tryz.prog tb_msmall.1 tb_msmall.2 := con_tree tmS_ok o_msmall [.atom (.var 0), .agg [.whole 1 24]] 2 Tryz.func8 rfl c_msmall aw_msmall g_msmall
end Go.Proofs.YtohebkkiicbdoaaGreat
