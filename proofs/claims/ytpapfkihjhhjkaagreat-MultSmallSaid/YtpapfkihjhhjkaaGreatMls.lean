/- Small multiples -/
import Derived.Test.YtpapfkihjhhjkaaGreatNfp
import Derived.Test.YtpapfkihjhhjkaaGreatMlb
set_option linter.unusedSimpArgs false
set_option linter.unusedVariables false
namespace Go.Proofs.YtpapfkihjhhjkaaGreat
open Go.RowKit FdP FdP.Ch
def tSmallM : Trans := fun zs Q => match zs with
  | [.int .i64 n, .ob (.pt p)] => I64 n ∧ (¬ (-65536 ≤ n ∧ n ≤ 65536) → Q (.tup [ptA 0, .int .i64 10])) ∧ (-65536 ≤ n → n ≤ 65536 → Q (.tup [ptA (zG n p), .int .i64 0]))
  | _ => False
theorem nval3 {n a b c : Int} (h : n = a + 256 * b + 65536 * c) (ha : 0 ≤ a ∧ a < 256) (hb : 0 ≤ b ∧ b < 256) (hc : 0 ≤ c ∧ c < 256) : nval [a, b, c] = n.toNat ∧ By [a, b, c] := by
  have hy : By [a, b, c] := fun x hx => by
    simp only [List.mem_cons, List.not_mem_nil, or_false] at hx
    rcases hx with rfl | rfl | rfl <;> assumption
  refine ⟨?_, hy⟩
  have e := nval_eq hy
  have : bval [a, b, c] = a + 256 * (b + 256 * (c + 256 * 0)) := rfl
  omega
theorem three {n a b c q0 q1 q2 : Int} (hn : 0 ≤ n ∧ n ≤ 65536) (h0 : a = n + q0 * 256) (l0 : 0 ≤ a) (u0 : a < 256) (h1 : b = n.fdiv (2 ^ min (Int.toNat 8) IntKind.i64.bits) + q1 * 256) (l1 : 0 ≤ b) (u1 : b < 256)
    (h2 : c = n.fdiv (2 ^ min (Int.toNat 16) IntKind.i64.bits) + q2 * 256) (l2 : 0 ≤ c) (u2 : c < 256) : nval [a, b, c] = n.toNat ∧ By [a, b, c] ∧ [a, b, c].length ≤ 100000 ∧ [a, b, c].length = 3 := by
  have e1 : (2 : Int) ^ min (Int.toNat 8) IntKind.i64.bits = 256 := by decide
  have e2 : (2 : Int) ^ min (Int.toNat 16) IntKind.i64.bits = 65536 := by decide
  rw [e1, Int.fdiv_eq_ediv_of_nonneg _ (by omega)] at h1
  rw [e2, Int.fdiv_eq_ediv_of_nonneg _ (by omega)] at h2
  obtain ⟨g1, g2⟩ := nval3 (n := n) (a := a) (b := b) (c := c) (by omega) ⟨l0, u0⟩ ⟨l1, u1⟩ ⟨l2, u2⟩
  exact ⟨g1, g2, by show 3 ≤ 100000; omega, rfl⟩
def smB (n : Int) : List Int := [n % 256, n / 256 % 256, n / 65536]
theorem smB_ok {n : Int} (h : 0 ≤ n ∧ n ≤ 65536) : nval (smB n) = n.toNat ∧ By (smB n) := nval3 (by omega) (by omega) (by omega) (by omega)
def tSmall12 : Trans := fun zs Q => match zs with
  | [.int .i64 n] => (0 ≤ n ∧ n ≤ 65536) ∧ Q (.isl .u8 (smB n))
  | _ => False
def tmS : Tab := tb_pid :: tb_pneg :: tb_mult :: []
theorem tmS_ok : tmS.OK Tryz.prog := tab_cons tb_pid_ok <| tab_cons tb_pneg_ok <| tab_cons tb_mult_ok <| tab_nil _
def o_msmall : Orc := { ans := [(7, oB), (10, oB), (11, oV), (12, oA 24), (14, oB), (16, oV), (17, oA 24), (18, oA 24), (20, oV), (22, oV), (23, oV), (25, oV), (26, oV), (28, oA 24), (29, .one ⟨.tup [.agg [.whole 0 24], .atom (.var 1)], 2, []⟩)], lps := [] }
def t_msmall : Tree :=
 .new <|
 .new <|
 .calc2 (.binOp .lss 3 (.tmp 6) (.const (.int .i64 (-65536))) 3) 4 [(6, qv 0)] ([], []) qT 0 (
 .call 16 [] ([], []) (.leaf (.agg [.whole 2 24])) 1 [] <|
 .ret ([], []) (.tup [.agg [.whole 2 24], .atom (.const (.int .i64 10))])) qF 0 <|
 .calc2 (.binOp .gtr 3 (.tmp 9) (.const (.int .i64 65536)) 3) 4 [(9, qv 0)] ([], []) qT 0 (
 .call 16 [] ([], []) (.leaf (.agg [.whole 2 24])) 1 [] <|
 .ret ([], []) (.tup [.agg [.whole 2 24], .atom (.const (.int .i64 10))])) qF 0 <|
 .calc2 (.binOp .lss 3 (.tmp 13) (.const (.int .i64 0)) 3) 4 [(13, qv 0)] ([], []) qT 0 (
 .calc (.unOp .neg 3 (.tmp 15)) 3 [(15, qv 0)] ([], []) (qv 2) 1 <|
 .call 28 [.agg [.whole 1 24]] ([], []) (.leaf (.agg [.whole 3 24])) 1 [] <|
 .calc (.convert 3 5 (.tmp 19)) 5 [(19, qv 2)] ([], []) (qv 4) 1 <|
 .calc (.binOp .shr 3 (.tmp 21) (.const (.int .u64 8)) 69) 3 [(21, qv 2)] ([], []) (qv 5) 1 <|
 .calc (.convert 3 5 (.tmp 22)) 5 [(22, qv 5)] ([], []) (qv 6) 1 <|
 .calc (.binOp .shr 3 (.tmp 24) (.const (.int .u64 16)) 69) 3 [(24, qv 2)] ([], []) (qv 7) 1 <|
 .calc (.convert 3 5 (.tmp 25)) 5 [(25, qv 7)] ([], []) (qv 8) 1 <|
 .new <|
 .call 24 [.atom (.slc 2 0 3 3), .agg [.whole 3 24]] ([([.whole 3 24], 30), ([.lit [.int .u64 0, .int .u64 0, .int .u64 0, .int .u64 0, .int .u64 0, .int .u64 0, .int .u64 0, .int .u64 0, .int .u64 0, .int .u64 0, .int .u64 0, .int .u64 0, .int .u64 0, .int .u64 0, .int .u64 0, .int .u64 0, .int .u64 0, .int .u64 0, .int .u64 0, .int .u64 0, .int .u64 0, .int .u64 0, .int .u64 0, .int .u64 0]], 30), ([.one (.var 4), .one (.var 6), .one (.var 8)], 5)], []) (.tup [.agg [.whole 9 24], .atom (.var 10)]) 2 [] <|
 .ret ([], []) (.tup [.agg [.whole 9 24], .atom (.var 10)])) qF 0 <|
 .calc (.convert 3 5 (.tmp 19)) 5 [(19, qv 0)] ([], []) (qv 2) 1 <|
 .calc (.binOp .shr 3 (.tmp 21) (.const (.int .u64 8)) 69) 3 [(21, qv 0)] ([], []) (qv 3) 1 <|
 .calc (.convert 3 5 (.tmp 22)) 5 [(22, qv 3)] ([], []) (qv 4) 1 <|
 .calc (.binOp .shr 3 (.tmp 24) (.const (.int .u64 16)) 69) 3 [(24, qv 0)] ([], []) (qv 5) 1 <|
 .calc (.convert 3 5 (.tmp 25)) 5 [(25, qv 5)] ([], []) (qv 6) 1 <|
 .new <|
 .call 24 [.atom (.slc 2 0 3 3), .agg [.whole 1 24]] ([([.whole 1 24], 30), ([.lit [.int .u64 0, .int .u64 0, .int .u64 0, .int .u64 0, .int .u64 0, .int .u64 0, .int .u64 0, .int .u64 0, .int .u64 0, .int .u64 0, .int .u64 0, .int .u64 0, .int .u64 0, .int .u64 0, .int .u64 0, .int .u64 0, .int .u64 0, .int .u64 0, .int .u64 0, .int .u64 0, .int .u64 0, .int .u64 0, .int .u64 0, .int .u64 0]], 30), ([.one (.var 2), .one (.var 4), .one (.var 6)], 5)], []) (.tup [.agg [.whole 7 24], .atom (.var 8)]) 2 [] <|
 .ret ([], []) (.tup [.agg [.whole 7 24], .atom (.var 8)])
theorem c_msmall : compF Tryz.prog Tryz.f8 o_msmall (Tryz.f8.body.getD .skip) (symIn [.atom (.var 0), .agg [.whole 1 24]] Tryz.f8.ntmps 2) = some t_msmall := by kernel_rfl
theorem g_msmall : goodC Tryz.prog o_msmall.ords (Tryz.f8.body.getD .skip) = true := by kernel_rfl
def tb_msmall : FuncId × Trans := (8, tSmallM)
set_option maxRecDepth 100000 in
theorem aw_msmall : ∀ zs Q, tb_msmall.2 zs Q → bindLs 0 [.atom (.var 0), .agg [.whole 1 24]] zs fun ae => bif Nat.beq ae.length 2 then AWp Tryz.prog tmS Q t_msmall [] ae else False := by
  intro zs Q h
  replace h : tSmallM zs Q := h
  unfold tSmallM at h
  split at h
  case h_2 => exact h.elim
  rename_i n p
  obtain ⟨hn, h1, h2⟩ := h
  unfold I64 at hn
  by_cases a1 : n < -65536
  · have h := h1 (by omega)
    repeat ((conv => whnf) <;> first | with_reducible first | refine wI (by omega) ?_ | refine wB (by omega) ?_ | refine And.intro rfl ?_ | rfl | refine And.intro ‹_› ?_ | refine cTe ‹_› ?_ | refine cFe ‹_› ?_ | refine cN (cTe ‹_› ?_) | refine cN (cFe ‹_› ?_) | refine cTe rfl ?_ | refine cEq ‹_› ?_ | refine cTt ?_ | refine cNt ?_ | refine cF (Eq.refl false) ?_ | refine cN (cF (Eq.refl false) ?_) | refine cTd (by omega) ?_ | refine cFd (by omega) ?_ | refine cN (cTd (by omega) ?_) | refine cN (cFd (by omega) ?_) | refine And.intro (by omega) ?_ | refine And.intro (Eq.refl true) ?_)
    (conv => whnf)
    exact h
  by_cases a2 : n > 65536
  · have h := h1 (by omega)
    repeat ((conv => whnf) <;> first | with_reducible first | refine wI (by omega) ?_ | refine wB (by omega) ?_ | refine And.intro rfl ?_ | rfl | refine And.intro ‹_› ?_ | refine cTe ‹_› ?_ | refine cFe ‹_› ?_ | refine cN (cTe ‹_› ?_) | refine cN (cFe ‹_› ?_) | refine cTe rfl ?_ | refine cEq ‹_› ?_ | refine cTt ?_ | refine cNt ?_ | refine cF (Eq.refl false) ?_ | refine cN (cF (Eq.refl false) ?_) | refine cTd (by omega) ?_ | refine cFd (by omega) ?_ | refine cN (cTd (by omega) ?_) | refine cN (cFd (by omega) ?_) | refine And.intro (by omega) ?_ | refine And.intro (Eq.refl true) ?_)
    (conv => whnf)
    exact h
  have h := h2 (by omega) (by omega)
  clear h1 h2
  unfold zG at h
  by_cases a3 : n < 0
  · rw [if_neg (by omega), ← mulG_neg, show (-n).toNat = (0 - n).toNat by omega] at h
    repeat ((conv => whnf) <;> first | with_reducible first | refine wI (by omega) ?_ | refine wB (by omega) ?_ | refine And.intro rfl ?_ | rfl | refine And.intro ‹_› ?_ | refine cTe ‹_› ?_ | refine cFe ‹_› ?_ | refine cN (cTe ‹_› ?_) | refine cN (cFe ‹_› ?_) | refine cTe rfl ?_ | refine cEq ‹_› ?_ | refine cTt ?_ | refine cNt ?_ | refine cF (Eq.refl false) ?_ | refine cN (cF (Eq.refl false) ?_) | refine cTd (by omega) ?_ | refine cFd (by omega) ?_ | refine cN (cTd (by omega) ?_) | refine cN (cFd (by omega) ?_) | refine And.intro (by omega) ?_ | refine And.intro (Eq.refl true) ?_)
    intro r0 q0 e0 l0 u0
    repeat ((conv => whnf) <;> first | with_reducible first | refine wI (by omega) ?_ | refine wB (by omega) ?_ | refine And.intro rfl ?_ | rfl | refine And.intro ‹_› ?_ | refine cTe ‹_› ?_ | refine cFe ‹_› ?_ | refine cN (cTe ‹_› ?_) | refine cN (cFe ‹_› ?_) | refine cTe rfl ?_ | refine cEq ‹_› ?_ | refine cTt ?_ | refine cNt ?_ | refine cF (Eq.refl false) ?_ | refine cN (cF (Eq.refl false) ?_) | refine cTd (by omega) ?_ | refine cFd (by omega) ?_ | refine cN (cTd (by omega) ?_) | refine cN (cFd (by omega) ?_) | refine And.intro (by omega) ?_ | refine And.intro (Eq.refl true) ?_)
    intro r1 q1 e1 l1 u1
    repeat ((conv => whnf) <;> first | with_reducible first | refine wI (by omega) ?_ | refine wB (by omega) ?_ | refine And.intro rfl ?_ | rfl | refine And.intro ‹_› ?_ | refine cTe ‹_› ?_ | refine cFe ‹_› ?_ | refine cN (cTe ‹_› ?_) | refine cN (cFe ‹_› ?_) | refine cTe rfl ?_ | refine cEq ‹_› ?_ | refine cTt ?_ | refine cNt ?_ | refine cF (Eq.refl false) ?_ | refine cN (cF (Eq.refl false) ?_) | refine cTd (by omega) ?_ | refine cFd (by omega) ?_ | refine cN (cTd (by omega) ?_) | refine cN (cFd (by omega) ?_) | refine And.intro (by omega) ?_ | refine And.intro (Eq.refl true) ?_)
    intro r2 q2 e2 l2 u2
    obtain ⟨g1, g2, g3, g4⟩ := three (by omega) e0 l0 u0 e1 l1 u1 e2 l2 u2
    have mb : By ([r0] ++ ([r1] ++ [r2])) ∧ ([r0] ++ ([r1] ++ [r2])).length ≤ 100000 := ⟨g2, g3⟩
    have g5 : ([r0] ++ ([r1] ++ [r2])).length = 3 := g4
    rw [← g1, show [r0, r1, r2] = [r0] ++ ([r1] ++ [r2]) from rfl] at h
    repeat ((conv => whnf) <;> first | with_reducible first | refine wI (by omega) ?_ | refine wB (by omega) ?_ | refine And.intro rfl ?_ | rfl | refine And.intro ‹_› ?_ | refine cTe ‹_› ?_ | refine cFe ‹_› ?_ | refine cN (cTe ‹_› ?_) | refine cN (cFe ‹_› ?_) | refine cTe rfl ?_ | refine cEq ‹_› ?_ | refine cTt ?_ | refine cNt ?_ | refine cF (Eq.refl false) ?_ | refine cN (cF (Eq.refl false) ?_) | refine cTd (by omega) ?_ | refine cFd (by omega) ?_ | refine cN (cTd (by omega) ?_) | refine cN (cFd (by omega) ?_) | refine And.intro (by omega) ?_ | refine And.intro (Eq.refl true) ?_)
    intro _ _
    repeat ((conv => whnf) <;> first | with_reducible first | refine wI (by omega) ?_ | refine wB (by omega) ?_ | refine And.intro rfl ?_ | rfl | refine And.intro ‹_› ?_ | refine cTe ‹_› ?_ | refine cFe ‹_› ?_ | refine cN (cTe ‹_› ?_) | refine cN (cFe ‹_› ?_) | refine cTe rfl ?_ | refine cEq ‹_› ?_ | refine cTt ?_ | refine cNt ?_ | refine cF (Eq.refl false) ?_ | refine cN (cF (Eq.refl false) ?_) | refine cTd (by omega) ?_ | refine cFd (by omega) ?_ | refine cN (cTd (by omega) ?_) | refine cN (cFd (by omega) ?_) | refine And.intro (by omega) ?_ | refine And.intro (Eq.refl true) ?_)
    (conv => whnf)
    exact h
  · rw [if_pos (by omega)] at h
    repeat ((conv => whnf) <;> first | with_reducible first | refine wI (by omega) ?_ | refine wB (by omega) ?_ | refine And.intro rfl ?_ | rfl | refine And.intro ‹_› ?_ | refine cTe ‹_› ?_ | refine cFe ‹_› ?_ | refine cN (cTe ‹_› ?_) | refine cN (cFe ‹_› ?_) | refine cTe rfl ?_ | refine cEq ‹_› ?_ | refine cTt ?_ | refine cNt ?_ | refine cF (Eq.refl false) ?_ | refine cN (cF (Eq.refl false) ?_) | refine cTd (by omega) ?_ | refine cFd (by omega) ?_ | refine cN (cTd (by omega) ?_) | refine cN (cFd (by omega) ?_) | refine And.intro (by omega) ?_ | refine And.intro (Eq.refl true) ?_)
    intro r0 q0 e0 l0 u0
    repeat ((conv => whnf) <;> first | with_reducible first | refine wI (by omega) ?_ | refine wB (by omega) ?_ | refine And.intro rfl ?_ | rfl | refine And.intro ‹_› ?_ | refine cTe ‹_› ?_ | refine cFe ‹_› ?_ | refine cN (cTe ‹_› ?_) | refine cN (cFe ‹_› ?_) | refine cTe rfl ?_ | refine cEq ‹_› ?_ | refine cTt ?_ | refine cNt ?_ | refine cF (Eq.refl false) ?_ | refine cN (cF (Eq.refl false) ?_) | refine cTd (by omega) ?_ | refine cFd (by omega) ?_ | refine cN (cTd (by omega) ?_) | refine cN (cFd (by omega) ?_) | refine And.intro (by omega) ?_ | refine And.intro (Eq.refl true) ?_)
    intro r1 q1 e1 l1 u1
    repeat ((conv => whnf) <;> first | with_reducible first | refine wI (by omega) ?_ | refine wB (by omega) ?_ | refine And.intro rfl ?_ | rfl | refine And.intro ‹_› ?_ | refine cTe ‹_› ?_ | refine cFe ‹_› ?_ | refine cN (cTe ‹_› ?_) | refine cN (cFe ‹_› ?_) | refine cTe rfl ?_ | refine cEq ‹_› ?_ | refine cTt ?_ | refine cNt ?_ | refine cF (Eq.refl false) ?_ | refine cN (cF (Eq.refl false) ?_) | refine cTd (by omega) ?_ | refine cFd (by omega) ?_ | refine cN (cTd (by omega) ?_) | refine cN (cFd (by omega) ?_) | refine And.intro (by omega) ?_ | refine And.intro (Eq.refl true) ?_)
    intro r2 q2 e2 l2 u2
    obtain ⟨g1, g2, g3, g4⟩ := three (by omega) e0 l0 u0 e1 l1 u1 e2 l2 u2
    have mb : By ([r0] ++ ([r1] ++ [r2])) ∧ ([r0] ++ ([r1] ++ [r2])).length ≤ 100000 := ⟨g2, g3⟩
    have g5 : ([r0] ++ ([r1] ++ [r2])).length = 3 := g4
    rw [← g1, show [r0, r1, r2] = [r0] ++ ([r1] ++ [r2]) from rfl] at h
    repeat ((conv => whnf) <;> first | with_reducible first | refine wI (by omega) ?_ | refine wB (by omega) ?_ | refine And.intro rfl ?_ | rfl | refine And.intro ‹_› ?_ | refine cTe ‹_› ?_ | refine cFe ‹_› ?_ | refine cN (cTe ‹_› ?_) | refine cN (cFe ‹_› ?_) | refine cTe rfl ?_ | refine cEq ‹_› ?_ | refine cTt ?_ | refine cNt ?_ | refine cF (Eq.refl false) ?_ | refine cN (cF (Eq.refl false) ?_) | refine cTd (by omega) ?_ | refine cFd (by omega) ?_ | refine cN (cTd (by omega) ?_) | refine cN (cFd (by omega) ?_) | refine And.intro (by omega) ?_ | refine And.intro (Eq.refl true) ?_)
    intro _ _
    repeat ((conv => whnf) <;> first | with_reducible first | refine wI (by omega) ?_ | refine wB (by omega) ?_ | refine And.intro rfl ?_ | rfl | refine And.intro ‹_› ?_ | refine cTe ‹_› ?_ | refine cFe ‹_› ?_ | refine cN (cTe ‹_› ?_) | refine cN (cFe ‹_› ?_) | refine cTe rfl ?_ | refine cEq ‹_› ?_ | refine cTt ?_ | refine cNt ?_ | refine cF (Eq.refl false) ?_ | refine cN (cF (Eq.refl false) ?_) | refine cTd (by omega) ?_ | refine cFd (by omega) ?_ | refine cN (cTd (by omega) ?_) | refine cN (cFd (by omega) ?_) | refine And.intro (by omega) ?_ | refine And.intro (Eq.refl true) ?_)
    (conv => whnf)
    exact h
theorem tb_msmall_ok : Con Tryz.prog tb_msmall.1 tb_msmall.2 := con_tree tmS_ok o_msmall [.atom (.var 0), .agg [.whole 1 24]] 2 Tryz.func8 rfl c_msmall aw_msmall g_msmall
def o_small12 : Orc := { ans := [(4, oV), (5, oV), (7, oV), (8, oV), (9, oV), (11, oV), (12, oV)], lps := [] }
def t_small12 : Tree :=
 .calc (.binOp .rem 3 (.tmp 3) (.const (.int .i64 256)) 3) 3 [(3, qv 0)] ([], []) (qv 1) 1 <|
 .calc (.convert 3 5 (.tmp 4)) 5 [(4, qv 1)] ([], []) (qv 2) 1 <|
 .calc (.binOp .quo 3 (.tmp 6) (.const (.int .i64 256)) 3) 3 [(6, qv 0)] ([], []) (qv 3) 1 <|
 .calc (.binOp .rem 3 (.tmp 7) (.const (.int .i64 256)) 3) 3 [(7, qv 3)] ([], []) (qv 4) 1 <|
 .calc (.convert 3 5 (.tmp 8)) 5 [(8, qv 4)] ([], []) (qv 5) 1 <|
 .calc (.binOp .quo 3 (.tmp 10) (.const (.int .i64 65536)) 3) 3 [(10, qv 0)] ([], []) (qv 6) 1 <|
 .calc (.convert 3 5 (.tmp 11)) 5 [(11, qv 6)] ([], []) (qv 7) 1 <|
 .new <|
 .ret ([([.one (.var 2), .one (.var 5), .one (.var 7)], 5)], []) (.leaf (.atom (.slc 0 0 3 3)))
theorem c_small12 : compF Tryz.prog Tryz.f12 o_small12 (Tryz.f12.body.getD .skip) (symIn [.atom (.var 0)] Tryz.f12.ntmps 1) = some t_small12 := by kernel_rfl
theorem g_small12 : goodC Tryz.prog o_small12.ords (Tryz.f12.body.getD .skip) = true := by kernel_rfl
def tb_small12 : FuncId × Trans := (12, tSmall12)
set_option maxRecDepth 100000 in
theorem aw_small12 : ∀ zs Q, tb_small12.2 zs Q → bindLs 0 [.atom (.var 0)] zs fun ae => bif Nat.beq ae.length 1 then AWp Tryz.prog tmNil Q t_small12 [] ae else False := by
  intro zs Q h
  replace h : tSmall12 zs Q := h
  unfold tSmall12 at h
  split at h
  case h_2 => exact h.elim
  rename_i n
  obtain ⟨h0, h⟩ := h
  repeat ((conv => whnf) <;> first | with_reducible first | refine wI (by omega) ?_ | refine wB (by omega) ?_ | refine wR (by omega) ?_ | refine wQ (by omega) ?_ | refine And.intro rfl ?_ | rfl | refine And.intro ‹_› ?_ | refine cTe ‹_› ?_ | refine cFe ‹_› ?_ | refine cN (cTe ‹_› ?_) | refine cN (cFe ‹_› ?_) | refine cTe rfl ?_ | refine cEq ‹_› ?_ | refine cTt ?_ | refine cNt ?_ | refine cF (Eq.refl false) ?_ | refine cN (cF (Eq.refl false) ?_) | refine cTd (by omega) ?_ | refine cFd (by omega) ?_ | refine cN (cTd (by omega) ?_) | refine cN (cFd (by omega) ?_) | refine And.intro (by omega) ?_ | refine And.intro (Eq.refl true) ?_)
  (conv => whnf)
  exact h
theorem tb_small12_ok : Con Tryz.prog tb_small12.1 tb_small12.2 := con_tree tmNil_ok o_small12 [.atom (.var 0)] 1 Tryz.func12 rfl c_small12 aw_small12 g_small12
def tmT : Tab := tb_awake12 :: tb_made11 :: tb_msmall :: tb_small12 :: tb_rpneg :: tb_rptimes :: tb_same11 :: []
theorem tmT_ok : tmT.OK Tryz.prog := tab_cons tb_awake12_ok <| tab_cons tb_made11_ok <| tab_cons tb_msmall_ok <| tab_cons tb_small12_ok <| tab_cons tb_rpneg_ok <| tab_cons tb_rptimes_ok <| tab_cons tb_same11_ok <| tab_nil _
def o_multsmall : Orc := { ans := [(12, .one ⟨.leaf (.agg [.one (.var 0), .one (.var 1)]), 2, []⟩), (13, .one ⟨.tup [.agg [.whole 0 24], .agg [.whole 1 48], .atom (.var 2)], 3, []⟩), (18, oV), (19, oB), (22, oA 24), (23, .one ⟨.tup [.agg [.whole 0 24], .atom (.var 1)], 2, []⟩), (27, oB), (30, oB), (31, oV), (33, oB), (35, oB), (36, oV), (37, oA 48), (39, oB), (40, oA 48), (41, oA 48), (43, oB), (45, oA 24), (48, oV), (49, oV), (50, oV), (51, oA 48), (52, oA 48), (53, oB), (54, oV), (56, oB), (57, oV)], lps := [], ords := [(10, [.pure 0, .quiet 1, .pure 2, .quiet 3, .pure 4, .pure 5, .quiet 6, .quiet 7, .quiet 9, .call 8 [], .call 10 [], .call 11 [], .quiet 12, .pure 13, .call 14 [], .quiet 15, .pure 16])] }
def t_multsmall : Tree :=
 .new <|
 .call 6 [.agg [.one (.var 0), .one (.var 1)]] ([], []) (.tup [.agg [.whole 3 24], .agg [.whole 4 48], .atom (.var 5)]) 3 [] <|
 .new <|
 .new <|
 .calc (.unOp .not 4 (.tmp 17)) 4 [(17, qv 5)] ([], []) (qv 6) 1 <|
 .ite (.var 6) (
 .call2 7 [] ([], []) qT 0 [] (
 .ret ([], []) qT) qF 0 [] <|
 .ret ([], []) qF) <|
 .call 8 [.atom (.var 2), .agg [.whole 3 24]] ([], []) (.tup [.agg [.whole 7 24], .atom (.var 8)]) 2 [] <|
 .new <|
 .calc2 (.binOp .lss 3 (.tmp 26) (.const (.int .i64 (-65536))) 3) 4 [(26, qv 2)] ([], []) qT 0 (
 .calc2 (.binOp .eql 38 (.tmp 32) (.const (.int .i64 10)) 38) 4 [(32, qv 8)] ([], []) qT 0 (
 .call2 7 [] ([], []) qT 0 [] (
 .ret ([], []) qT) qF 0 [] <|
 .ret ([], []) qF) qF 0 <|
 .ret ([], []) qF) qF 0 <|
 .calc2 (.binOp .gtr 3 (.tmp 29) (.const (.int .i64 65536)) 3) 4 [(29, qv 2)] ([], []) qT 0 (
 .calc2 (.binOp .eql 38 (.tmp 32) (.const (.int .i64 10)) 38) 4 [(32, qv 8)] ([], []) qT 0 (
 .call2 7 [] ([], []) qT 0 [] (
 .ret ([], []) qT) qF 0 [] <|
 .ret ([], []) qF) qF 0 <|
 .ret ([], []) qF) qF 0 <|
 .new <|
 .calc2 (.binOp .lss 3 (.tmp 38) (.const (.int .i64 0)) 3) 4 [(38, qv 2)] ([], []) qT 0 (
 .call 9 [.agg [.whole 4 48]] ([], []) (.leaf (.agg [.whole 9 48])) 1 [] <|
 .calc2 (.binOp .eql 38 (.tmp 42) (.const (.int .i64 0)) 38) 4 [(42, qv 8)] ([], []) qT 0 (
 .calc (.binOp .sub 3 (.const (.int .i64 0)) (.tmp 47) 3) 3 [(47, qv 2)] ([], []) (qv 10) 1 <|
 .calc (.call { callee := .builtin .max, args := #[.tmp 46, .tmp 48], argTypes := #[3, 3] }) 3 [(46, qv 2), (48, qv 10)] ([], []) (qv 11) 1 <|
 .call 12 [.atom (.var 11)] ([], []) (qv 12) 1 [] <|
 .call 11 [.atom (.var 12), .agg [.whole 9 48]] ([], []) (.leaf (.agg [.whole 13 48])) 1 [] <|
 .call2 10 [.agg [.whole 7 24], .agg [.whole 13 48]] ([], []) qT 0 [] (
 .call2 7 [] ([], []) qT 0 [] (
 .ret ([], []) qT) qF 0 [] <|
 .ret ([], []) qF) qF 0 [] <|
 .ret ([], []) qF) qF 0 <|
 .ret ([], []) qF) qF 0 <|
 .calc2 (.binOp .eql 38 (.tmp 42) (.const (.int .i64 0)) 38) 4 [(42, qv 8)] ([], []) qT 0 (
 .calc (.binOp .sub 3 (.const (.int .i64 0)) (.tmp 47) 3) 3 [(47, qv 2)] ([], []) (qv 9) 1 <|
 .calc (.call { callee := .builtin .max, args := #[.tmp 46, .tmp 48], argTypes := #[3, 3] }) 3 [(46, qv 2), (48, qv 9)] ([], []) (qv 10) 1 <|
 .call 12 [.atom (.var 10)] ([], []) (qv 11) 1 [] <|
 .call 11 [.atom (.var 11), .agg [.whole 4 48]] ([], []) (.leaf (.agg [.whole 12 48])) 1 [] <|
 .call2 10 [.agg [.whole 7 24], .agg [.whole 12 48]] ([], []) qT 0 [] (
 .call2 7 [] ([], []) qT 0 [] (
 .ret ([], []) qT) qF 0 [] <|
 .ret ([], []) qF) qF 0 [] <|
 .ret ([], []) qF) qF 0 <|
 .ret ([], []) qF
theorem c_multsmall : compF Tryz.prog Tryz.f3 o_multsmall (Tryz.f3.body.getD .skip) (symIn [.agg [.one (.var 0), .one (.var 1)], .atom (.var 2)] Tryz.f3.ntmps 3) = some t_multsmall := by kernel_rfl
theorem g_multsmall : goodC Tryz.prog o_multsmall.ords (Tryz.f3.body.getD .skip) = true := by kernel_rfl
set_option maxRecDepth 100000 in
set_option maxHeartbeats 1000000 in
theorem aw_multsmall (b1 : List Int) (yb1 : By b1) (n1 : Int) (r1 : I64 n1) (n2 : Int) (r2 : I64 n2) : AWp Tryz.prog tmT (fun a => a = .bool true) t_multsmall [] [.isl .u8 b1, .int .i64 n1, .int .i64 n2] := by
  repeat ((conv => whnf) <;> first | with_reducible first | refine wI (by omega) ?_ | refine And.intro rfl ?_ | rfl | refine And.intro ‹_› ?_ | refine cTe ‹_› ?_ | refine cFe ‹_› ?_ | refine cN (cTe ‹_› ?_) | refine cN (cFe ‹_› ?_) | refine cTe rfl ?_ | refine cEq ‹_› ?_ | refine cTt ?_ | refine cNt ?_ | refine cF (Eq.refl false) ?_ | refine cN (cF (Eq.refl false) ?_) | refine cTd (by omega) ?_ | refine cFd (by omega) ?_ | refine cN (cTd (by omega) ?_) | refine cN (cFd (by omega) ?_) | refine And.intro (by omega) ?_ | refine And.intro (Eq.refl true) ?_)
  refine ⟨fun hh => by repeat ((conv => whnf) <;> first | with_reducible first | refine wI (by omega) ?_ | refine And.intro rfl ?_ | rfl | refine And.intro ‹_› ?_ | refine cTe ‹_› ?_ | refine cFe ‹_› ?_ | refine cN (cTe ‹_› ?_) | refine cN (cFe ‹_› ?_) | refine cTe rfl ?_ | refine cEq ‹_› ?_ | refine cTt ?_ | refine cNt ?_ | refine cF (Eq.refl false) ?_ | refine cN (cF (Eq.refl false) ?_) | refine cTd (by omega) ?_ | refine cFd (by omega) ?_ | refine cN (cTd (by omega) ?_) | refine cN (cFd (by omega) ?_) | refine And.intro (by omega) ?_ | refine And.intro (Eq.refl true) ?_), fun k1 k2 k3 => ?_⟩
  generalize sgG b1 n1 = g
  repeat ((conv => whnf) <;> first | with_reducible first | refine wI (by omega) ?_ | refine And.intro rfl ?_ | rfl | refine And.intro ‹_› ?_ | refine cTe ‹_› ?_ | refine cFe ‹_› ?_ | refine cN (cTe ‹_› ?_) | refine cN (cFe ‹_› ?_) | refine cTe rfl ?_ | refine cEq ‹_› ?_ | refine cTt ?_ | refine cNt ?_ | refine cF (Eq.refl false) ?_ | refine cN (cF (Eq.refl false) ?_) | refine cTd (by omega) ?_ | refine cFd (by omega) ?_ | refine cN (cTd (by omega) ?_) | refine cN (cFd (by omega) ?_) | refine And.intro (by omega) ?_ | refine And.intro (Eq.refl true) ?_)
  by_cases a1 : n2 < -65536
  · refine ⟨fun _ => ?_, fun hh => absurd hh (by omega)⟩
    repeat ((conv => whnf) <;> first | with_reducible first | refine wI (by omega) ?_ | refine And.intro rfl ?_ | rfl | refine And.intro ‹_› ?_ | refine cTe ‹_› ?_ | refine cFe ‹_› ?_ | refine cN (cTe ‹_› ?_) | refine cN (cFe ‹_› ?_) | refine cTe rfl ?_ | refine cEq ‹_› ?_ | refine cTt ?_ | refine cNt ?_ | refine cF (Eq.refl false) ?_ | refine cN (cF (Eq.refl false) ?_) | refine cTd (by omega) ?_ | refine cFd (by omega) ?_ | refine cN (cTd (by omega) ?_) | refine cN (cFd (by omega) ?_) | refine And.intro (by omega) ?_ | refine And.intro (Eq.refl true) ?_)
  by_cases a2 : n2 > 65536
  · refine ⟨fun _ => ?_, fun _ hh => absurd hh (by omega)⟩
    repeat ((conv => whnf) <;> first | with_reducible first | refine wI (by omega) ?_ | refine And.intro rfl ?_ | rfl | refine And.intro ‹_› ?_ | refine cTe ‹_› ?_ | refine cFe ‹_› ?_ | refine cN (cTe ‹_› ?_) | refine cN (cFe ‹_› ?_) | refine cTe rfl ?_ | refine cEq ‹_› ?_ | refine cTt ?_ | refine cNt ?_ | refine cF (Eq.refl false) ?_ | refine cN (cF (Eq.refl false) ?_) | refine cTd (by omega) ?_ | refine cFd (by omega) ?_ | refine cN (cTd (by omega) ?_) | refine cN (cFd (by omega) ?_) | refine And.intro (by omega) ?_ | refine And.intro (Eq.refl true) ?_)
  refine ⟨fun hh => absurd ⟨by omega, by omega⟩ hh, fun _ _ => ?_⟩
  have hmx : 0 ≤ (if 0 - n2 > n2 then 0 - n2 else n2) ∧ (if 0 - n2 > n2 then 0 - n2 else n2) ≤ 65536 := by split <;> omega
  obtain ⟨s1, s2⟩ := smB_ok hmx
  have hb1 : (smB (if 0 - n2 > n2 then 0 - n2 else n2)).length ≤ 1000 ∧ By (smB (if 0 - n2 > n2 then 0 - n2 else n2)) := ⟨by show 3 ≤ 1000; omega, s2⟩
  by_cases a3 : n2 < 0
  · have e : zG n2 g = mulG (nval (smB (if 0 - n2 > n2 then 0 - n2 else n2))) (-g) := by
      rw [s1, mulG_neg]; unfold zG; rw [if_neg (by omega), if_pos (by omega)]; congr 2; omega
    repeat ((conv => whnf) <;> first | with_reducible first | refine wI (by omega) ?_ | refine And.intro rfl ?_ | rfl | refine And.intro ‹_› ?_ | refine cTe ‹_› ?_ | refine cFe ‹_› ?_ | refine cN (cTe ‹_› ?_) | refine cN (cFe ‹_› ?_) | refine cTe rfl ?_ | refine cEq ‹_› ?_ | refine cTt ?_ | refine cNt ?_ | refine cF (Eq.refl false) ?_ | refine cN (cF (Eq.refl false) ?_) | refine cTd (by omega) ?_ | refine cFd (by omega) ?_ | refine cN (cTd (by omega) ?_) | refine cN (cFd (by omega) ?_) | refine And.intro (by omega) ?_ | refine And.intro (Eq.refl true) ?_)
    (conv => whnf)
    refine ⟨fun _ => ?_, fun hh => absurd e hh⟩
    repeat ((conv => whnf) <;> first | with_reducible first | refine wI (by omega) ?_ | refine And.intro rfl ?_ | rfl | refine And.intro ‹_› ?_ | refine cTe ‹_› ?_ | refine cFe ‹_› ?_ | refine cN (cTe ‹_› ?_) | refine cN (cFe ‹_› ?_) | refine cTe rfl ?_ | refine cEq ‹_› ?_ | refine cTt ?_ | refine cNt ?_ | refine cF (Eq.refl false) ?_ | refine cN (cF (Eq.refl false) ?_) | refine cTd (by omega) ?_ | refine cFd (by omega) ?_ | refine cN (cTd (by omega) ?_) | refine cN (cFd (by omega) ?_) | refine And.intro (by omega) ?_ | refine And.intro (Eq.refl true) ?_)
  · have e : zG n2 g = mulG (nval (smB (if 0 - n2 > n2 then 0 - n2 else n2))) g := by
      rw [s1]; unfold zG; rw [if_pos (by omega), if_neg (by omega)]
    repeat ((conv => whnf) <;> first | with_reducible first | refine wI (by omega) ?_ | refine And.intro rfl ?_ | rfl | refine And.intro ‹_› ?_ | refine cTe ‹_› ?_ | refine cFe ‹_› ?_ | refine cN (cTe ‹_› ?_) | refine cN (cFe ‹_› ?_) | refine cTe rfl ?_ | refine cEq ‹_› ?_ | refine cTt ?_ | refine cNt ?_ | refine cF (Eq.refl false) ?_ | refine cN (cF (Eq.refl false) ?_) | refine cTd (by omega) ?_ | refine cFd (by omega) ?_ | refine cN (cTd (by omega) ?_) | refine cN (cFd (by omega) ?_) | refine And.intro (by omega) ?_ | refine And.intro (Eq.refl true) ?_)
    (conv => whnf)
    refine ⟨fun _ => ?_, fun hh => absurd e hh⟩
    repeat ((conv => whnf) <;> first | with_reducible first | refine wI (by omega) ?_ | refine And.intro rfl ?_ | rfl | refine And.intro ‹_› ?_ | refine cTe ‹_› ?_ | refine cFe ‹_› ?_ | refine cN (cTe ‹_› ?_) | refine cN (cFe ‹_› ?_) | refine cTe rfl ?_ | refine cEq ‹_› ?_ | refine cTt ?_ | refine cNt ?_ | refine cF (Eq.refl false) ?_ | refine cN (cF (Eq.refl false) ?_) | refine cTd (by omega) ?_ | refine cFd (by omega) ?_ | refine cN (cTd (by omega) ?_) | refine cN (cFd (by omega) ?_) | refine And.intro (by omega) ?_ | refine And.intro (Eq.refl true) ?_)
set_option maxRecDepth 100000 in
theorem multsmall_any (b1 : List Int) (yb1 : By b1) (v1 : Value) (n1 : Int) (r1 : I64 n1) (n2 : Int) (r2 : I64 n2) (w : World) (s1 : Bv w v1 b1) : Calls Tryz.prog 3 #[AG [v1, .int .i64 n1], .int .i64 n2] w (OutV (.bool true) w) :=
  law_tree tmT_ok o_multsmall [.agg [.one (.var 0), .one (.var 1)], .atom (.var 2)] [v1, .int .i64 n1, .int .i64 n2] [.isl .u8 b1, .int .i64 n1, .int .i64 n2] Tryz.func3 rfl c_multsmall (by simp [Leaf.den, catS, Seg.den, Atom.den, cellsAt, AG, Value.cells]) (by intro x hx; simp only [List.mem_cons, List.not_mem_nil, or_false] at hx; rcases hx with rfl | rfl <;> first | exact ok_two (v := v1) (v' := .int .i64 n1) rfl (bv_one s1) rfl rfl | exact ok_one rfl rfl) ⟨_, _, rfl, bv_val s1, _, _, rfl, int_val n1, ⟨_, _, rfl, int_val n2, rfl⟩⟩ g_multsmall (aw_multsmall b1 yb1 n1 r1 n2 r2)
end Go.Proofs.YtpapfkihjhhjkaaGreat
