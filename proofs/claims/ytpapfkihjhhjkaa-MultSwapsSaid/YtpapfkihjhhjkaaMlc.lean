/- Products, MultSwaps -/
import Derived.Test.YtpapfkihjhhjkaaMlb
import Derived.Test.YtpapfkihjhhjkaaMup
set_option linter.unusedSimpArgs false
set_option linter.unusedVariables false
namespace Go.Proofs.Ytpapfkihjhhjkaa
open Go.RowKit FdP FdP.Ch
def tMul3 : Trans := fun zs Q => match zs with
  | [.isl .u8 a, .isl .u8 b] => (By a ∧ By b ∧ a.length ≤ 10000 ∧ b.length ≤ 10000) ∧ (∀ r, By r → r.length ≤ a.length + b.length + 1 → nval r = nval a * nval b → Q (.isl .u8 r))
  | _ => False
theorem zsM1 {l l' : List Int} {i i' : Int} (hl : l = l') (hi : i = i') : [AV.ints .u8 l, .int .i64 i] = [.ints .u8 l', .int .i64 i'] := by rw [hl, hi]
theorem zsM2 {l l' : List Int} {c c' i i' : Int} (hl : l = l') (hc : c = c') (hi : i = i') : [AV.ints .u8 l, .int .i64 c, .int .i64 i] = [.ints .u8 l', .int .i64 c', .int .i64 i'] := by rw [hl, hc, hi]
def tmP : Tab := tb_rat_ :: tb_rcut :: []
theorem tmP_ok : tmP.OK Try.prog := tab_cons tb_rat__ok <| tab_cons tb_rcut_ok <| tab_nil _
def o_rmul3 : Orc := { ans := [(10, oV), (12, oV), (13, oV), (14, oV), (15, oV), (18, oV), (19, oB), (24, oV), (25, oB), (28, oB), (29, oV), (36, oV), (37, oV), (38, oV), (39, oV), (40, oV), (43, oV), (44, oV), (45, oV), (48, oV), (49, oV), (50, oV), (54, oV), (56, oV), (57, oV), (58, oV), (60, oV), (31, oV), (21, oV), (62, oV)], lps := [(0, [.cont 5 5 1, .slot 6 [.one]]), (2, [.cont 5 5 1, .slot 7 [.one], .slot 8 [.one]])], ords := [(9, [.pure 0, .pure 1, .pure 2, .pure 3, .quiet 4, .quiet 5, .quiet 6, .quiet 7, .quiet 8, .pure 9, .pure 10, .quiet 11, .quiet 12, .quiet 13, .pure 14, .pure 15, .call 16 [], .quiet 17, .quiet 18, .pure 19])], rws := [15] }
def t_rmul3 : Tree :=
  .calc (.call { callee := .builtin .len, args := #[.tmp 9], argTypes := #[22] }) 3 [(9, .leaf (.atom (.var 0)))] ([], []) (.leaf (.atom (.var 2))) 1 <|
  .calc (.call { callee := .builtin .len, args := #[.tmp 11], argTypes := #[22] }) 3 [(11, .leaf (.atom (.var 1)))] ([], []) (.leaf (.atom (.var 3))) 1 <|
  .calc (.binOp .add 3 (.tmp 10) (.tmp 12) 3) 3 [(10, .leaf (.atom (.var 2))), (12, .leaf (.atom (.var 3)))] ([], []) (.leaf (.atom (.var 4))) 1 <|
  .calc (.binOp .add 3 (.tmp 13) (.const (.int .i64 1)) 3) 3 [(13, .leaf (.atom (.var 4)))] ([], []) (.leaf (.atom (.var 5))) 1 <|
  .mkx 5 [.int .u8 0] <|
  .loop [.agg [.rest 7], .atom (.const (.int .i64 0))] [.row, .one] <|
  .calc (.call { callee := .builtin .len, args := #[.tmp 17], argTypes := #[22] }) 3 [(17, .leaf (.atom (.var 0)))] ([], []) (.leaf (.atom (.var 10))) 1 <|
  .calc2 (.binOp .lss 3 (.tmp 16) (.tmp 18) 3) 4 [(16, .leaf (.atom (.var 9))), (18, .leaf (.atom (.var 10)))] ([], []) (.leaf (.atom (.const (.bool true)))) 0 (
    .loop [.agg [.rest 8], .atom (.const (.int .i64 0)), .atom (.const (.int .i64 0))] [.row, .one, .one] <|
    .calc (.call { callee := .builtin .len, args := #[.tmp 23], argTypes := #[22] }) 3 [(23, .leaf (.atom (.var 1)))] ([], []) (.leaf (.atom (.var 14))) 1 <|
    .calc2 (.binOp .lss 3 (.tmp 22) (.tmp 24) 3) 4 [(22, .leaf (.atom (.var 13))), (24, .leaf (.atom (.var 14)))] ([], []) (.leaf (.atom (.const (.bool true)))) 0 (
      .calc (.binOp .add 3 (.tmp 34) (.tmp 35) 3) 3 [(34, .leaf (.atom (.var 9))), (35, .leaf (.atom (.var 13)))] ([], []) (.leaf (.atom (.var 15))) 1 <|
      .boundx 15 6 <|
      .ldi [.rest 11] 0 15 1 1 false <|
      .calc (.convert 5 3 (.tmp 38)) 3 [(38, .leaf (.atom (.var 16)))] ([], []) (.leaf (.atom (.var 17))) 1 <|
      .calc (.binOp .add 3 (.tmp 32) (.tmp 39) 3) 3 [(32, .leaf (.atom (.var 12))), (39, .leaf (.atom (.var 17)))] ([], []) (.leaf (.atom (.var 18))) 1 <|
      .calc (.indexAddr 22 (.tmp 41) (.tmp 42)) 0 [(41, .leaf (.atom (.var 0))), (42, .leaf (.atom (.var 9)))] ([], []) (.leaf (.atom (.var 19))) 1 <|
      .calc (.load 5 (.tmp 43)) 5 [(43, .leaf (.atom (.var 19)))] ([], []) (.leaf (.atom (.var 20))) 1 <|
      .calc (.convert 5 3 (.tmp 44)) 3 [(44, .leaf (.atom (.var 20)))] ([], []) (.leaf (.atom (.var 21))) 1 <|
      .call 34 [.atom (.var 1), .atom (.var 13)] ([], []) (.leaf (.atom (.var 22))) 1 [] <|
      .calc (.binOp .mul 3 (.tmp 45) (.tmp 48) 3) 3 [(45, .leaf (.atom (.var 21))), (48, .leaf (.atom (.var 22)))] ([], []) (.leaf (.atom (.var 23))) 1 <|
      .calc (.binOp .add 3 (.tmp 40) (.tmp 49) 3) 3 [(40, .leaf (.atom (.var 18))), (49, .leaf (.atom (.var 23)))] ([], []) (.leaf (.atom (.var 24))) 1 <|
      .calc (.binOp .add 3 (.tmp 52) (.tmp 53) 3) 3 [(52, .leaf (.atom (.var 9))), (53, .leaf (.atom (.var 13)))] ([], []) (.leaf (.atom (.var 25))) 1 <|
      .calc (.binOp .rem 3 (.tmp 55) (.const (.int .i64 256)) 3) 3 [(55, .leaf (.atom (.var 24)))] ([], []) (.leaf (.atom (.var 26))) 1 <|
      .calc (.convert 3 5 (.tmp 56)) 5 [(56, .leaf (.atom (.var 26)))] ([], []) (.leaf (.atom (.var 27))) 1 <|
      .boundx 25 6 <|
      .sti [.rest 11] 0 25 1 1 [.one (.var 27)] <|
      .calc (.binOp .quo 3 (.tmp 59) (.const (.int .i64 256)) 3) 3 [(59, .leaf (.atom (.var 24)))] ([], []) (.leaf (.atom (.var 29))) 1 <|
      .calc (.binOp .add 3 (.tmp 30) (.const (.int .i64 1)) 3) 3 [(30, .leaf (.atom (.var 13)))] ([], []) (.leaf (.atom (.var 30))) 1 <|
      .again 1 [.agg [.rest 28], .atom (.var 29), .atom (.var 30)]) (.leaf (.atom (.const (.bool false)))) 0 <|
    .calc2 (.binOp .gtr 3 (.tmp 27) (.const (.int .i64 0)) 3) 4 [(27, .leaf (.atom (.var 12)))] ([], []) (.leaf (.atom (.const (.bool true)))) 0 (
      .calc (.binOp .add 3 (.tmp 34) (.tmp 35) 3) 3 [(34, .leaf (.atom (.var 9))), (35, .leaf (.atom (.var 13)))] ([], []) (.leaf (.atom (.var 15))) 1 <|
      .boundx 15 6 <|
      .ldi [.rest 11] 0 15 1 1 false <|
      .calc (.convert 5 3 (.tmp 38)) 3 [(38, .leaf (.atom (.var 16)))] ([], []) (.leaf (.atom (.var 17))) 1 <|
      .calc (.binOp .add 3 (.tmp 32) (.tmp 39) 3) 3 [(32, .leaf (.atom (.var 12))), (39, .leaf (.atom (.var 17)))] ([], []) (.leaf (.atom (.var 18))) 1 <|
      .calc (.indexAddr 22 (.tmp 41) (.tmp 42)) 0 [(41, .leaf (.atom (.var 0))), (42, .leaf (.atom (.var 9)))] ([], []) (.leaf (.atom (.var 19))) 1 <|
      .calc (.load 5 (.tmp 43)) 5 [(43, .leaf (.atom (.var 19)))] ([], []) (.leaf (.atom (.var 20))) 1 <|
      .calc (.convert 5 3 (.tmp 44)) 3 [(44, .leaf (.atom (.var 20)))] ([], []) (.leaf (.atom (.var 21))) 1 <|
      .call 34 [.atom (.var 1), .atom (.var 13)] ([], []) (.leaf (.atom (.var 22))) 1 [] <|
      .calc (.binOp .mul 3 (.tmp 45) (.tmp 48) 3) 3 [(45, .leaf (.atom (.var 21))), (48, .leaf (.atom (.var 22)))] ([], []) (.leaf (.atom (.var 23))) 1 <|
      .calc (.binOp .add 3 (.tmp 40) (.tmp 49) 3) 3 [(40, .leaf (.atom (.var 18))), (49, .leaf (.atom (.var 23)))] ([], []) (.leaf (.atom (.var 24))) 1 <|
      .calc (.binOp .add 3 (.tmp 52) (.tmp 53) 3) 3 [(52, .leaf (.atom (.var 9))), (53, .leaf (.atom (.var 13)))] ([], []) (.leaf (.atom (.var 25))) 1 <|
      .calc (.binOp .rem 3 (.tmp 55) (.const (.int .i64 256)) 3) 3 [(55, .leaf (.atom (.var 24)))] ([], []) (.leaf (.atom (.var 26))) 1 <|
      .calc (.convert 3 5 (.tmp 56)) 5 [(56, .leaf (.atom (.var 26)))] ([], []) (.leaf (.atom (.var 27))) 1 <|
      .boundx 25 6 <|
      .sti [.rest 11] 0 25 1 1 [.one (.var 27)] <|
      .calc (.binOp .quo 3 (.tmp 59) (.const (.int .i64 256)) 3) 3 [(59, .leaf (.atom (.var 24)))] ([], []) (.leaf (.atom (.var 29))) 1 <|
      .calc (.binOp .add 3 (.tmp 30) (.const (.int .i64 1)) 3) 3 [(30, .leaf (.atom (.var 13)))] ([], []) (.leaf (.atom (.var 30))) 1 <|
      .again 1 [.agg [.rest 28], .atom (.var 29), .atom (.var 30)]) (.leaf (.atom (.const (.bool false)))) 0 <|
    .calc (.binOp .add 3 (.tmp 20) (.const (.int .i64 1)) 3) 3 [(20, .leaf (.atom (.var 9)))] ([], []) (.leaf (.atom (.var 15))) 1 <|
    .again 0 [.agg [.rest 11], .atom (.var 15)]) (.leaf (.atom (.const (.bool false)))) 0 <|
  .frz 6 8 ([], [⟨6, 8, 5, 1⟩]) <|
  .call 35 [.atom (.var 6)] ([], []) (.leaf (.atom (.var 11))) 1 [] <|
  .ret ([], []) (.leaf (.atom (.var 11)))
theorem c_rmul3 : compF Try.prog Try.f9 o_rmul3 (Try.f9.body.getD .skip) (symIn [.atom (.var 0), .atom (.var 1)] Try.f9.ntmps 2) = some t_rmul3 := by kernel_rfl
theorem g_rmul3 : goodC Try.prog o_rmul3.ords (Try.f9.body.getD .skip) = true := by kernel_rfl
def tb_rmul3 : FuncId × Trans := (9, tMul3)
set_option maxRecDepth 100000 in
theorem aw_rmul3 : ∀ zs Q, tb_rmul3.2 zs Q → bindLs 0 [.atom (.var 0), .atom (.var 1)] zs fun ae => bif Nat.beq ae.length 2 then AWp Try.prog tmP Q t_rmul3 [] ae else False := by
  intro zs Q h
  replace h : tMul3 zs Q := h
  unfold tMul3 at h
  split at h
  case h_2 => exact h.elim
  rename_i a b
  obtain ⟨⟨ha, hb, la, lb⟩, h⟩ := h
  have hn : ((a.length : Int) + (b.length : Int) + 1).toNat = a.length + b.length + 1 := by omega
  have h0 := mulI0 a b
  repeat ((conv => whnf) <;> first | with_reducible first | refine wI (by omega) ?_ | refine wB (by omega) ?_ | refine wR (by omega) ?_ | refine wQ (by omega) ?_ | refine And.intro rfl ?_ | rfl | refine And.intro ‹_› ?_ | refine cTe ‹_› ?_ | refine cFe ‹_› ?_ | refine cN (cTe ‹_› ?_) | refine cN (cFe ‹_› ?_) | refine cTe rfl ?_ | refine cEq ‹_› ?_ | refine cTt ?_ | refine cNt ?_ | refine cF (Eq.refl false) ?_ | refine cN (cF (Eq.refl false) ?_) | refine cTd (by omega) ?_ | refine cFd (by omega) ?_ | refine cN (cTd (by omega) ?_) | refine cN (cFd (by omega) ?_) | refine And.intro (by omega) ?_ | refine And.intro (Eq.refl true) ?_ | refine And.intro (Eq.refl (1 : Nat)) ?_)
  refine ⟨Nat, fun i zs => i ≤ a.length ∧ ∃ R, MulI a b i R ∧ zs = [.ints .u8 R, .int .i64 (i : Int)], fun i => a.length - i, 0, ?_, ?_⟩
  · (conv => whnf)
    exact ⟨_, Subs.refl' _, Nat.zero_le _, _, h0, zsM1 (by rw [hn]) rfl⟩
  rintro i _ ⟨hi, R0, hI, rfl⟩
  by_cases hlt : i < a.length
  · have hJ0 := mulJ0 hI
    repeat ((conv => whnf) <;> first | with_reducible first | refine wI (by omega) ?_ | refine wB (by omega) ?_ | refine wR (by omega) ?_ | refine wQ (by omega) ?_ | refine And.intro rfl ?_ | rfl | refine And.intro ‹_› ?_ | refine cTe ‹_› ?_ | refine cFe ‹_› ?_ | refine cN (cTe ‹_› ?_) | refine cN (cFe ‹_› ?_) | refine cTe rfl ?_ | refine cEq ‹_› ?_ | refine cTt ?_ | refine cNt ?_ | refine cF (Eq.refl false) ?_ | refine cN (cF (Eq.refl false) ?_) | refine cTd (by omega) ?_ | refine cFd (by omega) ?_ | refine cN (cTd (by omega) ?_) | refine cN (cFd (by omega) ?_) | refine And.intro (by omega) ?_ | refine And.intro (Eq.refl true) ?_ | refine And.intro (Eq.refl (1 : Nat)) ?_)
    refine ⟨Nat, fun k zs => ∃ c R, MulJ a b i k c R ∧ zs = [.ints .u8 R, .int .i64 c, .int .i64 (k : Int)], fun k => b.length + 1 - k, 0, ?_, ?_⟩
    · (conv => whnf)
      exact ⟨_, Subs.refl' _, _, _, hJ0, rfl⟩
    rintro k _ ⟨c, R, hJ, rfl⟩
    have hRl : R.length = a.length + b.length + 1 := hJ.1
    have hkl : k ≤ b.length + 1 := hJ.2.2.2.1
    by_cases hk : k < b.length
    · have hat : 0 ≤ (k : Int) ∧ By b ∧ b.length ≤ 1000000 := ⟨by omega, hb, by omega⟩
      obtain ⟨s1, s2⟩ := mulJ_s ha hb hJ hlt (Or.inl hk)
      have q1 := by_getD' ha (i : Int).toNat
      have q2 := by_getD' hb (k : Int).toNat
      have q3 := by_getD' hJ.2.1 (0 + ((i : Int) + (k : Int)).toNat * 1)
      have q4 := hJ.2.2.1
      obtain ⟨o1, o2, o3, o4⟩ := mul_ov q1 q2 q4 q3
      have e1 : 0 + ((i : Int) + (k : Int)).toNat * 1 = i + k := by omega
      have e2 : ((i : Int) + (k : Int)).toNat = i + k := by omega
      have e3 : (i : Int).toNat = i := rfl
      have e4 : (k : Int).toNat = k := rfl
      have hm0 : 0 ≤ (c + R.getD (0 + ((i : Int) + (k : Int)).toNat * 1) 0 + a.getD (i : Int).toNat 0 * b.getD (k : Int).toNat 0) % 256 := Int.emod_nonneg _ (by omega)
      have hm1 : (c + R.getD (0 + ((i : Int) + (k : Int)).toNat * 1) 0 + a.getD (i : Int).toNat 0 * b.getD (k : Int).toNat 0) % 256 < 256 := Int.emod_lt_of_pos _ (by omega)
      repeat ((conv => whnf) <;> first | with_reducible first | refine wI (by omega) ?_ | refine wB (by omega) ?_ | refine wR (by omega) ?_ | refine wQ (by omega) ?_ | refine And.intro rfl ?_ | rfl | refine And.intro ‹_› ?_ | refine cTe ‹_› ?_ | refine cFe ‹_› ?_ | refine cN (cTe ‹_› ?_) | refine cN (cFe ‹_› ?_) | refine cTe rfl ?_ | refine cEq ‹_› ?_ | refine cTt ?_ | refine cNt ?_ | refine cF (Eq.refl false) ?_ | refine cN (cF (Eq.refl false) ?_) | refine cTd (by omega) ?_ | refine cFd (by omega) ?_ | refine cN (cTd (by omega) ?_) | refine cN (cFd (by omega) ?_) | refine And.intro (by omega) ?_ | refine And.intro (Eq.refl true) ?_ | refine And.intro (Eq.refl (1 : Nat)) ?_)
      (conv => whnf)
      refine ⟨_, Subs.refl' _, k + 1, ⟨_, _, s2, zsM2 ?_ ?_ ?_⟩, ?_⟩
      · rw [e1, e3, e4]
      · rw [e1, e3, e4]
      · omega
      · show b.length + 1 - (k + 1) < b.length + 1 - k
        have := s2.2.2.2.1; omega
    · by_cases hc : 0 < c
      · have hkk : k ≤ b.length := by
          by_cases e : k = b.length + 1
          · have := hJ.2.2.2.2.1 e; omega
          · omega
        have hat : 0 ≤ (k : Int) ∧ By b ∧ b.length ≤ 1000000 := ⟨by omega, hb, by omega⟩
        obtain ⟨s1, s2⟩ := mulJ_s ha hb hJ hlt (Or.inr hc)
        have q1 := by_getD' ha (i : Int).toNat
        have q2 := by_getD' hb (k : Int).toNat
        have q3 := by_getD' hJ.2.1 (0 + ((i : Int) + (k : Int)).toNat * 1)
        have q4 := hJ.2.2.1
        obtain ⟨o1, o2, o3, o4⟩ := mul_ov q1 q2 q4 q3
        have e1 : 0 + ((i : Int) + (k : Int)).toNat * 1 = i + k := by omega
        have e2 : ((i : Int) + (k : Int)).toNat = i + k := by omega
        have e3 : (i : Int).toNat = i := rfl
        have e4 : (k : Int).toNat = k := rfl
        have hm0 : 0 ≤ (c + R.getD (0 + ((i : Int) + (k : Int)).toNat * 1) 0 + a.getD (i : Int).toNat 0 * b.getD (k : Int).toNat 0) % 256 := Int.emod_nonneg _ (by omega)
        have hm1 : (c + R.getD (0 + ((i : Int) + (k : Int)).toNat * 1) 0 + a.getD (i : Int).toNat 0 * b.getD (k : Int).toNat 0) % 256 < 256 := Int.emod_lt_of_pos _ (by omega)
        repeat ((conv => whnf) <;> first | with_reducible first | refine wI (by omega) ?_ | refine wB (by omega) ?_ | refine wR (by omega) ?_ | refine wQ (by omega) ?_ | refine And.intro rfl ?_ | rfl | refine And.intro ‹_› ?_ | refine cTe ‹_› ?_ | refine cFe ‹_› ?_ | refine cN (cTe ‹_› ?_) | refine cN (cFe ‹_› ?_) | refine cTe rfl ?_ | refine cEq ‹_› ?_ | refine cTt ?_ | refine cNt ?_ | refine cF (Eq.refl false) ?_ | refine cN (cF (Eq.refl false) ?_) | refine cTd (by omega) ?_ | refine cFd (by omega) ?_ | refine cN (cTd (by omega) ?_) | refine cN (cFd (by omega) ?_) | refine And.intro (by omega) ?_ | refine And.intro (Eq.refl true) ?_ | refine And.intro (Eq.refl (1 : Nat)) ?_)
        (conv => whnf)
        refine ⟨_, Subs.refl' _, k + 1, ⟨_, _, s2, zsM2 ?_ ?_ ?_⟩, ?_⟩
        · rw [e1, e3, e4]
        · rw [e1, e3, e4]
        · omega
        · show b.length + 1 - (k + 1) < b.length + 1 - k
          have := s2.2.2.2.1; omega
      · have hE := mulJ_e hJ hk (by omega)
        repeat ((conv => whnf) <;> first | with_reducible first | refine wI (by omega) ?_ | refine wB (by omega) ?_ | refine wR (by omega) ?_ | refine wQ (by omega) ?_ | refine And.intro rfl ?_ | rfl | refine And.intro ‹_› ?_ | refine cTe ‹_› ?_ | refine cFe ‹_› ?_ | refine cN (cTe ‹_› ?_) | refine cN (cFe ‹_› ?_) | refine cTe rfl ?_ | refine cEq ‹_› ?_ | refine cTt ?_ | refine cNt ?_ | refine cF (Eq.refl false) ?_ | refine cN (cF (Eq.refl false) ?_) | refine cTd (by omega) ?_ | refine cFd (by omega) ?_ | refine cN (cTd (by omega) ?_) | refine cN (cFd (by omega) ?_) | refine And.intro (by omega) ?_ | refine And.intro (Eq.refl true) ?_ | refine And.intro (Eq.refl (1 : Nat)) ?_)
        (conv => whnf)
        exact ⟨_, Subs.refl' _, i + 1, ⟨by omega, _, hE, zsM1 rfl (by omega)⟩, by show a.length - (i + 1) < a.length - i; omega⟩
  · obtain rfl : i = a.length := by omega
    obtain ⟨c1, c2, c3⟩ := mul_cut ha hb hI
    have hcl : By R0 ∧ R0.length ≤ 1000000 := ⟨hI.2.1, by rw [hI.1]; omega⟩
    have h := h _ c1 c2 c3
    repeat ((conv => whnf) <;> first | with_reducible first | refine wI (by omega) ?_ | refine wB (by omega) ?_ | refine wR (by omega) ?_ | refine wQ (by omega) ?_ | refine And.intro rfl ?_ | rfl | refine And.intro ‹_› ?_ | refine cTe ‹_› ?_ | refine cFe ‹_› ?_ | refine cN (cTe ‹_› ?_) | refine cN (cFe ‹_› ?_) | refine cTe rfl ?_ | refine cEq ‹_› ?_ | refine cTt ?_ | refine cNt ?_ | refine cF (Eq.refl false) ?_ | refine cN (cF (Eq.refl false) ?_) | refine cTd (by omega) ?_ | refine cFd (by omega) ?_ | refine cN (cTd (by omega) ?_) | refine cN (cFd (by omega) ?_) | refine And.intro (by omega) ?_ | refine And.intro (Eq.refl true) ?_ | refine And.intro (Eq.refl (1 : Nat)) ?_)
    (conv => whnf)
    exact h
theorem tb_rmul3_ok : Con Try.prog tb_rmul3.1 tb_rmul3.2 := con_tree tmP_ok o_rmul3 [.atom (.var 0), .atom (.var 1)] 2 Try.func9 rfl c_rmul3 aw_rmul3 g_rmul3
def tmE : Tab := tb_awake12 :: tb_made11 :: tb_mult :: tb_rmul3 :: tb_peq :: []
theorem tmE_ok : tmE.OK Try.prog := tab_cons tb_awake12_ok <| tab_cons tb_made11_ok <| tab_cons tb_mult_ok <| tab_cons tb_rmul3_ok <| tab_cons tb_peq_ok <| tab_nil _
def o_multswaps : Orc := { ans := [(20, .one ⟨.leaf (.agg [.one (.var 0), .one (.var 1)]), 2, []⟩), (21, .two ⟨.tup [.agg [.whole 0 24], .agg [.whole 1 48], .atom (.const (.bool true))], 2, []⟩ ⟨.tup [.agg [.whole 0 24], .agg [.whole 1 48], .atom (.const (.bool false))], 2, []⟩), (26, oV), (28, oV), (29, oV), (30, oV), (31, oB), (32, oV), (34, oV), (35, oV), (36, oV), (37, oB), (38, oV), (40, oV), (41, oV), (42, oV), (43, oB), (44, oV), (46, oV), (47, oV), (48, oV), (49, oB), (50, oV), (51, oB), (53, oV), (54, oV), (55, .one ⟨.leaf (.agg [.whole 0 24]), 1, []⟩), (56, .one ⟨.tup [.agg [.whole 0 24], .atom (.var 1)], 2, []⟩), (60, oV), (61, oV), (62, .one ⟨.leaf (.agg [.whole 0 24]), 1, []⟩), (63, .one ⟨.tup [.agg [.whole 0 24], .atom (.var 1)], 2, []⟩), (67, oV), (68, oV), (69, .one ⟨.leaf (.agg [.whole 0 24]), 1, []⟩), (70, .one ⟨.tup [.agg [.whole 0 24], .atom (.var 1)], 2, []⟩), (74, oV), (75, oV), (76, .one ⟨.leaf (.agg [.whole 0 24]), 1, []⟩), (77, .one ⟨.tup [.agg [.whole 0 24], .atom (.var 1)], 2, []⟩), (81, oV), (82, oV), (83, oV), (84, oV), (85, oV), (86, oV), (89, oV), (92, .one ⟨.leaf (.agg [.whole 0 24]), 1, []⟩), (93, .one ⟨.tup [.agg [.whole 0 24], .atom (.var 1)], 2, []⟩), (97, oB), (100, oB), (101, oV), (104, oB), (105, oV), (108, oB), (109, oV), (112, oB), (113, oV), (115, .one ⟨.leaf (.agg [.whole 0 24]), 1, []⟩), (116, .one ⟨.leaf (.agg [.whole 0 24]), 1, []⟩), (117, oB), (118, oV), (120, .one ⟨.leaf (.agg [.whole 0 24]), 1, []⟩), (121, .one ⟨.leaf (.agg [.whole 0 24]), 1, []⟩), (122, oB), (123, oV), (125, oB), (126, oV)], lps := [] }
def t_multswaps : Tree :=
  .new <|
  .new <|
  .call2 6 [.agg [.one (.var 0), .one (.var 1)]] ([], []) (.tup [.agg [.whole 4 24], .agg [.whole 5 48], .atom (.const (.bool true))]) 2 [] (
    .new <|
    .new <|
    .calc (.call { callee := .builtin .len, args := #[.tmp 29], argTypes := #[22] }) 3 [(29, .leaf (.atom (.var 2)))] ([], []) (.leaf (.atom (.var 6))) 1 <|
    .calc2 (.binOp .lss 3 (.tmp 30) (.const (.int .i64 1)) 3) 4 [(30, .leaf (.atom (.var 6)))] ([], []) (.leaf (.atom (.const (.bool true)))) 0 (
      .call2 7 [] ([], []) (.leaf (.atom (.const (.bool true)))) 0 [] (
        .ret ([], []) (.leaf (.atom (.const (.bool true))))) (.leaf (.atom (.const (.bool false)))) 0 [] <|
      .ret ([], []) (.leaf (.atom (.const (.bool false))))) (.leaf (.atom (.const (.bool false)))) 0 <|
    .calc (.call { callee := .builtin .len, args := #[.tmp 35], argTypes := #[22] }) 3 [(35, .leaf (.atom (.var 2)))] ([], []) (.leaf (.atom (.var 7))) 1 <|
    .calc2 (.binOp .gtr 3 (.tmp 36) (.const (.int .i64 6)) 3) 4 [(36, .leaf (.atom (.var 7)))] ([], []) (.leaf (.atom (.const (.bool true)))) 0 (
      .call2 7 [] ([], []) (.leaf (.atom (.const (.bool true)))) 0 [] (
        .ret ([], []) (.leaf (.atom (.const (.bool true))))) (.leaf (.atom (.const (.bool false)))) 0 [] <|
      .ret ([], []) (.leaf (.atom (.const (.bool false))))) (.leaf (.atom (.const (.bool false)))) 0 <|
    .calc (.call { callee := .builtin .len, args := #[.tmp 41], argTypes := #[22] }) 3 [(41, .leaf (.atom (.var 3)))] ([], []) (.leaf (.atom (.var 8))) 1 <|
    .calc2 (.binOp .lss 3 (.tmp 42) (.const (.int .i64 1)) 3) 4 [(42, .leaf (.atom (.var 8)))] ([], []) (.leaf (.atom (.const (.bool true)))) 0 (
      .call2 7 [] ([], []) (.leaf (.atom (.const (.bool true)))) 0 [] (
        .ret ([], []) (.leaf (.atom (.const (.bool true))))) (.leaf (.atom (.const (.bool false)))) 0 [] <|
      .ret ([], []) (.leaf (.atom (.const (.bool false))))) (.leaf (.atom (.const (.bool false)))) 0 <|
    .calc (.call { callee := .builtin .len, args := #[.tmp 47], argTypes := #[22] }) 3 [(47, .leaf (.atom (.var 3)))] ([], []) (.leaf (.atom (.var 9))) 1 <|
    .calc2 (.binOp .gtr 3 (.tmp 48) (.const (.int .i64 6)) 3) 4 [(48, .leaf (.atom (.var 9)))] ([], []) (.leaf (.atom (.const (.bool true)))) 0 (
      .call2 7 [] ([], []) (.leaf (.atom (.const (.bool true)))) 0 [] (
        .ret ([], []) (.leaf (.atom (.const (.bool true))))) (.leaf (.atom (.const (.bool false)))) 0 [] <|
      .ret ([], []) (.leaf (.atom (.const (.bool false))))) (.leaf (.atom (.const (.bool false)))) 0 <|
    .call 8 [.atom (.var 2), .agg [.whole 4 24]] ([], []) (.tup [.agg [.whole 10 24], .atom (.var 11)]) 2 [] <|
    .new <|
    .call 8 [.atom (.var 3), .agg [.whole 10 24]] ([], []) (.tup [.agg [.whole 12 24], .atom (.var 13)]) 2 [] <|
    .new <|
    .call 8 [.atom (.var 3), .agg [.whole 4 24]] ([], []) (.tup [.agg [.whole 14 24], .atom (.var 15)]) 2 [] <|
    .new <|
    .call 8 [.atom (.var 2), .agg [.whole 14 24]] ([], []) (.tup [.agg [.whole 16 24], .atom (.var 17)]) 2 [] <|
    .new <|
    .call 9 [.atom (.var 2), .atom (.var 3)] ([], []) (.leaf (.atom (.var 18))) 1 [] <|
    .appv none 18 1 <|
    .new <|
    .app (some 20) [.one (.const (.int .u8 0)), .one (.const (.int .u8 0)), .one (.const (.int .u8 0))] 1 <|
    .frz 21 22 ([([.one (.var 0), .one (.var 1)], 24), ([.one (.var 2), .one (.var 3)], 25), ([.whole 4 24], 31), ([.whole 5 48], 35), ([.whole 10 24], 31), ([.whole 12 24], 31), ([.whole 14 24], 31), ([.whole 16 24], 31), ([.one (.const (.int .u8 0)), .one (.const (.int .u8 0)), .one (.const (.int .u8 0))], 5)], [⟨21, 22, 5, 1⟩]) <|
    .call 8 [.atom (.var 21), .agg [.whole 4 24]] ([], []) (.tup [.agg [.whole 23 24], .atom (.var 24)]) 2 [] <|
    .new <|
    .calc2 (.binOp .eql 39 (.tmp 96) (.const (.int .i64 0)) 39) 4 [(96, .leaf (.atom (.var 11)))] ([], []) (.leaf (.atom (.const (.bool true)))) 0 (
      .calc2 (.binOp .eql 39 (.tmp 99) (.const (.int .i64 0)) 39) 4 [(99, .leaf (.atom (.var 13)))] ([], []) (.leaf (.atom (.const (.bool true)))) 0 (
        .calc2 (.binOp .eql 39 (.tmp 103) (.const (.int .i64 0)) 39) 4 [(103, .leaf (.atom (.var 15)))] ([], []) (.leaf (.atom (.const (.bool true)))) 0 (
          .calc2 (.binOp .eql 39 (.tmp 107) (.const (.int .i64 0)) 39) 4 [(107, .leaf (.atom (.var 17)))] ([], []) (.leaf (.atom (.const (.bool true)))) 0 (
            .calc2 (.binOp .eql 39 (.tmp 111) (.const (.int .i64 0)) 39) 4 [(111, .leaf (.atom (.var 24)))] ([], []) (.leaf (.atom (.const (.bool true)))) 0 (
              .call2 10 [.agg [.whole 12 24], .agg [.whole 16 24]] ([], []) (.leaf (.atom (.const (.bool true)))) 0 [] (
                .call2 10 [.agg [.whole 23 24], .agg [.whole 12 24]] ([], []) (.leaf (.atom (.const (.bool true)))) 0 [] (
                  .call2 7 [] ([], []) (.leaf (.atom (.const (.bool true)))) 0 [] (
                    .ret ([], []) (.leaf (.atom (.const (.bool true))))) (.leaf (.atom (.const (.bool false)))) 0 [] <|
                  .ret ([], []) (.leaf (.atom (.const (.bool false))))) (.leaf (.atom (.const (.bool false)))) 0 [] <|
                .ret ([], []) (.leaf (.atom (.const (.bool false))))) (.leaf (.atom (.const (.bool false)))) 0 [] <|
              .ret ([], []) (.leaf (.atom (.const (.bool false))))) (.leaf (.atom (.const (.bool false)))) 0 <|
            .ret ([], []) (.leaf (.atom (.const (.bool false))))) (.leaf (.atom (.const (.bool false)))) 0 <|
          .ret ([], []) (.leaf (.atom (.const (.bool false))))) (.leaf (.atom (.const (.bool false)))) 0 <|
        .ret ([], []) (.leaf (.atom (.const (.bool false))))) (.leaf (.atom (.const (.bool false)))) 0 <|
      .ret ([], []) (.leaf (.atom (.const (.bool false))))) (.leaf (.atom (.const (.bool false)))) 0 <|
    .ret ([], []) (.leaf (.atom (.const (.bool false))))) (.tup [.agg [.whole 4 24], .agg [.whole 5 48], .atom (.const (.bool false))]) 2 [] <|
  .new <|
  .new <|
  .call2 7 [] ([], []) (.leaf (.atom (.const (.bool true)))) 0 [] (
    .ret ([], []) (.leaf (.atom (.const (.bool true))))) (.leaf (.atom (.const (.bool false)))) 0 [] <|
  .ret ([], []) (.leaf (.atom (.const (.bool false))))
theorem c_multswaps : compF Try.prog Try.f3 o_multswaps (Try.f3.body.getD .skip) (symIn [.agg [.one (.var 0), .one (.var 1)], .agg [.one (.var 2), .one (.var 3)]] Try.f3.ntmps 4) = some t_multswaps := by kernel_rfl
theorem g_multswaps : goodC Try.prog o_multswaps.ords (Try.f3.body.getD .skip) = true := by kernel_rfl
set_option maxRecDepth 100000 in
set_option maxHeartbeats 1000000 in
theorem aw_multswaps (b1 : List Int) (yb1 : By b1) (n1 : Int) (r1 : I64 n1) (b2 : List Int) (yb2 : By b2) (c2 : List Int) (yc2 : By c2) : AWp Try.prog tmE (fun a => a = .bool true) t_multswaps [] [.isl .u8 b1, .int .i64 n1, .isl .u8 b2, .isl .u8 c2] := by
  repeat ((conv => whnf) <;> first | with_reducible first | refine wI (by omega) ?_ | refine wB (by omega) ?_ | refine And.intro rfl ?_ | rfl | refine And.intro ‹_› ?_ | refine cTe ‹_› ?_ | refine cFe ‹_› ?_ | refine cN (cTe ‹_› ?_) | refine cN (cFe ‹_› ?_) | refine cTe rfl ?_ | refine cEq ‹_› ?_ | refine cTt ?_ | refine cNt ?_ | refine cF (Eq.refl false) ?_ | refine cN (cF (Eq.refl false) ?_) | refine cTd (by omega) ?_ | refine cFd (by omega) ?_ | refine cN (cTd (by omega) ?_) | refine cN (cFd (by omega) ?_) | refine And.intro (by omega) ?_ | refine And.intro (Eq.refl true) ?_ | refine And.intro (Eq.refl (1 : Nat)) ?_)
  refine ⟨fun hh => by repeat ((conv => whnf) <;> first | with_reducible first | refine wI (by omega) ?_ | refine wB (by omega) ?_ | refine And.intro rfl ?_ | rfl | refine And.intro ‹_› ?_ | refine cTe ‹_› ?_ | refine cFe ‹_› ?_ | refine cN (cTe ‹_› ?_) | refine cN (cFe ‹_› ?_) | refine cTe rfl ?_ | refine cEq ‹_› ?_ | refine cTt ?_ | refine cNt ?_ | refine cF (Eq.refl false) ?_ | refine cN (cF (Eq.refl false) ?_) | refine cTd (by omega) ?_ | refine cFd (by omega) ?_ | refine cN (cTd (by omega) ?_) | refine cN (cFd (by omega) ?_) | refine And.intro (by omega) ?_ | refine And.intro (Eq.refl true) ?_ | refine And.intro (Eq.refl (1 : Nat)) ?_), fun k1 k2 k3 => ?_⟩
  generalize sgG b1 n1 = g
  by_cases a1 : (b2.length : Int) < 1
  · repeat ((conv => whnf) <;> first | with_reducible first | refine wI (by omega) ?_ | refine wB (by omega) ?_ | refine And.intro rfl ?_ | rfl | refine And.intro ‹_› ?_ | refine cTe ‹_› ?_ | refine cFe ‹_› ?_ | refine cN (cTe ‹_› ?_) | refine cN (cFe ‹_› ?_) | refine cTe rfl ?_ | refine cEq ‹_› ?_ | refine cTt ?_ | refine cNt ?_ | refine cF (Eq.refl false) ?_ | refine cN (cF (Eq.refl false) ?_) | refine cTd (by omega) ?_ | refine cFd (by omega) ?_ | refine cN (cTd (by omega) ?_) | refine cN (cFd (by omega) ?_) | refine And.intro (by omega) ?_ | refine And.intro (Eq.refl true) ?_ | refine And.intro (Eq.refl (1 : Nat)) ?_)
  by_cases a2 : (b2.length : Int) > 6
  · repeat ((conv => whnf) <;> first | with_reducible first | refine wI (by omega) ?_ | refine wB (by omega) ?_ | refine And.intro rfl ?_ | rfl | refine And.intro ‹_› ?_ | refine cTe ‹_› ?_ | refine cFe ‹_› ?_ | refine cN (cTe ‹_› ?_) | refine cN (cFe ‹_› ?_) | refine cTe rfl ?_ | refine cEq ‹_› ?_ | refine cTt ?_ | refine cNt ?_ | refine cF (Eq.refl false) ?_ | refine cN (cF (Eq.refl false) ?_) | refine cTd (by omega) ?_ | refine cFd (by omega) ?_ | refine cN (cTd (by omega) ?_) | refine cN (cFd (by omega) ?_) | refine And.intro (by omega) ?_ | refine And.intro (Eq.refl true) ?_ | refine And.intro (Eq.refl (1 : Nat)) ?_)
  by_cases a3 : (c2.length : Int) < 1
  · repeat ((conv => whnf) <;> first | with_reducible first | refine wI (by omega) ?_ | refine wB (by omega) ?_ | refine And.intro rfl ?_ | rfl | refine And.intro ‹_› ?_ | refine cTe ‹_› ?_ | refine cFe ‹_› ?_ | refine cN (cTe ‹_› ?_) | refine cN (cFe ‹_› ?_) | refine cTe rfl ?_ | refine cEq ‹_› ?_ | refine cTt ?_ | refine cNt ?_ | refine cF (Eq.refl false) ?_ | refine cN (cF (Eq.refl false) ?_) | refine cTd (by omega) ?_ | refine cFd (by omega) ?_ | refine cN (cTd (by omega) ?_) | refine cN (cFd (by omega) ?_) | refine And.intro (by omega) ?_ | refine And.intro (Eq.refl true) ?_ | refine And.intro (Eq.refl (1 : Nat)) ?_)
  by_cases a4 : (c2.length : Int) > 6
  · repeat ((conv => whnf) <;> first | with_reducible first | refine wI (by omega) ?_ | refine wB (by omega) ?_ | refine And.intro rfl ?_ | rfl | refine And.intro ‹_› ?_ | refine cTe ‹_› ?_ | refine cFe ‹_› ?_ | refine cN (cTe ‹_› ?_) | refine cN (cFe ‹_› ?_) | refine cTe rfl ?_ | refine cEq ‹_› ?_ | refine cTt ?_ | refine cNt ?_ | refine cF (Eq.refl false) ?_ | refine cN (cF (Eq.refl false) ?_) | refine cTd (by omega) ?_ | refine cFd (by omega) ?_ | refine cN (cTd (by omega) ?_) | refine cN (cFd (by omega) ?_) | refine And.intro (by omega) ?_ | refine And.intro (Eq.refl true) ?_ | refine And.intro (Eq.refl (1 : Nat)) ?_)
  have m1 : By b2 ∧ b2.length ≤ 100000 := ⟨yb2, by omega⟩
  have m2 : By c2 ∧ c2.length ≤ 100000 := ⟨yc2, by omega⟩
  have m3 : By b2 ∧ By c2 ∧ b2.length ≤ 10000 ∧ c2.length ≤ 10000 := ⟨yb2, yc2, by omega, by omega⟩
  repeat ((conv => whnf) <;> first | with_reducible first | refine wI (by omega) ?_ | refine wB (by omega) ?_ | refine And.intro rfl ?_ | rfl | refine And.intro ‹_› ?_ | refine cTe ‹_› ?_ | refine cFe ‹_› ?_ | refine cN (cTe ‹_› ?_) | refine cN (cFe ‹_› ?_) | refine cTe rfl ?_ | refine cEq ‹_› ?_ | refine cTt ?_ | refine cNt ?_ | refine cF (Eq.refl false) ?_ | refine cN (cF (Eq.refl false) ?_) | refine cTd (by omega) ?_ | refine cFd (by omega) ?_ | refine cN (cTd (by omega) ?_) | refine cN (cFd (by omega) ?_) | refine And.intro (by omega) ?_ | refine And.intro (Eq.refl true) ?_ | refine And.intro (Eq.refl (1 : Nat)) ?_)
  intro _ _
  repeat ((conv => whnf) <;> first | with_reducible first | refine wI (by omega) ?_ | refine wB (by omega) ?_ | refine And.intro rfl ?_ | rfl | refine And.intro ‹_› ?_ | refine cTe ‹_› ?_ | refine cFe ‹_› ?_ | refine cN (cTe ‹_› ?_) | refine cN (cFe ‹_› ?_) | refine cTe rfl ?_ | refine cEq ‹_› ?_ | refine cTt ?_ | refine cNt ?_ | refine cF (Eq.refl false) ?_ | refine cN (cF (Eq.refl false) ?_) | refine cTd (by omega) ?_ | refine cFd (by omega) ?_ | refine cN (cTd (by omega) ?_) | refine cN (cFd (by omega) ?_) | refine And.intro (by omega) ?_ | refine And.intro (Eq.refl true) ?_ | refine And.intro (Eq.refl (1 : Nat)) ?_)
  intro _ _
  repeat ((conv => whnf) <;> first | with_reducible first | refine wI (by omega) ?_ | refine wB (by omega) ?_ | refine And.intro rfl ?_ | rfl | refine And.intro ‹_› ?_ | refine cTe ‹_› ?_ | refine cFe ‹_› ?_ | refine cN (cTe ‹_› ?_) | refine cN (cFe ‹_› ?_) | refine cTe rfl ?_ | refine cEq ‹_› ?_ | refine cTt ?_ | refine cNt ?_ | refine cF (Eq.refl false) ?_ | refine cN (cF (Eq.refl false) ?_) | refine cTd (by omega) ?_ | refine cFd (by omega) ?_ | refine cN (cTd (by omega) ?_) | refine cN (cFd (by omega) ?_) | refine And.intro (by omega) ?_ | refine And.intro (Eq.refl true) ?_ | refine And.intro (Eq.refl (1 : Nat)) ?_)
  intro _ _
  repeat ((conv => whnf) <;> first | with_reducible first | refine wI (by omega) ?_ | refine wB (by omega) ?_ | refine And.intro rfl ?_ | rfl | refine And.intro ‹_› ?_ | refine cTe ‹_› ?_ | refine cFe ‹_› ?_ | refine cN (cTe ‹_› ?_) | refine cN (cFe ‹_› ?_) | refine cTe rfl ?_ | refine cEq ‹_› ?_ | refine cTt ?_ | refine cNt ?_ | refine cF (Eq.refl false) ?_ | refine cN (cF (Eq.refl false) ?_) | refine cTd (by omega) ?_ | refine cFd (by omega) ?_ | refine cN (cTd (by omega) ?_) | refine cN (cFd (by omega) ?_) | refine And.intro (by omega) ?_ | refine And.intro (Eq.refl true) ?_ | refine And.intro (Eq.refl (1 : Nat)) ?_)
  intro _ _
  repeat ((conv => whnf) <;> first | with_reducible first | refine wI (by omega) ?_ | refine wB (by omega) ?_ | refine And.intro rfl ?_ | rfl | refine And.intro ‹_› ?_ | refine cTe ‹_› ?_ | refine cFe ‹_› ?_ | refine cN (cTe ‹_› ?_) | refine cN (cFe ‹_› ?_) | refine cTe rfl ?_ | refine cEq ‹_› ?_ | refine cTt ?_ | refine cNt ?_ | refine cF (Eq.refl false) ?_ | refine cN (cF (Eq.refl false) ?_) | refine cTd (by omega) ?_ | refine cFd (by omega) ?_ | refine cN (cTd (by omega) ?_) | refine cN (cFd (by omega) ?_) | refine And.intro (by omega) ?_ | refine And.intro (Eq.refl true) ?_ | refine And.intro (Eq.refl (1 : Nat)) ?_)
  intro r r1 r2 r3
  have e1 : mulG (nval c2) (mulG (nval b2) g) = mulG (nval b2) (mulG (nval c2) g) := mulG_comm _ _ _
  have e2 : mulG (nval (r ++ ([0] ++ ([0] ++ [0])))) g = mulG (nval c2) (mulG (nval b2) g) := by rw [show r ++ ([0] ++ ([0] ++ [0])) = r ++ [0, 0, 0] from rfl, nval_long, r3, Nat.mul_comm, mulG_mul]
  have m4 : By (r ++ ([0] ++ ([0] ++ [0]))) ∧ (r ++ ([0] ++ ([0] ++ [0]))).length ≤ 100000 := ⟨by_long r1, by rw [List.length_append]; show r.length + 3 ≤ _; omega⟩
  have m5 : (r ++ ([0] ++ ([0] ++ [0]))).length = r.length + 3 := by rw [List.length_append]; rfl
  have m6 : (AV.ints .u8 r).size ≤ 1000000 := by show r.length ≤ _; omega
  have m7 : (AV.ints .u8 (r ++ ([0] ++ ([0] ++ [0])))).size ≤ 1000000 := by show (r ++ ([0] ++ ([0] ++ [0]))).length ≤ _; omega
  repeat ((conv => whnf) <;> first | with_reducible first | refine wI (by omega) ?_ | refine wB (by omega) ?_ | refine And.intro rfl ?_ | rfl | refine And.intro ‹_› ?_ | refine cTe ‹_› ?_ | refine cFe ‹_› ?_ | refine cN (cTe ‹_› ?_) | refine cN (cFe ‹_› ?_) | refine cTe rfl ?_ | refine cEq ‹_› ?_ | refine cTt ?_ | refine cNt ?_ | refine cF (Eq.refl false) ?_ | refine cN (cF (Eq.refl false) ?_) | refine cTd (by omega) ?_ | refine cFd (by omega) ?_ | refine cN (cTd (by omega) ?_) | refine cN (cFd (by omega) ?_) | refine And.intro (by omega) ?_ | refine And.intro (Eq.refl true) ?_ | refine And.intro (Eq.refl (1 : Nat)) ?_)
  intro _ _
  repeat ((conv => whnf) <;> first | with_reducible first | refine wI (by omega) ?_ | refine wB (by omega) ?_ | refine And.intro rfl ?_ | rfl | refine And.intro ‹_› ?_ | refine cTe ‹_› ?_ | refine cFe ‹_› ?_ | refine cN (cTe ‹_› ?_) | refine cN (cFe ‹_› ?_) | refine cTe rfl ?_ | refine cEq ‹_› ?_ | refine cTt ?_ | refine cNt ?_ | refine cF (Eq.refl false) ?_ | refine cN (cF (Eq.refl false) ?_) | refine cTd (by omega) ?_ | refine cFd (by omega) ?_ | refine cN (cTd (by omega) ?_) | refine cN (cFd (by omega) ?_) | refine And.intro (by omega) ?_ | refine And.intro (Eq.refl true) ?_ | refine And.intro (Eq.refl (1 : Nat)) ?_)
set_option maxRecDepth 100000 in
theorem multswaps_any (b1 : List Int) (yb1 : By b1) (v1 : Value) (n1 : Int) (r1 : I64 n1) (b2 : List Int) (yb2 : By b2) (v2 : Value) (c2 : List Int) (yc2 : By c2) (u2 : Value) (w : World) (s1 : Bv w v1 b1) (s2 : Bv w v2 b2) (z2 : Bv w u2 c2) : Calls Try.prog 3 #[AG [v1, .int .i64 n1], AG [v2, u2]] w (OutV (.bool true) w) :=
  law_tree tmE_ok o_multswaps [.agg [.one (.var 0), .one (.var 1)], .agg [.one (.var 2), .one (.var 3)]] [v1, .int .i64 n1, v2, u2] [.isl .u8 b1, .int .i64 n1, .isl .u8 b2, .isl .u8 c2] Try.func3 rfl c_multswaps (by simp [Leaf.den, catS, Seg.den, Atom.den, cellsAt, AG, Value.cells]) (by intro x hx; simp only [List.mem_cons, List.not_mem_nil, or_false] at hx; rcases hx with rfl | rfl <;> first | exact ok_two (v := v1) (v' := .int .i64 n1) rfl (bv_one s1) rfl rfl | exact ok_two (v := v2) (v' := u2) rfl (bv_one s2) rfl (bv_one z2)) ⟨_, _, rfl, bv_val s1, _, _, rfl, int_val n1, ⟨_, _, rfl, bv_val s2, _, _, rfl, bv_val z2, rfl⟩⟩ g_multswaps (aw_multswaps b1 yb1 n1 r1 b2 yb2 c2 yc2)
end Go.Proofs.Ytpapfkihjhhjkaa
