/- Digits -/
import Derived.Test.YtamgmkeoaaaliaaGreatDgp
import Derived.Test.YtamgmkeoaaaliaaGreatBkw
set_option linter.unusedSimpArgs false
set_option linter.unusedVariables false
namespace Go.Proofs.YtamgmkeoaaaliaaGreat
open Go.RowKit FdP FdP.Ch
def tRdBit : Trans := fun zs Q => match zs with
  | [.int .i64 i, .ref (.isl .u8 b)] => (By b ∧ b.length ≤ 100 ∧ 0 ≤ i ∧ i ≤ 100000) ∧ Q (.int .i64 ((nval b / 2 ^ i.toNat % 2 : Nat) : Int))
  | _ => False
def tCheckD : Trans := fun zs Q => match zs with
  | [.isl .u8 b, .int .i64 lo, .isl .i64 [n]] => b.length ≤ 100000 ∧ (64 < b.length → Q (.int .i64 11)) ∧ (b.length ≤ 64 → ¬ (lo ≤ n ∧ n ≤ 8) → Q (.int .i64 10)) ∧ (b.length ≤ 64 → lo ≤ n → n ≤ 8 → Q (.int .i64 0))
  | _ => False
def tSeveral : Trans := fun zs Q => match zs with
  | [.isl .u8 b, .int .i64 w] => (b.length ≤ 1000 ∧ 1 ≤ w ∧ w ≤ 8) ∧ Q (.int .i64 ((8 * (b.length : Int) + w - 1) / w))
  | _ => False
theorem zsI2 {a a' b b' : Int} (h : a = a') (h' : b = b') : [AV.int .i64 a, .int .i64 b] = [.int .i64 a', .int .i64 b'] := by rw [h, h']
theorem zsRI {n n' : Nat} {l l' : List Int} {i i' : Int} (hn : n = n') (hl : l = l') (hi : i = i') : [AV.row n, .ints .i64 l, .int .i64 i] = [.row n', .ints .i64 l', .int .i64 i'] := by rw [hn, hl, hi]
def tdNil : Tab := []
theorem tdNil_ok : tdNil.OK Tryz.prog := tab_nil _
def o_rdbit : Orc := { ans := [(5, oV), (6, oV), (7, oV), (8, oB), (9, oV), (11, oV), (12, oV), (13, oV), (15, oV), (16, oV), (17, oV), (18, oV)], lps := [] }
def t_rdbit : Tree :=
  .calc (.load 22 (.tmp 1)) 22 [(1, .leaf (.atom (.var 1)))] ([], []) (.leaf (.atom (.var 2))) 1 <|
  .calc (.call { callee := .builtin .len, args := #[.tmp 5], argTypes := #[22] }) 3 [(5, .leaf (.atom (.var 2)))] ([], []) (.leaf (.atom (.var 3))) 1 <|
  .calc (.binOp .mul 3 (.const (.int .i64 8)) (.tmp 6) 3) 3 [(6, .leaf (.atom (.var 3)))] ([], []) (.leaf (.atom (.var 4))) 1 <|
  .calc2 (.binOp .geq 3 (.tmp 4) (.tmp 7) 3) 4 [(4, .leaf (.atom (.var 0))), (7, .leaf (.atom (.var 4)))] ([], []) (.leaf (.atom (.const (.bool true)))) 0 (
    .ret ([], []) (.leaf (.atom (.const (.int .i64 0))))) (.leaf (.atom (.const (.bool false)))) 0 <|
  .calc (.load 22 (.tmp 1)) 22 [(1, .leaf (.atom (.var 1)))] ([], []) (.leaf (.atom (.var 5))) 1 <|
  .calc (.binOp .quo 3 (.tmp 10) (.const (.int .i64 8)) 3) 3 [(10, .leaf (.atom (.var 0)))] ([], []) (.leaf (.atom (.var 6))) 1 <|
  .calc (.indexAddr 22 (.tmp 9) (.tmp 11)) 0 [(9, .leaf (.atom (.var 5))), (11, .leaf (.atom (.var 6)))] ([], []) (.leaf (.atom (.var 7))) 1 <|
  .calc (.load 5 (.tmp 12)) 5 [(12, .leaf (.atom (.var 7)))] ([], []) (.leaf (.atom (.var 8))) 1 <|
  .calc (.binOp .rem 3 (.tmp 14) (.const (.int .i64 8)) 3) 3 [(14, .leaf (.atom (.var 0)))] ([], []) (.leaf (.atom (.var 9))) 1 <|
  .calc (.binOp .shr 5 (.tmp 13) (.tmp 15) 3) 5 [(13, .leaf (.atom (.var 8))), (15, .leaf (.atom (.var 9)))] ([], []) (.leaf (.atom (.var 10))) 1 <|
  .calc (.binOp .and 5 (.tmp 16) (.const (.int .u8 1)) 5) 5 [(16, .leaf (.atom (.var 10)))] ([], []) (.leaf (.atom (.var 11))) 1 <|
  .calc (.convert 5 3 (.tmp 17)) 3 [(17, .leaf (.atom (.var 11)))] ([], []) (.leaf (.atom (.var 12))) 1 <|
  .ret ([], []) (.leaf (.atom (.var 12)))
theorem c_rdbit : compF Tryz.prog Tryz.f88 o_rdbit (Tryz.f88.body.getD .skip) (symIn [.atom (.var 0), .atom (.var 1)] Tryz.f88.ntmps 2) = some t_rdbit := by kernel_rfl
theorem g_rdbit : goodC Tryz.prog o_rdbit.ords (Tryz.f88.body.getD .skip) = true := by kernel_rfl
def tb_rdbit : FuncId × Trans := (88, tRdBit)
set_option maxRecDepth 100000 in
theorem aw_rdbit : ∀ zs Q, tb_rdbit.2 zs Q → bindLs 0 [.atom (.var 0), .atom (.var 1)] zs fun ae => bif Nat.beq ae.length 2 then AWp Tryz.prog tdNil Q t_rdbit [] ae else False := by
  intro zs Q h
  replace h : tRdBit zs Q := h
  unfold tRdBit at h
  split at h
  case h_2 => exact h.elim
  rename_i i b
  obtain ⟨⟨hb, hl, h0, hi⟩, h⟩ := h
  by_cases a1 : 8 * (b.length : Int) ≤ i
  · have hn := bit_no hb a1
    rw [hn] at h
    repeat ((conv => whnf) <;> first | with_reducible first | refine wI (by omega) ?_ | refine wB (by omega) ?_ | refine wR (by omega) ?_ | refine wQ (by omega) ?_ | refine And.intro rfl ?_ | rfl | refine And.intro ‹_› ?_ | refine cTe ‹_› ?_ | refine cFe ‹_› ?_ | refine cN (cTe ‹_› ?_) | refine cN (cFe ‹_› ?_) | refine cTe rfl ?_ | refine cEq ‹_› ?_ | refine cTt ?_ | refine cNt ?_ | refine cF (Eq.refl false) ?_ | refine cN (cF (Eq.refl false) ?_) | refine cTd (by omega) ?_ | refine cFd (by omega) ?_ | refine cN (cTd (by omega) ?_) | refine cN (cFd (by omega) ?_) | refine And.intro (by omega) ?_ | refine And.intro (Eq.refl true) ?_)
    (conv => whnf)
    exact h
  have hr := bit_rd hb h0 (by omega)
  have hg := by_getD' hb (i / 8).toNat
  repeat ((conv => whnf) <;> first | with_reducible first | refine wI (by omega) ?_ | refine wB (by omega) ?_ | refine wR (by omega) ?_ | refine wQ (by omega) ?_ | refine And.intro rfl ?_ | rfl | refine And.intro ‹_› ?_ | refine cTe ‹_› ?_ | refine cFe ‹_› ?_ | refine cN (cTe ‹_› ?_) | refine cN (cFe ‹_› ?_) | refine cTe rfl ?_ | refine cEq ‹_› ?_ | refine cTt ?_ | refine cNt ?_ | refine cF (Eq.refl false) ?_ | refine cN (cF (Eq.refl false) ?_) | refine cTd (by omega) ?_ | refine cFd (by omega) ?_ | refine cN (cTd (by omega) ?_) | refine cN (cFd (by omega) ?_) | refine And.intro (by omega) ?_ | refine And.intro (Eq.refl true) ?_)
  (conv => whnf)
  rw [hr]
  exact h
theorem tb_rdbit_ok : Con Tryz.prog tb_rdbit.1 tb_rdbit.2 := con_tree tdNil_ok o_rdbit [.atom (.var 0), .atom (.var 1)] 2 Tryz.func88 rfl c_rdbit aw_rdbit g_rdbit
def o_dcheck : Orc := { ans := [(10, oV), (11, oB), (13, oV), (15, oB), (16, oV), (17, oV), (20, oB), (23, oB), (24, oV), (25, oV)], lps := [(0, [.slot 6 [.one], .slot 14 [.one]])] }
def t_dcheck : Tree :=
  .calc (.call { callee := .builtin .len, args := #[.tmp 9], argTypes := #[22] }) 3 [(9, .leaf (.atom (.var 0)))] ([], []) (.leaf (.atom (.var 3))) 1 <|
  .calc2 (.binOp .gtr 3 (.tmp 10) (.const (.int .i64 64)) 3) 4 [(10, .leaf (.atom (.var 3)))] ([], []) (.leaf (.atom (.const (.bool true)))) 0 (
    .ret ([], []) (.leaf (.atom (.const (.int .i64 11))))) (.leaf (.atom (.const (.bool false)))) 0 <|
  .calc (.call { callee := .builtin .len, args := #[.tmp 12], argTypes := #[66] }) 3 [(12, .leaf (.atom (.var 2)))] ([], []) (.leaf (.atom (.var 4))) 1 <|
  .loop [.atom (.const (.int .i64 0)), .atom (.const (.int .i64 0))] [.one, .one] <|
  .calc2 (.binOp .lss 3 (.tmp 14) (.tmp 13) 3) 0 [(14, .leaf (.atom (.var 6))), (13, .leaf (.atom (.var 4)))] ([], []) (.leaf (.atom (.const (.bool true)))) 0 (
    .calc (.indexAddr 66 (.tmp 12) (.tmp 14)) 0 [(12, .leaf (.atom (.var 2))), (14, .leaf (.atom (.var 6)))] ([], []) (.leaf (.atom (.var 7))) 1 <|
    .calc (.load 3 (.tmp 16)) 3 [(16, .leaf (.atom (.var 7)))] ([], []) (.leaf (.atom (.var 8))) 1 <|
    .calc2 (.binOp .lss 3 (.tmp 18) (.tmp 19) 3) 4 [(18, .leaf (.atom (.var 8))), (19, .leaf (.atom (.var 1)))] ([], []) (.leaf (.atom (.const (.bool true)))) 0 (
      .ret ([], []) (.leaf (.atom (.const (.int .i64 10))))) (.leaf (.atom (.const (.bool false)))) 0 <|
    .calc2 (.binOp .gtr 3 (.tmp 22) (.const (.int .i64 8)) 3) 4 [(22, .leaf (.atom (.var 8)))] ([], []) (.leaf (.atom (.const (.bool true)))) 0 (
      .ret ([], []) (.leaf (.atom (.const (.int .i64 10))))) (.leaf (.atom (.const (.bool false)))) 0 <|
    .calc (.binOp .add 3 (.tmp 14) (.const (.int .i64 1)) 3) 3 [(14, .leaf (.atom (.var 6)))] ([], []) (.leaf (.atom (.var 9))) 1 <|
    .again 0 [.atom (.var 5), .atom (.var 9)]) (.leaf (.atom (.const (.bool false)))) 0 <|
  .ret ([], []) (.leaf (.atom (.const (.int .i64 0))))
theorem c_dcheck : compF Tryz.prog Tryz.f60 o_dcheck (Tryz.f60.body.getD .skip) (symIn [.atom (.var 0), .atom (.var 1), .atom (.var 2)] Tryz.f60.ntmps 3) = some t_dcheck := by kernel_rfl
theorem g_dcheck : goodC Tryz.prog o_dcheck.ords (Tryz.f60.body.getD .skip) = true := by kernel_rfl
def tb_dcheck : FuncId × Trans := (60, tCheckD)
set_option maxRecDepth 100000 in
theorem aw_dcheck : ∀ zs Q, tb_dcheck.2 zs Q → bindLs 0 [.atom (.var 0), .atom (.var 1), .atom (.var 2)] zs fun ae => bif Nat.beq ae.length 3 then AWp Tryz.prog tdNil Q t_dcheck [] ae else False := by
  intro zs Q h
  replace h : tCheckD zs Q := h
  unfold tCheckD at h
  split at h
  case h_2 => exact h.elim
  rename_i b lo n
  obtain ⟨hl, h1, h2, h3⟩ := h
  by_cases a1 : 64 < b.length
  · have h := h1 a1
    repeat ((conv => whnf) <;> first | with_reducible first | refine wI (by omega) ?_ | refine wB (by omega) ?_ | refine And.intro rfl ?_ | rfl | refine And.intro ‹_› ?_ | refine cTe ‹_› ?_ | refine cFe ‹_› ?_ | refine cN (cTe ‹_› ?_) | refine cN (cFe ‹_› ?_) | refine cTe rfl ?_ | refine cEq ‹_› ?_ | refine cTt ?_ | refine cNt ?_ | refine cF (Eq.refl false) ?_ | refine cN (cF (Eq.refl false) ?_) | refine cTd (by omega) ?_ | refine cFd (by omega) ?_ | refine cN (cTd (by omega) ?_) | refine cN (cFd (by omega) ?_) | refine And.intro (by omega) ?_ | refine And.intro (Eq.refl true) ?_)
    (conv => whnf)
    exact h
  repeat ((conv => whnf) <;> first | with_reducible first | refine wI (by omega) ?_ | refine wB (by omega) ?_ | refine And.intro rfl ?_ | rfl | refine And.intro ‹_› ?_ | refine cTe ‹_› ?_ | refine cFe ‹_› ?_ | refine cN (cTe ‹_› ?_) | refine cN (cFe ‹_› ?_) | refine cTe rfl ?_ | refine cEq ‹_› ?_ | refine cTt ?_ | refine cNt ?_ | refine cF (Eq.refl false) ?_ | refine cN (cF (Eq.refl false) ?_) | refine cTd (by omega) ?_ | refine cFd (by omega) ?_ | refine cN (cTd (by omega) ?_) | refine cN (cFd (by omega) ?_) | refine And.intro (by omega) ?_ | refine And.intro (Eq.refl true) ?_)
  have hl1 : ([n] : List Int).length = 1 := rfl
  refine ⟨Nat, fun j zs => j ≤ 1 ∧ zs = [.int .i64 0, .int .i64 (j : Int)] ∧ (j = 1 → lo ≤ n ∧ n ≤ 8), fun j => 1 - j, 0, ?_, ?_⟩
  · (conv => whnf)
    exact ⟨_, Subs.refl' _, Nat.zero_le _, rfl, fun hh => by omega⟩
  rintro j _ ⟨hj, rfl, hn⟩
  rcases (by omega : j = 0 ∨ j = 1) with rfl | rfl
  · have e0 : [n].getD ((0 : Nat) : Int).toNat 0 = n := rfl
    by_cases a2 : n < lo
    · have h := h2 (by omega) (by omega)
      repeat ((conv => whnf) <;> first | with_reducible first | refine wI (by omega) ?_ | refine wB (by omega) ?_ | refine And.intro rfl ?_ | rfl | refine And.intro ‹_› ?_ | refine cTe ‹_› ?_ | refine cFe ‹_› ?_ | refine cN (cTe ‹_› ?_) | refine cN (cFe ‹_› ?_) | refine cTe rfl ?_ | refine cEq ‹_› ?_ | refine cTt ?_ | refine cNt ?_ | refine cF (Eq.refl false) ?_ | refine cN (cF (Eq.refl false) ?_) | refine cTd (by omega) ?_ | refine cFd (by omega) ?_ | refine cN (cTd (by omega) ?_) | refine cN (cFd (by omega) ?_) | refine And.intro (by omega) ?_ | refine And.intro (Eq.refl true) ?_)
      (conv => whnf)
      exact h
    by_cases a3 : 8 < n
    · have h := h2 (by omega) (by omega)
      repeat ((conv => whnf) <;> first | with_reducible first | refine wI (by omega) ?_ | refine wB (by omega) ?_ | refine And.intro rfl ?_ | rfl | refine And.intro ‹_› ?_ | refine cTe ‹_› ?_ | refine cFe ‹_› ?_ | refine cN (cTe ‹_› ?_) | refine cN (cFe ‹_› ?_) | refine cTe rfl ?_ | refine cEq ‹_› ?_ | refine cTt ?_ | refine cNt ?_ | refine cF (Eq.refl false) ?_ | refine cN (cF (Eq.refl false) ?_) | refine cTd (by omega) ?_ | refine cFd (by omega) ?_ | refine cN (cTd (by omega) ?_) | refine cN (cFd (by omega) ?_) | refine And.intro (by omega) ?_ | refine And.intro (Eq.refl true) ?_)
      (conv => whnf)
      exact h
    repeat ((conv => whnf) <;> first | with_reducible first | refine wI (by omega) ?_ | refine wB (by omega) ?_ | refine And.intro rfl ?_ | rfl | refine And.intro ‹_› ?_ | refine cTe ‹_› ?_ | refine cFe ‹_› ?_ | refine cN (cTe ‹_› ?_) | refine cN (cFe ‹_› ?_) | refine cTe rfl ?_ | refine cEq ‹_› ?_ | refine cTt ?_ | refine cNt ?_ | refine cF (Eq.refl false) ?_ | refine cN (cF (Eq.refl false) ?_) | refine cTd (by omega) ?_ | refine cFd (by omega) ?_ | refine cN (cTd (by omega) ?_) | refine cN (cFd (by omega) ?_) | refine And.intro (by omega) ?_ | refine And.intro (Eq.refl true) ?_)
    (conv => whnf)
    exact ⟨_, Subs.refl' _, 1, ⟨by omega, zsI2 rfl (by omega), fun _ => ⟨by omega, by omega⟩⟩, by show 1 - 1 < 1 - 0; omega⟩
  · have h := h3 (by omega) (hn rfl).1 (hn rfl).2
    repeat ((conv => whnf) <;> first | with_reducible first | refine wI (by omega) ?_ | refine wB (by omega) ?_ | refine And.intro rfl ?_ | rfl | refine And.intro ‹_› ?_ | refine cTe ‹_› ?_ | refine cFe ‹_› ?_ | refine cN (cTe ‹_› ?_) | refine cN (cFe ‹_› ?_) | refine cTe rfl ?_ | refine cEq ‹_› ?_ | refine cTt ?_ | refine cNt ?_ | refine cF (Eq.refl false) ?_ | refine cN (cF (Eq.refl false) ?_) | refine cTd (by omega) ?_ | refine cFd (by omega) ?_ | refine cN (cTd (by omega) ?_) | refine cN (cFd (by omega) ?_) | refine And.intro (by omega) ?_ | refine And.intro (Eq.refl true) ?_)
    (conv => whnf)
    exact h
theorem tb_dcheck_ok : Con Tryz.prog tb_dcheck.1 tb_dcheck.2 := con_tree tdNil_ok o_dcheck [.atom (.var 0), .atom (.var 1), .atom (.var 2)] 3 Tryz.func60 rfl c_dcheck aw_dcheck g_dcheck
def o_dseveral : Orc := { ans := [(6, oV), (7, oV), (9, oV), (10, oV), (12, oV)], lps := [] }
def t_dseveral : Tree :=
  .calc (.call { callee := .builtin .len, args := #[.tmp 5], argTypes := #[22] }) 3 [(5, .leaf (.atom (.var 0)))] ([], []) (.leaf (.atom (.var 2))) 1 <|
  .calc (.binOp .mul 3 (.const (.int .i64 8)) (.tmp 6) 3) 3 [(6, .leaf (.atom (.var 2)))] ([], []) (.leaf (.atom (.var 3))) 1 <|
  .calc (.binOp .add 3 (.tmp 7) (.tmp 8) 3) 3 [(7, .leaf (.atom (.var 3))), (8, .leaf (.atom (.var 1)))] ([], []) (.leaf (.atom (.var 4))) 1 <|
  .calc (.binOp .sub 3 (.tmp 9) (.const (.int .i64 1)) 3) 3 [(9, .leaf (.atom (.var 4)))] ([], []) (.leaf (.atom (.var 5))) 1 <|
  .calc (.binOp .quo 3 (.tmp 10) (.tmp 11) 3) 3 [(10, .leaf (.atom (.var 5))), (11, .leaf (.atom (.var 1)))] ([], []) (.leaf (.atom (.var 6))) 1 <|
  .ret ([], []) (.leaf (.atom (.var 6)))
theorem c_dseveral : compF Tryz.prog Tryz.f62 o_dseveral (Tryz.f62.body.getD .skip) (symIn [.atom (.var 0), .atom (.var 1)] Tryz.f62.ntmps 2) = some t_dseveral := by kernel_rfl
theorem g_dseveral : goodC Tryz.prog o_dseveral.ords (Tryz.f62.body.getD .skip) = true := by kernel_rfl
def tb_dseveral : FuncId × Trans := (62, tSeveral)
set_option maxRecDepth 100000 in
theorem aw_dseveral : ∀ zs Q, tb_dseveral.2 zs Q → bindLs 0 [.atom (.var 0), .atom (.var 1)] zs fun ae => bif Nat.beq ae.length 2 then AWp Tryz.prog tdNil Q t_dseveral [] ae else False := by
  intro zs Q h
  replace h : tSeveral zs Q := h
  unfold tSeveral at h
  split at h
  case h_2 => exact h.elim
  rename_i b w
  obtain ⟨⟨hl, h1, h2⟩, h⟩ := h
  have q1 : 0 ≤ (8 * (b.length : Int) + w - 1) / w := Int.ediv_nonneg (by omega) (by omega)
  have q2 : (8 * (b.length : Int) + w - 1) / w ≤ 8 * (b.length : Int) + w - 1 := Int.ediv_le_self _ (by omega)
  repeat ((conv => whnf) <;> first | with_reducible first | refine wI (by omega) ?_ | refine wB (by omega) ?_ | refine wQ (by omega) ?_ | refine And.intro rfl ?_ | rfl | refine And.intro ‹_› ?_ | refine cTe ‹_› ?_ | refine cFe ‹_› ?_ | refine cN (cTe ‹_› ?_) | refine cN (cFe ‹_› ?_) | refine cTe rfl ?_ | refine cEq ‹_› ?_ | refine cTt ?_ | refine cNt ?_ | refine cF (Eq.refl false) ?_ | refine cN (cF (Eq.refl false) ?_) | refine cTd (by omega) ?_ | refine cFd (by omega) ?_ | refine cN (cTd (by omega) ?_) | refine cN (cFd (by omega) ?_) | refine And.intro (by omega) ?_ | refine And.intro (Eq.refl true) ?_)
  (conv => whnf)
  exact h
theorem tb_dseveral_ok : Con Tryz.prog tb_dseveral.1 tb_dseveral.2 := con_tree tdNil_ok o_dseveral [.atom (.var 0), .atom (.var 1)] 2 Tryz.func62 rfl c_dseveral aw_dseveral g_dseveral
end Go.Proofs.YtamgmkeoaaaliaaGreat
