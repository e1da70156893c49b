/- Digits -/
import Derived.Test.YtpapfkihjhhjkaaGreatDgp
import Derived.Test.YtpapfkihjhhjkaaGreatBkw
set_option linter.unusedSimpArgs false
set_option linter.unusedVariables false
namespace Go.Proofs.YtpapfkihjhhjkaaGreat
open Go.RowKit FdP FdP.Ch
def tRdBit : Trans := fun zs Q => match zs with
 | [.int .i64 i, .ref (.isl .u8 b)] => (By b ∧ b.length ≤ 100 ∧ 0 ≤ i ∧ i ≤ 100000) ∧ Q (.int .i64 ((nval b / 2 ^ i.toNat % 2 : Nat) : Int))
 | _ => False
def tCheckD : Trans := fun zs Q => match zs with
 | [.isl .u8 b, .int .i64 lo, .isl .i64 [n]] => b.length ≤ 100000 ∧ (64 < b.length → Q (.int .i64 11)) ∧ (b.length ≤ 64 → ¬ (lo ≤ n ∧ n ≤ 8) → Q (.int .i64 10)) ∧ (b.length ≤ 64 → lo ≤ n → n ≤ 8 → Q (.int .i64 0))
 | _ => False
def tSeveral : Trans := fun zs Q => match zs with
 | [.isl .u8 b, .int .i64 w] => (b.length ≤ 1000 ∧ 1 ≤ w ∧ w ≤ 8) ∧ Q (.int .i64 ((8 * (b.length : Int) + w - 1) / w))
 | _ => False
theorem zsI2 {a a' b b' : Int} (h : a = a') (h' : b = b') : [AV.int .i64 a, .int .i64 b] = [.int .i64 a', .int .i64 b'] := by rw [h, h']
theorem zsRI {n n' : Nat} {l l' : List Int} {i i' : Int} (hn : n = n') (hl : l = l') (hi : i = i') : [AV.row n, .ints .i64 l, .int .i64 i] = [.row n', .ints .i64 l', .int .i64 i'] := by rw [hn, hl, hi]
def tSigned : Trans := fun zs Q => match zs with
 | [.isl .u8 b, .int .i64 w] => (By b ∧ b.length ≤ 100000 ∧ 2 ≤ w ∧ w ≤ 8) ∧ (64 < b.length → Q (.tup [.val (.slice none 0 0), .int .i64 11])) ∧ (b.length ≤ 64 → Q (.tup [.isl .i64 (sgL (nval b) w.toNat (nD b w + 1)), .int .i64 0]))
 | _ => False
theorem zsS {l l' : List Int} {x x' i i' : Int} (hl : l = l') (hx : x = x') (hi : i = i') : [AV.ints .i64 l, .int .i64 x, .int .i64 i] = [.ints .i64 l', .int .i64 x', .int .i64 i'] := by rw [hl, hx, hi]
def tPlainD : Trans := fun zs Q => match zs with
 | [.isl .u8 b, .int .i64 w] => (By b ∧ b.length ≤ 64 ∧ 1 ≤ w ∧ w ≤ 8) ∧ Q (.tup [.own 3 1 (.ints .i64 (plL (nval b) w.toNat (nD b w))), .int .i64 0])
 | _ => False
def tdNil : Tab := []
theorem tdNil_ok : tdNil.OK Tryz.prog := tab_nil _
def o_rdbit : Orc := { ans := [(5, oV), (6, oV), (7, oV), (8, oB), (9, oV), (11, oV), (12, oV), (13, oV), (15, oV), (16, oV), (17, oV), (18, oV)], lps := [] }
def t_rdbit : Tree :=
 .calc (.load 22 (.tmp 1)) 22 [(1, qv 1)] ([], []) (qv 2) 1 <|
 .calc (.call { callee := .builtin .len, args := #[.tmp 5], argTypes := #[22] }) 3 [(5, qv 2)] ([], []) (qv 3) 1 <|
 .calc (.binOp .mul 3 (.const (.int .i64 8)) (.tmp 6) 3) 3 [(6, qv 3)] ([], []) (qv 4) 1 <|
 .calc2 (.binOp .geq 3 (.tmp 4) (.tmp 7) 3) 4 [(4, qv 0), (7, qv 4)] ([], []) qT 0 (
 .ret ([], []) (.leaf (.atom (.const (.int .i64 0))))) qF 0 <|
 .calc (.load 22 (.tmp 1)) 22 [(1, qv 1)] ([], []) (qv 5) 1 <|
 .calc (.binOp .quo 3 (.tmp 10) (.const (.int .i64 8)) 3) 3 [(10, qv 0)] ([], []) (qv 6) 1 <|
 .calc (.indexAddr 22 (.tmp 9) (.tmp 11)) 0 [(9, qv 5), (11, qv 6)] ([], []) (qv 7) 1 <|
 .calc (.load 5 (.tmp 12)) 5 [(12, qv 7)] ([], []) (qv 8) 1 <|
 .calc (.binOp .rem 3 (.tmp 14) (.const (.int .i64 8)) 3) 3 [(14, qv 0)] ([], []) (qv 9) 1 <|
 .calc (.binOp .shr 5 (.tmp 13) (.tmp 15) 3) 5 [(13, qv 8), (15, qv 9)] ([], []) (qv 10) 1 <|
 .calc (.binOp .and 5 (.tmp 16) (.const (.int .u8 1)) 5) 5 [(16, qv 10)] ([], []) (qv 11) 1 <|
 .calc (.convert 5 3 (.tmp 17)) 3 [(17, qv 11)] ([], []) (qv 12) 1 <|
 .ret ([], []) (qv 12)
theorem c_rdbit : compF Tryz.prog Tryz.f101 o_rdbit (Tryz.f101.body.getD .skip) (symIn [.atom (.var 0), .atom (.var 1)] Tryz.f101.ntmps 2) = some t_rdbit := by kernel_rfl
theorem g_rdbit : goodC Tryz.prog o_rdbit.ords (Tryz.f101.body.getD .skip) = true := by kernel_rfl
def tb_rdbit : FuncId × Trans := (101, tRdBit)
set_option maxRecDepth 100000 in
theorem aw_rdbit : ∀ zs Q, tb_rdbit.2 zs Q → bindLs 0 [.atom (.var 0), .atom (.var 1)] zs fun ae => bif Nat.beq ae.length 2 then AWp Tryz.prog tdNil Q t_rdbit [] ae else False := by
 intro zs Q h
 replace h : tRdBit zs Q := h
 unfold tRdBit at h
 split at h
 case h_2 => exact h.elim
 rename_i i b
 obtain ⟨⟨hb, hl, h0, hi⟩, h⟩ := h
 by_cases a1 : 8 * (b.length : Int) ≤ i
 ·have hn := bit_no hb a1
  rw [hn] at h
  repeat ((conv => whnf) <;> first | with_reducible first | refine wI (by omega) ?_ | refine wB (by omega) ?_ | refine wR (by omega) ?_ | refine wQ (by omega) ?_ | refine And.intro rfl ?_ | rfl | refine And.intro ‹_› ?_ | refine cTe ‹_› ?_ | refine cFe ‹_› ?_ | refine cN (cTe ‹_› ?_) | refine cN (cFe ‹_› ?_) | refine cTe rfl ?_ | refine cEq ‹_› ?_ | refine cTt ?_ | refine cNt ?_ | refine cF (Eq.refl false) ?_ | refine cN (cF (Eq.refl false) ?_) | refine cTd (by omega) ?_ | refine cFd (by omega) ?_ | refine cN (cTd (by omega) ?_) | refine cN (cFd (by omega) ?_) | refine And.intro (by omega) ?_ | refine And.intro (Eq.refl true) ?_)
  (conv => whnf)
  exact h
 have hr := bit_rd hb h0 (by omega)
 have hg := by_getD' hb (i / 8).toNat
 repeat ((conv => whnf) <;> first | with_reducible first | refine wI (by omega) ?_ | refine wB (by omega) ?_ | refine wR (by omega) ?_ | refine wQ (by omega) ?_ | refine And.intro rfl ?_ | rfl | refine And.intro ‹_› ?_ | refine cTe ‹_› ?_ | refine cFe ‹_› ?_ | refine cN (cTe ‹_› ?_) | refine cN (cFe ‹_› ?_) | refine cTe rfl ?_ | refine cEq ‹_› ?_ | refine cTt ?_ | refine cNt ?_ | refine cF (Eq.refl false) ?_ | refine cN (cF (Eq.refl false) ?_) | refine cTd (by omega) ?_ | refine cFd (by omega) ?_ | refine cN (cTd (by omega) ?_) | refine cN (cFd (by omega) ?_) | refine And.intro (by omega) ?_ | refine And.intro (Eq.refl true) ?_)
 (conv => whnf)
 rw [hr]
 exact h
theorem tb_rdbit_ok : Con Tryz.prog tb_rdbit.1 tb_rdbit.2 := con_tree tdNil_ok o_rdbit [.atom (.var 0), .atom (.var 1)] 2 Tryz.func101 rfl c_rdbit aw_rdbit g_rdbit
def o_dcheck : Orc := { ans := [(10, oV), (11, oB), (13, oV), (15, oB), (16, oV), (17, oV), (20, oB), (23, oB), (24, oV), (25, oV)], lps := [(0, [.slot 6 [.one], .slot 14 [.one]])] }
def t_dcheck : Tree :=
 .calc (.call { callee := .builtin .len, args := #[.tmp 9], argTypes := #[22] }) 3 [(9, qv 0)] ([], []) (qv 3) 1 <|
 .calc2 (.binOp .gtr 3 (.tmp 10) (.const (.int .i64 64)) 3) 4 [(10, qv 3)] ([], []) qT 0 (
 .ret ([], []) (.leaf (.atom (.const (.int .i64 11))))) qF 0 <|
 .calc (.call { callee := .builtin .len, args := #[.tmp 12], argTypes := #[80] }) 3 [(12, qv 2)] ([], []) (qv 4) 1 <|
 .loop [.atom (.const (.int .i64 0)), .atom (.const (.int .i64 0))] [.one, .one] <|
 .calc2 (.binOp .lss 3 (.tmp 14) (.tmp 13) 3) 0 [(14, qv 6), (13, qv 4)] ([], []) qT 0 (
 .calc (.indexAddr 80 (.tmp 12) (.tmp 14)) 0 [(12, qv 2), (14, qv 6)] ([], []) (qv 7) 1 <|
 .calc (.load 3 (.tmp 16)) 3 [(16, qv 7)] ([], []) (qv 8) 1 <|
 .calc2 (.binOp .lss 3 (.tmp 18) (.tmp 19) 3) 4 [(18, qv 8), (19, qv 1)] ([], []) qT 0 (
 .ret ([], []) (.leaf (.atom (.const (.int .i64 10))))) qF 0 <|
 .calc2 (.binOp .gtr 3 (.tmp 22) (.const (.int .i64 8)) 3) 4 [(22, qv 8)] ([], []) qT 0 (
 .ret ([], []) (.leaf (.atom (.const (.int .i64 10))))) qF 0 <|
 .calc (.binOp .add 3 (.tmp 14) (.const (.int .i64 1)) 3) 3 [(14, qv 6)] ([], []) (qv 9) 1 <|
 .again 0 [.atom (.var 5), .atom (.var 9)]) qF 0 <|
 .ret ([], []) (.leaf (.atom (.const (.int .i64 0))))
theorem c_dcheck : compF Tryz.prog Tryz.f73 o_dcheck (Tryz.f73.body.getD .skip) (symIn [.atom (.var 0), .atom (.var 1), .atom (.var 2)] Tryz.f73.ntmps 3) = some t_dcheck := by kernel_rfl
theorem g_dcheck : goodC Tryz.prog o_dcheck.ords (Tryz.f73.body.getD .skip) = true := by kernel_rfl
def tb_dcheck : FuncId × Trans := (73, tCheckD)
set_option maxRecDepth 100000 in
theorem aw_dcheck : ∀ zs Q, tb_dcheck.2 zs Q → bindLs 0 [.atom (.var 0), .atom (.var 1), .atom (.var 2)] zs fun ae => bif Nat.beq ae.length 3 then AWp Tryz.prog tdNil Q t_dcheck [] ae else False := by
 intro zs Q h
 replace h : tCheckD zs Q := h
 unfold tCheckD at h
 split at h
 case h_2 => exact h.elim
 rename_i b lo n
 obtain ⟨hl, h1, h2, h3⟩ := h
 by_cases a1 : 64 < b.length
 ·have h := h1 a1
  repeat ((conv => whnf) <;> first | with_reducible first | refine wI (by omega) ?_ | refine wB (by omega) ?_ | refine And.intro rfl ?_ | rfl | refine And.intro ‹_› ?_ | refine cTe ‹_› ?_ | refine cFe ‹_› ?_ | refine cN (cTe ‹_› ?_) | refine cN (cFe ‹_› ?_) | refine cTe rfl ?_ | refine cEq ‹_› ?_ | refine cTt ?_ | refine cNt ?_ | refine cF (Eq.refl false) ?_ | refine cN (cF (Eq.refl false) ?_) | refine cTd (by omega) ?_ | refine cFd (by omega) ?_ | refine cN (cTd (by omega) ?_) | refine cN (cFd (by omega) ?_) | refine And.intro (by omega) ?_ | refine And.intro (Eq.refl true) ?_)
  (conv => whnf)
  exact h
 repeat ((conv => whnf) <;> first | with_reducible first | refine wI (by omega) ?_ | refine wB (by omega) ?_ | refine And.intro rfl ?_ | rfl | refine And.intro ‹_› ?_ | refine cTe ‹_› ?_ | refine cFe ‹_› ?_ | refine cN (cTe ‹_› ?_) | refine cN (cFe ‹_› ?_) | refine cTe rfl ?_ | refine cEq ‹_› ?_ | refine cTt ?_ | refine cNt ?_ | refine cF (Eq.refl false) ?_ | refine cN (cF (Eq.refl false) ?_) | refine cTd (by omega) ?_ | refine cFd (by omega) ?_ | refine cN (cTd (by omega) ?_) | refine cN (cFd (by omega) ?_) | refine And.intro (by omega) ?_ | refine And.intro (Eq.refl true) ?_)
 have hl1 : ([n] : List Int).length = 1 := rfl
 refine ⟨Nat, fun j zs => j ≤ 1 ∧ zs = [.int .i64 0, .int .i64 (j : Int)] ∧ (j = 1 → lo ≤ n ∧ n ≤ 8), fun j => 1 - j, 0, ?_, ?_⟩
 ·(conv => whnf)
  exact ⟨_, Subs.refl' _, Nat.zero_le _, rfl, fun hh => by omega⟩
 rintro j _ ⟨hj, rfl, hn⟩
 rcases (by omega : j = 0 ∨ j = 1) with rfl | rfl
 ·have e0 : [n].getD ((0 : Nat) : Int).toNat 0 = n := rfl
  by_cases a2 : n < lo
  ·have h := h2 (by omega) (by omega)
   repeat ((conv => whnf) <;> first | with_reducible first | refine wI (by omega) ?_ | refine wB (by omega) ?_ | refine And.intro rfl ?_ | rfl | refine And.intro ‹_› ?_ | refine cTe ‹_› ?_ | refine cFe ‹_› ?_ | refine cN (cTe ‹_› ?_) | refine cN (cFe ‹_› ?_) | refine cTe rfl ?_ | refine cEq ‹_› ?_ | refine cTt ?_ | refine cNt ?_ | refine cF (Eq.refl false) ?_ | refine cN (cF (Eq.refl false) ?_) | refine cTd (by omega) ?_ | refine cFd (by omega) ?_ | refine cN (cTd (by omega) ?_) | refine cN (cFd (by omega) ?_) | refine And.intro (by omega) ?_ | refine And.intro (Eq.refl true) ?_)
   (conv => whnf)
   exact h
  by_cases a3 : 8 < n
  ·have h := h2 (by omega) (by omega)
   repeat ((conv => whnf) <;> first | with_reducible first | refine wI (by omega) ?_ | refine wB (by omega) ?_ | refine And.intro rfl ?_ | rfl | refine And.intro ‹_› ?_ | refine cTe ‹_› ?_ | refine cFe ‹_› ?_ | refine cN (cTe ‹_› ?_) | refine cN (cFe ‹_› ?_) | refine cTe rfl ?_ | refine cEq ‹_› ?_ | refine cTt ?_ | refine cNt ?_ | refine cF (Eq.refl false) ?_ | refine cN (cF (Eq.refl false) ?_) | refine cTd (by omega) ?_ | refine cFd (by omega) ?_ | refine cN (cTd (by omega) ?_) | refine cN (cFd (by omega) ?_) | refine And.intro (by omega) ?_ | refine And.intro (Eq.refl true) ?_)
   (conv => whnf)
   exact h
  repeat ((conv => whnf) <;> first | with_reducible first | refine wI (by omega) ?_ | refine wB (by omega) ?_ | refine And.intro rfl ?_ | rfl | refine And.intro ‹_› ?_ | refine cTe ‹_› ?_ | refine cFe ‹_› ?_ | refine cN (cTe ‹_› ?_) | refine cN (cFe ‹_› ?_) | refine cTe rfl ?_ | refine cEq ‹_› ?_ | refine cTt ?_ | refine cNt ?_ | refine cF (Eq.refl false) ?_ | refine cN (cF (Eq.refl false) ?_) | refine cTd (by omega) ?_ | refine cFd (by omega) ?_ | refine cN (cTd (by omega) ?_) | refine cN (cFd (by omega) ?_) | refine And.intro (by omega) ?_ | refine And.intro (Eq.refl true) ?_)
  (conv => whnf)
  exact ⟨_, Subs.refl' _, 1, ⟨by omega, zsI2 rfl (by omega), fun _ => ⟨by omega, by omega⟩⟩, by show 1 - 1 < 1 - 0; omega⟩
 ·have h := h3 (by omega) (hn rfl).1 (hn rfl).2
  repeat ((conv => whnf) <;> first | with_reducible first | refine wI (by omega) ?_ | refine wB (by omega) ?_ | refine And.intro rfl ?_ | rfl | refine And.intro ‹_› ?_ | refine cTe ‹_› ?_ | refine cFe ‹_› ?_ | refine cN (cTe ‹_› ?_) | refine cN (cFe ‹_› ?_) | refine cTe rfl ?_ | refine cEq ‹_› ?_ | refine cTt ?_ | refine cNt ?_ | refine cF (Eq.refl false) ?_ | refine cN (cF (Eq.refl false) ?_) | refine cTd (by omega) ?_ | refine cFd (by omega) ?_ | refine cN (cTd (by omega) ?_) | refine cN (cFd (by omega) ?_) | refine And.intro (by omega) ?_ | refine And.intro (Eq.refl true) ?_)
  (conv => whnf)
  exact h
theorem tb_dcheck_ok : Con Tryz.prog tb_dcheck.1 tb_dcheck.2 := con_tree tdNil_ok o_dcheck [.atom (.var 0), .atom (.var 1), .atom (.var 2)] 3 Tryz.func73 rfl c_dcheck aw_dcheck g_dcheck
def o_dseveral : Orc := { ans := [(6, oV), (7, oV), (9, oV), (10, oV), (12, oV)], lps := [] }
def t_dseveral : Tree :=
 .calc (.call { callee := .builtin .len, args := #[.tmp 5], argTypes := #[22] }) 3 [(5, qv 0)] ([], []) (qv 2) 1 <|
 .calc (.binOp .mul 3 (.const (.int .i64 8)) (.tmp 6) 3) 3 [(6, qv 2)] ([], []) (qv 3) 1 <|
 .calc (.binOp .add 3 (.tmp 7) (.tmp 8) 3) 3 [(7, qv 3), (8, qv 1)] ([], []) (qv 4) 1 <|
 .calc (.binOp .sub 3 (.tmp 9) (.const (.int .i64 1)) 3) 3 [(9, qv 4)] ([], []) (qv 5) 1 <|
 .calc (.binOp .quo 3 (.tmp 10) (.tmp 11) 3) 3 [(10, qv 5), (11, qv 1)] ([], []) (qv 6) 1 <|
 .ret ([], []) (qv 6)
theorem c_dseveral : compF Tryz.prog Tryz.f110 o_dseveral (Tryz.f110.body.getD .skip) (symIn [.atom (.var 0), .atom (.var 1)] Tryz.f110.ntmps 2) = some t_dseveral := by kernel_rfl
theorem g_dseveral : goodC Tryz.prog o_dseveral.ords (Tryz.f110.body.getD .skip) = true := by kernel_rfl
def tb_dseveral : FuncId × Trans := (110, tSeveral)
set_option maxRecDepth 100000 in
theorem aw_dseveral : ∀ zs Q, tb_dseveral.2 zs Q → bindLs 0 [.atom (.var 0), .atom (.var 1)] zs fun ae => bif Nat.beq ae.length 2 then AWp Tryz.prog tdNil Q t_dseveral [] ae else False := by
 intro zs Q h
 replace h : tSeveral zs Q := h
 unfold tSeveral at h
 split at h
 case h_2 => exact h.elim
 rename_i b w
 obtain ⟨⟨hl, h1, h2⟩, h⟩ := h
 have q1 : 0 ≤ (8 * (b.length : Int) + w - 1) / w := Int.ediv_nonneg (by omega) (by omega)
 have q2 : (8 * (b.length : Int) + w - 1) / w ≤ 8 * (b.length : Int) + w - 1 := Int.ediv_le_self _ (by omega)
 repeat ((conv => whnf) <;> first | with_reducible first | refine wI (by omega) ?_ | refine wB (by omega) ?_ | refine wQ (by omega) ?_ | refine And.intro rfl ?_ | rfl | refine And.intro ‹_› ?_ | refine cTe ‹_› ?_ | refine cFe ‹_› ?_ | refine cN (cTe ‹_› ?_) | refine cN (cFe ‹_› ?_) | refine cTe rfl ?_ | refine cEq ‹_› ?_ | refine cTt ?_ | refine cNt ?_ | refine cF (Eq.refl false) ?_ | refine cN (cF (Eq.refl false) ?_) | refine cTd (by omega) ?_ | refine cFd (by omega) ?_ | refine cN (cTd (by omega) ?_) | refine cN (cFd (by omega) ?_) | refine And.intro (by omega) ?_ | refine And.intro (Eq.refl true) ?_)
 (conv => whnf)
 exact h
theorem tb_dseveral_ok : Con Tryz.prog tb_dseveral.1 tb_dseveral.2 := con_tree tdNil_ok o_dseveral [.atom (.var 0), .atom (.var 1)] 2 Tryz.func110 rfl c_dseveral aw_dseveral g_dseveral
def tdA : Tab := tb_rdbit :: tb_dcheck :: tb_dseveral :: []
theorem tdA_ok : tdA.OK Tryz.prog := tab_cons tb_rdbit_ok <| tab_cons tb_dcheck_ok <| tab_cons tb_dseveral_ok <| tab_nil _
def o_dplain : Orc := { ans := [(13, oV), (15, oB), (18, oV), (21, oV), (23, oB), (29, oV), (31, oV), (33, oV), (34, oV)], lps := [(0, [.row 8 3 1, .slot 22 [.one]])], inl := [(18, { ans := [], lps := [] }), (31, { ans := [(13, oB), (20, oV), (21, oV), (22, oV), (24, oV), (25, oV), (26, oV)], lps := [(0, [.stay 4 5 3 1, .slot 9 [.one], .slot 12 [.one]])] })], own := true }
def t_dplain : Tree :=
 .new <|
 .call 73 [.atom (.var 0), .atom (.const (.int .i64 1)), .atom (.slc 0 0 1 1)] ([([.one (.var 1)], 3)], []) (qv 2) 1 [] <|
 .calc2 (.binOp .neq 38 (.tmp 14) (.const (.int .i64 0)) 38) 4 [(14, qv 2)] ([], []) qT 0 (
 .reto ([], []) (.tup [.atom (.const (.slice none 0 0)), .atom (.var 2)])) qF 0 <|
 .new <|
 .call 110 [.atom (.var 0), .atom (.var 1)] ([], []) (qv 3) 1 [] <|
 .loop [.atom (.const (.slice none 0 0)), .agg [], .atom (.const (.int .i64 0))] [.one, .row, .one] <|
 .calc2 (.binOp .lss 3 (.tmp 22) (.tmp 21) 3) 4 [(22, qv 6), (21, qv 3)] ([], []) qT 0 (
 .calc (.binOp .mul 3 (.tmp 27) (.tmp 28) 3) 3 [(27, qv 6), (28, qv 1)] ([], []) (qv 7) 1 <|
 .loop [.atom (.const (.int .i64 0)), .atom (.const (.int .i64 0))] [.one, .one] <|
 .calc2 (.binOp .lss 3 (.tmp 12) (.tmp 11) 3) 4 [(12, qv 9), (11, qv 1)] ([], []) qT 0 (
 .calc (.binOp .mul 3 (.tmp 18) (.tmp 19) 3) 3 [(18, qv 9), (19, .leaf (.atom (.const (.int .i64 1))))] ([], []) (qv 10) 1 <|
 .calc (.binOp .add 3 (.tmp 17) (.tmp 20) 3) 3 [(17, qv 7), (20, qv 10)] ([], []) (qv 11) 1 <|
 .call 101 [.atom (.var 11), .atom (.ptr 1 0)] ([([.one (.var 1)], 3), ([.one (.var 0)], 22)], [⟨4, 5, 3, 1⟩]) (qv 12) 1 [] <|
 .calc (.binOp .shl 3 (.tmp 22) (.tmp 23) 3) 3 [(22, qv 12), (23, qv 9)] ([], []) (qv 13) 1 <|
 .calc (.binOp .or 3 (.tmp 15) (.tmp 24) 3) 3 [(15, qv 8), (24, qv 13)] ([], []) (qv 14) 1 <|
 .calc (.binOp .add 3 (.tmp 12) (.const (.int .i64 1)) 3) 3 [(12, qv 9)] ([], []) (qv 15) 1 <|
 .again 1 [.atom (.var 14), .atom (.var 15)]) qF 0 <|
 .new <|
 .app (some 5) [.one (.var 8)] 1 <|
 .calc (.binOp .add 3 (.tmp 22) (.const (.int .i64 1)) 3) 3 [(22, qv 6)] ([], []) (qv 12) 1 <|
 .again 0 [.atom (.var 10), .agg [.rest 11], .atom (.var 12)]) qF 0 <|
 .reto ([([.one (.var 1)], 3), ([.one (.var 0)], 22)], [⟨4, 5, 3, 1⟩]) (.tup [.atom (.var 4), .atom (.const (.int .i64 0))])
theorem c_dplain : compF Tryz.prog Tryz.f89 o_dplain (Tryz.f89.body.getD .skip) (symIn [.atom (.var 0), .atom (.var 1)] Tryz.f89.ntmps 2) = some t_dplain := by kernel_rfl
theorem g_dplain : goodC Tryz.prog o_dplain.ords (Tryz.f89.body.getD .skip) = true := by kernel_rfl
def tb_dplain : FuncId × Trans := (89, tPlainD)
set_option maxRecDepth 100000 in
theorem aw_dplain : ∀ zs Q, tb_dplain.2 zs Q → bindLs 0 [.atom (.var 0), .atom (.var 1)] zs fun ae => bif Nat.beq ae.length 2 then AWp Tryz.prog tdA Q t_dplain [] ae else False := by
 intro zs Q h
 replace h : tPlainD zs Q := h
 unfold tPlainD at h
 split at h
 case h_2 => exact h.elim
 rename_i b w
 obtain ⟨⟨hb, hl, h1, h2⟩, h⟩ := h
 have q1 : 0 ≤ (8 * (b.length : Int) + w - 1) / w := Int.ediv_nonneg (by omega) (by omega)
 have q2 : (8 * (b.length : Int) + w - 1) / w ≤ 8 * (b.length : Int) + w - 1 := Int.ediv_le_self _ (by omega)
 have hm : ((nD b w : Nat) : Int) = (8 * (b.length : Int) + w - 1) / w := by unfold nD; omega
 have hlen : b.length ≤ 1000 ∧ 1 ≤ w ∧ w ≤ 8 := ⟨by omega, h1, h2⟩
 have hl0 : b.length ≤ 100000 := by omega
 repeat ((conv => whnf) <;> first | with_reducible first | refine wI (by omega) ?_ | refine wB (by omega) ?_ | refine And.intro rfl ?_ | rfl | refine And.intro ‹_› ?_ | refine cTe ‹_› ?_ | refine cFe ‹_› ?_ | refine cN (cTe ‹_› ?_) | refine cN (cFe ‹_› ?_) | refine cTe rfl ?_ | refine cEq ‹_› ?_ | refine cTt ?_ | refine cNt ?_ | refine cF (Eq.refl false) ?_ | refine cN (cF (Eq.refl false) ?_) | refine cTd (by omega) ?_ | refine cFd (by omega) ?_ | refine cN (cTd (by omega) ?_) | refine cN (cFd (by omega) ?_) | refine And.intro (fun hh : Option.isSome none = true => by cases hh) ?_ | refine And.intro (by omega) ?_ | refine And.intro (Eq.refl true) ?_ | refine And.intro (Eq.refl (1 : Nat)) ?_)
 intro _ _ _
 repeat ((conv => whnf) <;> first | with_reducible first | refine wI (by omega) ?_ | refine wB (by omega) ?_ | refine And.intro rfl ?_ | rfl | refine And.intro ‹_› ?_ | refine cTe ‹_› ?_ | refine cFe ‹_› ?_ | refine cN (cTe ‹_› ?_) | refine cN (cFe ‹_› ?_) | refine cTe rfl ?_ | refine cEq ‹_› ?_ | refine cTt ?_ | refine cNt ?_ | refine cF (Eq.refl false) ?_ | refine cN (cF (Eq.refl false) ?_) | refine cTd (by omega) ?_ | refine cFd (by omega) ?_ | refine cN (cTd (by omega) ?_) | refine cN (cFd (by omega) ?_) | refine And.intro (fun hh : Option.isSome none = true => by cases hh) ?_ | refine And.intro (by omega) ?_ | refine And.intro (Eq.refl true) ?_ | refine And.intro (Eq.refl (1 : Nat)) ?_)
 refine ⟨Nat, fun i zs => i ≤ nD b w ∧ zs = [.row i, .ints .i64 (plL (nval b) w.toNat i), .int .i64 (i : Int)], fun i => nD b w - i, 0, ?_, ?_⟩
 ·(conv => whnf)
  exact ⟨[.row 0, .ints .i64 [], .int .i64 0], ⟨sub_row0, sub_agg0 _, Sub.refl' _, trivial⟩, Nat.zero_le _, zsRI rfl rfl rfl⟩
 rintro i _ ⟨hi, rfl⟩
 by_cases hlt : i < nD b w
 ·have hp : (i : Int) * w ≤ 600 * 8 := by
   have := Int.mul_le_mul (show (i : Int) ≤ 600 by omega) h2 (by omega) (by omega)
   exact this
  have hp0 : 0 ≤ (i : Int) * w := Int.mul_nonneg (by omega) (by omega)
  repeat ((conv => whnf) <;> first | with_reducible first | refine wI (by omega) ?_ | refine wB (by omega) ?_ | refine And.intro rfl ?_ | rfl | refine And.intro ‹_› ?_ | refine cTe ‹_› ?_ | refine cFe ‹_› ?_ | refine cN (cTe ‹_› ?_) | refine cN (cFe ‹_› ?_) | refine cTe rfl ?_ | refine cEq ‹_› ?_ | refine cTt ?_ | refine cNt ?_ | refine cF (Eq.refl false) ?_ | refine cN (cF (Eq.refl false) ?_) | refine cTd (by omega) ?_ | refine cFd (by omega) ?_ | refine cN (cTd (by omega) ?_) | refine cN (cFd (by omega) ?_) | refine And.intro (fun hh : Option.isSome none = true => by cases hh) ?_ | refine And.intro (by omega) ?_ | refine And.intro (Eq.refl true) ?_ | refine And.intro (Eq.refl (1 : Nat)) ?_)
  refine ⟨Nat, fun k zs => k ≤ w.toNat ∧ zs = [.int .i64 (winN (nval b) ((i : Int) * w).toNat 1 k : Nat), .int .i64 (k : Int)], fun k => w.toNat - k, 0, ?_, ?_⟩
  ·(conv => whnf)
   exact ⟨_, Subs.refl' _, Nat.zero_le _, rfl⟩
  rintro k _ ⟨hk, rfl⟩
  by_cases hlk : k < w.toNat
  ·have hbd : By b ∧ b.length ≤ 100 ∧ 0 ≤ (i : Int) * w + (k : Int) * 1 ∧ (i : Int) * w + (k : Int) * 1 ≤ 100000 := ⟨hb, by omega, by omega, by omega⟩
   have hw := win_i64 (N := nval b) (fr := ((i : Int) * w).toNat) (st := 1) (k := k) (b := ((nval b / 2 ^ ((i : Int) * w + (k : Int) * 1).toNat % 2 : Nat) : Int)) (by omega) (by congr 4; omega)
   repeat ((conv => whnf) <;> first | with_reducible first | refine wI (by omega) ?_ | refine wB (by omega) ?_ | refine And.intro rfl ?_ | rfl | refine And.intro ‹_› ?_ | refine cTe ‹_› ?_ | refine cFe ‹_› ?_ | refine cN (cTe ‹_› ?_) | refine cN (cFe ‹_› ?_) | refine cTe rfl ?_ | refine cEq ‹_› ?_ | refine cTt ?_ | refine cNt ?_ | refine cF (Eq.refl false) ?_ | refine cN (cF (Eq.refl false) ?_) | refine cTd (by omega) ?_ | refine cFd (by omega) ?_ | refine cN (cTd (by omega) ?_) | refine cN (cFd (by omega) ?_) | refine And.intro (fun hh : Option.isSome none = true => by cases hh) ?_ | refine And.intro (by omega) ?_ | refine And.intro (Eq.refl true) ?_ | refine And.intro (Eq.refl (1 : Nat)) ?_)
   (conv => whnf)
   exact ⟨_, Subs.refl' _, k + 1, ⟨by omega, zsI2 hw (by omega)⟩, by show w.toNat - (k + 1) < w.toNat - k; omega⟩
  ·obtain rfl : k = w.toNat := by omega
   have hz : (winN (nval b) ((i : Int) * w).toNat 1 w.toNat : Nat) = digE (nval b) w.toNat i := by
    rw [winN_one]; unfold digE; congr 3
    obtain ⟨v, rfl⟩ := Int.eq_ofNat_of_zero_le (show 0 ≤ w by omega)
    have : (i : Int) * (v : Int) = ((v * i : Nat) : Int) := by rw [Int.natCast_mul, Int.mul_comm]
    rw [this]; rfl
   have ll := plL_len (nval b) w.toNat i
   have ls : plL (nval b) w.toNat (i + 1) = plL (nval b) w.toNat i ++ [((winN (nval b) ((i : Int) * w).toNat 1 w.toNat : Nat) : Int)] := by rw [plL_s, hz]
   have e1 : (AV.ints .i64 (plL (nval b) w.toNat i ++ [((winN (nval b) ((i : Int) * w).toNat 1 w.toNat : Nat) : Int)])).size = i + 1 := by rw [← ls]; exact plL_len _ _ _
   repeat ((conv => whnf) <;> first | with_reducible first | refine wI (by omega) ?_ | refine wB (by omega) ?_ | refine And.intro rfl ?_ | rfl | refine And.intro ‹_› ?_ | refine cTe ‹_› ?_ | refine cFe ‹_› ?_ | refine cN (cTe ‹_› ?_) | refine cN (cFe ‹_› ?_) | refine cTe rfl ?_ | refine cEq ‹_› ?_ | refine cTt ?_ | refine cNt ?_ | refine cF (Eq.refl false) ?_ | refine cN (cF (Eq.refl false) ?_) | refine cTd (by omega) ?_ | refine cFd (by omega) ?_ | refine cN (cTd (by omega) ?_) | refine cN (cFd (by omega) ?_) | refine And.intro (fun hh : Option.isSome none = true => by cases hh) ?_ | refine And.intro (by omega) ?_ | refine And.intro (Eq.refl true) ?_ | refine And.intro (Eq.refl (1 : Nat)) ?_)
   (conv => whnf)
   exact ⟨_, Subs.refl' _, i + 1, ⟨by omega, zsRI (by rw [e1]; omega) ls.symm (by omega)⟩, by show nD b w - (i + 1) < nD b w - i; omega⟩
 ·obtain rfl : i = nD b w := by omega
  repeat ((conv => whnf) <;> first | with_reducible first | refine wI (by omega) ?_ | refine wB (by omega) ?_ | refine And.intro rfl ?_ | rfl | refine And.intro ‹_› ?_ | refine cTe ‹_› ?_ | refine cFe ‹_› ?_ | refine cN (cTe ‹_› ?_) | refine cN (cFe ‹_› ?_) | refine cTe rfl ?_ | refine cEq ‹_› ?_ | refine cTt ?_ | refine cNt ?_ | refine cF (Eq.refl false) ?_ | refine cN (cF (Eq.refl false) ?_) | refine cTd (by omega) ?_ | refine cFd (by omega) ?_ | refine cN (cTd (by omega) ?_) | refine cN (cFd (by omega) ?_) | refine And.intro (fun hh : Option.isSome none = true => by cases hh) ?_ | refine And.intro (by omega) ?_ | refine And.intro (Eq.refl true) ?_ | refine And.intro (Eq.refl (1 : Nat)) ?_)
  (conv => whnf)
  exact h
theorem tb_dplain_ok : Con Tryz.prog tb_dplain.1 tb_dplain.2 := con_tree tdA_ok o_dplain [.atom (.var 0), .atom (.var 1)] 2 Tryz.func89 rfl c_dplain aw_dplain g_dplain
def tdB : Tab := tb_dcheck :: tb_dplain :: []
theorem tdB_ok : tdB.OK Tryz.prog := tab_cons tb_dcheck_ok <| tab_cons tb_dplain_ok <| tab_nil _
def o_dsigned : Orc := { ans := [(14, oV), (16, oB), (21, .fresh ⟨.tup [.atom (.var 0), .atom (.var 2)], 3, []⟩ ⟨0, 1, 3, 1⟩), (25, oB), (28, oV), (30, oB), (34, oV), (35, oV), (37, oV), (38, oV), (41, oV), (42, oV), (44, oV), (45, oV), (47, oV), (48, oV), (51, oV), (52, oV), (55, oV), (56, oV), (57, oV), (58, oV), (62, oV)], lps := [(0, [.cont 7 3 1, .slot 9 [.one], .slot 29 [.one]])], ords := [(14, [.pure 0, .pure 1, .quiet 2, .quiet 3, .pure 4, .pure 5, .quiet 6, .quiet 7, .quiet 8, .last 9])] }
def t_dsigned : Tree :=
 .new <|
 .call 73 [.atom (.var 0), .atom (.const (.int .i64 2)), .atom (.slc 0 0 1 1)] ([([.one (.var 1)], 3)], []) (qv 2) 1 [] <|
 .calc2 (.binOp .neq 38 (.tmp 15) (.const (.int .i64 0)) 38) 4 [(15, qv 2)] ([], []) qT 0 (
 .ret ([], []) (.tup [.atom (.const (.slice none 0 0)), .atom (.var 2)])) qF 0 <|
 .callr 89 [.atom (.var 0), .atom (.var 1)] ([], []) (.tup [.atom (.var 3), .atom (.var 5)]) 3 ⟨3, 4, 3, 1⟩ <|
 .calc2 (.binOp .neq 38 (.tmp 24) (.const (.int .i64 0)) 38) 4 [(24, qv 5)] ([], []) qT 0 (
 .ret ([], []) (.tup [.atom (.const (.slice none 0 0)), .atom (.var 5)])) qF 0 <|
 .calc (.call { callee := .builtin .len, args := #[.tmp 27], argTypes := #[80] }) 3 [(27, qv 3)] ([([.one (.var 1)], 3)], [⟨3, 4, 3, 1⟩]) (qv 6) 1 <|
 .loop [.agg [.rest 4], .atom (.const (.int .i64 0)), .atom (.const (.int .i64 0))] [.row, .one, .one] <|
 .calc2 (.binOp .lss 3 (.tmp 29) (.tmp 28) 3) 0 [(29, qv 9), (28, qv 6)] ([], []) qT 0 (
 .boundx 9 3 <|
 .ldi [.rest 7] 0 9 1 1 false <|
 .calc (.binOp .add 3 (.tmp 35) (.tmp 36) 3) 3 [(35, qv 10), (36, qv 8)] ([], []) (qv 11) 1 <|
 .boundx 9 3 <|
 .sti [.rest 7] 0 9 1 1 [.one (.var 11)] <|
 .boundx 9 3 <|
 .ldi [.rest 12] 0 9 1 1 false <|
 .calc (.binOp .sub 3 (.tmp 43) (.const (.int .i64 1)) 3) 3 [(43, qv 1)] ([], []) (qv 14) 1 <|
 .calc (.binOp .shr 3 (.tmp 42) (.tmp 44) 3) 3 [(42, qv 13), (44, qv 14)] ([], []) (qv 15) 1 <|
 .calc (.binOp .add 3 (.tmp 46) (.const (.int .i64 1)) 3) 3 [(46, qv 15)] ([], []) (qv 16) 1 <|
 .calc (.binOp .quo 3 (.tmp 47) (.const (.int .i64 2)) 3) 3 [(47, qv 16)] ([], []) (qv 17) 1 <|
 .boundx 9 3 <|
 .ldi [.rest 12] 0 9 1 1 false <|
 .calc (.binOp .shl 3 (.tmp 53) (.tmp 54) 3) 3 [(53, qv 17), (54, qv 1)] ([], []) (qv 19) 1 <|
 .calc (.binOp .sub 3 (.tmp 52) (.tmp 55) 3) 3 [(52, qv 18), (55, qv 19)] ([], []) (qv 20) 1 <|
 .boundx 9 3 <|
 .sti [.rest 12] 0 9 1 1 [.one (.var 20)] <|
 .calc (.binOp .add 3 (.tmp 29) (.const (.int .i64 1)) 3) 3 [(29, qv 9)] ([], []) (qv 22) 1 <|
 .again 0 [.agg [.rest 21], .atom (.var 17), .atom (.var 22)]) qF 0 <|
 .new <|
 .app (some 7) [.one (.var 8)] 1 <|
 .ret ([([.one (.var 1)], 3), ([.one (.var 8)], 3)], [⟨10, 11, 3, 1⟩]) (.tup [.atom (.var 10), .atom (.const (.int .i64 0))])
theorem c_dsigned : compF Tryz.prog Tryz.f60 o_dsigned (Tryz.f60.body.getD .skip) (symIn [.atom (.var 0), .atom (.var 1)] Tryz.f60.ntmps 2) = some t_dsigned := by kernel_rfl
theorem g_dsigned : goodC Tryz.prog o_dsigned.ords (Tryz.f60.body.getD .skip) = true := by kernel_rfl
def tb_dsigned : FuncId × Trans := (60, tSigned)
set_option maxRecDepth 100000 in
theorem aw_dsigned : ∀ zs Q, tb_dsigned.2 zs Q → bindLs 0 [.atom (.var 0), .atom (.var 1)] zs fun ae => bif Nat.beq ae.length 2 then AWp Tryz.prog tdB Q t_dsigned [] ae else False := by
 intro zs Q h
 replace h : tSigned zs Q := h
 unfold tSigned at h
 split at h
 case h_2 => exact h.elim
 rename_i b w
 obtain ⟨⟨hb, hl, h1, h2⟩, h11, h⟩ := h
 by_cases a1 : 64 < b.length
 ·have h := h11 a1
  repeat ((conv => whnf) <;> first | with_reducible first | refine wI (by omega) ?_ | refine wQ (by omega) ?_ | refine And.intro rfl ?_ | rfl | refine And.intro ‹_› ?_ | refine cTe ‹_› ?_ | refine cFe ‹_› ?_ | refine cN (cTe ‹_› ?_) | refine cN (cFe ‹_› ?_) | refine cTe rfl ?_ | refine cEq ‹_› ?_ | refine cTt ?_ | refine cNt ?_ | refine cF (Eq.refl false) ?_ | refine cN (cF (Eq.refl false) ?_) | refine cTd (by omega) ?_ | refine cFd (by omega) ?_ | refine cN (cTd (by omega) ?_) | refine cN (cFd (by omega) ?_) | refine And.intro (fun hh : Option.isSome none = true => by cases hh) ?_ | refine And.intro (by omega) ?_ | refine And.intro (Eq.refl true) ?_ | refine And.intro (Eq.refl (1 : Nat)) ?_)
  refine ⟨fun _ => ?_, fun hh => absurd hh (by omega), fun hh => absurd hh (by omega)⟩
  repeat ((conv => whnf) <;> first | with_reducible first | refine wI (by omega) ?_ | refine wQ (by omega) ?_ | refine And.intro rfl ?_ | rfl | refine And.intro ‹_› ?_ | refine cTe ‹_› ?_ | refine cFe ‹_› ?_ | refine cN (cTe ‹_› ?_) | refine cN (cFe ‹_› ?_) | refine cTe rfl ?_ | refine cEq ‹_› ?_ | refine cTt ?_ | refine cNt ?_ | refine cF (Eq.refl false) ?_ | refine cN (cF (Eq.refl false) ?_) | refine cTd (by omega) ?_ | refine cFd (by omega) ?_ | refine cN (cTd (by omega) ?_) | refine cN (cFd (by omega) ?_) | refine And.intro (fun hh : Option.isSome none = true => by cases hh) ?_ | refine And.intro (by omega) ?_ | refine And.intro (Eq.refl true) ?_ | refine And.intro (Eq.refl (1 : Nat)) ?_)
  (conv => whnf)
  exact h
 replace h := h (by omega)
 clear h11
 have hc1 : b.length ≤ 64 ∧ 1 ≤ w ∧ w ≤ 8 := ⟨by omega, by omega, h2⟩
 have q1 : 0 ≤ (8 * (b.length : Int) + w - 1) / w := Int.ediv_nonneg (by omega) (by omega)
 have q2 : (8 * (b.length : Int) + w - 1) / w ≤ 8 * (b.length : Int) + w - 1 := Int.ediv_le_self _ (by omega)
 have hm : ((nD b w : Nat) : Int) = (8 * (b.length : Int) + w - 1) / w := by unfold nD; omega
 have hN := nD_cover hb (show 1 ≤ w by omega)
 have hp1 : By b ∧ b.length ≤ 64 ∧ 1 ≤ w ∧ w ≤ 8 := ⟨hb, by omega, by omega, h2⟩
 have hll := plL_len (nval b) w.toNat (nD b w)
 have hsz : (AV.ints .i64 (plL (nval b) w.toNat (nD b w))).size = nD b w := hll
 repeat ((conv => whnf) <;> first | with_reducible first | refine wI (by omega) ?_ | refine wQ (by omega) ?_ | refine And.intro rfl ?_ | rfl | refine And.intro ‹_› ?_ | refine cTe ‹_› ?_ | refine cFe ‹_› ?_ | refine cN (cTe ‹_› ?_) | refine cN (cFe ‹_› ?_) | refine cTe rfl ?_ | refine cEq ‹_› ?_ | refine cTt ?_ | refine cNt ?_ | refine cF (Eq.refl false) ?_ | refine cN (cF (Eq.refl false) ?_) | refine cTd (by omega) ?_ | refine cFd (by omega) ?_ | refine cN (cTd (by omega) ?_) | refine cN (cFd (by omega) ?_) | refine And.intro (fun hh : Option.isSome none = true => by cases hh) ?_ | refine And.intro (by omega) ?_ | refine And.intro (Eq.refl true) ?_ | refine And.intro (Eq.refl (1 : Nat)) ?_)
 intro _ _ _
 repeat ((conv => whnf) <;> first | with_reducible first | refine wI (by omega) ?_ | refine wQ (by omega) ?_ | refine And.intro rfl ?_ | rfl | refine And.intro ‹_› ?_ | refine cTe ‹_› ?_ | refine cFe ‹_› ?_ | refine cN (cTe ‹_› ?_) | refine cN (cFe ‹_› ?_) | refine cTe rfl ?_ | refine cEq ‹_› ?_ | refine cTt ?_ | refine cNt ?_ | refine cF (Eq.refl false) ?_ | refine cN (cF (Eq.refl false) ?_) | refine cTd (by omega) ?_ | refine cFd (by omega) ?_ | refine cN (cTd (by omega) ?_) | refine cN (cFd (by omega) ?_) | refine And.intro (fun hh : Option.isSome none = true => by cases hh) ?_ | refine And.intro (by omega) ?_ | refine And.intro (Eq.refl true) ?_ | refine And.intro (Eq.refl (1 : Nat)) ?_)
 generalize nval b = N at *
 generalize nD b w = m at *
 refine ⟨Nat, fun i zs => i ≤ m ∧ zs = [.ints .i64 (mixL N w.toNat m i), .int .i64 (sgO N w.toNat i), .int .i64 (i : Int)], fun i => m - i, 0, ?_, ?_⟩
 ·(conv => whnf)
  exact ⟨_, Subs.refl' _, Nat.zero_le _, zsS rfl rfl rfl⟩
 rintro i _ ⟨hi, rfl⟩
 have hml := mixL_len N w.toNat m i
 by_cases hlt : i < m
 ·have hg := mixL_get N w.toNat m i i hlt
  have ho := sg_over (N := N) (w := w.toNat) (i := i) (W := w) ⟨by omega, by omega⟩ (by omega)
  have hn := sg_new (N := N) (w := w.toNat) (i := i) (W := w) ⟨by omega, by omega⟩ (by omega)
  have hbd := sgD_bd (N := N) (w := w.toNat) (i := i) (by omega)
  have hs := mixL_s N w.toNat m i
  have hsum := sg_sum (N := N) (w := w.toNat) (i := i)
  have h256 : 2 ^ w.toNat ≤ 2 ^ 8 := Nat.pow_le_pow_right (by omega) (by omega)
  have hhf := pow_half (w := w.toNat) (by omega)
  rw [if_neg (by omega)] at hg
  have k0 : 0 + ((i : Nat) : Int).toNat * 1 = i := by omega
  have f0 : (digE N w.toNat i : Int) + sgO N w.toNat i ≤ 256 ∧ 0 ≤ (digE N w.toNat i : Int) + sgO N w.toNat i := by omega
  have f1 : (mixL N w.toNat m i).getD (0 + ((i : Nat) : Int).toNat * 1) 0 = (digE N w.toNat i : Int) := by rw [k0, List.getD_eq_getElem?_getD, hg]; rfl
  have f2 : ((mixL N w.toNat m i).set (0 + ((i : Nat) : Int).toNat * 1) ((mixL N w.toNat m i).getD (0 + ((i : Nat) : Int).toNat * 1) 0 + (sgO N w.toNat i : Int))).length = m := by rw [List.length_set, hml]
  have f3 : ((mixL N w.toNat m i).set (0 + ((i : Nat) : Int).toNat * 1) ((mixL N w.toNat m i).getD (0 + ((i : Nat) : Int).toNat * 1) 0 + (sgO N w.toNat i : Int))).getD (0 + ((i : Nat) : Int).toNat * 1) 0 = (digE N w.toNat i : Int) + sgO N w.toNat i := by
   rw [f1, k0, List.getD_eq_getElem?_getD, List.getElem?_set, if_pos rfl, if_pos (by omega)]; rfl
  rw [← f3] at ho hn f0
  have f6 : ((mixL N w.toNat m i).set (0 + ((i : Nat) : Int).toNat * 1) ((mixL N w.toNat m i).getD (0 + ((i : Nat) : Int).toNat * 1) 0 + (sgO N w.toNat i : Int))).set (0 + ((i : Nat) : Int).toNat * 1) (sgD N w.toNat i) = mixL N w.toNat m (i + 1) := by
   rw [hs, k0, List.set_set]
  have f4 := sgO_le N w.toNat (i + 1)
  rw [← ho] at hn
  have f5 : sgD N w.toNat i ≤ 256 ∧ -256 ≤ sgD N w.toNat i := by omega
  clear hbd hhf h256 hsum hs
  repeat ((conv => whnf) <;> first | with_reducible first | refine wI (by omega) ?_ | refine wQ (by omega) ?_ | refine And.intro rfl ?_ | rfl | refine And.intro ‹_› ?_ | refine cTe ‹_› ?_ | refine cFe ‹_› ?_ | refine cN (cTe ‹_› ?_) | refine cN (cFe ‹_› ?_) | refine cTe rfl ?_ | refine cEq ‹_› ?_ | refine cTt ?_ | refine cNt ?_ | refine cF (Eq.refl false) ?_ | refine cN (cF (Eq.refl false) ?_) | refine cTd (by omega) ?_ | refine cFd (by omega) ?_ | refine cN (cTd (by omega) ?_) | refine cN (cFd (by omega) ?_) | refine And.intro (fun hh : Option.isSome none = true => by cases hh) ?_ | refine And.intro (by omega) ?_ | refine And.intro (Eq.refl true) ?_ | refine And.intro (Eq.refl (1 : Nat)) ?_)
  (conv => whnf)
  exact ⟨_, Subs.refl' _, i + 1, ⟨by omega, zsS (by rw [hn]; exact f6) ho (by omega)⟩, by show m - (i + 1) < m - i; omega⟩
 ·obtain rfl : i = m := by omega
  have hall := sgL_all (N := N) (w := w.toNat) (m := i) (by omega) hN
  have e1 : (AV.ints .i64 (mixL N w.toNat i i ++ [(sgO N w.toNat i : Int)])).size = i + 1 := by rw [hall]; exact sgL_len _ _ _
  repeat ((conv => whnf) <;> first | with_reducible first | refine wI (by omega) ?_ | refine wQ (by omega) ?_ | refine And.intro rfl ?_ | rfl | refine And.intro ‹_› ?_ | refine cTe ‹_› ?_ | refine cFe ‹_› ?_ | refine cN (cTe ‹_› ?_) | refine cN (cFe ‹_› ?_) | refine cTe rfl ?_ | refine cEq ‹_› ?_ | refine cTt ?_ | refine cNt ?_ | refine cF (Eq.refl false) ?_ | refine cN (cF (Eq.refl false) ?_) | refine cTd (by omega) ?_ | refine cFd (by omega) ?_ | refine cN (cTd (by omega) ?_) | refine cN (cFd (by omega) ?_) | refine And.intro (fun hh : Option.isSome none = true => by cases hh) ?_ | refine And.intro (by omega) ?_ | refine And.intro (Eq.refl true) ?_ | refine And.intro (Eq.refl (1 : Nat)) ?_)
  (conv => whnf)
  rw [← hall] at h
  exact h
theorem tb_dsigned_ok : Con Tryz.prog tb_dsigned.1 tb_dsigned.2 := con_tree tdB_ok o_dsigned [.atom (.var 0), .atom (.var 1)] 2 Tryz.func60 rfl c_dsigned aw_dsigned g_dsigned
end Go.Proofs.YtpapfkihjhhjkaaGreat
