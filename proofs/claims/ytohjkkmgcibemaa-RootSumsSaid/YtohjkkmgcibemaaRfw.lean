/- Powers of package root -/
import Derived.Test.YtohjkkmgcibemaaRfs
set_option linter.unusedSimpArgs false
set_option linter.unusedVariables false
namespace Go.Proofs.Ytohjkkmgcibemaa
open Go.RowKit FdP FdP.Ch
def tabRp : Tab := tb_int :: tb_square :: tb_mul :: []
theorem tabRp_ok : tabRp.OK Try.prog := tab_cons tb_int_ok <| tab_cons tb_square_ok <| tab_cons tb_mul_ok <| tab_nil _
def tPowE0 : Trans := fun zs Q => match zs with
 | [.el x, .isl .u8 b] => (By b ∧ b.length ≤ 100000) ∧ Q (.el (x ^ nval b))
 | _ => False
theorem zsE {a a' : Int} {x x' : F} (h : a = a') (h' : x = x') : [AV.int .i64 a, .el x] = [.int .i64 a', .el x'] := by rw [h, h']
theorem bit_u8 {l : List Int} (hb : By l) {i : Nat} (hi : i < 8 * l.length) : bits .and .u8 ((l.getD (i / 8) 0).fdiv (2 ^ (min (i % 8) IntKind.u8.bits))) 1 = ((nval l / 2 ^ i % 2 : Nat) : Int) := by
 have h8 := by_getD' hb (i / 8)
 have hm : min (i % 8) IntKind.u8.bits = i % 8 := by show min (i % 8) 8 = i % 8; omega
 have hs := shr_bd h8 (i % 8)
 have hp : (0 : Int) ≤ 2 ^ (i % 8) := Int.pow_nonneg (by omega)
 rw [hm, Int.fdiv_eq_ediv_of_nonneg _ hp, u8_and1 _ ⟨hs.1, hs.2.1⟩, nval_bit hb hi]
def o_powE0 : Orc := { ans := [(8, oA 8), (10, oV), (11, oV), (13, oB), (16, oV), (17, oV), (18, oV), (20, oV), (21, oA 8), (22, oA 8), (25, oV), (26, oV), (27, oV), (29, oV), (30, oV), (31, oV), (32, oB), (33, oA 8), (34, oA 8), (35, oA 8), (36, oV), (37, oA 8)], lps := [(0, [.slot 12 [.one], .blk 2 [.agg 8]])] }
def t_powE0 : Tree :=
 .new <|
 .new <|
 .call 29 [.atom (.const (.int .i64 1))] ([], []) (.leaf (.agg [.whole 2 8])) 1 [] <|
 .new <|
 .calc (.call { callee := .builtin .len, args := #[.tmp 9], argTypes := #[52] }) 3 [(9, qv 1)] ([], []) (qv 3) 1 <|
 .calc (.binOp .mul 3 (.const (.int .i64 8)) (.tmp 10) 3) 3 [(10, qv 3)] ([], []) (qv 4) 1 <|
 .loop [.atom (.const (.int .i64 0)), .agg [.whole 2 8]] [.one, .agg 8] <|
 .calc2 (.binOp .lss 3 (.tmp 12) (.tmp 11) 3) 4 [(12, qv 5), (11, qv 4)] ([], []) qT 0 (
 .calc (.call { callee := .builtin .len, args := #[.tmp 15], argTypes := #[52] }) 3 [(15, qv 1)] ([], []) (qv 7) 1 <|
 .calc (.binOp .mul 3 (.const (.int .i64 8)) (.tmp 16) 3) 3 [(16, qv 7)] ([], []) (qv 8) 1 <|
 .calc (.binOp .sub 3 (.tmp 17) (.const (.int .i64 1)) 3) 3 [(17, qv 8)] ([], []) (qv 9) 1 <|
 .calc (.binOp .sub 3 (.tmp 18) (.tmp 19) 3) 3 [(18, qv 9), (19, qv 5)] ([], []) (qv 10) 1 <|
 .call 22 [.agg [.whole 6 8]] ([], []) (.leaf (.agg [.whole 11 8])) 1 [] <|
 .calc (.binOp .quo 3 (.tmp 24) (.const (.int .i64 8)) 3) 3 [(24, qv 10)] ([], []) (qv 12) 1 <|
 .calc (.indexAddr 52 (.tmp 23) (.tmp 25)) 0 [(23, qv 1), (25, qv 12)] ([], []) (qv 13) 1 <|
 .calc (.load 5 (.tmp 26)) 5 [(26, qv 13)] ([], []) (qv 14) 1 <|
 .calc (.binOp .rem 3 (.tmp 28) (.const (.int .i64 8)) 3) 3 [(28, qv 10)] ([], []) (qv 15) 1 <|
 .calc (.binOp .shr 5 (.tmp 27) (.tmp 29) 3) 5 [(27, qv 14), (29, qv 15)] ([], []) (qv 16) 1 <|
 .calc (.binOp .and 5 (.tmp 30) (.const (.int .u8 1)) 5) 5 [(30, qv 16)] ([], []) (qv 17) 1 <|
 .calc2 (.binOp .eql 5 (.tmp 31) (.const (.int .u8 0)) 5) 4 [(31, qv 17)] ([], []) qT 0 (
 .calc (.binOp .add 3 (.tmp 12) (.const (.int .i64 1)) 3) 3 [(12, qv 5)] ([], []) (qv 18) 1 <|
 .again 0 [.atom (.var 18), .agg [.whole 11 8]]) qF 0 <|
 .call 20 [.agg [.whole 11 8], .agg [.whole 0 8]] ([], []) (.leaf (.agg [.whole 18 8])) 1 [] <|
 .calc (.binOp .add 3 (.tmp 12) (.const (.int .i64 1)) 3) 3 [(12, qv 5)] ([], []) (qv 19) 1 <|
 .again 0 [.atom (.var 19), .agg [.whole 18 8]]) qF 0 <|
 .ret ([], []) (.leaf (.agg [.whole 6 8]))
theorem c_powE0 : compF Try.prog Try.f31 o_powE0 (Try.f31.body.getD .skip) (symIn [.agg [.whole 0 8], .atom (.var 1)] Try.f31.ntmps 2) = some t_powE0 := by kernel_rfl
theorem g_powE0 : goodC Try.prog o_powE0.ords (Try.f31.body.getD .skip) = true := by kernel_rfl
def tb_powE0 : FuncId × Trans := (31, tPowE0)
set_option maxRecDepth 100000 in
theorem aw_powE0 : ∀ zs Q, tb_powE0.2 zs Q → bindLs 0 [.agg [.whole 0 8], .atom (.var 1)] zs fun ae => bif Nat.beq ae.length 2 then AWp Try.prog tabRp Q t_powE0 [] ae else False := by
 intro zs Q h
 replace h : tPowE0 zs Q := h
 unfold tPowE0 at h
 split at h
 case h_2 => exact h.elim
 rename_i x b
 obtain ⟨⟨hb, hl⟩, h⟩ := h
 have hlt := nval_lt hb
 repeat ((conv => whnf) <;> first | refine wI (by omega) ?_ | refine wB (by omega) ?_ | refine wR (by omega) ?_ | refine wQ (by omega) ?_ | with_reducible refine And.intro rfl ?_ | with_reducible refine And.intro (by assumption) ?_ | with_reducible refine cTe (by assumption) ?_ | with_reducible refine cFe (by assumption) ?_ | with_reducible refine cTt ?_ | with_reducible refine cNt ?_ | refine And.intro (fun hh => by cases hh) ?_ | refine And.intro (by omega) ?_ | refine cTd (by omega) ?_ | refine cFd (by omega) ?_)
 refine ⟨by unfold I64; omega, ?_⟩
 repeat ((conv => whnf) <;> first | refine wI (by omega) ?_ | refine wB (by omega) ?_ | refine wR (by omega) ?_ | refine wQ (by omega) ?_ | with_reducible refine And.intro rfl ?_ | with_reducible refine And.intro (by assumption) ?_ | with_reducible refine cTe (by assumption) ?_ | with_reducible refine cFe (by assumption) ?_ | with_reducible refine cTt ?_ | with_reducible refine cNt ?_ | refine And.intro (fun hh => by cases hh) ?_ | refine And.intro (by omega) ?_ | refine cTd (by omega) ?_ | refine cFd (by omega) ?_)
 (conv => whnf)
 refine ⟨Nat, fun i zs => i ≤ 8 * b.length ∧ zs = [.int .i64 (i : Int), .el (x ^ (nval b / 2 ^ (8 * b.length - i)))], fun i => 8 * b.length - i, 0, ?_, ?_⟩
 ·(conv => whnf)
  refine ⟨_, Subs.refl' _, Nat.zero_le _, zsE (by omega) ?_⟩
  rw [Nat.sub_zero, Nat.div_eq_of_lt hlt, z_one]
  grind
 rintro i _ ⟨hi, rfl⟩
 by_cases hlt' : i < 8 * b.length
 ·obtain ⟨m, hm⟩ : ∃ m, 8 * b.length - i = m + 1 := ⟨8 * b.length - i - 1, by omega⟩
  have hm' : 8 * b.length - (i + 1) = m := by omega
  have hat : 8 * (b.length : Int) - 1 - (i : Int) = (m : Int) := by omega
  have hbit := bit_u8 hb (show m < 8 * b.length by omega)
  have hdv : ((m : Int) / 8).toNat = m / 8 := by omega
  have hmd : ((m : Int) % 8).toNat = m % 8 := by omega
  have hodd := pow_odd (N := nval b) (j := m) (x := x)
  have hev := pow_even (N := nval b) (j := m) (x := x)
  rw [← hdv, ← hmd, ← hat] at hbit
  have hB := by_getD' hb ((8 * (b.length : Int) - 1 - (i : Int)) / 8).toNat
  by_cases hz : nval b / 2 ^ m % 2 = 1
  ·have e := hodd hz
   rw [hz] at hbit
   rw [hm]
   generalize x ^ (nval b / 2 ^ (m + 1)) = y at *
   repeat ((conv => whnf) <;> first | refine wI (by omega) ?_ | refine wB (by omega) ?_ | refine wR (by omega) ?_ | refine wQ (by omega) ?_ | with_reducible refine And.intro rfl ?_ | with_reducible refine And.intro (by assumption) ?_ | with_reducible refine cTe (by assumption) ?_ | with_reducible refine cFe (by assumption) ?_ | with_reducible refine cTt ?_ | with_reducible refine cNt ?_ | refine And.intro (fun hh => by cases hh) ?_ | refine And.intro (by omega) ?_ | refine cTd (by omega) ?_ | refine cFd (by omega) ?_)
   (conv => whnf)
   exact ⟨_, Subs.refl' _, i + 1, ⟨by omega, zsE (by omega) (by rw [hm']; exact e)⟩, by show 8 * b.length - (i + 1) < 8 * b.length - i; omega⟩
  ·have hz0 : nval b / 2 ^ m % 2 = 0 := by omega
   have e := hev hz0
   rw [hz0] at hbit
   rw [hm]
   generalize x ^ (nval b / 2 ^ (m + 1)) = y at *
   repeat ((conv => whnf) <;> first | refine wI (by omega) ?_ | refine wB (by omega) ?_ | refine wR (by omega) ?_ | refine wQ (by omega) ?_ | with_reducible refine And.intro rfl ?_ | with_reducible refine And.intro (by assumption) ?_ | with_reducible refine cTe (by assumption) ?_ | with_reducible refine cFe (by assumption) ?_ | with_reducible refine cTt ?_ | with_reducible refine cNt ?_ | refine And.intro (fun hh => by cases hh) ?_ | refine And.intro (by omega) ?_ | refine cTd (by omega) ?_ | refine cFd (by omega) ?_)
   (conv => whnf)
   exact ⟨_, Subs.refl' _, i + 1, ⟨by omega, zsE (by omega) (by rw [hm']; exact e)⟩, by show 8 * b.length - (i + 1) < 8 * b.length - i; omega⟩
 ·obtain rfl : i = 8 * b.length := by omega
  have e : x ^ (nval b / 2 ^ (8 * b.length - 8 * b.length)) = x ^ nval b := by rw [Nat.sub_self, Nat.pow_zero, Nat.div_one]
  rw [← e] at h
  repeat ((conv => whnf) <;> first | refine wI (by omega) ?_ | refine wB (by omega) ?_ | refine wR (by omega) ?_ | refine wQ (by omega) ?_ | with_reducible refine And.intro rfl ?_ | with_reducible refine And.intro (by assumption) ?_ | with_reducible refine cTe (by assumption) ?_ | with_reducible refine cFe (by assumption) ?_ | with_reducible refine cTt ?_ | with_reducible refine cNt ?_ | refine And.intro (fun hh => by cases hh) ?_ | refine And.intro (by omega) ?_ | refine cTd (by omega) ?_ | refine cFd (by omega) ?_)
  (conv => whnf)
  exact h
theorem tb_powE0_ok : Con Try.prog tb_powE0.1 tb_powE0.2 := con_tree tabRp_ok o_powE0 [.agg [.whole 0 8], .atom (.var 1)] 2 Try.func31 rfl c_powE0 aw_powE0 g_powE0
end Go.Proofs.Ytohjkkmgcibemaa
