/- The document's numbers: bits -/
import Derived.Test.YtohebkkiicbdoaaNth
set_option linter.unusedSimpArgs false
set_option linter.unusedVariables false
namespace Go.Proofs.Ytohebkkiicbdoaa
open Go.RowKit FdP FdP.Ch
def bitZ (l : List Int) (i : Int) : Int := if i < 0 then 0 else ((nval l / 2 ^ i.toNat % 2 : Nat) : Int)
theorem bitZ_neg {l : List Int} {i : Int} (h : i < 0) : bitZ l i = 0 := if_pos h
theorem bitZ_nat (l : List Int) (i : Nat) : bitZ l (i : Int) = ((nval l / 2 ^ i % 2 : Nat) : Int) := by
 unfold bitZ
 rw [if_neg (by omega)]; rfl
theorem bitZ_or (l : List Int) (i : Int) : bitZ l i = 0 ∨ bitZ l i = 1 := by
 unfold bitZ
 split
 ·exact .inl rfl
 ·have := Nat.mod_two_eq_zero_or_one (nval l / 2 ^ i.toNat); omega
theorem nval_bit' {l : List Int} (h : By l) (i : Nat) : l.getD (i / 8) 0 / 2 ^ (i % 8) % 2 = ((nval l / 2 ^ i % 2 : Nat) : Int) := by
 by_cases hi : i < 8 * l.length
 ·exact nval_bit h hi
 ·have h1 := nval_lt h
  have h2 : nval l < 2 ^ i := Nat.lt_of_lt_of_le h1 (Nat.pow_le_pow_right (by omega) (by omega))
  have h3 : l.getD (i / 8) 0 = 0 := by simp [List.getD, List.getElem?_eq_none (show l.length ≤ i / 8 by omega)]
  rw [h3, Nat.div_eq_of_lt h2]
  simp
def tBit : Trans := fun zs Q => match zs with
 | [.isl .u8 l, .int .i64 i] => (By l ∧ l.length ≤ 1000000 ∧ I64 i) ∧ Q (.int .i64 (bitZ l i))
 | _ => False
def lenR (m : Nat) : Nat → Nat
 | 0 => 0
 | n + 1 => if m / 2 ^ n % 2 = 0 then lenR m n else n + 1
theorem lenR_le (m : Nat) : ∀ n, lenR m n ≤ n
 | 0 => Nat.le_refl _
 | n + 1 => by unfold lenR; split; exact Nat.le_succ_of_le (lenR_le m n); exact Nat.le_refl _
theorem lenR_lt {m : Nat} : ∀ {n}, m < 2 ^ n → m < 2 ^ lenR m n
 | 0, h => h
 | n + 1, h => by
  unfold lenR
  split
  ·rename_i h0
   refine lenR_lt ?_
   have hp : 0 < 2 ^ n := Nat.pow_pos (by omega)
   have h1 : m / 2 ^ n < 2 := by rw [Nat.div_lt_iff_lt_mul hp]; rw [Nat.pow_succ] at h; omega
   have h2 : m / 2 ^ n = 0 := by generalize m / 2 ^ n = q at h0 h1 ⊢; omega
   exact (Nat.div_eq_zero_iff_lt hp).1 h2
  ·exact h
theorem lenR_s (m n : Nat) : lenR m (n + 1) = if m / 2 ^ n % 2 = 0 then lenR m n else n + 1 := rfl
def lenB (l : List Int) : Nat := lenR (nval l) (8 * l.length)
theorem lenB_lt {l : List Int} (h : By l) : nval l < 2 ^ lenB l := lenR_lt (nval_lt h)
theorem lenB_le (l : List Int) : lenB l ≤ 8 * l.length := lenR_le _ _
def tLen : Trans := fun zs Q => match zs with
 | [.isl .u8 l] => (By l ∧ l.length ≤ 1000000) ∧ Q (.int .i64 (lenB l))
 | _ => False
theorem zs1 {k : IntKind} {a a' : Int} (h : a = a') : [AV.int k a] = [.int k a'] := by rw [h]
def tabB : Tab := tb_rat_ :: []
theorem tabB_ok : tabB.OK Try.prog := tab_cons tb_rat__ok <| tab_nil _
def o_rbit : Orc := { ans := [(8, oB), (11, oV), (12, oV), (15, oV), (16, oB), (20, oV), (18, oV), (22, oV)], lps := [(0, [.slot 5 [.one], .slot 6 [.one]])] }
def t_rbit : Tree :=
 .calc2 (.binOp .lss 3 (.tmp 7) (.const (.int .i64 0)) 3) 4 [(7, qv 1)] ([], []) qT 0 (
 .ret ([], []) (.leaf (.atom (.const (.int .i64 0))))) qF 0 <|
 .calc (.binOp .quo 3 (.tmp 10) (.const (.int .i64 8)) 3) 3 [(10, qv 1)] ([], []) (qv 2) 1 <|
 .call 97 [.atom (.var 0), .atom (.var 2)] ([], []) (qv 3) 1 [] <|
 .loop [.atom (.var 3), .atom (.const (.int .i64 0))] [.one, .one] <|
 .calc (.binOp .rem 3 (.tmp 14) (.const (.int .i64 8)) 3) 3 [(14, qv 1)] ([], []) (qv 6) 1 <|
 .calc2 (.binOp .lss 3 (.tmp 13) (.tmp 15) 3) 4 [(13, qv 5), (15, qv 6)] ([], []) qT 0 (
 .calc (.binOp .quo 3 (.tmp 19) (.const (.int .i64 2)) 3) 3 [(19, qv 4)] ([], []) (qv 7) 1 <|
 .calc (.binOp .add 3 (.tmp 17) (.const (.int .i64 1)) 3) 3 [(17, qv 5)] ([], []) (qv 8) 1 <|
 .again 0 [.atom (.var 7), .atom (.var 8)]) qF 0 <|
 .calc (.binOp .rem 3 (.tmp 21) (.const (.int .i64 2)) 3) 3 [(21, qv 4)] ([], []) (qv 7) 1 <|
 .ret ([], []) (qv 7)
theorem c_rbit : compF Try.prog Try.f76 o_rbit (Try.f76.body.getD .skip) (symIn [.atom (.var 0), .atom (.var 1)] Try.f76.ntmps 2) = some t_rbit := by kernel_rfl
theorem g_rbit : goodC Try.prog o_rbit.ords (Try.f76.body.getD .skip) = true := by kernel_rfl
def tb_rbit : FuncId × Trans := (76, tBit)
set_option maxRecDepth 100000 in
theorem aw_rbit : ∀ zs Q, tb_rbit.2 zs Q → bindLs 0 [.atom (.var 0), .atom (.var 1)] zs fun ae => bif Nat.beq ae.length 2 then AWp Try.prog tabB Q t_rbit [] ae else False := by
 intro zs Q h
 replace h : tBit zs Q := h
 unfold tBit at h
 split at h
 case h_2 => exact h.elim
 rename_i l i
 obtain ⟨⟨hb, hl, hi⟩, h⟩ := h
 unfold I64 at hi
 by_cases h0 : i < 0
 ·rw [bitZ_neg h0] at h
  repeat ((conv => whnf) <;> first | refine wI (by omega) ?_ | refine wR (by omega) ?_ | refine wQ (by omega) ?_ | with_reducible refine And.intro rfl ?_ | with_reducible refine And.intro (by assumption) ?_ | refine And.intro (fun hh => by cases hh) ?_ | refine And.intro (by omega) ?_ | refine cTd (by omega) ?_ | refine cFd (by omega) ?_)
  (conv => whnf)
  exact h
 ·repeat ((conv => whnf) <;> first | refine wI (by omega) ?_ | refine wR (by omega) ?_ | refine wQ (by omega) ?_ | with_reducible refine And.intro rfl ?_ | with_reducible refine And.intro (by assumption) ?_ | refine And.intro (fun hh => by cases hh) ?_ | refine And.intro (by omega) ?_ | refine cTd (by omega) ?_ | refine cFd (by omega) ?_)
  refine ⟨⟨by omega, hb, hl⟩, ?_⟩
  repeat ((conv => whnf) <;> first | refine wI (by omega) ?_ | refine wR (by omega) ?_ | refine wQ (by omega) ?_ | with_reducible refine And.intro rfl ?_ | with_reducible refine And.intro (by assumption) ?_ | refine And.intro (fun hh => by cases hh) ?_ | refine And.intro (by omega) ?_ | refine cTd (by omega) ?_ | refine cFd (by omega) ?_)
  have hB := by_getD' hb (i / 8).toNat
  have key : ∀ k : Nat, k = (i % 8).toNat → l.getD (i / 8).toNat 0 / 2 ^ k % 2 = bitZ l i := by
   rintro k rfl
   have e1 : i = ((i.toNat : Nat) : Int) := by omega
   have e2 : (i / 8).toNat = i.toNat / 8 := by omega
   have e3 : (i % 8).toNat = i.toNat % 8 := by omega
   rw [e2, e3, nval_bit' hb, ← bitZ_nat, ← e1]
  generalize l.getD (i / 8).toNat 0 = B at *
  refine ⟨Nat, fun k zs => k ≤ (i % 8).toNat ∧ zs = [.int .i64 (B / 2 ^ k), .int .i64 (k : Int)], fun k => (i % 8).toNat - k, 0, ?_, ?_⟩
  ·(conv => whnf)
   exact ⟨_, Subs.refl' _, Nat.zero_le _, zs2i (by simp) rfl⟩
  rintro k _ ⟨hk, rfl⟩
  have hs := shr_bd hB k
  have hkey := key k
  by_cases hlt : (k : Int) < i % 8
  ·have hs2 := hs.2.2
   generalize B / 2 ^ k = x at hs hs2
   repeat ((conv => whnf) <;> first | refine wI (by omega) ?_ | refine wR (by omega) ?_ | refine wQ (by omega) ?_ | with_reducible refine And.intro rfl ?_ | with_reducible refine And.intro (by assumption) ?_ | refine And.intro (fun hh => by cases hh) ?_ | refine And.intro (by omega) ?_ | refine cTd (by omega) ?_ | refine cFd (by omega) ?_)
   (conv => whnf)
   exact ⟨_, Subs.refl' _, k + 1, ⟨by omega, zs2i hs2.symm (by omega)⟩, by show (i % 8).toNat - (k + 1) < (i % 8).toNat - k; omega⟩
  ·rw [← hkey (by omega)] at h
   generalize B / 2 ^ k = x at hs h
   repeat ((conv => whnf) <;> first | refine wI (by omega) ?_ | refine wR (by omega) ?_ | refine wQ (by omega) ?_ | with_reducible refine And.intro rfl ?_ | with_reducible refine And.intro (by assumption) ?_ | refine And.intro (fun hh => by cases hh) ?_ | refine And.intro (by omega) ?_ | refine cTd (by omega) ?_ | refine cFd (by omega) ?_)
   (conv => whnf)
   exact h
theorem tb_rbit_ok : Con Try.prog tb_rbit.1 tb_rbit.2 := con_tree tabB_ok o_rbit [.atom (.var 0), .atom (.var 1)] 2 Try.func76 rfl c_rbit aw_rbit g_rbit
def tabBi : Tab := tb_rbit :: []
theorem tabBi_ok : tabBi.OK Try.prog := tab_cons tb_rbit_ok <| tab_nil _
def o_rlen : Orc := { ans := [(5, oV), (6, oV), (8, oB), (12, oV), (13, oV), (14, oB), (15, oV), (17, oV)], lps := [(0, [.slot 3 [.one]])] }
def t_rlen : Tree :=
 .calc (.call { callee := .builtin .len, args := #[.tmp 4], argTypes := #[22] }) 3 [(4, qv 0)] ([], []) (qv 1) 1 <|
 .calc (.binOp .mul 3 (.const (.int .i64 8)) (.tmp 5) 3) 3 [(5, qv 1)] ([], []) (qv 2) 1 <|
 .loop [.atom (.var 2)] [.one] <|
 .calc2 (.binOp .gtr 3 (.tmp 7) (.const (.int .i64 0)) 3) 4 [(7, qv 3)] ([], []) qT 0 (
 .calc (.binOp .sub 3 (.tmp 11) (.const (.int .i64 1)) 3) 3 [(11, qv 3)] ([], []) (qv 4) 1 <|
 .call 76 [.atom (.var 0), .atom (.var 4)] ([], []) (qv 5) 1 [] <|
 .calc2 (.binOp .eql 3 (.tmp 13) (.const (.int .i64 0)) 3) 4 [(13, qv 5)] ([], []) qT 0 (
 .calc (.binOp .sub 3 (.tmp 16) (.const (.int .i64 1)) 3) 3 [(16, qv 3)] ([], []) (qv 6) 1 <|
 .again 0 [.atom (.var 6)]) qF 0 <|
 .ret ([], []) (qv 3)) qF 0 <|
 .ret ([], []) (qv 3)
theorem c_rlen : compF Try.prog Try.f75 o_rlen (Try.f75.body.getD .skip) (symIn [.atom (.var 0)] Try.f75.ntmps 1) = some t_rlen := by kernel_rfl
theorem g_rlen : goodC Try.prog o_rlen.ords (Try.f75.body.getD .skip) = true := by kernel_rfl
def tb_rlen : FuncId × Trans := (75, tLen)
set_option maxRecDepth 100000 in
theorem aw_rlen : ∀ zs Q, tb_rlen.2 zs Q → bindLs 0 [.atom (.var 0)] zs fun ae => bif Nat.beq ae.length 1 then AWp Try.prog tabBi Q t_rlen [] ae else False := by
 intro zs Q h
 replace h : tLen zs Q := h
 unfold tLen at h
 split at h
 case h_2 => exact h.elim
 rename_i l
 obtain ⟨⟨hb, hl⟩, h⟩ := h
 repeat ((conv => whnf) <;> first | refine wI (by omega) ?_ | refine wB (by omega) ?_ | with_reducible refine And.intro rfl ?_ | with_reducible refine And.intro (by assumption) ?_ | refine And.intro (fun hh => by cases hh) ?_ | refine And.intro (by omega) ?_ | refine cTd (by omega) ?_ | refine cFd (by omega) ?_)
 refine ⟨Nat, fun k zs => k ≤ 8 * l.length ∧ lenR (nval l) k = lenB l ∧ zs = [.int .i64 (k : Int)], fun k => k, 8 * l.length, ?_, ?_⟩
 ·(conv => whnf)
  exact ⟨_, Subs.refl' _, Nat.le_refl _, rfl, zs1 (by omega)⟩
 rintro k _ ⟨hk, hc, rfl⟩
 cases k with
 | zero =>
  have e : ((0 : Nat) : Int) = (lenB l : Int) := by rw [← hc]; rfl
  rw [← e] at h
  repeat ((conv => whnf) <;> first | refine wI (by omega) ?_ | refine wB (by omega) ?_ | with_reducible refine And.intro rfl ?_ | with_reducible refine And.intro (by assumption) ?_ | refine And.intro (fun hh => by cases hh) ?_ | refine And.intro (by omega) ?_ | refine cTd (by omega) ?_ | refine cFd (by omega) ?_)
  (conv => whnf)
  exact h
 | succ m =>
  have hor := bitZ_or l (((m + 1 : Nat) : Int) - 1)
  have hbz : bitZ l (((m + 1 : Nat) : Int) - 1) = ((nval l / 2 ^ m % 2 : Nat) : Int) := by rw [show (((m + 1 : Nat) : Int) - 1) = (m : Int) by omega, bitZ_nat]
  rw [lenR_s] at hc
  by_cases hz : bitZ l (((m + 1 : Nat) : Int) - 1) = 0
  ·rw [if_pos (by omega)] at hc
   repeat ((conv => whnf) <;> first | refine wI (by omega) ?_ | refine wB (by omega) ?_ | with_reducible refine And.intro rfl ?_ | with_reducible refine And.intro (by assumption) ?_ | refine And.intro (fun hh => by cases hh) ?_ | refine And.intro (by omega) ?_ | refine cTd (by omega) ?_ | refine cFd (by omega) ?_)
   refine ⟨⟨hb, hl, by unfold I64; omega⟩, ?_⟩
   repeat ((conv => whnf) <;> first | refine wI (by omega) ?_ | refine wB (by omega) ?_ | with_reducible refine And.intro rfl ?_ | with_reducible refine And.intro (by assumption) ?_ | refine And.intro (fun hh => by cases hh) ?_ | refine And.intro (by omega) ?_ | refine cTd (by omega) ?_ | refine cFd (by omega) ?_)
   (conv => whnf)
   exact ⟨_, Subs.refl' _, m, ⟨by omega, hc, zs1 (by omega)⟩, Nat.lt_succ_self m⟩
  ·rw [if_neg (by omega)] at hc
   rw [← hc] at h
   repeat ((conv => whnf) <;> first | refine wI (by omega) ?_ | refine wB (by omega) ?_ | with_reducible refine And.intro rfl ?_ | with_reducible refine And.intro (by assumption) ?_ | refine And.intro (fun hh => by cases hh) ?_ | refine And.intro (by omega) ?_ | refine cTd (by omega) ?_ | refine cFd (by omega) ?_)
   refine ⟨⟨hb, hl, by unfold I64; omega⟩, ?_⟩
   repeat ((conv => whnf) <;> first | refine wI (by omega) ?_ | refine wB (by omega) ?_ | with_reducible refine And.intro rfl ?_ | with_reducible refine And.intro (by assumption) ?_ | refine And.intro (fun hh => by cases hh) ?_ | refine And.intro (by omega) ?_ | refine cTd (by omega) ?_ | refine cFd (by omega) ?_)
   (conv => whnf)
   exact h
theorem tb_rlen_ok : Con Try.prog tb_rlen.1 tb_rlen.2 := con_tree tabBi_ok o_rlen [.atom (.var 0)] 1 Try.func75 rfl c_rlen aw_rlen g_rlen
end Go.Proofs.Ytohebkkiicbdoaa
