/- Digits, plain: bits, windows, digits that may be below 0; multiples by them. -/
import Derived.Test.YtamgmkeoaaaliaaGreatCmp
import Derived.Test.YtamgmkeoaaaliaaGreatJ13
import Derived.Test.YtamgmkeoaaaliaaGreatRta
set_option linter.unusedSimpArgs false
set_option linter.unusedVariables false
namespace Go.Proofs.YtamgmkeoaaaliaaGreat
open FdP FdP.Ch

theorem wrap_i64_if (n : Int) : IntKind.i64.wrap n = (if n % 18446744073709551616 ≥ 9223372036854775808 then n % 18446744073709551616 - 18446744073709551616 else n % 18446744073709551616) := by
  simp [IntKind.wrap, IntKind.bits, IntKind.signed]
theorem wrap_i64 {n : Int} (h : -9223372036854775808 ≤ n ∧ n < 9223372036854775808) : IntKind.i64.wrap n = n := by
  rw [wrap_i64_if]
  split <;> omega
theorem bits_or_i64 (a b : Nat) (ha : a < 9223372036854775808) (hb : b < 9223372036854775808) : bits .or .i64 (a : Int) (b : Int) = ((a ||| b : Nat) : Int) := by
  have hx : a ||| b < 2 ^ 63 := Nat.or_lt_two_pow (by omega) (by omega)
  have h1 : (BitVec.ofInt 64 (a : Int)).toNat = a := by
    rw [BitVec.ofInt_natCast, BitVec.toNat_ofNat]; exact Nat.mod_eq_of_lt (by omega)
  have h2 : (BitVec.ofInt 64 (b : Int)).toNat = b := by
    rw [BitVec.ofInt_natCast, BitVec.toNat_ofNat]; exact Nat.mod_eq_of_lt (by omega)
  show IntKind.i64.wrap ((BitVec.ofInt 64 (a : Int) ||| BitVec.ofInt 64 (b : Int)).toNat : Int) = _
  rw [BitVec.toNat_or, h1, h2, wrap_i64 (by omega)]
theorem bit_rd {l : List Int} (hb : By l) {i : Int} (h0 : 0 ≤ i) (hi : i < 8 * (l.length : Int)) :
    bits .and .u8 ((l.getD (i / 8).toNat 0).fdiv (2 ^ (min (i % 8).toNat IntKind.u8.bits))) 1 = ((nval l / 2 ^ i.toNat % 2 : Nat) : Int) := by
  obtain ⟨m, rfl⟩ := Int.eq_ofNat_of_zero_le h0
  have e1 : ((m : Int) / 8).toNat = m / 8 := by omega
  have e2 : min ((m : Int) % 8).toNat IntKind.u8.bits = m % 8 := by show min ((m : Int) % 8).toNat 8 = m % 8; omega
  have hg := by_getD' hb (m / 8)
  rw [e1, e2]
  have hp : (0 : Int) < 2 ^ (m % 8) := Int.pow_pos (by omega)
  have hf : (l.getD (m / 8) 0).fdiv (2 ^ (m % 8)) = l.getD (m / 8) 0 / 2 ^ (m % 8) := Int.fdiv_eq_ediv_of_nonneg _ (Int.le_of_lt hp)
  have hs := shr_bd hg (m % 8)
  rw [hf, u8_and1 _ ⟨hs.1, hs.2.1⟩, nval_bit hb (by omega)]
  rfl
theorem bit_no {l : List Int} (hb : By l) {i : Int} (hi : 8 * (l.length : Int) ≤ i) : ((nval l / 2 ^ i.toNat % 2 : Nat) : Int) = 0 := by
  have h := nval_lt hb
  have : nval l / 2 ^ i.toNat = 0 := Nat.div_eq_of_lt (Nat.lt_of_lt_of_le h (Nat.pow_le_pow_right (by omega) (by omega)))
  rw [this]; rfl
def winN (N fr st : Nat) : Nat → Nat
  | 0 => 0
  | k + 1 => winN N fr st k + N / 2 ^ (fr + k * st) % 2 * 2 ^ k
theorem winN_s (N fr st k : Nat) : winN N fr st (k + 1) = winN N fr st k + N / 2 ^ (fr + k * st) % 2 * 2 ^ k := rfl
theorem winN_lt (N fr st : Nat) : ∀ k, winN N fr st k < 2 ^ k
  | 0 => by simp [winN]
  | k + 1 => by
    have h := winN_lt N fr st k
    rw [winN_s, Nat.pow_succ]
    have : N / 2 ^ (fr + k * st) % 2 * 2 ^ k ≤ 1 * 2 ^ k := Nat.mul_le_mul_right _ (by omega)
    omega
theorem winN_or (N fr st k : Nat) : winN N fr st k ||| N / 2 ^ (fr + k * st) % 2 * 2 ^ k = winN N fr st (k + 1) := by
  have h := Nat.shiftLeft_add_eq_or_of_lt (winN_lt N fr st k) (N / 2 ^ (fr + k * st) % 2)
  rw [winN_s, ← Nat.shiftLeft_eq, Nat.or_comm, ← h, Nat.add_comm]
theorem win_i64 {N fr st k : Nat} {b : Int} (hk : k < 40) (hb : b = ((N / 2 ^ (fr + k * st) % 2 : Nat) : Int)) :
    bits .or .i64 (winN N fr st k : Nat) (IntKind.i64.wrap (b * 2 ^ (min ((k : Int)).toNat IntKind.i64.bits))) = ((winN N fr st (k + 1) : Nat) : Int) := by
  have e0 : min ((k : Int)).toNat IntKind.i64.bits = k := by show min ((k : Int)).toNat 64 = k; omega
  have l1 := winN_lt N fr st k
  have l2 : (2 : Nat) ^ k ≤ 2 ^ 40 := Nat.pow_le_pow_right (by omega) (by omega)
  have l3 : N / 2 ^ (fr + k * st) % 2 * 2 ^ k ≤ 1 * 2 ^ k := Nat.mul_le_mul_right _ (by omega)
  have l4 : (2 : Nat) ^ 40 = 1099511627776 := by decide
  have e1 : b * 2 ^ k = ((N / 2 ^ (fr + k * st) % 2 * 2 ^ k : Nat) : Int) := by rw [hb]; push_cast; rfl
  rw [e0, e1, wrap_i64 (by omega), bits_or_i64 _ _ (by omega) (by omega), winN_or]
def nD (b : List Int) (w : Int) : Nat := ((8 * (b.length : Int) + w - 1) / w).toNat
theorem nD_cover {b : List Int} {w : Int} (hb : By b) (hw : 1 ≤ w) : nval b < 2 ^ (w.toNat * nD b w) := by
  refine Nat.lt_of_lt_of_le (nval_lt hb) (Nat.pow_le_pow_right (by omega) ?_)
  obtain ⟨v, rfl⟩ := Int.eq_ofNat_of_zero_le (show 0 ≤ w by omega)
  have e : nD b (v : Int) = (8 * b.length + v - 1) / v := by
    unfold nD
    have : (8 * (b.length : Int) + (v : Int) - 1) = ((8 * b.length + v - 1 : Nat) : Int) := by omega
    rw [this, ← Int.natCast_ediv]; rfl
  rw [e]
  show 8 * b.length ≤ v * _
  have := Nat.div_add_mod (8 * b.length + v - 1) v
  have := Nat.mod_lt (8 * b.length + v - 1) (show 0 < v by omega)
  omega
end Go.Proofs.YtamgmkeoaaaliaaGreat
