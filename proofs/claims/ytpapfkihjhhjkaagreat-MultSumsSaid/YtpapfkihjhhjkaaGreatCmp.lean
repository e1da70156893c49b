/- Combs, plain. -/
import Derived.Test.YtpapfkihjhhjkaaGreatJ13
import Derived.Laws.Bits64
import Derived.Laws.Bits64b
set_option linter.unusedSimpArgs false
set_option linter.unusedVariables false
namespace Go.Proofs.YtpapfkihjhhjkaaGreat
open FdP FdP.Ch
theorem xor_u64 {a b : Int} (ha : 0 ≤ a ∧ a < 18446744073709551616) (hb : 0 ≤ b ∧ b < 18446744073709551616) :
 (0 ≤ bits .xor .u64 a b ∧ bits .xor .u64 a b < 18446744073709551616) ∧ (bits .xor .u64 a b = 0 ↔ a = b) := by
 obtain ⟨n, rfl⟩ := Int.eq_ofNat_of_zero_le ha.1
 obtain ⟨m, rfl⟩ := Int.eq_ofNat_of_zero_le hb.1
 have hx : n ^^^ m < 2 ^ 64 := Nat.xor_lt_two_pow (by omega) (by omega)
 rw [bits_xor_u64_nat n m (by omega) (by omega)]
 refine ⟨by omega, ?_⟩
 constructor
 ·intro h
  have h' : n ^^^ m = 0 := by omega
  have : n = m := by
   have := congrArg (n ^^^ ·) h'
   simp only [← Nat.xor_assoc, Nat.xor_self, Nat.zero_xor, Nat.xor_zero] at this
   exact this.symm
  omega
 ·intro h
  have : n = m := by omega
  subst this
  rw [Nat.xor_self]; rfl
theorem top_u64 {x r : Int} (hx : 0 ≤ x ∧ x < 18446744073709551616) (hr : 0 ≤ r ∧ r < 18446744073709551616) (h : x = 0 ∧ r = 0 ∨ 0 < x ∧ x + r = 18446744073709551616) :
 (bits .or .u64 x r).fdiv (2 ^ 63) = if x = 0 then 0 else 1 := by
 obtain ⟨n, rfl⟩ := Int.eq_ofNat_of_zero_le hx.1
 obtain ⟨m, rfl⟩ := Int.eq_ofNat_of_zero_le hr.1
 have ho : n ||| m < 2 ^ 64 := Nat.or_lt_two_pow (by omega) (by omega)
 rw [bits_or_u64_nat n m (by omega) (by omega), Int.fdiv_eq_ediv_of_nonneg _ (by omega)]
 rcases h with ⟨h1, h2⟩ | ⟨h1, h2⟩
 ·have e1 : n = 0 := by omega
  have e2 : m = 0 := by omega
  subst e1; subst e2
  decide
 ·rw [if_neg (by omega)]
  have l1 : n ≤ n ||| m := Nat.left_le_or
  have l2 : m ≤ n ||| m := Nat.right_le_or
  generalize n ||| m = k at *
  omega

theorem dbl_step (p : G) (j : Nat) : mulG (2 ^ j) p + mulG (2 ^ j) p = mulG (2 ^ (j + 1)) p := by
 rw [← mulG_add]; congr 1; rw [Nat.pow_succ]; omega
end Go.Proofs.YtpapfkihjhhjkaaGreat
