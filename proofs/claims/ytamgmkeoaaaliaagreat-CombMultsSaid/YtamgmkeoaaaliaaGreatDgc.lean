/- Columns of a comb, plain. -/
import Derived.Test.YtamgmkeoaaaliaaGreatDgp
set_option linter.unusedSimpArgs false
set_option linter.unusedVariables false
namespace Go.Proofs.YtamgmkeoaaaliaaGreat
open FdP FdP.Ch
theorem winN_bit (N fr st : Nat) : ∀ t k, k < t → winN N fr st t / 2 ^ k % 2 = N / 2 ^ (fr + k * st) % 2
  | 0, k, h => by omega
  | t + 1, k, h => by
    have hl := winN_lt N fr st t
    by_cases hk : k < t
    · have e : winN N fr st (t + 1) % 2 ^ t = winN N fr st t := by
        rw [winN_s, Nat.add_mul_mod_self_right, Nat.mod_eq_of_lt hl]
      rw [← bit_low (winN N fr st (t + 1)) t k hk, e, winN_bit N fr st t k hk]
    · have : k = t := by omega
      subst this
      have hp : 0 < 2 ^ k := Nat.pow_pos (by omega)
      rw [winN_s, Nat.add_mul_div_right _ _ hp, Nat.div_eq_of_lt hl, Nat.zero_add, Nat.mod_mod]
def colW (N m i : Nat) : Nat → Nat
  | 0 => 0
  | k + 1 => colW N m i k + N / 2 ^ (i + k * m) % 2 * 2 ^ (m * k)
theorem colW_s (N m i k : Nat) : colW N m i (k + 1) = colW N m i k + N / 2 ^ (i + k * m) % 2 * 2 ^ (m * k) := rfl
theorem wor_win (N m i t : Nat) : ∀ k, k ≤ t → worN m k (winN N i m t) = colW N m i k
  | 0, _ => rfl
  | k + 1, h => by
    rw [worN_s, colW_s, wor_win N m i t k (by omega), winN_bit N i m t k (by omega)]
    rcases (by omega : N / 2 ^ (i + k * m) % 2 = 0 ∨ N / 2 ^ (i + k * m) % 2 = 1) with e | e
    · rw [e, if_neg (by omega), Nat.zero_mul]
    · rw [e, if_pos rfl, Nat.one_mul]
def colV (N m i : Nat) : Nat → Nat
  | 0 => 0
  | k + 1 => colV N m i k + N / 2 ^ (k * m) % 2 ^ m / 2 ^ i * 2 ^ (m * k)
theorem colV_s (N m i k : Nat) : colV N m i (k + 1) = colV N m i k + N / 2 ^ (k * m) % 2 ^ m / 2 ^ i * 2 ^ (m * k) := rfl
theorem colV_step {m i : Nat} (N : Nat) (h : i < m) : ∀ k, colV N m i k = 2 * colV N m (i + 1) k + colW N m i k
  | 0 => rfl
  | k + 1 => by
    have e1 : N / 2 ^ (k * m) % 2 ^ m / 2 ^ i = 2 * (N / 2 ^ (k * m) % 2 ^ m / 2 ^ (i + 1)) + N / 2 ^ (i + k * m) % 2 := by
      have h1 : N / 2 ^ (k * m) % 2 ^ m / 2 ^ i % 2 = N / 2 ^ (i + k * m) % 2 := by
        rw [bit_low _ m i h, Nat.div_div_eq_div_mul, ← Nat.pow_add, Nat.add_comm (k * m) i]
      have h2 : N / 2 ^ (k * m) % 2 ^ m / 2 ^ (i + 1) = N / 2 ^ (k * m) % 2 ^ m / 2 ^ i / 2 := by
        rw [Nat.pow_succ, Nat.div_div_eq_div_mul]
      rw [← h1, h2]
      omega
    rw [colV_s, colV_s, colW_s, colV_step N h k, e1, Nat.add_mul, Nat.mul_assoc 2]
    omega
theorem colV_top (N m : Nat) : ∀ k, colV N m m k = 0
  | 0 => rfl
  | k + 1 => by
    rw [colV_s, colV_top N m k, Nat.div_eq_of_lt (Nat.mod_lt _ (Nat.pow_pos (by omega))), Nat.zero_mul]
theorem colV_zero (N m : Nat) : ∀ k, colV N m 0 k = N % 2 ^ (m * k)
  | 0 => by rw [Nat.mul_zero, Nat.pow_zero, Nat.mod_one]; rfl
  | k + 1 => by
    rw [colV_s, colV_zero N m k, Nat.pow_zero, Nat.div_one, Nat.mul_succ, Nat.pow_add, Nat.mod_mul, Nat.mul_comm k m, Nat.mul_comm (N / 2 ^ (m * k) % 2 ^ m)]
theorem colV_all {N m t : Nat} (h : N < 2 ^ (m * t)) : colV N m 0 t = N := by rw [colV_zero, Nat.mod_eq_of_lt h]
def coL (N m t : Nat) : Nat → List Int
  | 0 => []
  | i + 1 => coL N m t i ++ [(winN N i m t : Int)]
theorem coL_s (N m t i : Nat) : coL N m t (i + 1) = coL N m t i ++ [(winN N i m t : Int)] := rfl
theorem coL_len (N m t : Nat) : ∀ i, (coL N m t i).length = i
  | 0 => rfl
  | i + 1 => by rw [coL_s]; simp [coL_len N m t i]
theorem coL_get (N m t : Nat) : ∀ n i, i < n → (coL N m t n).getD i 0 = (winN N i m t : Int)
  | 0, i, h => by omega
  | n + 1, i, h => by
    rw [coL_s, List.getD_eq_getElem?_getD, List.getElem?_append, coL_len]
    by_cases hi : i < n
    · rw [if_pos hi, ← List.getD_eq_getElem?_getD, coL_get N m t n i hi]
    · have : i = n := by omega
      subst this
      rw [if_neg hi, Nat.sub_self]; rfl
end Go.Proofs.YtamgmkeoaaaliaaGreat
