/- Combs, plain. -/
import Derived.Test.YtamgmkeoaaaliaaGreatJ13
import Derived.Laws.Bits64
import Derived.Laws.Bits64b
set_option linter.unusedSimpArgs false
set_option linter.unusedVariables false
namespace Go.Proofs.YtamgmkeoaaaliaaGreat
open FdP FdP.Ch
theorem xor_u64 {a b : Int} (ha : 0 ≤ a ∧ a < 18446744073709551616) (hb : 0 ≤ b ∧ b < 18446744073709551616) :
    (0 ≤ bits .xor .u64 a b ∧ bits .xor .u64 a b < 18446744073709551616) ∧ (bits .xor .u64 a b = 0 ↔ a = b) := by
  obtain ⟨n, rfl⟩ := Int.eq_ofNat_of_zero_le ha.1
  obtain ⟨m, rfl⟩ := Int.eq_ofNat_of_zero_le hb.1
  have hx : n ^^^ m < 2 ^ 64 := Nat.xor_lt_two_pow (by omega) (by omega)
  rw [bits_xor_u64_nat n m (by omega) (by omega)]
  refine ⟨by omega, ?_⟩
  constructor
  · intro h
    have h' : n ^^^ m = 0 := by omega
    have : n = m := by
      have := congrArg (n ^^^ ·) h'
      simp only [← Nat.xor_assoc, Nat.xor_self, Nat.zero_xor, Nat.xor_zero] at this
      exact this.symm
    omega
  · intro h
    have : n = m := by omega
    subst this
    rw [Nat.xor_self]; rfl
theorem top_u64 {x r : Int} (hx : 0 ≤ x ∧ x < 18446744073709551616) (hr : 0 ≤ r ∧ r < 18446744073709551616) (h : x = 0 ∧ r = 0 ∨ 0 < x ∧ x + r = 18446744073709551616) :
    (bits .or .u64 x r).fdiv (2 ^ 63) = if x = 0 then 0 else 1 := by
  obtain ⟨n, rfl⟩ := Int.eq_ofNat_of_zero_le hx.1
  obtain ⟨m, rfl⟩ := Int.eq_ofNat_of_zero_le hr.1
  have ho : n ||| m < 2 ^ 64 := Nat.or_lt_two_pow (by omega) (by omega)
  rw [bits_or_u64_nat n m (by omega) (by omega), Int.fdiv_eq_ediv_of_nonneg _ (by omega)]
  rcases h with ⟨h1, h2⟩ | ⟨h1, h2⟩
  · have e1 : n = 0 := by omega
    have e2 : m = 0 := by omega
    subst e1; subst e2
    decide
  · rw [if_neg (by omega)]
    have l1 : n ≤ n ||| m := Nat.left_le_or
    have l2 : m ≤ n ||| m := Nat.right_le_or
    generalize n ||| m = k at *
    omega

def powL (p : G) (ap : Nat) : Nat → List G
  | 0 => []
  | n + 1 => powL p ap n ++ [mulG (2 ^ (ap * n)) p]
theorem powL_s (p : G) (ap n : Nat) : powL p ap (n + 1) = powL p ap n ++ [mulG (2 ^ (ap * n)) p] := rfl
theorem powL_len (p : G) (ap : Nat) : ∀ n, (powL p ap n).length = n
  | 0 => rfl
  | n + 1 => by rw [powL_s]; simp [powL_len p ap n]
theorem powL_get (p : G) (ap : Nat) : ∀ n i, i < n → (powL p ap n).getD i 0 = mulG (2 ^ (ap * i)) p
  | 0, i, h => by omega
  | n + 1, i, h => by
    rw [powL_s, List.getD_eq_getElem?_getD, List.getElem?_append, powL_len]
    by_cases hi : i < n
    · rw [if_pos hi, ← List.getD_eq_getElem?_getD, powL_get p ap n i hi]
    · have : i = n := by omega
      subst this
      rw [if_neg hi, Nat.sub_self]; rfl
theorem pow_step (p : G) (ap n : Nat) : mulG (2 ^ ap) (mulG (2 ^ (ap * n)) p) = mulG (2 ^ (ap * (n + 1))) p := by
  rw [← mulG_mul, ← Nat.pow_add]; congr 2; rw [Nat.mul_succ]; omega
theorem dbl_step (p : G) (j : Nat) : mulG (2 ^ j) p + mulG (2 ^ j) p = mulG (2 ^ (j + 1)) p := by
  rw [← mulG_add]; congr 1; rw [Nat.pow_succ]; omega
def tabL (q : Nat → G) : Nat → List G
  | 0 => [0]
  | j + 1 => tabL q j ++ (tabL q j).map (· + q j)
theorem tabL_s (q : Nat → G) (j : Nat) : tabL q (j + 1) = tabL q j ++ (tabL q j).map (· + q j) := rfl
theorem tabL_len (q : Nat → G) : ∀ j, (tabL q j).length = 2 ^ j
  | 0 => rfl
  | j + 1 => by rw [tabL_s, List.length_append, List.length_map, tabL_len q j, Nat.pow_succ]; omega
def sumB (q : Nat → G) : Nat → Nat → G
  | 0, _ => 0
  | j + 1, i => sumB q j i + (if i / 2 ^ j % 2 = 1 then q j else 0)
theorem sumB_s (q : Nat → G) (j i : Nat) : sumB q (j + 1) i = sumB q j i + (if i / 2 ^ j % 2 = 1 then q j else 0) := rfl
theorem bit_low (i k j : Nat) (h : j < k) : i % 2 ^ k / 2 ^ j % 2 = i / 2 ^ j % 2 := by
  have e : 2 ^ k = 2 ^ j * (2 * 2 ^ (k - j - 1)) := by rw [← Nat.pow_succ', ← Nat.pow_add]; congr 1; omega
  rw [e, Nat.mod_mul_right_div_self, Nat.mod_mul_right_mod]
theorem sumB_low (q : Nat → G) (k i : Nat) : ∀ j, j ≤ k → sumB q j (i % 2 ^ k) = sumB q j i
  | 0, _ => rfl
  | j + 1, h => by rw [sumB_s, sumB_s, sumB_low q k i j (by omega), bit_low i k j (by omega)]
theorem getD_map_add {l : List G} {c : G} {i : Nat} (h : i < l.length) : (l.map (· + c)).getD i 0 = l.getD i 0 + c := by
  simp [List.getD, h]
theorem tabL_get (q : Nat → G) : ∀ j i, i < 2 ^ j → (tabL q j).getD i 0 = sumB q j i
  | 0, i, h => by
    have : i = 0 := by simpa using h
    subst this; rfl
  | j + 1, i, h => by
    rw [tabL_s, List.getD_eq_getElem?_getD, List.getElem?_append, tabL_len, sumB_s]
    have hp : 0 < 2 ^ j := Nat.pow_pos (by omega)
    by_cases hi : i < 2 ^ j
    · rw [if_pos hi, ← List.getD_eq_getElem?_getD, tabL_get q j i hi, if_neg (by rw [Nat.div_eq_of_lt hi]; omega), G.add_zero]
    · have hlt : i - 2 ^ j < 2 ^ j := by rw [Nat.pow_succ] at h; omega
      rw [if_neg hi, ← List.getD_eq_getElem?_getD, getD_map_add (by rw [tabL_len]; exact hlt), tabL_get q j _ hlt]
      have e1 : i - 2 ^ j = i % 2 ^ j := by rw [Nat.mod_eq_sub_mod (by omega), Nat.mod_eq_of_lt hlt]
      have e2 : i / 2 ^ j = 1 := by
        have h1 : i / 2 ^ j < 2 := by rw [Nat.div_lt_iff_lt_mul hp]; rw [Nat.pow_succ] at h; omega
        have h2 : 1 ≤ i / 2 ^ j := by rw [Nat.le_div_iff_mul_le hp]; omega
        omega
      rw [e1, sumB_low q j i j (Nat.le_refl j), e2, if_pos (by omega)]
def worN (ap : Nat) : Nat → Nat → Nat
  | 0, _ => 0
  | j + 1, i => worN ap j i + (if i / 2 ^ j % 2 = 1 then 2 ^ (ap * j) else 0)
theorem worN_s (ap j i : Nat) : worN ap (j + 1) i = worN ap j i + (if i / 2 ^ j % 2 = 1 then 2 ^ (ap * j) else 0) := rfl
theorem sumB_wor (p : G) (ap i : Nat) : ∀ j, sumB (fun j => mulG (2 ^ (ap * j)) p) j i = mulG (worN ap j i) p
  | 0 => rfl
  | j + 1 => by
    rw [sumB_s, worN_s, sumB_wor p ap i j, mulG_add]
    split
    · rfl
    · rw [mulG_zero]
end Go.Proofs.YtamgmkeoaaaliaaGreat
