/- Digits, plain: bits, windows, digits that may be below 0; multiples by them. -/
import Derived.Test.YtpapfkihjhhjkaaGreatCmp
import Derived.Test.YtpapfkihjhhjkaaGreatJ13
import Derived.Test.YtpapfkihjhhjkaaGreatRta
set_option linter.unusedSimpArgs false
set_option linter.unusedVariables false
namespace Go.Proofs.YtpapfkihjhhjkaaGreat
open FdP FdP.Ch

theorem wrap_i64_if (n : Int) : IntKind.i64.wrap n = (if n % 18446744073709551616 ≥ 9223372036854775808 then n % 18446744073709551616 - 18446744073709551616 else n % 18446744073709551616) := by
 simp [IntKind.wrap, IntKind.bits, IntKind.signed]
theorem wrap_i64 {n : Int} (h : -9223372036854775808 ≤ n ∧ n < 9223372036854775808) : IntKind.i64.wrap n = n := by
 rw [wrap_i64_if]
 split <;> omega
theorem bits_or_i64 (a b : Nat) (ha : a < 9223372036854775808) (hb : b < 9223372036854775808) : bits .or .i64 (a : Int) (b : Int) = ((a ||| b : Nat) : Int) := by
 have hx : a ||| b < 2 ^ 63 := Nat.or_lt_two_pow (by omega) (by omega)
 have h1 : (BitVec.ofInt 64 (a : Int)).toNat = a := by
  rw [BitVec.ofInt_natCast, BitVec.toNat_ofNat]; exact Nat.mod_eq_of_lt (by omega)
 have h2 : (BitVec.ofInt 64 (b : Int)).toNat = b := by
  rw [BitVec.ofInt_natCast, BitVec.toNat_ofNat]; exact Nat.mod_eq_of_lt (by omega)
 show IntKind.i64.wrap ((BitVec.ofInt 64 (a : Int) ||| BitVec.ofInt 64 (b : Int)).toNat : Int) = _
 rw [BitVec.toNat_or, h1, h2, wrap_i64 (by omega)]
theorem ofInt_nat (d : Int) : ((BitVec.ofInt 64 d).toNat : Int) = d % 18446744073709551616 := by
 rw [BitVec.toNat_ofInt]
 have : ((2 ^ 64 : Nat) : Int) = 18446744073709551616 := by decide
 rw [this]
 omega
theorem bits_xor_i64_0 {d : Int} (h : -9223372036854775808 ≤ d ∧ d < 9223372036854775808) : bits .xor .i64 d 0 = d := by
 show IntKind.i64.wrap ((BitVec.ofInt 64 d ^^^ BitVec.ofInt 64 0).toNat : Int) = _
 have e : BitVec.ofInt 64 d ^^^ BitVec.ofInt 64 0 = BitVec.ofInt 64 d := by simp
 rw [e, ofInt_nat, wrap_i64_if]
 split <;> omega
theorem bits_xor_i64_m1 {d : Int} (h : -9223372036854775808 ≤ d ∧ d < 9223372036854775808) : bits .xor .i64 d (-1) = -1 - d := by
 show IntKind.i64.wrap ((BitVec.ofInt 64 d ^^^ BitVec.ofInt 64 (-1)).toNat : Int) = _
 have e1 : BitVec.ofInt 64 (-1) = BitVec.allOnes 64 := by decide
 have h2 := ofInt_nat d
 rw [e1, BitVec.xor_allOnes, BitVec.toNat_not]
 generalize (BitVec.ofInt 64 d).toNat = x at *
 rw [wrap_i64_if]
 have h3 : (2 : Nat) ^ 64 = 18446744073709551616 := by decide
 rw [h3]
 split <;> omega

theorem bit_rd {l : List Int} (hb : By l) {i : Int} (h0 : 0 ≤ i) (hi : i < 8 * (l.length : Int)) :
 bits .and .u8 ((l.getD (i / 8).toNat 0).fdiv (2 ^ (min (i % 8).toNat IntKind.u8.bits))) 1 = ((nval l / 2 ^ i.toNat % 2 : Nat) : Int) := by
 obtain ⟨m, rfl⟩ := Int.eq_ofNat_of_zero_le h0
 have e1 : ((m : Int) / 8).toNat = m / 8 := by omega
 have e2 : min ((m : Int) % 8).toNat IntKind.u8.bits = m % 8 := by show min ((m : Int) % 8).toNat 8 = m % 8; omega
 have hg := by_getD' hb (m / 8)
 rw [e1, e2]
 have hp : (0 : Int) < 2 ^ (m % 8) := Int.pow_pos (by omega)
 have hf : (l.getD (m / 8) 0).fdiv (2 ^ (m % 8)) = l.getD (m / 8) 0 / 2 ^ (m % 8) := Int.fdiv_eq_ediv_of_nonneg _ (Int.le_of_lt hp)
 have hs := shr_bd hg (m % 8)
 rw [hf, u8_and1 _ ⟨hs.1, hs.2.1⟩, nval_bit hb (by omega)]
 rfl
theorem bit_no {l : List Int} (hb : By l) {i : Int} (hi : 8 * (l.length : Int) ≤ i) : ((nval l / 2 ^ i.toNat % 2 : Nat) : Int) = 0 := by
 have h := nval_lt hb
 have : nval l / 2 ^ i.toNat = 0 := Nat.div_eq_of_lt (Nat.lt_of_lt_of_le h (Nat.pow_le_pow_right (by omega) (by omega)))
 rw [this]; rfl
def digE (N w i : Nat) : Nat := N / 2 ^ (w * i) % 2 ^ w
def plL (N w : Nat) : Nat → List Int
 | 0 => []
 | i + 1 => plL N w i ++ [(digE N w i : Int)]
theorem plL_s (N w i : Nat) : plL N w (i + 1) = plL N w i ++ [(digE N w i : Int)] := rfl
theorem plL_len (N w : Nat) : ∀ i, (plL N w i).length = i
 | 0 => rfl
 | i + 1 => by rw [plL_s]; simp [plL_len N w i]
def winN (N fr st : Nat) : Nat → Nat
 | 0 => 0
 | k + 1 => winN N fr st k + N / 2 ^ (fr + k * st) % 2 * 2 ^ k
theorem winN_s (N fr st k : Nat) : winN N fr st (k + 1) = winN N fr st k + N / 2 ^ (fr + k * st) % 2 * 2 ^ k := rfl
theorem winN_lt (N fr st : Nat) : ∀ k, winN N fr st k < 2 ^ k
 | 0 => by simp [winN]
 | k + 1 => by
  have h := winN_lt N fr st k
  rw [winN_s, Nat.pow_succ]
  have : N / 2 ^ (fr + k * st) % 2 * 2 ^ k ≤ 1 * 2 ^ k := Nat.mul_le_mul_right _ (by omega)
  omega
theorem winN_or (N fr st k : Nat) : winN N fr st k ||| N / 2 ^ (fr + k * st) % 2 * 2 ^ k = winN N fr st (k + 1) := by
 have h := Nat.shiftLeft_add_eq_or_of_lt (winN_lt N fr st k) (N / 2 ^ (fr + k * st) % 2)
 rw [winN_s, ← Nat.shiftLeft_eq, Nat.or_comm, ← h, Nat.add_comm]
theorem winN_one (N fr : Nat) : ∀ k, winN N fr 1 k = N / 2 ^ fr % 2 ^ k
 | 0 => by simp [winN, Nat.mod_one]
 | k + 1 => by
  rw [winN_s, winN_one N fr k, Nat.mul_one, Nat.pow_add, ← Nat.div_div_eq_div_mul, Nat.mod_pow_succ, Nat.mul_comm]
theorem win_i64 {N fr st k : Nat} {b : Int} (hk : k < 40) (hb : b = ((N / 2 ^ (fr + k * st) % 2 : Nat) : Int)) :
 bits .or .i64 (winN N fr st k : Nat) (IntKind.i64.wrap (b * 2 ^ (min ((k : Int)).toNat IntKind.i64.bits))) = ((winN N fr st (k + 1) : Nat) : Int) := by
 have e0 : min ((k : Int)).toNat IntKind.i64.bits = k := by show min ((k : Int)).toNat 64 = k; omega
 have l1 := winN_lt N fr st k
 have l2 : (2 : Nat) ^ k ≤ 2 ^ 40 := Nat.pow_le_pow_right (by omega) (by omega)
 have l3 : N / 2 ^ (fr + k * st) % 2 * 2 ^ k ≤ 1 * 2 ^ k := Nat.mul_le_mul_right _ (by omega)
 have l4 : (2 : Nat) ^ 40 = 1099511627776 := by decide
 have e1 : b * 2 ^ k = ((N / 2 ^ (fr + k * st) % 2 * 2 ^ k : Nat) : Int) := by rw [hb]; push_cast; rfl
 rw [e0, e1, wrap_i64 (by omega), bits_or_i64 _ _ (by omega) (by omega), winN_or]
def sgO (N w : Nat) : Nat → Nat
 | 0 => 0
 | i + 1 => if digE N w i + sgO N w i < 2 ^ (w - 1) then 0 else 1
theorem sgO_s (N w i : Nat) : sgO N w (i + 1) = if digE N w i + sgO N w i < 2 ^ (w - 1) then 0 else 1 := rfl
theorem sgO_le (N w : Nat) : ∀ i, sgO N w i ≤ 1
 | 0 => by simp [sgO]
 | i + 1 => by rw [sgO_s]; split <;> omega
def sgD (N w i : Nat) : Int := (digE N w i : Int) + sgO N w i - sgO N w (i + 1) * 2 ^ w
theorem digE_lt (N w i : Nat) : digE N w i < 2 ^ w := Nat.mod_lt _ (Nat.pow_pos (by omega))
theorem pow_half {w : Nat} (h : 1 ≤ w) : (2 : Nat) ^ w = 2 * 2 ^ (w - 1) := by
 obtain ⟨v, rfl⟩ : ∃ v, w = v + 1 := ⟨w - 1, by omega⟩
 rw [Nat.pow_succ, Nat.add_sub_cancel]; omega
theorem sgD_bd {N w i : Nat} (h : 1 ≤ w) : -(2 ^ (w - 1) : Nat) ≤ sgD N w i ∧ sgD N w i < (2 ^ (w - 1) : Nat) := by
 have h1 := digE_lt N w i
 have h2 := sgO_le N w i
 have h3 := pow_half h
 unfold sgD
 rw [sgO_s]
 have e : ((2 : Int) ^ w) = ((2 ^ w : Nat) : Int) := by push_cast; rfl
 rw [e]
 split <;> omega
theorem sg_sum {N w i : Nat} : digE N w i + sgO N w i ≤ 2 ^ w := by
 have h1 := digE_lt N w i
 have h2 := sgO_le N w i
 omega
theorem sg_over {N w i : Nat} {W : Int} (hw : 2 ≤ w ∧ w ≤ 8) (hW : W = w) : ((((digE N w i : Int) + sgO N w i).fdiv (2 ^ (min (W - 1).toNat IntKind.i64.bits)) + 1) / 2) = sgO N w (i + 1) := by
 have e0 : min (W - 1).toNat IntKind.i64.bits = w - 1 := by show min (W - 1).toNat 64 = w - 1; omega
 have hp : 0 < 2 ^ (w - 1) := Nat.pow_pos (by omega)
 have h1 := sg_sum (N := N) (w := w) (i := i)
 have h3 := pow_half (show 1 ≤ w by omega)
 have e1 : (2 : Int) ^ (w - 1) = ((2 ^ (w - 1) : Nat) : Int) := by push_cast; rfl
 have e2 : ((digE N w i : Int) + sgO N w i) = ((digE N w i + sgO N w i : Nat) : Int) := by push_cast; rfl
 rw [e0, e1, e2, Int.fdiv_eq_ediv_of_nonneg _ (by omega), sgO_s, ← Int.natCast_ediv]
 generalize digE N w i + sgO N w i = D at *
 generalize 2 ^ (w - 1) = H at *
 split
 ·rename_i hlt
  rw [Nat.div_eq_of_lt hlt]; rfl
 ·have g1 : 1 ≤ D / H := by rw [Nat.le_div_iff_mul_le hp]; omega
  have g2 : D / H < 3 := by rw [Nat.div_lt_iff_lt_mul hp]; omega
  omega
theorem sg_new {N w i : Nat} {W : Int} (hw : 2 ≤ w ∧ w ≤ 8) (hW : W = w) : ((digE N w i : Int) + sgO N w i) - IntKind.i64.wrap ((sgO N w (i + 1) : Int) * 2 ^ (min W.toNat IntKind.i64.bits)) = sgD N w i := by
 have e0 : min W.toNat IntKind.i64.bits = w := by show min W.toNat 64 = w; omega
 have h2 := sgO_le N w (i + 1)
 have h4 : 2 ^ w ≤ 2 ^ 8 := Nat.pow_le_pow_right (by omega) hw.2
 have e1 : (2 : Int) ^ w = ((2 ^ w : Nat) : Int) := by push_cast; rfl
 have h3 : (sgO N w (i + 1) : Int) * 2 ^ w ≤ 256 ∧ 0 ≤ (sgO N w (i + 1) : Int) * 2 ^ w := by
  rw [e1]
  clear e1
  generalize 2 ^ w = X at *
  rcases (by omega : sgO N w (i + 1) = 0 ∨ sgO N w (i + 1) = 1) with h | h
  ·rw [h, show ((0 : Nat) : Int) = 0 from rfl, Int.zero_mul]; omega
  ·rw [h, show ((1 : Nat) : Int) = 1 from rfl, Int.one_mul]; omega
 rw [e0, wrap_i64 (by omega)]
 rfl
def sgL (N w : Nat) : Nat → List Int
 | 0 => []
 | i + 1 => sgL N w i ++ [sgD N w i]
theorem sgL_len (N w : Nat) : ∀ i, (sgL N w i).length = i
 | 0 => rfl
 | i + 1 => by simp [sgL, sgL_len N w i]
theorem sgL_get (N w : Nat) : ∀ n i, i < n → (sgL N w n).getD i 0 = sgD N w i
 | 0, i, h => by omega
 | n + 1, i, h => by
  show (sgL N w n ++ [sgD N w n]).getD i 0 = _
  rw [List.getD_eq_getElem?_getD, List.getElem?_append, sgL_len]
  by_cases hi : i < n
  ·rw [if_pos hi, ← List.getD_eq_getElem?_getD, sgL_get N w n i hi]
  ·have : i = n := by omega
   subst this
   rw [if_neg hi, Nat.sub_self]; rfl
def mixL (N w m : Nat) : Nat → List Int
 | 0 => plL N w m
 | i + 1 => (mixL N w m i).set i (sgD N w i)
theorem mixL_s (N w m i : Nat) : mixL N w m (i + 1) = (mixL N w m i).set i (sgD N w i) := rfl
theorem mixL_len (N w m : Nat) : ∀ i, (mixL N w m i).length = m
 | 0 => plL_len N w m
 | i + 1 => by rw [mixL_s, List.length_set, mixL_len N w m i]
theorem plL_get (N w : Nat) : ∀ n i, i < n → (plL N w n)[i]? = some (digE N w i : Int)
 | 0, i, h => by omega
 | n + 1, i, h => by
  rw [plL_s, List.getElem?_append, plL_len]
  by_cases hi : i < n
  ·rw [if_pos hi, plL_get N w n i hi]
  ·have : i = n := by omega
   subst this
   rw [if_neg hi, Nat.sub_self]; rfl
theorem mixL_get (N w m : Nat) : ∀ i j, j < m → (mixL N w m i)[j]? = some (if j < i then sgD N w j else (digE N w j : Int))
 | 0, j, h => by rw [if_neg (by omega)]; exact plL_get N w m j h
 | i + 1, j, h => by
  rw [mixL_s, List.getElem?_set, mixL_len]
  by_cases e : i = j
  ·subst e; rw [if_pos rfl, if_pos h, if_pos (by omega)]
  ·rw [if_neg e, mixL_get N w m i j h]
   by_cases hl : j < i
   ·rw [if_pos hl, if_pos (by omega)]
   ·rw [if_neg hl, if_neg (by omega)]
theorem sgL_getQ (N w : Nat) (n i : Nat) (h : i < n) : (sgL N w n)[i]? = some (sgD N w i) := by
 have h1 := sgL_get N w n i h
 rw [List.getD_eq_getElem?_getD, List.getElem?_eq_getElem (by rw [sgL_len]; exact h)] at h1
 rw [List.getElem?_eq_getElem (by rw [sgL_len]; exact h)]
 exact congrArg some h1
theorem mixL_all (N w m : Nat) : mixL N w m m = sgL N w m := by
 apply List.ext_getElem?
 intro j
 by_cases h : j < m
 ·rw [mixL_get N w m m j h, if_pos h, sgL_getQ N w m j h]
 ·rw [List.getElem?_eq_none (by rw [mixL_len]; omega), List.getElem?_eq_none (by rw [sgL_len]; omega)]
theorem sgD_top {N w m : Nat} (h : 2 ≤ w) (hN : N < 2 ^ (w * m)) : sgD N w m = sgO N w m := by
 have h2 : digE N w m = 0 := by unfold digE; rw [Nat.div_eq_of_lt hN]; simp
 have h3 := sgO_le N w m
 have h4 : 2 ≤ 2 ^ (w - 1) := Nat.le_trans (show 2 ≤ 2 ^ 1 by decide) (Nat.pow_le_pow_right (by omega) (by omega))
 unfold sgD
 rw [sgO_s, if_pos (by omega), h2]
 simp
theorem sgL_all {N w m : Nat} (h : 2 ≤ w) (hN : N < 2 ^ (w * m)) : mixL N w m m ++ [(sgO N w m : Int)] = sgL N w (m + 1) := by
 rw [mixL_all, ← sgD_top h hN]; rfl
def nD (b : List Int) (w : Int) : Nat := ((8 * (b.length : Int) + w - 1) / w).toNat
theorem nD_cover {b : List Int} {w : Int} (hb : By b) (hw : 1 ≤ w) : nval b < 2 ^ (w.toNat * nD b w) := by
 refine Nat.lt_of_lt_of_le (nval_lt hb) (Nat.pow_le_pow_right (by omega) ?_)
 obtain ⟨v, rfl⟩ := Int.eq_ofNat_of_zero_le (show 0 ≤ w by omega)
 have e : nD b (v : Int) = (8 * b.length + v - 1) / v := by
  unfold nD
  have : (8 * (b.length : Int) + (v : Int) - 1) = ((8 * b.length + v - 1 : Nat) : Int) := by omega
  rw [this, ← Int.natCast_ediv]; rfl
 rw [e]
 show 8 * b.length ≤ v * _
 have := Nat.div_add_mod (8 * b.length + v - 1) v
 have := Nat.mod_lt (8 * b.length + v - 1) (show 0 < v by omega)
 omega
def sgV (N w j : Nat) : Nat := N / 2 ^ (w * j) + sgO N w j
theorem sgV_step (N w j : Nat) : ((2 ^ w * sgV N w (j + 1) : Nat) : Int) + sgD N w j = (sgV N w j : Nat) := by
 unfold sgV sgD
 have h1 : N / 2 ^ (w * j) = 2 ^ w * (N / 2 ^ (w * (j + 1))) + digE N w j := by
  unfold digE
  rw [Nat.mul_succ, Nat.pow_add, ← Nat.div_div_eq_div_mul]
  exact (Nat.div_add_mod _ _).symm
 have e : ((2 : Int) ^ w) = ((2 ^ w : Nat) : Int) := by push_cast; rfl
 rw [h1, e, Nat.mul_add, Nat.mul_comm (2 ^ w) (sgO N w (j + 1))]
 generalize 2 ^ w * (N / 2 ^ (w * (j + 1))) = X
 have e2 : (sgO N w (j + 1) : Int) * ((2 ^ w : Nat) : Int) = ((sgO N w (j + 1) * 2 ^ w : Nat) : Int) := by rw [Int.natCast_mul]
 rw [e2]
 omega
theorem sgV_zero (N w : Nat) : sgV N w 0 = N := by simp [sgV, sgO]
theorem sgV_top {N w m : Nat} (h : 2 ≤ w) (hN : N < 2 ^ (w * m)) : sgV N w (m + 1) = 0 := by
 have h1 : N / 2 ^ (w * (m + 1)) = 0 := Nat.div_eq_of_lt (Nat.lt_of_lt_of_le hN (Nat.pow_le_pow_right (by omega) (Nat.mul_le_mul_left _ (by omega))))
 have h2 : digE N w m = 0 := by unfold digE; rw [Nat.div_eq_of_lt hN]; simp
 have h3 := sgO_le N w m
 have h4 : 2 ≤ 2 ^ (w - 1) := by
  exact Nat.le_trans (show 2 ≤ 2 ^ 1 by decide) (Nat.pow_le_pow_right (by omega) (by omega))
 unfold sgV
 rw [h1, sgO_s, if_pos (by omega)]
def zG (d : Int) (p : G) : G := if 0 ≤ d then mulG d.toNat p else -(mulG (-d).toNat p)
theorem zG_step {a b : Nat} {d : Int} (p : G) (h : (a : Int) + d = b) : mulG a p + zG d p = mulG b p := by
 unfold zG
 split
 ·rw [← mulG_add]; congr 1; omega
 ·have e : a = b + (-d).toNat := by omega
  rw [e, mulG_add, G.assoc, G.add_neg, G.add_zero]
end Go.Proofs.YtpapfkihjhhjkaaGreat
