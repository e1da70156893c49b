/- joined: Refa Refb -/
import Derived.Test.YtohjkkmgcibemaaJ7
set_option linter.unusedSimpArgs false
set_option linter.unusedVariables false
/- the document's answer: sums, what is less than 0, numbers, over trees. WRITTEN BY gen_refa.py -/
namespace Go.Proofs.Ytohjkkmgcibemaa
open Go.RowKit FdP FdP.Ch
def dgs (a : F) : List Int := digk 16 a.val
def FG (a : F) : Value := AG (is (dgs a))
theorem dgs_len (a : F) : (dgs a).length = 16 := digk_len 16 _
theorem val_28 (a : F) : (a.val : Int) < 268435456 ^ 16 := by
 have h : (P : Int) < 268435456 ^ 16 := by decide +kernel
 exact Int.lt_trans (Int.ofNat_lt.2 a.isLt) h
theorem v28_dgs (a : F) : v28 (dgs a) = a.val := v28_digk 16 _ (by omega) (val_28 a)
theorem dgs_inj {a b : F} (h : dgs a = dgs b) : a = b := by
 have h1 := v28_dgs a
 rw [h, v28_dgs] at h1
 exact Fin.ext (by omega)
end Go.Proofs.Ytohjkkmgcibemaa
/- the document's answer: products, over a tree. WRITTEN BY gen_refb.py -/
namespace Go.Proofs.Ytohjkkmgcibemaa
open Go.RowKit FdP FdP.Ch

structure Ml (a b : List Int) (i k : Nat) (l : List Int) : Prop where
 len : l.length = 31
 val : v28 l = v28 (a.take i) * v28 b + a.getD i 0 * 268435456 ^ i * v28 (b.take k)
 bd : ∀ j : Nat, 0 ≤ l.getD j 0 ∧ l.getD j 0 ≤ 72057594037927936 * (((if j < 16 then i else i - 1) + (if i ≤ j ∧ j < i + k then 1 else 0) : Nat) : Int)

theorem getD_set_eq {l : List Int} {j : Nat} (h : j < l.length) (v : Int) : (l.set j v).getD j 0 = v := by simp [List.getD, h]
theorem getD_set_nee {l : List Int} {i j : Nat} (h : i ≠ j) (v : Int) : (l.set i v).getD j 0 = l.getD j 0 := by simp [List.getD, List.getElem?_set, h]

theorem Ml.start (a b : List Int) : Ml a b 0 0 (List.replicate 31 0) := by
 refine ⟨rfl, ?_, fun j => ?_⟩
 ·have : v28 (List.replicate 31 0) = 0 := by decide
  rw [this]; simp [v28]
 ·have : (List.replicate 31 (0 : Int)).getD j 0 = 0 := by
   simp only [List.getD, List.getElem?_replicate]
   split <;> rfl
  rw [this]; omega

theorem Ml.step {a b l : List Int} {i k : Nat} (h : Ml a b i k l) (hi : i < 16) (hk : k < 16) (x : Int) (hx : 0 ≤ x ∧ x ≤ 72057594037927936) (hxe : x = a.getD i 0 * b.getD k 0) :
 Ml a b i (k + 1) (l.set (i + k) (l.getD (i + k) 0 + x)) := by
 have hl := h.len
 refine ⟨by rw [List.length_set]; exact hl, ?_, fun j => ?_⟩
 ·rw [v28_set _ _ _ (by omega), h.val, v28_take, hxe, Int.pow_add]
  generalize v28 (a.take i) * v28 b = q
  generalize v28 (b.take k) = r
  generalize (268435456 : Int) ^ i = s
  generalize (268435456 : Int) ^ k = t
  generalize a.getD i 0 = u
  generalize b.getD k 0 = v
  grind
 ·by_cases hj : i + k = j
  ·subst hj
   rw [getD_set_eq (by omega)]
   have := h.bd (i + k)
   have e1 : (if i ≤ i + k ∧ i + k < i + k then 1 else 0) = 0 := by rw [if_neg (by omega)]
   have e2 : (if i ≤ i + k ∧ i + k < i + (k + 1) then 1 else 0) = 1 := by rw [if_pos (by omega)]
   rw [e1] at this; rw [e2]
   omega
  ·rw [getD_set_nee hj]
   have := h.bd j
   have e : (if i ≤ j ∧ j < i + (k + 1) then 1 else 0) = (if i ≤ j ∧ j < i + k then 1 else 0) := by
    by_cases h1 : i ≤ j ∧ j < i + k
    ·rw [if_pos h1, if_pos (by omega)]
    ·rw [if_neg h1, if_neg (by omega)]
   rw [e]; exact this

theorem Ml.row {a b l : List Int} {i : Nat} (h : Ml a b i 16 l) (lb : b.length = 16) : Ml a b (i + 1) 0 l := by
 refine ⟨h.len, ?_, fun j => ?_⟩
 ·have tb : b.take 16 = b := List.take_of_length_le (by omega)
  rw [h.val, tb, v28_take a i]
  simp only [List.take_zero, v28]
  generalize v28 (a.take i) = q
  generalize v28 b = r
  generalize (268435456 : Int) ^ i = s
  generalize a.getD i 0 = u
  grind
 ·have := h.bd j
  refine ⟨this.1, Int.le_trans this.2 ?_⟩
  refine Int.mul_le_mul_of_nonneg_left ?_ (by omega)
  have : ((if j < 16 then i else i - 1) + (if i ≤ j ∧ j < i + 16 then 1 else 0) : Nat) ≤ ((if j < 16 then i + 1 else i + 1 - 1) + (if i + 1 ≤ j ∧ j < i + 1 + 0 then 1 else 0) : Nat) := by
   split <;> split <;> split <;> omega
  omega

def bigI (i : Nat) : Nat := if 23 ≤ i then 15 else 30
def capC (c j : Nat) : Nat := (if j < 16 then 16 else 15) + (if 31 ≤ j + 16 + c ∧ j + 16 ≤ 30 then bigI (j + 16) else 0) + (if 31 ≤ j + 8 + c ∧ 16 ≤ j + 8 ∧ j + 8 ≤ 30 then bigI (j + 8) else 0)
structure Mf (x : F) (c : Nat) (l : List Int) : Prop where
 len : l.length = 31
 val : z (v28 (l.take (31 - c))) = x
 bd : ∀ j : Nat, 0 ≤ l.getD j 0 ∧ l.getD j 0 ≤ 72057594037927936 * (capC c j : Int)

theorem Mf.start {a b l : List Int} (h : Ml a b 16 0 l) (la : a.length = 16) : Mf (z (v28 a) * z (v28 b)) 0 l := by
 refine ⟨h.len, ?_, fun j => ?_⟩
 ·rw [List.take_of_length_le (by rw [h.len]; omega), h.val, List.take_of_length_le (by omega)]
  simp only [List.take_zero, v28, Int.mul_zero, Int.add_zero]
  exact z_mul _ _
 ·have := h.bd j
  refine ⟨this.1, Int.le_trans this.2 ?_⟩
  refine Int.mul_le_mul_of_nonneg_left ?_ (by omega)
  have : ((if j < 16 then 16 else 16 - 1) + (if 16 ≤ j ∧ j < 16 + 0 then 1 else 0) : Nat) ≤ capC 0 j := by
   unfold capC
   split <;> split <;> omega
  omega

theorem capC_i {c i : Nat} (hi : i + c = 30) (h16 : 16 ≤ i) : capC c i ≤ bigI i := by
 unfold capC bigI
 rw [if_neg (c := i < 16) (by omega), if_neg (c := 31 ≤ i + 16 + c ∧ i + 16 ≤ 30) (by omega)]
 by_cases h : i ≤ 22
 ·rw [if_pos (c := 31 ≤ i + 8 + c ∧ 16 ≤ i + 8 ∧ i + 8 ≤ 30) (by omega), if_pos (c := 23 ≤ i + 8) (by omega), if_neg (c := 23 ≤ i) (by omega)]; omega
 ·rw [if_neg (c := 31 ≤ i + 8 + c ∧ 16 ≤ i + 8 ∧ i + 8 ≤ 30) (by omega), if_pos (c := 23 ≤ i) (by omega)]; omega
theorem cap_next {c i j : Nat} (hi : i + c = 30) (h16 : 16 ≤ i) : capC c j + (if j = i - 16 then bigI i else 0) + (if j = i - 8 then bigI i else 0) ≤ capC (c + 1) j := by
 unfold capC
 have e1 : (if 31 ≤ j + 16 + c ∧ j + 16 ≤ 30 then bigI (j + 16) else 0) + (if j = i - 16 then bigI i else 0) ≤ (if 31 ≤ j + 16 + (c + 1) ∧ j + 16 ≤ 30 then bigI (j + 16) else 0) := by
  by_cases h : j = i - 16
  ·have : j + 16 = i := by omega
   rw [this]
   rw [if_neg (by omega), if_pos h, if_pos (by omega)]; omega
  ·rw [if_neg h]
   by_cases h2 : 31 ≤ j + 16 + c ∧ j + 16 ≤ 30
   ·rw [if_pos h2, if_pos (by omega)]; omega
   ·rw [if_neg h2]; omega
 have e2 : (if 31 ≤ j + 8 + c ∧ 16 ≤ j + 8 ∧ j + 8 ≤ 30 then bigI (j + 8) else 0) + (if j = i - 8 then bigI i else 0) ≤ (if 31 ≤ j + 8 + (c + 1) ∧ 16 ≤ j + 8 ∧ j + 8 ≤ 30 then bigI (j + 8) else 0) := by
  by_cases h : j = i - 8
  ·have : j + 8 = i := by omega
   rw [this]
   rw [if_neg (by omega), if_pos h, if_pos (by omega)]; omega
  ·rw [if_neg h]
   by_cases h2 : 31 ≤ j + 8 + c ∧ 16 ≤ j + 8 ∧ j + 8 ≤ 30
   ·rw [if_pos h2, if_pos (by omega)]; omega
   ·rw [if_neg h2]; omega
 omega

theorem P28 : (268435456 : Int) ^ 16 = P + 268435456 ^ 8 + 1 := by decide +kernel
theorem Mf.step {x : F} {c i : Nat} {l : List Int} (h : Mf x c l) (hi : i + c = 30) (h16 : 16 ≤ i) {m : List Int} (hm : m = l.set (i - 16) (l.getD (i - 16) 0 + l.getD i 0)) :
 Mf x (c + 1) (m.set (i - 8) (m.getD (i - 8) 0 + m.getD i 0)) := by
 have hl := h.len
 have hml : m.length = 31 := by rw [hm, List.length_set]; exact hl
 have e8 : m.getD (i - 8) 0 = l.getD (i - 8) 0 := by rw [hm, getD_set_nee (by omega)]
 have ei : m.getD i 0 = l.getD i 0 := by rw [hm, getD_set_nee (by omega)]
 refine ⟨by rw [List.length_set]; exact hml, ?_, fun j => ?_⟩
 ·have t1 : (m.set (i - 8) (m.getD (i - 8) 0 + m.getD i 0)).take (31 - (c + 1)) = (m.take i).set (i - 8) ((m.take i).getD (i - 8) 0 + l.getD i 0) := by
   rw [List.take_set, show 31 - (c + 1) = i from by omega]
   congr 1
   rw [ei]
   congr 1
   simp only [List.getD, List.getElem?_take]
   rw [if_pos (by omega)]
  have t2 : m.take i = (l.take i).set (i - 16) ((l.take i).getD (i - 16) 0 + l.getD i 0) := by
   rw [hm, List.take_set]
   congr 1
   congr 1
   simp only [List.getD, List.getElem?_take]
   rw [if_pos (by omega)]
  rw [t1, v28_set _ _ _ (by rw [List.length_take]; omega), t2, v28_set _ _ _ (by rw [List.length_take]; omega)]
  have hv := h.val
  rw [show 31 - c = i + 1 from by omega, v28_take] at hv
  rw [← hv]
  generalize v28 (l.take i) = q
  generalize l.getD i 0 = u
  obtain ⟨d, rfl⟩ : ∃ d, i = d + 16 := ⟨i - 16, by omega⟩
  rw [show d + 16 - 16 = d from by omega, show d + 16 - 8 = d + 8 from by omega, Int.pow_add, Int.pow_add, P28]
  generalize (268435456 : Int) ^ d = s
  rw [← z_minus (q + u * (s * (P + 268435456 ^ 8 + 1))) (u * s)]
  congr 1
  grind
 ·have hb := h.bd j
  have hc := cap_next (j := j) hi h16
  have hbi := h.bd i
  have hci := capC_i hi h16
  have e : (m.set (i - 8) (m.getD (i - 8) 0 + m.getD i 0)).getD j 0 = l.getD j 0 + (if j = i - 16 then l.getD i 0 else 0) + (if j = i - 8 then l.getD i 0 else 0) := by
   by_cases h8 : j = i - 8
   ·rw [if_neg (c := j = i - 16) (by omega), if_pos (c := j = i - 8) h8, h8, getD_set_eq (by omega), e8, ei]; omega
   ·rw [getD_set_nee (fun e => h8 e.symm), hm, if_neg (c := j = i - 8) h8]
    by_cases h6 : j = i - 16
    ·rw [if_pos (c := j = i - 16) h6, h6, getD_set_eq (by omega)]; omega
    ·rw [getD_set_nee (fun e => h6 e.symm), if_neg (c := j = i - 16) h6]; omega
  rw [e]
  have hci' : (capC c i : Int) ≤ (bigI i : Int) := by omega
  generalize l.getD i 0 = u at *
  generalize l.getD j 0 = v at *
  generalize capC c i = ci at *
  generalize bigI i = bi at *
  generalize capC c j = cj at *
  generalize capC (c + 1) j = cn at *
  split at hc <;> split at hc <;> simp_all <;> omega

theorem Mf.end {x : F} {l : List Int} (h : Mf x 15 l) : (l.take 16).length = 16 ∧ z (v28 (l.take 16)) = x ∧ 0 ≤ v28 (l.take 16) ∧ ∀ j, -4611685468671574016 ≤ (l.take 16).getD j 0 ∧ (l.take 16).getD j 0 ≤ 4611685468671574016 := by
 have hb : ∀ j, 0 ≤ (l.take 16).getD j 0 ∧ (l.take 16).getD j 0 ≤ 4611685468671574016 := by
  intro j
  by_cases hj : j < 16
  ·have e : (l.take 16).getD j 0 = l.getD j 0 := by simp only [List.getD, List.getElem?_take, if_pos hj]
   rw [e]
   have := h.bd j
   have hc : capC 15 j ≤ 61 := by
    unfold capC bigI
    rw [if_pos hj]
    by_cases h8 : 8 ≤ j
    ·by_cases h15 : j ≤ 14
     ·rw [if_pos (by omega), if_pos (by omega), if_pos (by omega)]; split <;> omega
     ·rw [if_neg (by omega), if_pos (by omega), if_pos (by omega)]; omega
    ·rw [if_neg (c := 31 ≤ j + 8 + 15 ∧ 16 ≤ j + 8 ∧ j + 8 ≤ 30) (by omega), if_pos (by omega)]; split <;> omega
   omega
  ·rw [List.getD_eq_getElem?_getD, List.getElem?_eq_none (by simp; omega)]; simp
 refine ⟨by rw [List.length_take, h.len]; rfl, h.val, ?_, fun j => by have := hb j; omega⟩
 have nn : ∀ m : List Int, (∀ j, 0 ≤ m.getD j 0) → 0 ≤ v28 m := by
  intro m
  induction m with
  | nil => intro _; simp [v28]
  | cons y m ih =>
   intro hm
   have h0 := hm 0
   have h1 := ih fun j => by have := hm (j + 1); simpa using this
   simp only [v28]
   simp at h0
   omega
 exact nn _ fun j => (hb j).1
end Go.Proofs.Ytohjkkmgcibemaa
