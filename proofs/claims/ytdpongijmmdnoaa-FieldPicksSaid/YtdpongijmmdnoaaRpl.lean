/- plain law of the document's answer's digits -/
import Derived.Test.YtdpongijmmdnoaaRfa
namespace Go.Proofs.Ytdpongijmmdnoaa
open Go.RowKit FdP FdP.Ch

/-- the number of digits of 28 bits -/
def v28 : List Int → Int
  | [] => 0
  | x :: l => x + 268435456 * v28 l
/-- the first k digits of a number -/
def digk : Nat → Int → List Int
  | 0, _ => []
  | k + 1, n => n % 268435456 :: digk k (n / 268435456)
/-- digits that are none too great -/
def Dg (l : List Int) : Prop := ∀ x ∈ l, 0 ≤ x ∧ x < 268435456

@[simp] theorem digk_len (k : Nat) (n : Int) : (digk k n).length = k := by
  induction k generalizing n with
  | zero => rfl
  | succ k ih => simp [digk, ih]
theorem digk_dg (k : Nat) (n : Int) : Dg (digk k n) := by
  induction k generalizing n with
  | zero => intro x hx; simp [digk] at hx
  | succ k ih =>
    intro x hx
    rcases List.mem_cons.1 hx with rfl | h
    · omega
    · exact ih _ x h
theorem digk_v28 (l : List Int) (h : Dg l) : digk l.length (v28 l) = l := by
  induction l with
  | nil => rfl
  | cons x l ih =>
    have hx := h x (by simp)
    have hl := ih (fun y hy => h y (by simp [hy]))
    simp only [List.length_cons, digk, v28]
    rw [show (x + 268435456 * v28 l) % 268435456 = x by omega, show (x + 268435456 * v28 l) / 268435456 = v28 l by omega, hl]
theorem v28_digk (k : Nat) (n : Int) (h0 : 0 ≤ n) (h1 : n < 268435456 ^ k) : v28 (digk k n) = n := by
  induction k generalizing n with
  | zero => simp [digk, v28]; simp at h1; omega
  | succ k ih =>
    have : n / 268435456 < 268435456 ^ k := by
      rw [Int.pow_succ] at h1
      generalize (268435456 : Int) ^ k = q at *
      omega
    simp only [digk, v28, ih (n / 268435456) (by omega) this]
    omega
theorem v28_bd (l : List Int) (h : Dg l) : 0 ≤ v28 l ∧ v28 l < 268435456 ^ l.length := by
  induction l with
  | nil => simp [v28]
  | cons x l ih =>
    have hx := h x (by simp)
    have hl := ih (fun y hy => h y (by simp [hy]))
    simp only [List.length_cons, v28, Int.pow_succ]
    generalize (268435456 : Int) ^ l.length = q at *
    generalize v28 l = u at *
    omega
theorem v28_take (l : List Int) (k : Nat) : v28 (l.take (k + 1)) = v28 (l.take k) + l.getD k 0 * 268435456 ^ k := by
  induction l generalizing k with
  | nil => simp [v28]
  | cons x l ih =>
    cases k with
    | zero => simp [v28]
    | succ k =>
      have := ih k
      simp only [List.take_succ_cons, v28, List.getD_cons_succ, this, Int.mul_add, Int.pow_succ]
      generalize v28 (l.take k) = u
      generalize (268435456 : Int) ^ k = b
      grind
theorem v28_set (l : List Int) (i : Nat) (v : Int) (h : i < l.length) : v28 (l.set i (l.getD i 0 + v)) = v28 l + v * 268435456 ^ i := by
  induction l generalizing i with
  | nil => simp at h
  | cons x l ih =>
    cases i with
    | zero => simp [v28]; omega
    | succ i =>
      have := ih i (by simpa using h)
      simp only [List.set_cons_succ, List.getD_cons_succ, v28, this, Int.mul_add, Int.pow_succ]
      generalize v28 l = u
      generalize (268435456 : Int) ^ i = b
      grind
theorem dg_take {l : List Int} (h : Dg l) (k : Nat) : Dg (l.take k) := fun x hx => h x (List.mem_of_mem_take hx)
theorem dg_get {l : List Int} (h : Dg l) (i : Nat) (hi : i < l.length) : 0 ≤ l.getD i 0 ∧ l.getD i 0 < 268435456 := by
  have : l.getD i 0 = l[i] := by simp [List.getD, hi]
  rw [this]; exact h _ (List.getElem_mem hi)

theorem lessT_law (d p : List Int) (hl : d.length = p.length) (hd : Dg d) (hp : Dg p) : ∀ k, k ≤ d.length → lessT d p k = decide (v28 (d.take k) < v28 (p.take k)) := by
  intro k
  induction k with
  | zero => intro _; simp [lessT, v28]
  | succ k ih =>
    intro hk
    have := ih (by omega)
    have bd := v28_bd _ (dg_take hd k)
    have bp := v28_bd _ (dg_take hp k)
    rw [List.length_take, Nat.min_eq_left (by omega)] at bd bp
    have gd := dg_get hd k (by omega)
    have gp := dg_get hp k (by omega)
    rw [lessT, this, v28_take d k, v28_take p k]
    generalize v28 (d.take k) = u at *
    generalize v28 (p.take k) = t at *
    generalize d.getD k 0 = x at *
    generalize p.getD k 0 = y at *
    generalize (268435456 : Int) ^ k = q at *
    by_cases h : x = y
    · subst h
      rw [if_pos rfl]
      exact decide_eq_decide.2 (by omega)
    · rw [if_neg h]
      refine decide_eq_decide.2 ?_
      rcases Int.lt_or_gt_of_ne h with hlt | hgt
      · have : (x + 1) * q ≤ y * q := Int.mul_le_mul_of_nonneg_right (by omega) (by omega)
        rw [Int.add_mul] at this
        omega
      · have : (y + 1) * q ≤ x * q := Int.mul_le_mul_of_nonneg_right (by omega) (by omega)
        rw [Int.add_mul] at this
        omega

theorem v28_prime : v28 primeD = P := by decide +kernel
theorem less_law28 (d : List Int) (ld : d.length = 16) (hd : Dg d) : lessT d primeD 16 = decide (v28 d < P) := by
  have := lessT_law d primeD (by rw [ld]; rfl) hd (by intro x hx; simp [primeD] at hx; omega) 16 (by omega)
  rw [this, List.take_of_length_le (by omega), List.take_of_length_le (by rw [primeD_len]; omega), v28_prime]

/-- one pass over the digits: what is carried, behind k of them -/
def passT (l : List Int) (o : Int) : Nat → List Int × Int
  | 0 => (l, o)
  | k + 1 => ((passT l o k).1.set k (((passT l o k).1.getD k 0 + (passT l o k).2) % 268435456), ((passT l o k).1.getD k 0 + (passT l o k).2) / 268435456)
@[simp] theorem passT_len (l : List Int) (o : Int) (k : Nat) : (passT l o k).1.length = l.length := by
  induction k with
  | zero => rfl
  | succ k ih => simp [passT, ih]
theorem passT_far (l : List Int) (o : Int) (k j : Nat) (h : k ≤ j) : (passT l o k).1.getD j 0 = l.getD j 0 := by
  induction k with
  | zero => rfl
  | succ k ih => rw [passT, getD_set_ne' _ _ _ _ (by omega)]; exact ih (by omega)
theorem take_set_self {α : Type} (l : List α) (k : Nat) (v : α) : (l.set k v).take k = l.take k := by
  apply List.ext_getElem?
  intro i
  by_cases h : i < k
  · simp [List.getElem?_take, List.getElem?_set, h, show ¬ k = i by omega]
  · simp [List.getElem?_take, h]
theorem pass_law (l : List Int) (k : Nat) (hk : k ≤ l.length) : (∀ j, j < k → 0 ≤ (passT l 0 k).1.getD j 0 ∧ (passT l 0 k).1.getD j 0 < 268435456) ∧ v28 ((passT l 0 k).1.take k) + 268435456 ^ k * (passT l 0 k).2 = v28 (l.take k) := by
  induction k with
  | zero => simp [passT, v28]
  | succ k ih =>
    obtain ⟨h1, h2⟩ := ih (by omega)
    have hf := passT_far l 0 k k (by omega)
    have hlen := passT_len l 0 k
    rw [passT]
    generalize passT l 0 k = q at *
    obtain ⟨m, o⟩ := q
    dsimp only at *
    rw [hf]
    refine ⟨fun j hj => ?_, ?_⟩
    · by_cases hjk : k = j
      · subst hjk; rw [getD_set_eq' _ _ _ (by omega)]; omega
      · rw [getD_set_ne' _ _ _ _ hjk]; exact h1 j (by omega)
    · rw [v28_take, v28_take l k, take_set_self, getD_set_eq' _ _ _ (by omega), ← h2, Int.pow_succ]
      have e := Int.emod_add_mul_ediv (l.getD k 0 + o) 268435456
      generalize (l.getD k 0 + o) % 268435456 = r at *
      generalize (l.getD k 0 + o) / 268435456 = s at *
      generalize (268435456 : Int) ^ k = b at *
      generalize v28 (m.take k) = u at *
      generalize l.getD k 0 = x at *
      grind
theorem pass_bd (l : List Int) (k : Nat) (hk : k ≤ l.length) (h : ∀ x ∈ l, -4611685468671574016 ≤ x ∧ x ≤ 4611685468671574016) : -17179869184 ≤ (passT l 0 k).2 ∧ (passT l 0 k).2 ≤ 17179869184 := by
  induction k with
  | zero => simp [passT]
  | succ k ih =>
    have := ih (by omega)
    have hf := passT_far l 0 k k (by omega)
    have hx : -4611685468671574016 ≤ l.getD k 0 ∧ l.getD k 0 ≤ 4611685468671574016 := by
      have : l.getD k 0 = l[k] := by simp [List.getD, show k < l.length by omega]
      rw [this]; exact h _ (List.getElem_mem (by omega))
    rw [passT, hf]
    generalize (passT l 0 k).2 = o at *
    generalize l.getD k 0 = x at *
    dsimp only
    omega
end Go.Proofs.Ytdpongijmmdnoaa
