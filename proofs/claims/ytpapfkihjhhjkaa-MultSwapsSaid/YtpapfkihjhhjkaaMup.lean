/- Products by bytes, by hand: what out comes to. -/
import Derived.Test.YtpapfkihjhhjkaaDge
set_option linter.unusedSimpArgs false
set_option linter.unusedVariables false
namespace Go.Proofs.Ytpapfkihjhhjkaa
open Go.RowKit FdP FdP.Ch
theorem bval_put : ∀ (l : List Int) (i : Nat) (x : Int), i < l.length → bval (l.set i x) = bval l + (x - l.getD i 0) * 256 ^ i
  | [], _, _, h => by cases h
  | a :: l, 0, x, _ => by
    show x + 256 * bval l = a + 256 * bval l + (x - a) * 256 ^ 0
    rw [Int.pow_zero]; omega
  | a :: l, i + 1, x, h => by
    have ih := bval_put l i x (by simpa using h)
    show a + 256 * bval (l.set i x) = a + 256 * bval l + (x - l.getD i 0) * 256 ^ (i + 1)
    rw [ih, Int.pow_succ, Int.mul_add]
    have : 256 * ((x - l.getD i 0) * 256 ^ i) = (x - l.getD i 0) * (256 ^ i * 256) := by rw [Int.mul_left_comm, Int.mul_comm 256 (256 ^ i)]
    omega
theorem bval_zs : ∀ n, bval (List.replicate n (0 : Int)) = 0
  | 0 => rfl
  | n + 1 => by show 0 + 256 * bval (List.replicate n (0 : Int)) = 0; rw [bval_zs n]; rfl
theorem getD_put (l : List Int) (i j : Nat) (x : Int) (h : i ≠ j) : (l.set i x).getD j 0 = l.getD j 0 := by
  simp [List.getD, List.getElem?_set, h]
theorem by_put {l : List Int} (h : By l) (i : Nat) {x : Int} (hx : 0 ≤ x ∧ x < 256) : By (l.set i x) := fun y hy => by
  rcases List.mem_or_eq_of_mem_set hy with hy | hy
  · exact h y hy
  · subst hy; exact hx
theorem by_zs (n : Nat) : By (List.replicate n (0 : Int)) := fun x hx => by rw [List.eq_of_mem_replicate hx]; omega
def MulI (a b : List Int) (i : Nat) (R : List Int) : Prop := R.length = a.length + b.length + 1 ∧ By R ∧ bval R = bval (a.take i) * bval b ∧ ∀ j, i + b.length ≤ j → R.getD j 0 = 0
def MulJ (a b : List Int) (i k : Nat) (c : Int) (R : List Int) : Prop := R.length = a.length + b.length + 1 ∧ By R ∧ (0 ≤ c ∧ c ≤ 255) ∧ k ≤ b.length + 1 ∧ (k = b.length + 1 → c = 0) ∧
  bval R + c * 256 ^ (i + k) = bval (a.take i) * bval b + a.getD i 0 * bval (b.take k) * 256 ^ i ∧ ∀ j, i + b.length ≤ j → i + k ≤ j → R.getD j 0 = 0
theorem mulI0 (a b : List Int) : MulI a b 0 (List.replicate (a.length + b.length + 1) 0) := by
  refine ⟨List.length_replicate .., by_zs _, ?_, fun j _ => ?_⟩
  · rw [bval_zs, List.take_zero]; show (0 : Int) = 0 * bval b; rw [Int.zero_mul]
  · simp only [List.getD_eq_getElem?_getD, List.getElem?_replicate]; split <;> rfl
theorem mulJ0 {a b R : List Int} {i : Nat} (h : MulI a b i R) : MulJ a b i 0 0 R := by
  obtain ⟨h1, h2, h3, h4⟩ := h
  refine ⟨h1, h2, by omega, by omega, fun _ => rfl, ?_, fun j q _ => h4 j q⟩
  rw [h3, List.take_zero, Int.zero_mul]
  show _ = _ + _ * 0 * _
  rw [Int.mul_zero, Int.zero_mul]
theorem mul_ov {x y c r : Int} (hx : 0 ≤ x ∧ x < 256) (hy : 0 ≤ y ∧ y < 256) (hc : 0 ≤ c ∧ c ≤ 255) (hr : 0 ≤ r ∧ r < 256) : 0 ≤ x * y ∧ x * y ≤ 65025 ∧ 0 ≤ c + r + x * y ∧ c + r + x * y ≤ 65535 := by
  have h1 : 0 ≤ x * y := Int.mul_nonneg hx.1 hy.1
  have h2 : x * y ≤ 255 * 255 := Int.mul_le_mul (by omega) (by omega) hy.1 (by omega)
  omega
theorem mulJ_s {a b R : List Int} {i k : Nat} {c : Int} (ha : By a) (hb : By b) (h : MulJ a b i k c R) (hi : i < a.length) (hk : k < b.length ∨ 0 < c) :
    i + k < R.length ∧ MulJ a b i (k + 1) ((c + R.getD (i + k) 0 + a.getD i 0 * b.getD k 0) / 256) (R.set (i + k) ((c + R.getD (i + k) 0 + a.getD i 0 * b.getD k 0) % 256)) := by
  obtain ⟨h1, h2, h3, h4, h5, h6, h7⟩ := h
  have hkl : k ≤ b.length := by
    rcases hk with hk | hk
    · omega
    · by_cases e : k = b.length + 1
      · have := h5 e; omega
      · omega
  have hix : i + k < R.length := by omega
  have q1 := by_getD' ha i
  have q2 := by_getD' hb k
  have q3 := by_getD' h2 (i + k)
  obtain ⟨o1, o2, o3, o4⟩ := mul_ov q1 q2 h3 q3
  have hlast : k = b.length → b.getD k 0 = 0 ∧ R.getD (i + k) 0 = 0 := fun e => ⟨by rw [List.getD_eq_getElem?_getD, List.getElem?_eq_none (by omega)]; rfl, h7 _ (by omega) (by omega)⟩
  refine ⟨hix, by rw [List.length_set]; exact h1, by_put h2 _ (by omega), by omega, by omega, fun e => ?_, ?_, fun j g1 g2 => ?_⟩
  · obtain ⟨e1, e2⟩ := hlast (by omega)
    rw [e1, e2, Int.mul_zero]; omega
  · rw [bval_put _ _ _ hix, bval_take, show i + (k + 1) = i + k + 1 by omega, Int.pow_succ]
    have hp : (2 : Int) ^ (8 * k) = 256 ^ k := by rw [Int.pow_mul]; rfl
    have hpp : (256 : Int) ^ (i + k) = 256 ^ i * 256 ^ k := Int.pow_add ..
    rw [hp]
    rw [hpp] at h6 ⊢
    generalize a.getD i 0 = x at *
    generalize b.getD k 0 = y at *
    generalize R.getD (i + k) 0 = r at *
    generalize bval (a.take i) * bval b = N0 at *
    generalize bval (b.take k) = T at *
    generalize bval R = V at *
    have hdm := Int.emod_add_mul_ediv (c + r + x * y) 256
    generalize (c + r + x * y) % 256 = m at *
    generalize (c + r + x * y) / 256 = d at *
    generalize (256 : Int) ^ i = A at *
    generalize (256 : Int) ^ k = B at *
    clear h5 h7 hlast hk
    grind
  · rw [getD_put _ _ _ _ (by omega)]; exact h7 j g1 (by omega)
theorem mulJ_e {a b R : List Int} {i k : Nat} {c : Int} (h : MulJ a b i k c R) (hk : ¬ k < b.length) (hc : c ≤ 0) : MulI a b (i + 1) R := by
  obtain ⟨h1, h2, h3, h4, h5, h6, h7⟩ := h
  refine ⟨h1, h2, ?_, fun j q => h7 j (by omega) (by omega)⟩
  rw [show c = 0 by omega, Int.zero_mul, Int.add_zero, show b.take k = b from List.take_of_length_le (by omega)] at h6
  have hp : (2 : Int) ^ (8 * i) = 256 ^ i := by rw [Int.pow_mul]; rfl
  rw [h6, bval_take, hp, Int.add_mul, Int.mul_right_comm]
theorem mul_cut {a b R : List Int} (ha : By a) (hb : By b) (h : MulI a b a.length R) : By (cutL R) ∧ (cutL R).length ≤ a.length + b.length + 1 ∧ nval (cutL R) = nval a * nval b := by
  obtain ⟨h1, h2, h3, h4⟩ := h
  refine ⟨cutL_by h2, by have := cutL_len R; omega, ?_⟩
  have e1 := nval_eq (cutL_by h2)
  have e2 := nval_eq ha
  have e3 := nval_eq hb
  rw [cutL_val, h3, List.take_length, ← e2, ← e3] at e1
  exact_mod_cast e1
theorem nval_long (l : List Int) : nval (l ++ [0, 0, 0]) = nval l := by
  unfold nval; rw [bval_app]
  have : bval [0, 0, 0] = 0 := by decide
  rw [this, Int.mul_zero, Int.add_zero]
theorem by_long {l : List Int} (h : By l) : By (l ++ [0, 0, 0]) := fun x hx => by
  rcases List.mem_append.1 hx with hx | hx
  · exact h x hx
  · simp only [List.mem_cons, List.not_mem_nil, or_false, or_self] at hx; subst hx; omega
end Go.Proofs.Ytpapfkihjhhjkaa
