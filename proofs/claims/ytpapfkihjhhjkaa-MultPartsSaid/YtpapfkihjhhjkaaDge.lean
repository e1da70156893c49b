/- Sums of bytes, cut; noughts behind: plain. -/
import Derived.Test.YtpapfkihjhhjkaaRfs
import Derived.Test.YtpapfkihjhhjkaaDgp
set_option linter.unusedSimpArgs false
set_option linter.unusedVariables false
namespace Go.Proofs.Ytpapfkihjhhjkaa
open FdP FdP.Ch
theorem bval_one (r : Int) : bval [r] = r := by show r + 256 * 0 = r; omega
theorem pow8_s (i : Nat) : (2 : Int) ^ (8 * (i + 1)) = 2 ^ (8 * i) * 256 := by
  rw [Nat.mul_succ, Int.pow_add]; rfl
theorem addB_val (a b : List Int) : ∀ i, bval (addB a b i).2 + 2 ^ (8 * i) * (addB a b i).1 = bval (a.take i) + bval (b.take i)
  | 0 => by simp [addB, bval]
  | i + 1 => by
    have ih := addB_val a b i
    have hl := addB_len a b i
    rw [bval_take, bval_take, addB_s]
    show bval ((addB a b i).2 ++ [_]) + _ = _
    rw [bval_app, hl, bval_one, pow8_s]
    show _ + 2 ^ (8 * i) * (((addB a b i).1 + a.getD i 0 + b.getD i 0) % 256) + 2 ^ (8 * i) * 256 * (((addB a b i).1 + a.getD i 0 + b.getD i 0) / 256) = _
    have hs := Int.emod_add_mul_ediv ((addB a b i).1 + a.getD i 0 + b.getD i 0) 256
    generalize ((addB a b i).1 + a.getD i 0 + b.getD i 0) % 256 = r at *
    generalize ((addB a b i).1 + a.getD i 0 + b.getD i 0) / 256 = q at *
    generalize (2 : Int) ^ (8 * i) = X at *
    have e1 : X * r + X * 256 * q = X * (addB a b i).1 + X * a.getD i 0 + X * b.getD i 0 := by
      rw [Int.mul_assoc, ← Int.mul_add, hs, Int.mul_add, Int.mul_add]
    rw [Int.mul_comm (a.getD i 0) X, Int.mul_comm (b.getD i 0) X]
    omega
theorem addM_ge (a b : List Int) : a.length ≤ addM a b ∧ b.length ≤ addM a b ∧ addM a b ≤ mxl a b + 1 := by
  unfold addM mxl
  split <;> split <;> omega
theorem addM_car {a b : List Int} (ha : By a) (hb : By b) : (addB a b (addM a b)).1 = 0 := by
  have hc := addB_car ha hb (mxl a b)
  unfold addM
  by_cases h : 0 < (addB a b (mxl a b)).1
  · rw [if_pos h, addB_s]
    have h1 : a.getD (mxl a b) 0 = 0 := by
      rw [List.getD_eq_getElem?_getD, List.getElem?_eq_none (by unfold mxl; split <;> omega)]; rfl
    have h2 : b.getD (mxl a b) 0 = 0 := by
      rw [List.getD_eq_getElem?_getD, List.getElem?_eq_none (by unfold mxl; split <;> omega)]; rfl
    show (_ + _ + _) / 256 = 0
    rw [h1, h2]; omega
  · rw [if_neg h]; omega
theorem addL_val {a b : List Int} (ha : By a) (hb : By b) : bval (addL a b) = bval a + bval b := by
  have h := addB_val a b (addM a b)
  obtain ⟨g1, g2, _⟩ := addM_ge a b
  rw [addM_car ha hb, Int.mul_zero, Int.add_zero, List.take_of_length_le g1, List.take_of_length_le g2] at h
  exact h
theorem cutN_val (l : List Int) : ∀ k, bval (l.take (cutN l k)) = bval (l.take k)
  | 0 => rfl
  | k + 1 => by
    unfold cutN
    split
    · rename_i h
      rw [cutN_val l k, bval_take, h, Int.zero_mul, Int.add_zero]
    · rfl
theorem cutL_val (l : List Int) : bval (cutL l) = bval l := by
  unfold cutL; rw [cutN_val, List.take_length]
theorem cutL_by {l : List Int} (h : By l) : By (cutL l) := fun x hx => h x (List.mem_of_mem_take hx)
theorem cutL_len (l : List Int) : (cutL l).length ≤ l.length := by unfold cutL; rw [List.length_take]; omega
theorem sum_cut {a b : List Int} (ha : By a) (hb : By b) : nval (cutL (addL a b)) = nval a + nval b ∧ By (cutL (addL a b)) ∧ (cutL (addL a b)).length ≤ mxl a b + 1 := by
  have hy := addB_by ha hb (addM a b)
  have hy' : By (addL a b) := hy
  refine ⟨?_, cutL_by hy', ?_⟩
  · have h1 := nval_eq (cutL_by hy')
    have h2 := nval_eq ha
    have h3 := nval_eq hb
    have h4 := cutL_val (addL a b)
    have h5 := addL_val ha hb
    omega
  · have h1 := cutL_len (addL a b)
    have h2 : (addL a b).length = addM a b := addB_len a b _
    have h3 := (addM_ge a b).2.2
    omega
end Go.Proofs.Ytpapfkihjhhjkaa
