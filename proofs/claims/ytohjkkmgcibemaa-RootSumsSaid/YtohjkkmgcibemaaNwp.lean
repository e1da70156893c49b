/- Numbers in words of 64 bits: plain. -/
import Derived.Test.YtohjkkmgcibemaaJ11
set_option linter.unusedSimpArgs false
set_option linter.unusedVariables false
namespace Go.Proofs.Ytohjkkmgcibemaa
def W64 (l : List Int) : Prop := ∀ x ∈ l, 0 ≤ x ∧ x < 18446744073709551616
def nW : List Int → Nat
 | [] => 0
 | x :: l => x.toNat + 18446744073709551616 * nW l
def wdsF : Nat → Nat → List Int
 | 0, _ => []
 | f + 1, n => if n = 0 then [] else ((n % 18446744073709551616 : Nat) : Int) :: wdsF f (n / 18446744073709551616)
@[irreducible] def wdN (n : Nat) : List Int := wdsF n n
theorem nW_app (a b : List Int) : nW (a ++ b) = nW a + 18446744073709551616 ^ a.length * nW b := by
 induction a with
 | nil => simp [nW]
 | cons x a ih => simp only [List.cons_append, nW, ih, List.length_cons, Nat.pow_succ, Nat.mul_add]; rw [Nat.mul_comm (18446744073709551616 ^ a.length) 18446744073709551616, Nat.mul_assoc]; omega
theorem W64.app {a b : List Int} (ha : W64 a) (hb : W64 b) : W64 (a ++ b) := fun x hx => (List.mem_append.1 hx).elim (ha x) (hb x)
theorem W64.one {x : Int} (h : 0 ≤ x ∧ x < 18446744073709551616) : W64 [x] := fun y hy => by simp at hy; rw [hy]; exact h
theorem W64.take {l : List Int} (h : W64 l) (k : Nat) : W64 (l.take k) := fun x hx => h x (List.mem_of_mem_take hx)
theorem W64.getD {l : List Int} (h : W64 l) (i : Nat) : 0 ≤ l.getD i 0 ∧ l.getD i 0 < 18446744073709551616 := by
 rw [List.getD_eq_getElem?_getD]
 cases hi : l[i]? with
 | none => simp
 | some x => exact h x (List.mem_of_getElem? hi)
theorem W64.nil : W64 [] := fun x hx => by cases hx
theorem nW_lt {l : List Int} (h : W64 l) : nW l < 18446744073709551616 ^ l.length := by
 induction l with
 | nil => simp [nW]
 | cons x l ih =>
  have := ih fun y hy => h y (List.mem_cons_of_mem _ hy)
  have hx := h x List.mem_cons_self
  simp only [nW, List.length_cons, Nat.pow_succ]
  omega
theorem wdsF_nW : ∀ (f n : Nat), n ≤ f → nW (wdsF f n) = n
 | 0, n, h => by simp [wdsF, nW]; omega
 | f + 1, n, h => by
  unfold wdsF
  split
  ·rename_i h0; rw [h0]; rfl
  ·simp only [nW, Int.toNat_natCast]
   rw [wdsF_nW f _ (by omega)]; omega
theorem wdsF_W64 : ∀ (f n : Nat), W64 (wdsF f n)
 | 0, n => W64.nil
 | f + 1, n => by
  unfold wdsF
  split
  ·exact W64.nil
  ·intro x hx
   rcases List.mem_cons.1 hx with rfl | hx
   ·omega
   ·exact wdsF_W64 f _ x hx
theorem wdsF_len : ∀ (f n k : Nat), n < 18446744073709551616 ^ k → (wdsF f n).length ≤ k
 | 0, n, k, h => by simp [wdsF]
 | f + 1, n, k, h => by
  unfold wdsF
  split
  ·simp
  ·cases k with
   | zero => simp at h; omega
   | succ k =>
    rw [Nat.pow_succ] at h
    have := wdsF_len f (n / 18446744073709551616) k (by omega)
    simp only [List.length_cons]; omega
theorem wdsF_eq : ∀ (l : List Int) (f : Nat), W64 l → (l = [] ∨ l.getLast? ≠ some 0) → nW l ≤ f → wdsF f (nW l) = l ∧ (l ≠ [] → nW l ≠ 0)
 | [], f, _, _, _ => by cases f <;> simp [wdsF, nW]
 | x :: l, f, h, hl, hf => by
  have hx := h x List.mem_cons_self
  have hl' : l = [] ∨ l.getLast? ≠ some 0 := by
   rcases hl with hl | hl
   ·cases hl
   ·cases l with
    | nil => exact .inl rfl
    | cons y l => rw [List.getLast?_cons_cons] at hl; exact .inr hl
  have n0 : nW (x :: l) ≠ 0 := by
   cases l with
   | nil =>
    have : x ≠ 0 := by rcases hl with hl | hl; cases hl; simpa using hl
    simp only [nW]; omega
   | cons y l =>
    have := (wdsF_eq (y :: l) (nW (y :: l)) (fun z hz => h z (List.mem_cons_of_mem _ hz)) hl' (Nat.le_refl _)).2 (by simp)
    rw [nW]; omega
  refine ⟨?_, fun _ => n0⟩
  cases f with
  | zero => omega
  | succ f =>
   unfold wdsF
   rw [if_neg n0]
   have e1 : ((nW (x :: l) % 18446744073709551616 : Nat) : Int) = x := by simp only [nW]; omega
   have e2 : nW (x :: l) / 18446744073709551616 = nW l := by simp only [nW]; omega
   rw [e1, e2, (wdsF_eq l f (fun z hz => h z (List.mem_cons_of_mem _ hz)) hl' (by simp only [nW] at hf n0; omega)).1]
theorem nW_wdN (n : Nat) : nW (wdN n) = n := by unfold wdN; exact wdsF_nW n n (Nat.le_refl _)
theorem wdN_W64 (n : Nat) : W64 (wdN n) := by unfold wdN; exact wdsF_W64 n n
theorem wdN_len {n k : Nat} (h : n < 18446744073709551616 ^ k) : (wdN n).length ≤ k := by unfold wdN; exact wdsF_len n n k h
theorem wdN_eq {l : List Int} (h : W64 l) (hl : l = [] ∨ l.getLast? ≠ some 0) : wdN (nW l) = l := by unfold wdN; exact (wdsF_eq l _ h hl (Nat.le_refl _)).1
theorem wdN_take {l : List Int} {k : Nat} (h : W64 l) (hk : k ≤ l.length) (hn : nW (l.take k) = nW l) (hl : k = 0 ∨ l.getD (k - 1) 0 ≠ 0) : wdN (nW l) = l.take k := by
 rw [← hn]
 refine wdN_eq (h.take k) ?_
 by_cases h0 : k = 0
 ·left; rw [h0]; rfl
 ·right
  have := hl.resolve_left h0
  rw [List.getLast?_take, if_neg h0, List.getElem?_eq_getElem (by omega)]
  rw [List.getD_eq_getElem?_getD, List.getElem?_eq_getElem (by omega)] at this
  simpa using this
theorem nW_take_s {l : List Int} {k : Nat} (hk : k < l.length) (h0 : l.getD k 0 = 0) : nW (l.take (k + 1)) = nW (l.take k) := by
 rw [List.take_add_one, nW_app]
 rw [List.getD_eq_getElem?_getD] at h0
 rw [List.getElem?_eq_getElem hk] at h0 ⊢
 simp only [Option.getD_some] at h0
 simp [nW, h0]
theorem nW_get : ∀ (l : List Int) (i : Nat), W64 l → ((nW l / 18446744073709551616 ^ i % 18446744073709551616 : Nat) : Int) = l.getD i 0
 | [], i, _ => by simp [nW]
 | x :: l, 0, h => by
  have := h x List.mem_cons_self
  simp only [nW, Nat.pow_zero, Nat.div_one, List.getD_cons_zero]; omega
 | x :: l, i + 1, h => by
  have hx := h x List.mem_cons_self
  rw [List.getD_cons_succ, ← nW_get l i fun y hy => h y (List.mem_cons_of_mem _ hy), Nat.pow_succ, Nat.mul_comm, ← Nat.div_div_eq_div_mul]
  congr 3
  simp only [nW]; omega
def digL (N : Nat) : Nat → List Int
 | 0 => []
 | m + 1 => digL N m ++ [((N / 18446744073709551616 ^ m % 18446744073709551616 : Nat) : Int)]
theorem digL_len (N : Nat) : ∀ m, (digL N m).length = m
 | 0 => rfl
 | m + 1 => by simp [digL, digL_len N m]
theorem digL_W64 (N : Nat) : ∀ m, W64 (digL N m)
 | 0 => W64.nil
 | m + 1 => (digL_W64 N m).app (W64.one (by omega))
theorem nW_digL (N : Nat) : ∀ m, nW (digL N m) = N % 18446744073709551616 ^ m
 | 0 => by simp [digL, nW, Nat.mod_one]
 | m + 1 => by
  rw [digL, nW_app, nW_digL N m, digL_len, Nat.pow_succ, Nat.mod_mul]
  simp only [nW, Int.toNat_natCast, Nat.mul_zero, Nat.add_zero]
theorem dig_set (N m i : Nat) (h : i < m) : (digL N i ++ List.replicate (m - i) (0 : Int)).set i ((N / 18446744073709551616 ^ i % 18446744073709551616 : Nat) : Int) = digL N (i + 1) ++ List.replicate (m - (i + 1)) 0 := by
 have e : m - i = (m - (i + 1)) + 1 := by omega
 rw [e, List.replicate_succ, List.set_append_right _ _ (by rw [digL_len]; exact Nat.le_refl _), digL_len, Nat.sub_self, List.set_cons_zero, digL, List.append_assoc]; rfl
theorem nW_rep (m : Nat) : nW (List.replicate m (0 : Int)) = 0 := by
 induction m with
 | zero => rfl
 | succ m ih => simp [List.replicate_succ, nW, ih]
theorem add_step (A B i : Nat) : (A % 18446744073709551616 ^ (i + 1) + B % 18446744073709551616 ^ (i + 1)) / 18446744073709551616 ^ (i + 1) =
 (A / 18446744073709551616 ^ i % 18446744073709551616 + B / 18446744073709551616 ^ i % 18446744073709551616 + (A % 18446744073709551616 ^ i + B % 18446744073709551616 ^ i) / 18446744073709551616 ^ i) / 18446744073709551616 ∧
 (A + B) / 18446744073709551616 ^ i % 18446744073709551616 =
 (A / 18446744073709551616 ^ i % 18446744073709551616 + B / 18446744073709551616 ^ i % 18446744073709551616 + (A % 18446744073709551616 ^ i + B % 18446744073709551616 ^ i) / 18446744073709551616 ^ i) % 18446744073709551616 := by
 have hw : 0 < 18446744073709551616 ^ i := Nat.pow_pos (by omega)
 rw [Nat.pow_succ]
 generalize 18446744073709551616 ^ i = w at *
 rw [Nat.mod_mul, Nat.mod_mul, ← Nat.div_div_eq_div_mul]
 have e1 : A % w + w * (A / w % 18446744073709551616) + (B % w + w * (B / w % 18446744073709551616)) = A % w + B % w + w * (A / w % 18446744073709551616 + B / w % 18446744073709551616) := by rw [Nat.mul_add]; omega
 have e2 : A + B = A % w + B % w + w * (A / w + B / w) := by
  have ea := Nat.div_add_mod A w
  have eb := Nat.div_add_mod B w
  rw [Nat.mul_add]; omega
 refine ⟨?_, ?_⟩
 ·rw [e1, Nat.add_mul_div_left _ _ hw]; congr 1; omega
 ·rw [e2, Nat.add_mul_div_left _ _ hw]; omega
theorem nW_set : ∀ (l : List Int) (j : Nat) (v : Int), j < l.length → nW (l.set j v) + (l.getD j 0).toNat * 18446744073709551616 ^ j = nW l + v.toNat * 18446744073709551616 ^ j
 | [], j, v, h => by simp at h
 | x :: l, 0, v, _ => by simp only [List.set_cons_zero, nW, List.getD_cons_zero, Nat.pow_zero]; omega
 | x :: l, j + 1, v, h => by
  have := nW_set l j v (by simpa using h)
  simp only [List.set_cons_succ, nW, List.getD_cons_succ, Nat.pow_succ]
  have e1 : (l.getD j 0).toNat * (18446744073709551616 ^ j * 18446744073709551616) = 18446744073709551616 * ((l.getD j 0).toNat * 18446744073709551616 ^ j) := by rw [← Nat.mul_assoc, Nat.mul_comm]
  have e2 : v.toNat * (18446744073709551616 ^ j * 18446744073709551616) = 18446744073709551616 * (v.toNat * 18446744073709551616 ^ j) := by rw [← Nat.mul_assoc, Nat.mul_comm]
  rw [e1, e2]; omega
theorem W64.set {l : List Int} (h : W64 l) (j : Nat) {v : Int} (hv : 0 ≤ v ∧ v < 18446744073709551616) : W64 (l.set j v) := fun x hx => by
 rcases List.mem_or_eq_of_mem_set hx with hx | hx
 ·exact h x hx
 ·rw [hx]; exact hv
theorem mul_step {out : List Int} {p i k a b o s h O B : Nat} (hp : p = i + k) (hl : p < out.length) (hs : s + 18446744073709551616 * h = a * b + (out.getD p 0).toNat + o)
 (hb : b = B / 18446744073709551616 ^ k % 18446744073709551616) (hI : nW out + o * 18446744073709551616 ^ p = O + a * (B % 18446744073709551616 ^ k) * 18446744073709551616 ^ i) :
 nW (out.set p (s : Int)) + h * 18446744073709551616 ^ (p + 1) = O + a * (B % 18446744073709551616 ^ (k + 1)) * 18446744073709551616 ^ i := by
 have h1 := nW_set out p (s : Int) hl
 rw [Int.toNat_natCast] at h1
 have e1 : B % 18446744073709551616 ^ (k + 1) = B % 18446744073709551616 ^ k + 18446744073709551616 ^ k * b := by rw [Nat.pow_succ, Nat.mod_mul, hb]
 have e2 : 18446744073709551616 ^ p = 18446744073709551616 ^ i * 18446744073709551616 ^ k := by rw [hp, Nat.pow_add]
 rw [e1, Nat.pow_succ]
 generalize 18446744073709551616 ^ p = w at *
 generalize (out.getD p 0).toNat = d at *
 have e3 : a * (B % 18446744073709551616 ^ k + 18446744073709551616 ^ k * b) * 18446744073709551616 ^ i = a * (B % 18446744073709551616 ^ k) * 18446744073709551616 ^ i + a * b * w := by
  rw [e2, Nat.mul_add, Nat.add_mul]
  congr 1
  grind
 rw [e3]
 have e4 : s * w + h * (w * 18446744073709551616) = (s + 18446744073709551616 * h) * w := by grind
 have e5 : (a * b + d + o) * w = a * b * w + d * w + o * w := by rw [Nat.add_mul, Nat.add_mul]
 rw [hs, e5] at e4
 omega
end Go.Proofs.Ytohjkkmgcibemaa
