/- Naf, and two numbers' multiples together: plain. -/
import Derived.Test.YtpapfkihjhhjkaaGreatDgp
set_option linter.unusedSimpArgs false
set_option linter.unusedVariables false
namespace Go.Proofs.YtpapfkihjhhjkaaGreat
open Go.RowKit FdP FdP.Ch
def hZ : List Int → Int
  | [] => 0
  | d :: l => d + 2 * hZ l
theorem hZ_put : ∀ (l : List Int) (i : Nat) (x : Int), i < l.length → hZ (l.set i x) = hZ l + (x - l.getD i 0) * 2 ^ i
  | [], _, _, h => by cases h
  | a :: l, 0, x, _ => by
    show x + 2 * hZ l = a + 2 * hZ l + (x - a) * 2 ^ 0
    rw [Int.pow_zero]; omega
  | a :: l, i + 1, x, h => by
    have ih := hZ_put l i x (by simpa using h)
    show a + 2 * hZ (l.set i x) = a + 2 * hZ l + (x - l.getD i 0) * 2 ^ (i + 1)
    rw [ih, Int.pow_succ, Int.mul_add]
    have : 2 * ((x - l.getD i 0) * 2 ^ i) = (x - l.getD i 0) * (2 ^ i * 2) := by rw [Int.mul_left_comm, Int.mul_comm 2 (2 ^ i)]
    omega
theorem hZ_zs : ∀ n, hZ (List.replicate n (0 : Int)) = 0
  | 0 => rfl
  | n + 1 => by show 0 + 2 * hZ (List.replicate n (0 : Int)) = 0; rw [hZ_zs n]; rfl
theorem hZ_drop : ∀ (l : List Int) (i : Nat), hZ (l.drop i) = l.getD i 0 + 2 * hZ (l.drop (i + 1))
  | [], i => by simp [hZ]
  | a :: l, 0 => rfl
  | a :: l, i + 1 => by
    show hZ (l.drop i) = l.getD i 0 + 2 * hZ (l.drop (i + 1))
    exact hZ_drop l i
def dgOK (d : Int) : Prop := d = 0 ∨ (d % 2 = 1 ∧ -16 < d ∧ d < 16)
def NafI (N n i : Nat) (o : Int) (X : List Int) : Prop :=
  X.length = n + 1 ∧ (∀ d ∈ X, dgOK d) ∧ (o = 0 ∨ o = 1) ∧ hZ X + o * 2 ^ i = ((N % 2 ^ i : Nat) : Int) ∧ (∀ j, i ≤ j → X.getD j 0 = 0) ∧ (n < i → o = 0)
theorem nafI0 (N n : Nat) : NafI N n 0 0 (List.replicate (n + 1) 0) := by
  refine ⟨List.length_replicate .., fun d hd => .inl (List.eq_of_mem_replicate hd), .inl rfl, ?_, fun j _ => ?_, fun _ => rfl⟩
  · rw [hZ_zs, Nat.pow_zero, Nat.mod_one]; rfl
  · simp only [List.getD_eq_getElem?_getD, List.getElem?_replicate]; split <;> rfl
theorem naf_low {N n i : Nat} (hN : N < 2 ^ n) (h : n ≤ i) : N / 2 ^ i = 0 := Nat.div_eq_of_lt (Nat.lt_of_lt_of_le hN (Nat.pow_le_pow_right (by omega) h))
theorem nafE {N n i : Nat} {o : Int} {X : List Int} (hN : N < 2 ^ n) (h : NafI N n i o X) (hi : i ≤ n) (he : (((N / 2 ^ i % 2 : Nat) : Int) + o) % 2 = 0) : NafI N n (i + 1) o X := by
  obtain ⟨h1, h2, h3, h4, h5, h6⟩ := h
  refine ⟨h1, h2, h3, ?_, fun j hj => h5 j (by omega), fun hn => ?_⟩
  · have hm : N % 2 ^ (i + 1) = N % 2 ^ i + 2 ^ i * (N / 2 ^ i % 2) := by rw [Nat.pow_succ, Nat.mod_mul]
    have hb : N / 2 ^ i % 2 < 2 := Nat.mod_lt _ (by omega)
    have ho : ((N / 2 ^ i % 2 : Nat) : Int) = o := by omega
    rw [hm, Int.pow_succ]
    push_cast
    push_cast at ho h4
    rw [ho, ← h4]
    generalize (2 : Int) ^ i = A
    grind
  · rw [naf_low hN (by omega)] at he
    omega
theorem naf_and {x : Int} (h : 0 ≤ x ∧ x ≤ 2) : bits .and .i64 x 1 = x % 2 := by
  rcases (by omega : x = 0 ∨ x = 1 ∨ x = 2) with rfl | rfl | rfl <;> decide
theorem naf_dig {N n i : Nat} {o : Int} (hN : N < 2 ^ n) (hi : i ≤ n) (ho : o = 0 ∨ o = 1) (he : ¬ (((N / 2 ^ i % 2 : Nat) : Int) + o) % 2 = 0) :
    ∃ o' d : Int, (((winN N i 1 5 : Nat) : Int) + o).fdiv (2 ^ (min ((5 : Int) - 1).toNat IntKind.i64.bits)) = o' ∧ (((winN N i 1 5 : Nat) : Int) + o) - IntKind.i64.wrap (o' * 2 ^ (min (5 : Int).toNat IntKind.i64.bits)) = d ∧
    (o' = 0 ∨ o' = 1) ∧ dgOK d ∧ d + 32 * o' = ((N / 2 ^ i % 32 : Nat) : Int) + o ∧ (n < i + 5 → o' = 0) := by
  have e0 : (2 : Int) ^ min ((5 : Int) - 1).toNat IntKind.i64.bits = 16 := by decide
  have e1 : (2 : Int) ^ min (5 : Int).toNat IntKind.i64.bits = 32 := by decide
  have hw : winN N i 1 5 = N / 2 ^ i % 32 := winN_one N i 5
  have hl : n < i + 5 → N / 2 ^ i < 16 := fun h => by
    refine Nat.div_lt_of_lt_mul ?_
    have : 2 ^ n ≤ 2 ^ (i + 4) := Nat.pow_le_pow_right (by omega) (by omega)
    rw [Nat.pow_add] at this
    omega
  rw [e0, hw, Int.fdiv_eq_ediv_of_nonneg _ (by omega)]
  generalize N / 2 ^ i = a at *
  refine ⟨_, _, rfl, rfl, ?_⟩
  rw [e1]
  have q : (((a % 32 : Nat) : Int) + o) / 16 = 0 ∨ (((a % 32 : Nat) : Int) + o) / 16 = 1 := by omega
  have w0 : IntKind.i64.wrap (0 * 32) = 0 := by decide
  have w1 : IntKind.i64.wrap (1 * 32) = 32 := by decide
  unfold dgOK
  rcases q with q | q
  · rw [q, w0]; omega
  · rw [q, w1]; omega
theorem nafO {N n i : Nat} {o o' d : Int} {X : List Int} (h : NafI N n i o X) (hi : i ≤ n) (h1 : o' = 0 ∨ o' = 1) (h2 : dgOK d) (h3 : d + 32 * o' = ((N / 2 ^ i % 32 : Nat) : Int) + o) (h4 : n < i + 5 → o' = 0) : NafI N n (i + 5) o' (X.set i d) := by
  obtain ⟨g1, g2, g3, g4, g5, g6⟩ := h
  have hx : i < X.length := by omega
  refine ⟨by rw [List.length_set]; exact g1, fun y hy => ?_, h1, ?_, fun j hj => ?_, h4⟩
  · rcases List.mem_or_eq_of_mem_set hy with hy | hy
    · exact g2 y hy
    · subst hy; exact h2
  · have hm : N % 2 ^ (i + 5) = N % 2 ^ i + 2 ^ i * (N / 2 ^ i % 32) := by rw [Nat.pow_add, show (2 : Nat) ^ 5 = 32 from rfl, Nat.mod_mul]
    rw [hZ_put _ _ _ hx, g5 i (Nat.le_refl i), hm, Int.pow_add, show (2 : Int) ^ 5 = 32 from rfl]
    push_cast
    push_cast at h3 g4
    rw [← g4]
    have : ((N : Int) / 2 ^ i % 32) = d + 32 * o' - o := by omega
    rw [this]
    generalize (2 : Int) ^ i = A
    grind
  · have : (X.set i d).getD j 0 = X.getD j 0 := by simp [List.getD, List.getElem?_set, show i ≠ j by omega]
    rw [this]; exact g5 j (by omega)
theorem nafZ {N n i : Nat} {o : Int} {X : List Int} (hN : N < 2 ^ n) (h : NafI N n i o X) (hi : ¬ i ≤ n) : X.length = n + 1 ∧ (∀ d ∈ X, dgOK d) ∧ hZ X = N := by
  obtain ⟨g1, g2, g3, g4, g5, g6⟩ := h
  refine ⟨g1, g2, ?_⟩
  rw [g6 (by omega), Int.zero_mul, Int.add_zero, Nat.mod_eq_of_lt (Nat.lt_of_lt_of_le hN (Nat.pow_le_pow_right (by omega) (by omega)))] at g4
  exact g4
theorem zG_shift {a : Int} {k : Nat} (p : G) (h : 0 ≤ a + k) : zG a p + mulG k p = mulG (a + k).toNat p := by
  unfold zG
  split
  · rw [← mulG_add]; congr 1; omega
  · have : k = (-a).toNat + (a + k).toNat := by omega
    rw [this, mulG_add, ← G.assoc, G.neg_add, G.zero_add, ← this]
theorem zG_add (a b : Int) (p : G) : zG (a + b) p = zG a p + zG b p := by
  have h1 := zG_shift (a := a) (k := a.natAbs) p (by omega)
  have h2 := zG_shift (a := b) (k := b.natAbs) p (by omega)
  have h3 := zG_shift (a := a + b) (k := a.natAbs + b.natAbs) p (by omega)
  refine G.cancel (r := mulG (a.natAbs + b.natAbs) p) ?_
  rw [h3, mulG_add, show (a + b + ((a.natAbs + b.natAbs : Nat) : Int)).toNat = (a + a.natAbs).toNat + (b + b.natAbs).toNat by omega, mulG_add, ← h1, ← h2]
  simp only [G.assoc, G.comm, G.left_comm]
theorem zG_zero (p : G) : zG 0 p = 0 := rfl
theorem zG_nat (n : Nat) (p : G) : zG n p = mulG n p := by unfold zG; rw [if_pos (by omega)]; rfl
theorem zG_hZ (X : List Int) (i : Nat) (p : G) : zG (hZ (X.drop i)) p = zG (hZ (X.drop (i + 1))) p + zG (hZ (X.drop (i + 1))) p + zG (X.getD i 0) p := by
  rw [hZ_drop, ← zG_add, ← zG_add]; congr 1; omega
theorem both_step (X Y : List Int) (i : Nat) (p q : G) :
    zG (hZ (X.drop (i + 1))) p + zG (hZ (Y.drop (i + 1))) q + (zG (hZ (X.drop (i + 1))) p + zG (hZ (Y.drop (i + 1))) q) + zG (X.getD i 0) p + zG (Y.getD i 0) q = zG (hZ (X.drop i)) p + zG (hZ (Y.drop i)) q := by
  rw [zG_hZ X i, zG_hZ Y i]
  simp only [G.assoc, G.comm, G.left_comm]
theorem both_top {X Y : List Int} {n : Nat} (p q : G) (h1 : X.length ≤ n) (h2 : Y.length ≤ n) : zG (hZ (X.drop n)) p + zG (hZ (Y.drop n)) q = 0 := by
  rw [List.drop_of_length_le h1, List.drop_of_length_le h2]
  show zG 0 p + zG 0 q = 0
  rw [zG_zero, zG_zero, G.add_zero]
end Go.Proofs.YtpapfkihjhhjkaaGreat
