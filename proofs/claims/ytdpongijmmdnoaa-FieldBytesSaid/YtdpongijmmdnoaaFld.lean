/- plain: numbers modulo p (Fld) -/
import Derived.Test.YtdpongijmmdnoaaFer
namespace Go.Proofs.Ytdpongijmmdnoaa.FdP
/-! The field of P elements: its elements are Lean's Fin P -/
namespace Ch

instance : NeZero P := ⟨by decide +kernel⟩

/-- a number modulo p -/
abbrev F := Fin P

theorem P_pos : 0 < P := by decide +kernel
theorem one_lt_P : 1 < P := by decide +kernel

/-- a whole number's element -/
def z (n : Int) : F := ⟨(n % (P : Int)).toNat, by
  have h0 : (0 : Int) < P := by have := P_pos; omega
  have := Int.emod_nonneg n (b := (P : Int)) (by omega)
  have := Int.emod_lt_of_pos n h0
  omega⟩

theorem z_val (n : Int) : ((z n).val : Int) = n % P := by
  have h0 : (0 : Int) < P := by have := P_pos; omega
  have := Int.emod_nonneg n (b := (P : Int)) (by omega)
  show (((n % (P : Int)).toNat : Nat) : Int) = _
  omega

theorem z_eq {m n : Int} : z m = z n ↔ m % P = n % P := by
  constructor
  · intro h; rw [← z_val, ← z_val, h]
  · intro h; apply Fin.ext; have := z_val m; have := z_val n; omega

theorem z_of_val (a : F) : z (a.val : Int) = a := by
  apply Fin.ext
  have := z_val (a.val : Int)
  rw [Int.emod_eq_of_lt (by omega) (by have := a.isLt; omega)] at this
  omega

theorem z_add (m n : Int) : z (m + n) = z m + z n := by
  apply Fin.ext
  rw [Fin.val_add]
  have := z_val (m + n)
  have h1 := z_val m
  have h2 := z_val n
  have : (((z m).val + (z n).val) % P : Nat) = ((m + n) % P : Int) := by
    rw [Int.natCast_emod, Int.natCast_add, h1, h2]; simp
  omega

theorem z_mul (m n : Int) : z (m * n) = z m * z n := by
  apply Fin.ext
  rw [Fin.val_mul]
  have := z_val (m * n)
  have h1 := z_val m
  have h2 := z_val n
  have : (((z m).val * (z n).val) % P : Nat) = ((m * n) % P : Int) := by
    rw [Int.natCast_emod, Int.natCast_mul, h1, h2]; simp [Int.mul_emod]
  omega

theorem z_zero : z 0 = 0 := by apply Fin.ext; rfl
theorem z_one : z 1 = 1 := by
  apply Fin.ext
  have := z_val 1
  rw [Int.emod_eq_of_lt (by omega) (by have := one_lt_P; omega)] at this
  have e : (1 : F).val = 1 := by
    show 1 % P = 1
    exact Nat.mod_eq_of_lt one_lt_P
  omega
theorem z_neg (n : Int) : z (-n) = - z n := by
  have h : z (-n) + z n = 0 := by rw [← z_add, show -n + n = 0 by omega, z_zero]
  grind
theorem z_sub (m n : Int) : z (m - n) = z m - z n := by
  rw [show m - n = m + -n by omega, z_add, z_neg]; grind
theorem z_pow (n : Int) (k : Nat) : z (n ^ k) = z n ^ k := by
  induction k with
  | zero => rw [Int.pow_zero, z_one]; grind
  | succ k ih => rw [Int.pow_succ, z_mul, ih]; grind

theorem z_P : z (P : Int) = 0 := by rw [← z_zero, z_eq]; simp

/-- a product is 0 just if a part is -/
theorem mul_zero {a b : F} (h : a * b = 0) : a = 0 ∨ b = 0 := by
  have h' : (a.val * b.val) % P = 0 := by rw [← Fin.val_mul, h]; rfl
  rcases Prm.euclid one_lt_P Prm.P_prime (Nat.dvd_of_mod_eq_zero h') with g | g
  · left; apply Fin.ext; exact Nat.eq_zero_of_dvd_of_lt g a.isLt
  · right; apply Fin.ext; exact Nat.eq_zero_of_dvd_of_lt g b.isLt

theorem mul_ne {a b : F} (ha : a ≠ 0) (hb : b ≠ 0) : a * b ≠ 0 := fun h => (mul_zero h).elim ha hb

theorem mul_cancel {a b c : F} (hc : c ≠ 0) (h : a * c = b * c) : a = b := by
  have : (a - b) * c = 0 := by grind
  rcases mul_zero this with g | g
  · grind
  · exact absurd g hc

theorem val_pow (a : F) (k : Nat) : (a ^ k).val = a.val ^ k % P := by
  induction k with
  | zero =>
    have : a ^ 0 = 1 := by grind
    rw [this]; rfl
  | succ k ih =>
    have : a ^ (k + 1) = a ^ k * a := by grind
    rw [this, Fin.val_mul, ih, Nat.pow_succ]; simp [Nat.mul_mod]

theorem pow_P (a : F) : a ^ P = a := by
  apply Fin.ext
  rw [val_pow, Prm.fermat one_lt_P Prm.P_prime, Nat.mod_eq_of_lt a.isLt]

theorem pow_add (a : F) (m n : Nat) : a ^ (m + n) = a ^ m * a ^ n := by
  induction n with
  | zero => grind
  | succ n ih => rw [← Nat.add_assoc]; have : a ^ (m + n + 1) = a ^ (m + n) * a := by grind
                 rw [this, ih]; grind

theorem pow_mul (a : F) (m n : Nat) : a ^ (m * n) = (a ^ m) ^ n := by
  induction n with
  | zero => rw [Nat.mul_zero]; grind
  | succ n ih => rw [Nat.mul_succ, pow_add, ih]; grind

theorem mul_pow (a b : F) (n : Nat) : (a * b) ^ n = a ^ n * b ^ n := by
  induction n with
  | zero => grind
  | succ n ih =>
    have h1 : (a * b) ^ (n + 1) = (a * b) ^ n * (a * b) := by grind
    rw [h1, ih]; grind

theorem one_pow (n : Nat) : (1 : F) ^ n = 1 := by
  induction n with
  | zero => grind
  | succ n ih => have h1 : (1 : F) ^ (n + 1) = (1 : F) ^ n * 1 := by grind
                 rw [h1, ih]; grind

theorem zero_pow {n : Nat} (h : 0 < n) : (0 : F) ^ n = 0 := by
  obtain ⟨m, rfl⟩ : ∃ m, n = m + 1 := ⟨n - 1, by omega⟩
  have h1 : (0 : F) ^ (m + 1) = (0 : F) ^ m * 0 := by grind
  rw [h1]; grind

theorem pow_ne {a : F} (h : a ≠ 0) (n : Nat) : a ^ n ≠ 0 := by
  induction n with
  | zero =>
    have : a ^ 0 = 1 := by grind
    rw [this]; intro e
    have := congrArg Fin.val e
    rw [show (1 : F).val = 1 from Nat.mod_eq_of_lt one_lt_P] at this
    exact absurd this (by decide)
  | succ n ih => have h1 : a ^ (n + 1) = a ^ n * a := by grind
                 rw [h1]; exact mul_ne ih h

theorem one_ne : (1 : F) ≠ 0 := by have := pow_ne (a := 1) ; intro e; exact absurd (congrArg Fin.val e) (by rw [show (1 : F).val = 1 from Nat.mod_eq_of_lt one_lt_P]; decide)

theorem fermat {a : F} (h : a ≠ 0) : a ^ (P - 1) = 1 := by
  apply mul_cancel h
  have e : P - 1 + 1 = P := by have := P_pos; omega
  have : a ^ (P - 1) * a = a ^ (P - 1 + 1) := by rw [pow_add]; grind
  rw [this, e, pow_P]; grind

/-- 1 divided by an element; of 0 it is 0 -/
def inv (a : F) : F := a ^ (P - 2)

theorem inv_zero : inv 0 = 0 := zero_pow (by decide +kernel)

theorem mul_inv {a : F} (h : a ≠ 0) : a * inv a = 1 := by
  have e : P - 2 + 1 = P - 1 := by have := one_lt_P; omega
  rw [← fermat h, inv, ← e, pow_add]; grind

theorem inv_ne {a : F} (h : a ≠ 0) : inv a ≠ 0 := pow_ne h _

/-- the inverse is told by its product -/
theorem inv_eq {a b : F} (h : a * b = 1) : inv a = b := by
  have ha : a ≠ 0 := by rintro rfl; exact one_ne (by grind)
  apply mul_cancel ha
  have := mul_inv ha
  grind

theorem inv_mul (a b : F) : inv (a * b) = inv a * inv b := mul_pow a b _

theorem inv_inv (a : F) : inv (inv a) = a := by
  by_cases h : a = 0
  · subst h; rw [inv_zero, inv_zero]
  · apply inv_eq; have := mul_inv h; grind

theorem inv_one : inv 1 = 1 := one_pow _

/-- the half of p - 1 -/
def H : Nat := (P - 1) / 2

theorem two_ne : (2 : F) ≠ 0 := by
  have : (2 : F) = z 2 := by
    have : z 2 = z 1 + z 1 := by rw [← z_add]; rfl
    rw [this, z_one]; rfl
  rw [this]
  intro e
  have := z_val 2
  rw [e, Int.emod_eq_of_lt (by omega) (by have : 2 < P := by decide +kernel
                                          omega)] at this
  simp at this

theorem neg_ne {a : F} (h : a ≠ 0) : -a ≠ a := by
  intro e
  have : (2 : F) * a = 0 := by grind
  exact (mul_zero this).elim two_ne h

theorem neg_one_ne : (-1 : F) ≠ 1 := neg_ne one_ne

/-- the half power is 1 or -1 -/
theorem half_pow {a : F} (h : a ≠ 0) : a ^ H = 1 ∨ a ^ H = -1 := by
  have e : a ^ H * a ^ H = 1 := by
    rw [← pow_add, show H + H = P - 1 by decide +kernel, fermat h]
  have : (a ^ H - 1) * (a ^ H + 1) = 0 := by grind
  rcases mul_zero this with g | g
  · left; grind
  · right; grind

theorem half_sq {a : F} (h : a ≠ 0) : (a * a) ^ H = 1 := by
  rw [mul_pow, ← pow_add, show H + H = P - 1 by decide +kernel, fermat h]

theorem half_neg_one : (-1 : F) ^ H = -1 := by
  have : ∀ n : Nat, (-1 : F) ^ (2 * n + 1) = -1 := by
    intro n
    rw [pow_add, pow_mul]
    have : (-1 : F) ^ 2 = 1 := by grind
    rw [this, one_pow]; grind
  rw [show H = 2 * (H / 2) + 1 by decide +kernel]
  exact this _

/-- a square: some element times itself -/
def Sq (a : F) : Prop := ∃ b, b * b = a

/-- the power (p + 1) / 4: a root, if there is one -/
def rt (a : F) : F := a ^ ((P + 1) / 4)

theorem rt_sq (a : F) : rt a * rt a = a * a ^ H := by
  unfold rt
  rw [← pow_add, show (P + 1) / 4 + (P + 1) / 4 = H + 1 by decide +kernel, pow_add]; grind

theorem sq_iff {a : F} (h : a ≠ 0) : Sq a ↔ a ^ H = 1 := by
  constructor
  · rintro ⟨b, rfl⟩
    apply half_sq
    rintro rfl; exact h (by grind)
  · intro e
    exact ⟨rt a, by rw [rt_sq, e]; grind⟩

theorem not_sq_iff {a : F} (h : a ≠ 0) : ¬ Sq a ↔ a ^ H = -1 := by
  rw [sq_iff h]
  constructor
  · intro e; exact (half_pow h).resolve_left e
  · intro e e'; rw [e] at e'; exact neg_one_ne e'

theorem neg_one_not_sq : ¬ Sq (-1) := by
  have : (-1 : F) ≠ 0 := by
    intro e
    apply one_ne
    have : (1 : F) = -(-1) := by grind
    rw [this, e]; grind
  rw [not_sq_iff this]; exact half_neg_one

/-- two squares together are 0 just if both are -/
theorem sum_sq {a b : F} (h : a * a + b * b = 0) : a = 0 ∧ b = 0 := by
  by_cases hb : b = 0
  · subst hb
    have : a * a = 0 := by grind
    exact ⟨by rcases mul_zero this with g | g <;> exact g, rfl⟩
  · exfalso
    apply neg_one_not_sq
    refine ⟨a * inv b, ?_⟩
    have := mul_inv hb
    have e : a * a = - (b * b) := by grind
    have : a * inv b * (a * inv b) = (a * a) * (inv b * inv b) := by grind
    rw [this, e]; grind

end Ch

end Go.Proofs.Ytdpongijmmdnoaa.FdP
