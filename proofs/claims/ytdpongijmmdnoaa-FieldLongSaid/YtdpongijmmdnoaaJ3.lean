/- joined: Prm Fer Fld Rtp Pla Plm Pls Plz -/
import Derived.Test.YtdpongijmmdnoaaJ2
import Derived.Laws.Bits64
import Derived.Laws.Bits64b
set_option linter.unusedSimpArgs false
set_option linter.unusedVariables false
/- plain: numbers modulo p (Prm) -/
namespace Go.Proofs.Ytdpongijmmdnoaa.FdP
def P : Nat := 726838724295606890549323807888004534353641360687318060281490199180612328166730772686396383698676545930088884461843637361053498018365439

namespace Prm

def pw (a b : Int) : Nat → Int × Int
 | 0 => (1, 0)
 | k + 1 => ((pw a b k).1 * a - (pw a b k).2 * b, (pw a b k).1 * b + (pw a b k).2 * a)

theorem pw_add (a b : Int) (i j : Nat) :
 (pw a b (i + j)).1 = (pw a b i).1 * (pw a b j).1 - (pw a b i).2 * (pw a b j).2 ∧
 (pw a b (i + j)).2 = (pw a b i).1 * (pw a b j).2 + (pw a b i).2 * (pw a b j).1 := by
 induction j with
 | zero => simp [pw]
 | succ j ih =>
  obtain ⟨h1, h2⟩ := ih
  rw [← Nat.add_assoc]
  simp only [pw, h1, h2]
  constructor <;> grind

theorem pw_norm (a b : Int) (k : Nat) : (pw a b k).1 * (pw a b k).1 + (pw a b k).2 * (pw a b k).2 = (a * a + b * b) ^ k := by
 induction k with
 | zero => simp [pw]
 | succ k ih => simp only [pw]; rw [Int.pow_succ, ← ih]; grind

def pm (n a b : Nat) : Nat → Nat → Nat × Nat
 | 0, _ => (1, 0)
 | f + 1, k =>
  if k = 0 then (1, 0) else
  let h := pm n a b f (k / 2)
  let x := (h.1 * h.1 + (n - 1) * (h.2 * h.2)) % n
  let y := (2 * h.1 * h.2) % n
  if k % 2 = 0 then (x, y) else ((x * a + (n - 1) * (y * b)) % n, (x * b + y * a) % n)

theorem sub_mod_dvd (n : Int) (a : Int) : n ∣ a % n - a := by
 refine ⟨-(a / n), ?_⟩
 have := Int.mul_ediv_add_emod a n
 grind

theorem pm_pw (n a b : Nat) (hn : 0 < n) : ∀ f k, k < 2 ^ f → (n : Int) ∣ ((pm n a b f k).1 : Int) - (pw a b k).1 ∧ (n : Int) ∣ ((pm n a b f k).2 : Int) - (pw a b k).2 := by
 intro f
 induction f with
 | zero =>
  intro k hk
  have : k = 0 := by simpa using hk
  subst this; simp [pm, pw]
 | succ f ih =>
  intro k hk
  by_cases h0 : k = 0
  ·subst h0; simp [pm, pw]
  have hk2 : k / 2 < 2 ^ f := by rw [Nat.pow_succ] at hk; omega
  obtain ⟨h1, h2⟩ := ih (k / 2) hk2
  generalize hp : pm n a b f (k / 2) = p at *
  obtain ⟨d1, d2⟩ := pw_add a b (k / 2) (k / 2)
  generalize hw : pw a b (k / 2) = w at *
  obtain ⟨c1, hc1⟩ := h1
  obtain ⟨c2, hc2⟩ := h2
  have e1 : (p.1 : Int) = w.1 + n * c1 := by omega
  have e2 : (p.2 : Int) = w.2 + n * c2 := by omega
  have X : (n : Int) ∣ (((p.1 * p.1 + (n - 1) * (p.2 * p.2)) % n : Nat) : Int) - (pw a b (k/2 + k/2)).1 := by
   rw [d1]
   have s := sub_mod_dvd (n : Int) ((p.1 * p.1 + (n - 1) * (p.2 * p.2) : Nat) : Int)
   rw [← Int.natCast_emod] at s
   obtain ⟨t, ht⟩ := s
   have e3 : (((p.1 * p.1 + (n - 1) * (p.2 * p.2) : Nat)) : Int) = (p.1 : Int) * p.1 + ((n : Int) - 1) * ((p.2 : Int) * p.2) := by
    rw [Int.natCast_add, Int.natCast_mul, Int.natCast_mul, Int.natCast_mul, Int.natCast_sub hn]; rfl
   rw [e3] at ht
   refine ⟨t + 2 * w.1 * c1 + n * c1 * c1 + p.2 * p.2 - 2 * w.2 * c2 - n * c2 * c2, ?_⟩
   have : ((p.1 * p.1 + (n - 1) * (p.2 * p.2)) % n : Nat) = ((p.1 : Int) * p.1 + ((n : Int) - 1) * ((p.2 : Int) * p.2)) + n * t := by omega
   rw [this]; grind
  have Y : (n : Int) ∣ (((2 * p.1 * p.2) % n : Nat) : Int) - (pw a b (k/2 + k/2)).2 := by
   rw [d2]
   have s := sub_mod_dvd (n : Int) ((2 * p.1 * p.2 : Nat) : Int)
   rw [← Int.natCast_emod] at s
   obtain ⟨t, ht⟩ := s
   have e3 : ((2 * p.1 * p.2 : Nat) : Int) = 2 * (p.1 : Int) * p.2 := by simp
   rw [e3] at ht
   refine ⟨t + 2 * w.1 * c2 + 2 * w.2 * c1 + 2 * n * c1 * c2, ?_⟩
   have : (((2 * p.1 * p.2) % n : Nat) : Int) = 2 * (p.1 : Int) * p.2 + n * t := by omega
   rw [this]; grind
  generalize hx : (p.1 * p.1 + (n - 1) * (p.2 * p.2)) % n = x at *
  generalize hy : (2 * p.1 * p.2) % n = y at *
  by_cases hm : k % 2 = 0
  ·have e : pm n a b (f + 1) k = (x, y) := by simp only [pm, if_neg h0, hp, hx, hy, if_pos hm]
   have ek : k / 2 + k / 2 = k := by omega
   rw [e]; rw [ek] at X Y; exact ⟨X, Y⟩
  ·have e : pm n a b (f + 1) k = ((x * a + (n - 1) * (y * b)) % n, (x * b + y * a) % n) := by simp only [pm, if_neg h0, hp, hx, hy, if_neg hm]
   have ek : k / 2 + k / 2 + 1 = k := by omega
   have hz : pw a b k = ((pw a b (k/2+k/2)).1 * a - (pw a b (k/2+k/2)).2 * b, (pw a b (k/2+k/2)).1 * b + (pw a b (k/2+k/2)).2 * a) := by
    conv => lhs; rw [← ek]
    rfl
   rw [e, hz]
   clear e hz d1 d2 hw
   generalize pw a b (k/2 + k/2) = z at *
   obtain ⟨u, hu⟩ := X
   obtain ⟨v, hv⟩ := Y
   have s1 := sub_mod_dvd (n : Int) ((x * a + (n - 1) * (y * b) : Nat) : Int)
   have s2 := sub_mod_dvd (n : Int) ((x * b + y * a : Nat) : Int)
   rw [← Int.natCast_emod] at s1 s2
   obtain ⟨t1, ht1⟩ := s1
   obtain ⟨t2, ht2⟩ := s2
   have e3 : ((x * a + (n - 1) * (y * b) : Nat) : Int) = (x : Int) * a + ((n : Int) - 1) * ((y : Int) * b) := by
    rw [Int.natCast_add, Int.natCast_mul, Int.natCast_mul, Int.natCast_mul, Int.natCast_sub hn]; rfl
   have e4 : ((x * b + y * a : Nat) : Int) = (x : Int) * b + y * a := by simp
   rw [e3] at ht1
   rw [e4] at ht2
   generalize (x * a + (n - 1) * (y * b)) % n = r1 at *
   generalize (x * b + y * a) % n = r2 at *
   refine ⟨⟨t1 + u * a + y * b - v * b, ?_⟩, ⟨t2 + u * b + v * a, ?_⟩⟩
   ·have : (r1 : Int) = (x : Int) * a + ((n : Int) - 1) * ((y : Int) * b) + n * t1 := by omega
    have hx : (x : Int) = z.1 + n * u := by omega
    have hy : (y : Int) = z.2 + n * v := by omega
    simp only [this, hx, hy]; grind
   ·have : (r2 : Int) = (x : Int) * b + y * a + n * t2 := by omega
    have hx : (x : Int) = z.1 + n * u := by omega
    have hy : (y : Int) = z.2 + n * v := by omega
    simp only [this, hx, hy]; grind

def One (q : Nat) (a b : Int) (k : Nat) : Prop := (q : Int) ∣ (pw a b k).1 - 1 ∧ (q : Int) ∣ (pw a b k).2

theorem one_zero (q : Nat) (a b : Int) : One q a b 0 := by simp [One, pw]

theorem one_add {q : Nat} {a b : Int} {i j : Nat} (hi : One q a b i) (hj : One q a b j) : One q a b (i + j) := by
 obtain ⟨⟨s, hs⟩, ⟨t, ht⟩⟩ := hi
 obtain ⟨⟨u, hu⟩, ⟨v, hv⟩⟩ := hj
 obtain ⟨d1, d2⟩ := pw_add a b i j
 have es : (pw a b i).1 = 1 + q * s := by omega
 have eu : (pw a b j).1 = 1 + q * u := by omega
 refine ⟨⟨s + u + q * s * u - q * t * v, ?_⟩, ⟨v + t + q * s * v + q * t * u, ?_⟩⟩
 ·rw [d1, es, eu, ht, hv]; grind
 ·rw [d2, es, eu, ht, hv]; grind

theorem one_mul {q : Nat} {a b : Int} {i : Nat} (hi : One q a b i) : ∀ j, One q a b (i * j)
 | 0 => by simpa using one_zero q a b
 | j + 1 => by rw [Nat.mul_succ]; exact one_add (one_mul hi j) hi

theorem one_sub {q : Nat} {a b : Int} {i j : Nat} (hi : One q a b i) (hj : One q a b (i + j)) : One q a b j := by
 obtain ⟨⟨s, hs⟩, ⟨t, ht⟩⟩ := hi
 obtain ⟨⟨u, hu⟩, ⟨v, hv⟩⟩ := hj
 obtain ⟨d1, d2⟩ := pw_add a b i j
 have es : (pw a b i).1 = 1 + q * s := by omega
 rw [d1, es, ht] at hu
 rw [d2, es, ht] at hv
 refine ⟨⟨u - s * (pw a b j).1 + t * (pw a b j).2, ?_⟩, ⟨v - s * (pw a b j).2 - t * (pw a b j).1, ?_⟩⟩
 ·grind
 ·grind

theorem one_gcd {q : Nat} {a b : Int} : ∀ m n : Nat, One q a b m → One q a b n → One q a b (Nat.gcd m n) := by
 intro m n
 induction m, n using Nat.gcd.induction with
 | H0 n => intro _ h; simpa using h
 | H1 m n hm ih =>
  intro h1 h2
  rw [Nat.gcd_rec]
  refine ih ?_ h1
  have e : m * (n / m) + n % m = n := Nat.div_add_mod n m
  exact one_sub (one_mul h1 (n / m)) (by rw [e]; exact h2)

theorem one_of_eq {q : Nat} {a b : Int} (hn : (q : Int) ∣ a * a + b * b - 1) {i e : Nat}
 (h1 : (q : Int) ∣ (pw a b (i + e)).1 - (pw a b i).1) (h2 : (q : Int) ∣ (pw a b (i + e)).2 - (pw a b i).2) : One q a b e := by
 have nrm : ∀ k, (q : Int) ∣ (pw a b k).1 * (pw a b k).1 + (pw a b k).2 * (pw a b k).2 - 1 := by
  intro k
  rw [pw_norm]
  induction k with
  | zero => simp
  | succ k ih =>
   obtain ⟨s, hs⟩ := ih
   obtain ⟨t, ht⟩ := hn
   refine ⟨s * (a * a + b * b) + t, ?_⟩
   rw [Int.pow_succ]
   have : (a * a + b * b) ^ k = 1 + q * s := by omega
   rw [this]; grind
 obtain ⟨s, hs⟩ := nrm i
 obtain ⟨d1, d2⟩ := pw_add a b i e
 rw [d1] at h1
 rw [d2] at h2
 obtain ⟨u, hu⟩ := h1
 obtain ⟨v, hv⟩ := h2
 generalize pw a b i = z at *
 generalize hw : pw a b e = w at *
 unfold One
 rw [hw]
 refine ⟨⟨z.1 * u + z.2 * v - s * (w.1 - 1), ?_⟩, ⟨z.1 * v - z.2 * u - s * w.2, ?_⟩⟩
 ·grind
 ·grind

theorem pigeon : ∀ (K M : Nat) (f : Nat → Nat), (∀ i, i < M → f i < K) → (∀ i j, i < M → j < M → f i = f j → i = j) → M ≤ K := by
 intro K
 induction K with
 | zero =>
  intro M f h _
  rcases Nat.eq_zero_or_pos M with h0 | h0
  ·omega
  ·exact absurd (h 0 h0) (by omega)
 | succ K ih =>
  intro M f h inj
  rcases Nat.eq_zero_or_pos M with h0 | h0
  ·omega
  have := ih (M - 1) (fun i => if f i = K then f (M - 1) else f i) (by
   intro i hi
   have a1 := h i (by omega)
   have a2 := h (M - 1) (by omega)
   show (if f i = K then f (M - 1) else f i) < K
   split
   ·rename_i hk
    have : f (M - 1) ≠ K := fun e => by have := inj i (M - 1) (by omega) (by omega) (by omega); omega
    omega
   ·omega) (by
   intro i j hi hj
   show (if f i = K then f (M - 1) else f i) = (if f j = K then f (M - 1) else f j) → i = j
   split <;> split
   ·intro _; exact inj i j (by omega) (by omega) (by omega)
   ·intro e; have := inj (M - 1) j (by omega) (by omega) e; omega
   ·intro e; have := inj i (M - 1) (by omega) (by omega) e; omega
   ·intro e; exact inj i j (by omega) (by omega) e)
  omega

theorem least_factor : ∀ (n : Nat), 1 < n → ∃ q, 1 < q ∧ q ∣ n ∧ ∀ d, 1 < d → d ∣ n → q ≤ d := by
 intro n hn
 have key : ∀ k, (∃ d, 1 < d ∧ d ≤ k ∧ d ∣ n) → ∃ q, 1 < q ∧ q ∣ n ∧ ∀ d, 1 < d → d ∣ n → q ≤ d := by
  intro k
  induction k with
  | zero => rintro ⟨d, h1, h2, _⟩; omega
  | succ k ih =>
   intro h
   by_cases hk : ∃ d, 1 < d ∧ d ≤ k ∧ d ∣ n
   ·exact ih hk
   ·obtain ⟨d, h1, h2, h3⟩ := h
    refine ⟨d, h1, h3, fun e he hd => ?_⟩
    rcases Nat.lt_or_ge e d with hlt | hge
    ·exact absurd ⟨e, he, by omega, hd⟩ hk
    ·exact hge
 exact key n ⟨n, hn, Nat.le_refl _, Nat.dvd_refl n⟩

theorem euclid {q : Nat} (_h1 : 1 < q) (hq : ∀ d, d ∣ q → d = 1 ∨ d = q) {a b : Nat} (h : q ∣ a * b) : q ∣ a ∨ q ∣ b := by
 rcases hq (Nat.gcd q a) (Nat.gcd_dvd_left q a) with g | g
 ·exact Or.inr (Nat.Coprime.dvd_of_dvd_mul_left g h)
 ·left; rw [← g]; exact Nat.gcd_dvd_right q a

theorem euclid_int {q : Nat} (h1 : 1 < q) (hq : ∀ d, d ∣ q → d = 1 ∨ d = q) {a b : Int} (h : (q : Int) ∣ a * b) : (q : Int) ∣ a ∨ (q : Int) ∣ b := by
 have := Int.natAbs_dvd_natAbs.2 h
 rw [Int.natAbs_mul, Int.natAbs_natCast] at this
 rcases euclid h1 hq this with g | g
 ·left; rw [← Int.natAbs_dvd_natAbs]; simpa using g
 ·right; rw [← Int.natAbs_dvd_natAbs]; simpa using g

theorem prime_of (n a b M k : Nat) (hn : 1 < n) (hodd : n % 2 = 1) (hM : M = 2 ^ k * 15) (hMn : M ∣ n + 1)
 (hk : 4 * n < M * M)
 (hnorm : (n : Int) ∣ (a : Int) * a + (b : Int) * b - 1)
 (hone : ∀ q : Nat, q ∣ n → One q a b (n + 1))
 (h2 : ∀ q : Nat, 1 < q → q ∣ n → ¬ One q a b ((n + 1) / 2))
 (h3 : ∀ q : Nat, 1 < q → q ∣ n → ¬ One q a b ((n + 1) / 3))
 (h5 : ∀ q : Nat, 1 < q → q ∣ n → ¬ One q a b ((n + 1) / 5)) :
 ∀ d, d ∣ n → d = 1 ∨ d = n := by
 obtain ⟨q, q1, qn, ql⟩ := least_factor n hn
 have qp : ∀ d, d ∣ q → d = 1 ∨ d = q := by
  intro d hd
  rcases Nat.lt_or_ge 1 d with h | h
  ·have := ql d h (Nat.dvd_trans hd qn)
   have := Nat.le_of_dvd (by omega) hd
   right; omega
  ·rcases Nat.eq_zero_or_pos d with h0 | h0
   ·subst h0; have := Nat.eq_zero_of_zero_dvd hd; omega
   ·left; omega
 have qodd : q % 2 = 1 := by
  obtain ⟨c, hc⟩ := qn
  rcases Nat.mod_two_eq_zero_or_one q with h | h
  ·rw [hc, Nat.mul_mod, h] at hodd; simp at hodd
  ·exact h
 -- powers below M are told apart modulo q
 have hlow : ∀ e, 0 < e → e < M → ¬ One q a b e := by
  intro e e0 eM ho
  have hg := one_gcd e (n + 1) ho (hone q qn)
  obtain ⟨h, hh⟩ := Nat.gcd_dvd_right e (n + 1)
  have gle : Nat.gcd e (n + 1) ≤ e := Nat.le_of_dvd e0 (Nat.gcd_dvd_left e (n + 1))
  have gpos : 0 < Nat.gcd e (n + 1) := Nat.gcd_pos_of_pos_left _ e0
  generalize Nat.gcd e (n + 1) = g at *
  have red : ∀ r, 0 < r → r ∣ h → One q a b ((n + 1) / r) := by
   rintro r hr ⟨c, hc⟩
   have : (n + 1) / r = g * c := by
    rw [hh, hc, show g * (r * c) = r * (g * c) by rw [Nat.mul_left_comm], Nat.mul_div_cancel_left _ hr]
   rw [this]; exact one_mul hg c
  have cop : ∀ r, (∀ d, d ∣ r → d = 1 ∨ d = r) → 0 < r → ¬ r ∣ h → Nat.Coprime r h := by
   intro r hr h0 hn
   rcases hr (Nat.gcd r h) (Nat.gcd_dvd_left r h) with g1 | g1
   ·exact g1
   ·exact absurd (by rw [← g1]; exact Nat.gcd_dvd_right r h) hn
  have c2 : Nat.Coprime 2 h := cop 2 (fun d hd => (by decide : ∀ d, d < 3 → d ∣ 2 → d = 1 ∨ d = 2) d (by have := Nat.le_of_dvd (by omega) hd; omega) hd) (by omega) fun z => h2 q q1 qn (red 2 (by omega) z)
  have c3 : Nat.Coprime 3 h := cop 3 (fun d hd => (by decide : ∀ d, d < 4 → d ∣ 3 → d = 1 ∨ d = 3) d (by have := Nat.le_of_dvd (by omega) hd; omega) hd) (by omega) fun z => h3 q q1 qn (red 3 (by omega) z)
  have c5 : Nat.Coprime 5 h := cop 5 (fun d hd => (by decide : ∀ d, d < 6 → d ∣ 5 → d = 1 ∨ d = 5) d (by have := Nat.le_of_dvd (by omega) hd; omega) hd) (by omega) fun z => h5 q q1 qn (red 5 (by omega) z)
  have cM : Nat.Coprime M h := by
   rw [hM, show (15 : Nat) = 3 * 5 from rfl]
   exact Nat.Coprime.mul_left (Nat.Coprime.pow_left k c2) (Nat.Coprime.mul_left c3 c5)
  rw [hh] at hMn
  have := Nat.le_of_dvd gpos (Nat.Coprime.dvd_of_dvd_mul_right cM hMn)
  omega
 -- so M is at most 2 q
 have hle : M ≤ 2 * q := by
  have q0 : (0 : Int) < q := by omega
  have bd : ∀ z : Int, 0 ≤ z % (q : Int) ∧ z % (q : Int) < q := fun z => ⟨Int.emod_nonneg z (by omega), Int.emod_lt_of_pos z q0⟩
  refine pigeon (2 * q) M (fun i => 2 * ((pw a b i).1 % (q : Int)).toNat + (if 2 * ((pw a b i).2 % (q : Int)) < q then 0 else 1)) ?_ ?_
  ·intro i _
   have := bd (pw a b i).1
   show 2 * ((pw a b i).1 % (q : Int)).toNat + (if 2 * ((pw a b i).2 % (q : Int)) < q then 0 else 1) < 2 * q
   split <;> omega
  ·-- of the same code: the same power
   have hnq : (q : Int) ∣ (a : Int) * a + (b : Int) * b - 1 := Int.dvd_trans (Int.natCast_dvd_natCast.2 qn) hnorm
   have nrm : ∀ k, (q : Int) ∣ (pw a b k).1 * (pw a b k).1 + (pw a b k).2 * (pw a b k).2 - 1 := by
    intro k
    rw [pw_norm]
    induction k with
    | zero => simp
    | succ k ih =>
     obtain ⟨s, hs⟩ := ih
     obtain ⟨t, ht⟩ := hnq
     refine ⟨s * (a * a + b * b) + t, ?_⟩
     rw [Int.pow_succ]
     have : ((a : Int) * a + b * b) ^ k = 1 + q * s := by omega
     rw [this]; grind
   have main : ∀ i e, i + e < M → 0 < e →
    2 * ((pw a b i).1 % (q : Int)).toNat + (if 2 * ((pw a b i).2 % (q : Int)) < q then 0 else 1) = 2 * ((pw a b (i + e)).1 % (q : Int)).toNat + (if 2 * ((pw a b (i + e)).2 % (q : Int)) < q then 0 else 1) → False := by
    intro i e he e0 hc
    apply hlow e e0 (by omega)
    have b1 := bd (pw a b i).1
    have b2 := bd (pw a b i).2
    have b3 := bd (pw a b (i + e)).1
    have b4 := bd (pw a b (i + e)).2
    have N1 := nrm i
    have N2 := nrm (i + e)
    refine one_of_eq (q := q) (a := a) (b := b) (i := i) hnq ?_ ?_
    ·apply Int.dvd_of_emod_eq_zero
     rw [Int.sub_emod]
     have : (pw a b (i + e)).1 % (q : Int) = (pw a b i).1 % (q : Int) := by
      split at hc <;> split at hc <;> omega
     rw [this]; simp
    ·have e1 : (pw a b (i + e)).1 % (q : Int) = (pw a b i).1 % (q : Int) := by
      split at hc <;> split at hc <;> omega
     have x1 : (q : Int) ∣ (pw a b (i + e)).1 - (pw a b i).1 := by
      apply Int.dvd_of_emod_eq_zero
      rw [Int.sub_emod, e1]; simp
     have yy : (q : Int) ∣ ((pw a b (i + e)).2 - (pw a b i).2) * ((pw a b (i + e)).2 + (pw a b i).2) := by
      obtain ⟨s, hs⟩ := x1
      obtain ⟨t, ht⟩ := N1
      obtain ⟨u, hu⟩ := N2
      refine ⟨u - t - s * ((pw a b (i + e)).1 + (pw a b i).1), ?_⟩
      grind
     rcases euclid_int q1 qp yy with h | h
     ·exact h
     ·have s0 := Int.emod_eq_zero_of_dvd h
      rw [Int.add_emod] at s0
      have : (pw a b (i + e)).2 % (q : Int) = (pw a b i).2 % (q : Int) := by
       generalize (pw a b (i + e)).2 % (q : Int) = v at *
       generalize (pw a b i).2 % (q : Int) = w at *
       have hs : v + w = 0 ∨ v + w = q := by
        rcases Int.lt_or_le (v + w) q with l | l
        ·left; rwa [Int.emod_eq_of_lt (by omega) l] at s0
        ·right
         have : (v + w) % (q : Int) = v + w - q := by
          rw [← Int.sub_emod_right]; exact Int.emod_eq_of_lt (by omega) (by omega)
         omega
       rcases hs with hs | hs
       ·omega
       ·split at hc <;> split at hc <;> omega
      apply Int.dvd_of_emod_eq_zero
      rw [Int.sub_emod, this]; simp
   intro i j hi hj hc
   rcases Nat.lt_trichotomy i j with l | l | l
   ·exfalso
    obtain ⟨e, rfl⟩ : ∃ e, j = i + e := ⟨j - i, by omega⟩
    exact main i e hj (by omega) hc
   ·exact l
   ·exfalso
    obtain ⟨e, rfl⟩ : ∃ e, i = j + e := ⟨i - j, by omega⟩
    exact main j e hi (by omega) hc.symm
 -- so q q is more than n
 have hqn : n < q * q := by
  have : M * M ≤ (2 * q) * (2 * q) := Nat.mul_le_mul hle hle
  have e : (2 * q) * (2 * q) = 4 * (q * q) := by grind
  omega
 -- q is n
 obtain ⟨c, hc⟩ := qn
 have c1 : c = 1 := by
  rcases Nat.lt_or_ge 1 c with l | l
  ·have := ql c l ⟨q, by rw [hc, Nat.mul_comm]⟩
   have : q * q ≤ q * c := Nat.mul_le_mul_left q this
   omega
  ·rcases Nat.eq_zero_or_pos c with z | z
   ·subst z; omega
   ·omega
 subst c1
 rw [Nat.mul_one] at hc
 rw [hc]; exact qp

theorem not_one (n a b k : Nat) (f : Nat) (hn : 0 < n) (hk : k < 2 ^ f)
 (h : Nat.gcd ((pm n a b f k).1 + (n - 1)) n = 1 ∨ Nat.gcd (pm n a b f k).2 n = 1) : ∀ q : Nat, 1 < q → q ∣ n → ¬ One q a b k := by
 rintro q q1 qn ⟨o1, o2⟩
 obtain ⟨p1, p2⟩ := pm_pw n a b hn f k hk
 have qi : (q : Int) ∣ n := Int.natCast_dvd_natCast.2 qn
 rcases h with h | h
 ·have d1 : (q : Int) ∣ ((pm n a b f k).1 + (n - 1) : Nat) := by
   have e : (((pm n a b f k).1 + (n - 1) : Nat) : Int) = (((pm n a b f k).1 : Int) - (pw a b k).1) + ((pw a b k).1 - 1) + n := by omega
   rw [e]; exact Int.dvd_add (Int.dvd_add (Int.dvd_trans qi p1) o1) qi
  have := Nat.dvd_gcd (Int.natCast_dvd_natCast.1 d1) qn
  rw [h] at this
  have := Nat.le_of_dvd (by omega) this
  omega
 ·have d2 : (q : Int) ∣ ((pm n a b f k).2 : Nat) := by
   have e : (((pm n a b f k).2 : Nat) : Int) = (((pm n a b f k).2 : Int) - (pw a b k).2) + (pw a b k).2 := by omega
   rw [e]; exact Int.dvd_add (Int.dvd_trans qi p2) o2
  have := Nat.dvd_gcd (Int.natCast_dvd_natCast.1 d2) qn
  rw [h] at this
  have := Nat.le_of_dvd (by omega) this
  omega

theorem yes_one (n a b k : Nat) (f : Nat) (hn : 1 < n) (hk : k < 2 ^ f) (h : pm n a b f k = (1, 0)) : ∀ q : Nat, q ∣ n → One q a b k := by
 rintro q qn
 obtain ⟨p1, p2⟩ := pm_pw n a b (by omega) f k hk
 rw [h] at p1 p2
 have qi : (q : Int) ∣ n := Int.natCast_dvd_natCast.2 qn
 constructor
 ·have := Int.dvd_trans qi p1
  have e : (pw a b k).1 - 1 = -(((1 : Nat) : Int) - (pw a b k).1) := by omega
  rw [e]; exact Int.dvd_neg.2 this
 ·have := Int.dvd_trans qi p2
  have e : (pw a b k).2 = -(((0 : Nat) : Int) - (pw a b k).2) := by omega
  rw [e]; exact Int.dvd_neg.2 this

theorem P_prime : ∀ d, d ∣ P → d = 1 ∨ d = P := by
 refine prime_of P 111821342199324137007588278136616082208252517028818163120229261412401896641035503490214828261334853220013674532591328824777461233594682 559106710996620685037941390683080411041262585144090815601146307062009483205177517451074141306674266100068372662956644123887306167973415 (2 ^ 224 * 15) 224 (by decide +kernel) (by decide +kernel) rfl (by decide +kernel) (by decide +kernel) ?_ ?_ ?_ ?_ ?_
 ·apply Int.dvd_of_emod_eq_zero; decide +kernel
 ·exact yes_one P _ _ (P + 1) 450 (by decide +kernel) (by decide +kernel) (by decide +kernel)
 ·exact not_one P _ _ ((P + 1) / 2) 450 (by decide +kernel) (by decide +kernel) (by decide +kernel)
 ·exact not_one P _ _ ((P + 1) / 3) 450 (by decide +kernel) (by decide +kernel) (by decide +kernel)
 ·exact not_one P _ _ ((P + 1) / 5) 450 (by decide +kernel) (by decide +kernel) (by decide +kernel)
end Prm

end Go.Proofs.Ytdpongijmmdnoaa.FdP
/- plain: numbers modulo p (Fer) -/
namespace Go.Proofs.Ytdpongijmmdnoaa.FdP
namespace Prm

def ch : Nat → Nat → Nat
 | _, 0 => 1
 | 0, _ + 1 => 0
 | n + 1, k + 1 => ch n k + ch n (k + 1)

theorem ch_zero (n : Nat) : ch n 0 = 1 := by cases n <;> rfl

theorem ch_gt : ∀ n k, n < k → ch n k = 0 := by
 intro n
 induction n with
 | zero => intro k h; cases k with
  | zero => omega
  | succ k => rfl
 | succ n ih => intro k h; cases k with
  | zero => omega
  | succ k => simp [ch, ih k (by omega), ih (k + 1) (by omega)]

theorem ch_self (n : Nat) : ch n n = 1 := by
 induction n with
 | zero => rfl
 | succ n ih => simp [ch, ih, ch_gt n (n + 1) (by omega)]

theorem ch_absorb : ∀ n k, (k + 1) * ch (n + 1) (k + 1) = (n + 1) * ch n k := by
 intro n
 induction n with
 | zero => intro k; cases k with
  | zero => rfl
  | succ k => simp [ch]
 | succ n ih => intro k; cases k with
  | zero =>
   have := ih 0
   simp only [ch, ch_zero] at *; grind
  | succ k =>
   have h1 := ih k
   have h2 := ih (k + 1)
   rw [show ch (n + 1 + 1) (k + 1 + 1) = ch (n + 1) (k + 1) + ch (n + 1) (k + 1 + 1) from rfl]
   rw [show ch (n + 1) (k + 1) = ch n k + ch n (k + 1) from rfl] at *
   grind

def sm (f : Nat → Nat) : Nat → Nat
 | 0 => 0
 | n + 1 => sm f n + f n

theorem sm_add (f g : Nat → Nat) (n : Nat) : sm (fun i => f i + g i) n = sm f n + sm g n := by
 induction n with
 | zero => rfl
 | succ n ih => simp only [sm, ih]; omega

theorem sm_mul (f : Nat → Nat) (c n : Nat) : sm (fun i => f i * c) n = sm f n * c := by
 induction n with
 | zero => simp [sm]
 | succ n ih => simp only [sm, ih]; grind

theorem sm_shift (f : Nat → Nat) (n : Nat) : sm f (n + 1) = f 0 + sm (fun i => f (i + 1)) n := by
 induction n with
 | zero => simp [sm]
 | succ n ih => rw [sm, ih]; simp only [sm]; omega

theorem binom (a n : Nat) : (a + 1) ^ n = sm (fun k => ch n k * a ^ k) (n + 1) := by
 induction n with
 | zero => simp [sm, ch]
 | succ n ih =>
  rw [Nat.pow_succ, ih, sm_shift (fun k => ch (n + 1) k * a ^ k) (n + 1)]
  have e : (fun i => ch (n + 1) (i + 1) * a ^ (i + 1)) = fun i => ch n i * a ^ i * a + ch n (i + 1) * a ^ (i + 1) := by
   funext i; simp only [ch, Nat.pow_succ]; grind
  have e1 : sm (fun i => ch (n + 1) (i + 1) * a ^ (i + 1)) (n + 1) = sm (fun i => ch n i * a ^ i) (n + 1) * a + sm (fun i => ch n (i + 1) * a ^ (i + 1)) (n + 1) := by
   rw [e, sm_add, sm_mul]
  rw [show sm (fun i => (fun k => ch (n + 1) k * a ^ k) (i + 1)) (n + 1) = sm (fun i => ch (n + 1) (i + 1) * a ^ (i + 1)) (n + 1) from rfl, e1]
  have e2 : sm (fun i => ch n (i + 1) * a ^ (i + 1)) (n + 1) = sm (fun i => ch n (i + 1) * a ^ (i + 1)) n := by
   rw [sm, ch_gt n (n + 1) (by omega)]; simp
  have e3 : sm (fun k => ch n k * a ^ k) (n + 1) = 1 + sm (fun i => ch n (i + 1) * a ^ (i + 1)) n := by
   rw [sm_shift]; simp [ch_zero]
  rw [e2, ch_zero]
  generalize sm (fun i => ch n (i + 1) * a ^ (i + 1)) n = t at *
  rw [e3]; simp; grind

theorem sm_dvd (f : Nat → Nat) (q n : Nat) (h : ∀ i, i < n → q ∣ f i) : q ∣ sm f n := by
 induction n with
 | zero => exact Nat.dvd_zero q
 | succ n ih => exact Nat.dvd_add (ih fun i hi => h i (by omega)) (h n (by omega))

theorem fermat_step {q : Nat} (q1 : 1 < q) (hq : ∀ d, d ∣ q → d = 1 ∨ d = q) (a : Nat) : (a + 1) ^ q % q = (a ^ q + 1) % q := by
 obtain ⟨m, rfl⟩ : ∃ m, q = m + 1 := ⟨q - 1, by omega⟩
 rw [binom, sm_shift, sm]
 have hd : (m + 1) ∣ sm (fun i => (fun k => ch (m + 1) k * a ^ k) (i + 1)) m := by
  apply sm_dvd
  intro i hi
  show (m + 1) ∣ ch (m + 1) (i + 1) * a ^ (i + 1)
  have h := ch_absorb m i
  have : (m + 1) ∣ (i + 1) * ch (m + 1) (i + 1) := ⟨_, h⟩
  rcases euclid q1 hq this with g | g
  ·have := Nat.le_of_dvd (by omega) g; omega
  ·exact Nat.dvd_mul_right_of_dvd g _
 obtain ⟨c, hc⟩ := hd
 show (ch (m + 1) 0 * a ^ 0 + (sm (fun i => (fun k => ch (m + 1) k * a ^ k) (i + 1)) m + ch (m + 1) (m + 1) * a ^ (m + 1))) % (m + 1) = _
 rw [hc, ch_self, ch_zero]
 have e : 1 * a ^ 0 + ((m + 1) * c + 1 * a ^ (m + 1)) = a ^ (m + 1) + 1 + (m + 1) * c := by simp; omega
 rw [e, Nat.add_mul_mod_self_left]

theorem fermat {q : Nat} (q1 : 1 < q) (hq : ∀ d, d ∣ q → d = 1 ∨ d = q) (a : Nat) : a ^ q % q = a % q := by
 induction a with
 | zero => rw [Nat.zero_pow (by omega)]
 | succ a ih => rw [fermat_step q1 hq, Nat.add_mod, ih, ← Nat.add_mod]

end Prm

end Go.Proofs.Ytdpongijmmdnoaa.FdP
/- plain: numbers modulo p (Fld) -/
namespace Go.Proofs.Ytdpongijmmdnoaa.FdP
namespace Ch

instance : NeZero P := ⟨by decide +kernel⟩

abbrev F := Fin P

theorem P_pos : 0 < P := by decide +kernel
theorem one_lt_P : 1 < P := by decide +kernel

def z (n : Int) : F := ⟨(n % (P : Int)).toNat, by
 have h0 : (0 : Int) < P := by have := P_pos; omega
 have := Int.emod_nonneg n (b := (P : Int)) (by omega)
 have := Int.emod_lt_of_pos n h0
 omega⟩

theorem z_val (n : Int) : ((z n).val : Int) = n % P := by
 have h0 : (0 : Int) < P := by have := P_pos; omega
 have := Int.emod_nonneg n (b := (P : Int)) (by omega)
 show (((n % (P : Int)).toNat : Nat) : Int) = _
 omega

theorem z_eq {m n : Int} : z m = z n ↔ m % P = n % P := by
 constructor
 ·intro h; rw [← z_val, ← z_val, h]
 ·intro h; apply Fin.ext; have := z_val m; have := z_val n; omega

theorem z_of_val (a : F) : z (a.val : Int) = a := by
 apply Fin.ext
 have := z_val (a.val : Int)
 rw [Int.emod_eq_of_lt (by omega) (by have := a.isLt; omega)] at this
 omega

theorem z_add (m n : Int) : z (m + n) = z m + z n := by
 apply Fin.ext
 rw [Fin.val_add]
 have := z_val (m + n)
 have h1 := z_val m
 have h2 := z_val n
 have : (((z m).val + (z n).val) % P : Nat) = ((m + n) % P : Int) := by
  rw [Int.natCast_emod, Int.natCast_add, h1, h2]; simp
 omega

theorem z_mul (m n : Int) : z (m * n) = z m * z n := by
 apply Fin.ext
 rw [Fin.val_mul]
 have := z_val (m * n)
 have h1 := z_val m
 have h2 := z_val n
 have : (((z m).val * (z n).val) % P : Nat) = ((m * n) % P : Int) := by
  rw [Int.natCast_emod, Int.natCast_mul, h1, h2]; simp [Int.mul_emod]
 omega

theorem z_zero : z 0 = 0 := by apply Fin.ext; rfl
theorem z_one : z 1 = 1 := by
 apply Fin.ext
 have := z_val 1
 rw [Int.emod_eq_of_lt (by omega) (by have := one_lt_P; omega)] at this
 have e : (1 : F).val = 1 := by
  show 1 % P = 1
  exact Nat.mod_eq_of_lt one_lt_P
 omega
theorem z_neg (n : Int) : z (-n) = - z n := by
 have h : z (-n) + z n = 0 := by rw [← z_add, show -n + n = 0 by omega, z_zero]
 grind
theorem z_sub (m n : Int) : z (m - n) = z m - z n := by
 rw [show m - n = m + -n by omega, z_add, z_neg]; grind
theorem z_P : z (P : Int) = 0 := by rw [← z_zero, z_eq]; simp

theorem mul_zero {a b : F} (h : a * b = 0) : a = 0 ∨ b = 0 := by
 have h' : (a.val * b.val) % P = 0 := by rw [← Fin.val_mul, h]; rfl
 rcases Prm.euclid one_lt_P Prm.P_prime (Nat.dvd_of_mod_eq_zero h') with g | g
 ·left; apply Fin.ext; exact Nat.eq_zero_of_dvd_of_lt g a.isLt
 ·right; apply Fin.ext; exact Nat.eq_zero_of_dvd_of_lt g b.isLt

theorem mul_ne {a b : F} (ha : a ≠ 0) (hb : b ≠ 0) : a * b ≠ 0 := fun h => (mul_zero h).elim ha hb

theorem mul_cancel {a b c : F} (hc : c ≠ 0) (h : a * c = b * c) : a = b := by
 have : (a - b) * c = 0 := by grind
 rcases mul_zero this with g | g
 ·grind
 ·exact absurd g hc

theorem val_pow (a : F) (k : Nat) : (a ^ k).val = a.val ^ k % P := by
 induction k with
 | zero =>
  have : a ^ 0 = 1 := by grind
  rw [this]; rfl
 | succ k ih =>
  have : a ^ (k + 1) = a ^ k * a := by grind
  rw [this, Fin.val_mul, ih, Nat.pow_succ]; simp [Nat.mul_mod]

theorem pow_P (a : F) : a ^ P = a := by
 apply Fin.ext
 rw [val_pow, Prm.fermat one_lt_P Prm.P_prime, Nat.mod_eq_of_lt a.isLt]

theorem pow_add (a : F) (m n : Nat) : a ^ (m + n) = a ^ m * a ^ n := by
 induction n with
 | zero => grind
 | succ n ih => rw [← Nat.add_assoc]; have : a ^ (m + n + 1) = a ^ (m + n) * a := by grind
                rw [this, ih]; grind

theorem pow_mul (a : F) (m n : Nat) : a ^ (m * n) = (a ^ m) ^ n := by
 induction n with
 | zero => rw [Nat.mul_zero]; grind
 | succ n ih => rw [Nat.mul_succ, pow_add, ih]; grind

theorem mul_pow (a b : F) (n : Nat) : (a * b) ^ n = a ^ n * b ^ n := by
 induction n with
 | zero => grind
 | succ n ih =>
  have h1 : (a * b) ^ (n + 1) = (a * b) ^ n * (a * b) := by grind
  rw [h1, ih]; grind

theorem zero_pow {n : Nat} (h : 0 < n) : (0 : F) ^ n = 0 := by
 obtain ⟨m, rfl⟩ : ∃ m, n = m + 1 := ⟨n - 1, by omega⟩
 have h1 : (0 : F) ^ (m + 1) = (0 : F) ^ m * 0 := by grind
 rw [h1]; grind

theorem pow_ne {a : F} (h : a ≠ 0) (n : Nat) : a ^ n ≠ 0 := by
 induction n with
 | zero =>
  have : a ^ 0 = 1 := by grind
  rw [this]; intro e
  have := congrArg Fin.val e
  rw [show (1 : F).val = 1 from Nat.mod_eq_of_lt one_lt_P] at this
  exact absurd this (by decide)
 | succ n ih => have h1 : a ^ (n + 1) = a ^ n * a := by grind
                rw [h1]; exact mul_ne ih h

theorem one_ne : (1 : F) ≠ 0 := by have := pow_ne (a := 1) ; intro e; exact absurd (congrArg Fin.val e) (by rw [show (1 : F).val = 1 from Nat.mod_eq_of_lt one_lt_P]; decide)

theorem fermat {a : F} (h : a ≠ 0) : a ^ (P - 1) = 1 := by
 apply mul_cancel h
 have e : P - 1 + 1 = P := by have := P_pos; omega
 have : a ^ (P - 1) * a = a ^ (P - 1 + 1) := by rw [pow_add]; grind
 rw [this, e, pow_P]; grind

def inv (a : F) : F := a ^ (P - 2)

theorem mul_inv {a : F} (h : a ≠ 0) : a * inv a = 1 := by
 have e : P - 2 + 1 = P - 1 := by have := one_lt_P; omega
 rw [← fermat h, inv, ← e, pow_add]; grind

def H : Nat := (P - 1) / 2

theorem two_ne : (2 : F) ≠ 0 := by
 have : (2 : F) = z 2 := by
  have : z 2 = z 1 + z 1 := by rw [← z_add]; rfl
  rw [this, z_one]; rfl
 rw [this]
 intro e
 have := z_val 2
 rw [e, Int.emod_eq_of_lt (by omega) (by have : 2 < P := by decide +kernel
                                         omega)] at this
 simp at this

theorem neg_ne {a : F} (h : a ≠ 0) : -a ≠ a := by
 intro e
 have : (2 : F) * a = 0 := by grind
 exact (mul_zero this).elim two_ne h

theorem neg_one_ne : (-1 : F) ≠ 1 := neg_ne one_ne

theorem half_pow {a : F} (h : a ≠ 0) : a ^ H = 1 ∨ a ^ H = -1 := by
 have e : a ^ H * a ^ H = 1 := by
  rw [← pow_add, show H + H = P - 1 by decide +kernel, fermat h]
 have : (a ^ H - 1) * (a ^ H + 1) = 0 := by grind
 rcases mul_zero this with g | g
 ·left; grind
 ·right; grind

theorem half_sq {a : F} (h : a ≠ 0) : (a * a) ^ H = 1 := by
 rw [mul_pow, ← pow_add, show H + H = P - 1 by decide +kernel, fermat h]

def Sq (a : F) : Prop := ∃ b, b * b = a

def rt (a : F) : F := a ^ ((P + 1) / 4)

theorem rt_sq (a : F) : rt a * rt a = a * a ^ H := by
 unfold rt
 rw [← pow_add, show (P + 1) / 4 + (P + 1) / 4 = H + 1 by decide +kernel, pow_add]; grind

theorem sq_iff {a : F} (h : a ≠ 0) : Sq a ↔ a ^ H = 1 := by
 constructor
 ·rintro ⟨b, rfl⟩
  apply half_sq
  rintro rfl; exact h (by grind)
 ·intro e
  exact ⟨rt a, by rw [rt_sq, e]; grind⟩

theorem not_sq_iff {a : F} (h : a ≠ 0) : ¬ Sq a ↔ a ^ H = -1 := by
 rw [sq_iff h]
 constructor
 ·intro e; exact (half_pow h).resolve_left e
 ·intro e e'; rw [e] at e'; exact neg_one_ne e'

end Ch

end Go.Proofs.Ytdpongijmmdnoaa.FdP
/- plain law: roots (chapter 5) -/
namespace Go.Proofs.Ytdpongijmmdnoaa.FdP
namespace Ch

end Ch
end Go.Proofs.Ytdpongijmmdnoaa.FdP
/- plain law: what the limbs stand for: carry, sums -/
namespace Go.Proofs.Ytdpongijmmdnoaa
open FdP FdP.Ch

def val : List Int → Int
 | [] => 0
 | x :: l => x + 72057594037927936 * val l

def E (l : List Int) (a : F) : Prop := l.length = 8 ∧ (∀ x ∈ l, 0 ≤ x ∧ x < 72057594037928192) ∧ z (val l) = a
theorem E.len {l : List Int} {a : F} (h : E l a) : l.length = 8 := h.1
theorem E.bd {l : List Int} {a : F} (h : E l a) : Bd l := fun x hx => by have := h.2.1 x hx; omega

theorem P_eq : (P : Int) = 72057594037927936 ^ 8 - 72057594037927936 ^ 4 - 1 := by decide +kernel
theorem z_minus (n o : Int) : z (n - P * o) = z n := by rw [z_eq]; simp

theorem step (x p : Int) (h0 : 0 ≤ x + p) (h1 : x + p < 18446744073709551616) : ∃ r o, (x + p) % 72057594037927936 = r ∧ (x + p) % 18446744073709551616 / 72057594037927936 = o ∧ x + p = r + 72057594037927936 * o ∧ 0 ≤ r ∧ r < 72057594037927936 ∧ 0 ≤ o ∧ o < 256 :=
 ⟨_, _, rfl, rfl, by omega, by omega, by omega, by omega, by omega⟩

theorem carryTo_step {l m : List Int} {k : Nat} {o x r q : Int} (h : carryTo l k = (m, o)) (hx : m.getD k 0 = x) (hr : (x + o) % 72057594037927936 = r) (hq : (x + o) % 18446744073709551616 / 72057594037927936 = q) :
 carryTo l (k + 1) = (m.set k r, q) := by
 rw [carryTo, h]; simp only [hx, hr, hq]

theorem carry_law (l0 l1 l2 l3 l4 l5 l6 l7 : Int) (h0 : 0 ≤ l0 ∧ l0 < 18446744073709551360) (h1 : 0 ≤ l1 ∧ l1 < 18446744073709551360) (h2 : 0 ≤ l2 ∧ l2 < 18446744073709551360) (h3 : 0 ≤ l3 ∧ l3 < 18446744073709551360)
 (h4 : 0 ≤ l4 ∧ l4 < 18446744073709551360) (h5 : 0 ≤ l5 ∧ l5 < 18446744073709551360) (h6 : 0 ≤ l6 ∧ l6 < 18446744073709551360) (h7 : 0 ≤ l7 ∧ l7 < 18446744073709551360) :
 ∃ r0 r1 r2 r3 r4 r5 r6 r7 o : Int, carryF [l0, l1, l2, l3, l4, l5, l6, l7] = [r0 + o, r1, r2, r3, r4 + o, r5, r6, r7] ∧
  (0 ≤ r0 ∧ r0 < 72057594037927936) ∧ (0 ≤ r1 ∧ r1 < 72057594037927936) ∧ (0 ≤ r2 ∧ r2 < 72057594037927936) ∧ (0 ≤ r3 ∧ r3 < 72057594037927936) ∧
  (0 ≤ r4 ∧ r4 < 72057594037927936) ∧ (0 ≤ r5 ∧ r5 < 72057594037927936) ∧ (0 ≤ r6 ∧ r6 < 72057594037927936) ∧ (0 ≤ r7 ∧ r7 < 72057594037927936) ∧ (0 ≤ o ∧ o < 256) ∧
  (∃ p, 0 ≤ p ∧ p < 256 ∧ l7 + p = r7 + 72057594037927936 * o ∧ (l6 < 72057594037928192 → p ≤ 1)) ∧
  ((l0 < 72057594037927936 ∧ l1 < 72057594037927936 ∧ l2 < 72057594037927936 ∧ l3 < 72057594037927936 ∧ l4 < 72057594037927936 ∧ l5 < 72057594037927936 ∧ l6 < 72057594037927936 ∧ l7 < 72057594037927936) →
    r0 = l0 ∧ r1 = l1 ∧ r2 = l2 ∧ r3 = l3 ∧ r4 = l4 ∧ r5 = l5 ∧ r6 = l6 ∧ r7 = l7 ∧ o = 0) ∧
  val [l0, l1, l2, l3, l4, l5, l6, l7] = val [r0, r1, r2, r3, r4, r5, r6, r7] + 72057594037927936 ^ 8 * o := by
 have e0 : carryTo [l0, l1, l2, l3, l4, l5, l6, l7] 0 = ([l0, l1, l2, l3, l4, l5, l6, l7], 0) := rfl
 obtain ⟨r0, o0, a0, b0, c0, d0⟩ := step l0 0 (by omega) (by omega)
 have e1 := carryTo_step e0 rfl a0 b0
 obtain ⟨r1, o1, a1, b1, c1, d1⟩ := step l1 o0 (by omega) (by omega)
 have e2 := carryTo_step e1 rfl a1 b1
 obtain ⟨r2, o2, a2, b2, c2, d2⟩ := step l2 o1 (by omega) (by omega)
 have e3 := carryTo_step e2 rfl a2 b2
 obtain ⟨r3, o3, a3, b3, c3, d3⟩ := step l3 o2 (by omega) (by omega)
 have e4 := carryTo_step e3 rfl a3 b3
 obtain ⟨r4, o4, a4, b4, c4, d4⟩ := step l4 o3 (by omega) (by omega)
 have e5 := carryTo_step e4 rfl a4 b4
 obtain ⟨r5, o5, a5, b5, c5, d5⟩ := step l5 o4 (by omega) (by omega)
 have e6 := carryTo_step e5 rfl a5 b5
 obtain ⟨r6, o6, a6, b6, c6, d6⟩ := step l6 o5 (by omega) (by omega)
 have e7 := carryTo_step e6 rfl a6 b6
 obtain ⟨r7, o7, a7, b7, c7, d7⟩ := step l7 o6 (by omega) (by omega)
 have e8 := carryTo_step e7 rfl a7 b7
 clear e0 e1 e2 e3 e4 e5 e6 e7 a0 a1 a2 a3 a4 a5 a6 a7 b0 b1 b2 b3 b4 b5 b6 b7
 refine ⟨r0, r1, r2, r3, r4, r5, r6, r7, o7, ?_, ⟨d0.1, d0.2.1⟩, ⟨d1.1, d1.2.1⟩, ⟨d2.1, d2.2.1⟩, ⟨d3.1, d3.2.1⟩, ⟨d4.1, d4.2.1⟩, ⟨d5.1, d5.2.1⟩, ⟨d6.1, d6.2.1⟩, ⟨d7.1, d7.2.1⟩, ⟨d7.2.2.1, d7.2.2.2⟩, ⟨o6, d6.2.2.1, d6.2.2.2, c7, ?_⟩, ?_, ?_⟩
 ·have f0 : (r0 + o7) % 18446744073709551616 = r0 + o7 := by omega
  have f4 : (r4 + o7) % 18446744073709551616 = r4 + o7 := by omega
  unfold carryF
  rw [e8]
  unfold carryEnd
  simp only [List.set_cons_zero, List.set_cons_succ, List.getD_cons_zero, List.getD_cons_succ, f0, f4]
 ·omega
 ·omega
 ·simp only [val]
  omega

theorem carry_E {l : List Int} (hl : l.length = 8) (hb : ∀ x ∈ l, 0 ≤ x ∧ x < 18446744073709551360) : E (carryF l) (z (val l)) := by
 obtain ⟨l0, l1, l2, l3, l4, l5, l6, l7, rfl⟩ := list8 hl
 obtain ⟨r0, r1, r2, r3, r4, r5, r6, r7, o, e, h0, h1, h2, h3, h4, h5, h6, h7, ho, -, -, hv⟩ := carry_law l0 l1 l2 l3 l4 l5 l6 l7 (hb _ (by simp)) (hb _ (by simp)) (hb _ (by simp)) (hb _ (by simp)) (hb _ (by simp)) (hb _ (by simp)) (hb _ (by simp)) (hb _ (by simp))
 refine ⟨by simp, ?_, ?_⟩
 ·rw [e]
  intro x hx
  simp only [List.mem_cons, List.not_mem_nil, or_false] at hx
  omega
 ·have : val (carryF [l0, l1, l2, l3, l4, l5, l6, l7]) = val [l0, l1, l2, l3, l4, l5, l6, l7] - P * o := by
   rw [e, hv, P_eq]
   simp only [val]
   omega
  rw [this, z_minus]

theorem E.nth {l : List Int} {a : F} (h : E l a) (i : Nat) (hi : i < 8) : 0 ≤ l.getD i 0 ∧ l.getD i 0 < 72057594037928192 := by
 have hl : i < l.length := by rw [h.1]; exact hi
 have : l.getD i 0 = l[i] := by simp [List.getD, hl]
 rw [this]; exact h.2.1 _ (List.getElem_mem hl)

theorem wrap_in (x : Int) (h0 : 0 ≤ x) (h1 : x < 18446744073709551616) : IntKind.u64.wrap x = x := by rw [IntKind.wrap_u64]; omega

theorem tab8_eq (g : Nat → Int) : tab8 g = [g 0, g 1, g 2, g 3, g 4, g 5, g 6, g 7] := rfl

theorem add_E {l m : List Int} {a b : F} (hl : E l a) (hm : E m b) : E (addF l m) (a + b) := by
 have ha := hl.2.2
 have hb := hm.2.2
 have n := fun i hi => hl.nth i hi
 have n' := fun i hi => hm.nth i hi
 obtain ⟨l0, l1, l2, l3, l4, l5, l6, l7, rfl⟩ := list8 hl.1
 obtain ⟨m0, m1, m2, m3, m4, m5, m6, m7, rfl⟩ := list8 hm.1
 have x0 := n 0 (by omega); have x1 := n 1 (by omega); have x2 := n 2 (by omega); have x3 := n 3 (by omega); have x4 := n 4 (by omega); have x5 := n 5 (by omega); have x6 := n 6 (by omega); have x7 := n 7 (by omega)
 have y0 := n' 0 (by omega); have y1 := n' 1 (by omega); have y2 := n' 2 (by omega); have y3 := n' 3 (by omega); have y4 := n' 4 (by omega); have y5 := n' 5 (by omega); have y6 := n' 6 (by omega); have y7 := n' 7 (by omega)
 clear n n'
 simp only [List.getD_cons_zero, List.getD_cons_succ] at x0 x1 x2 x3 x4 x5 x6 x7 y0 y1 y2 y3 y4 y5 y6 y7
 have e : addR [l0, l1, l2, l3, l4, l5, l6, l7] [m0, m1, m2, m3, m4, m5, m6, m7] = [l0 + m0, l1 + m1, l2 + m2, l3 + m3, l4 + m4, l5 + m5, l6 + m6, l7 + m7] := by
  unfold addR; rw [tab8_eq]
  simp only [List.getD_cons_zero, List.getD_cons_succ]
  rw [wrap_in _ (by omega) (by omega), wrap_in _ (by omega) (by omega), wrap_in _ (by omega) (by omega), wrap_in _ (by omega) (by omega), wrap_in _ (by omega) (by omega), wrap_in _ (by omega) (by omega), wrap_in _ (by omega) (by omega), wrap_in _ (by omega) (by omega)]
 have h := carry_E (addR_len [l0, l1, l2, l3, l4, l5, l6, l7] [m0, m1, m2, m3, m4, m5, m6, m7]) (by
  rw [e]; intro x hx
  simp only [List.mem_cons, List.not_mem_nil, or_false] at hx
  omega)
 have ev : val (addR [l0, l1, l2, l3, l4, l5, l6, l7] [m0, m1, m2, m3, m4, m5, m6, m7]) = val [l0, l1, l2, l3, l4, l5, l6, l7] + val [m0, m1, m2, m3, m4, m5, m6, m7] := by
  rw [e]; simp only [val]; omega
 rw [ev, z_add, ha, hb] at h
 exact h

theorem sub_E {l m : List Int} {a b : F} (hl : E l a) (hm : E m b) : E (subF l m) (a - b) := by
 have ha := hl.2.2
 have hb := hm.2.2
 have n := fun i hi => hl.nth i hi
 have n' := fun i hi => hm.nth i hi
 obtain ⟨l0, l1, l2, l3, l4, l5, l6, l7, rfl⟩ := list8 hl.1
 obtain ⟨m0, m1, m2, m3, m4, m5, m6, m7, rfl⟩ := list8 hm.1
 have x0 := n 0 (by omega); have x1 := n 1 (by omega); have x2 := n 2 (by omega); have x3 := n 3 (by omega); have x4 := n 4 (by omega); have x5 := n 5 (by omega); have x6 := n 6 (by omega); have x7 := n 7 (by omega)
 have y0 := n' 0 (by omega); have y1 := n' 1 (by omega); have y2 := n' 2 (by omega); have y3 := n' 3 (by omega); have y4 := n' 4 (by omega); have y5 := n' 5 (by omega); have y6 := n' 6 (by omega); have y7 := n' 7 (by omega)
 clear n n'
 simp only [List.getD_cons_zero, List.getD_cons_succ] at x0 x1 x2 x3 x4 x5 x6 x7 y0 y1 y2 y3 y4 y5 y6 y7
 have w3 : ∀ x p y : Int, 0 ≤ x → x < 72057594037928192 → 72057594037927934 ≤ p → p ≤ 72057594037927935 → 0 ≤ y → y < 72057594037928192 → IntKind.u64.wrap (IntKind.u64.wrap (x + IntKind.u64.wrap (2 * p)) - y) = x + 2 * p - y := by
  intro x p y _ _ _ _ _ _
  simp only [IntKind.wrap_u64]
  omega
 have e : subR [l0, l1, l2, l3, l4, l5, l6, l7] [m0, m1, m2, m3, m4, m5, m6, m7] = [l0 + 2 * 72057594037927935 - m0, l1 + 2 * 72057594037927935 - m1, l2 + 2 * 72057594037927935 - m2, l3 + 2 * 72057594037927935 - m3, l4 + 2 * 72057594037927934 - m4, l5 + 2 * 72057594037927935 - m5, l6 + 2 * 72057594037927935 - m6, l7 + 2 * 72057594037927935 - m7] := by
  unfold subR; rw [tab8_eq]
  simp only [primeL, List.getD_cons_zero, List.getD_cons_succ]
  rw [w3 l0 _ m0 (by omega) (by omega) (by omega) (by omega) (by omega) (by omega), w3 l1 _ m1 (by omega) (by omega) (by omega) (by omega) (by omega) (by omega), w3 l2 _ m2 (by omega) (by omega) (by omega) (by omega) (by omega) (by omega), w3 l3 _ m3 (by omega) (by omega) (by omega) (by omega) (by omega) (by omega),
   w3 l4 _ m4 (by omega) (by omega) (by omega) (by omega) (by omega) (by omega), w3 l5 _ m5 (by omega) (by omega) (by omega) (by omega) (by omega) (by omega), w3 l6 _ m6 (by omega) (by omega) (by omega) (by omega) (by omega) (by omega), w3 l7 _ m7 (by omega) (by omega) (by omega) (by omega) (by omega) (by omega)]
 have h := carry_E (subR_len [l0, l1, l2, l3, l4, l5, l6, l7] [m0, m1, m2, m3, m4, m5, m6, m7]) (by
  rw [e]; intro x hx
  simp only [List.mem_cons, List.not_mem_nil, or_false] at hx
  omega)
 have ev : val (subR [l0, l1, l2, l3, l4, l5, l6, l7] [m0, m1, m2, m3, m4, m5, m6, m7]) = (val [l0, l1, l2, l3, l4, l5, l6, l7] - val [m0, m1, m2, m3, m4, m5, m6, m7]) - P * (-2) := by
  rw [e, P_eq]; simp only [val]; omega
 rw [ev, z_minus, z_sub, ha, hb] at h
 exact h

theorem zero_E : E zE 0 := ⟨rfl, by intro x hx; simp [zE] at hx; omega, by rw [show val zE = 0 from rfl, z_zero]⟩
theorem neg_E {l : List Int} {a : F} (hl : E l a) : E (negF l) (-a) := by
 have := sub_E zero_E hl
 have e : (0 : F) - a = -a := by grind
 rw [e] at this
 exact this
end Go.Proofs.Ytdpongijmmdnoaa
/- plain law: products -/
namespace Go.Proofs.Ytdpongijmmdnoaa
open FdP FdP.Ch

theorem val_set (l : List Int) (i : Nat) (v : Int) (h : i < l.length) : val (l.set i (l.getD i 0 + v)) = val l + v * 72057594037927936 ^ i := by
 induction l generalizing i with
 | nil => simp at h
 | cons x l ih =>
  cases i with
  | zero => simp [val]; omega
  | succ i =>
   have := ih i (by simpa using h)
   simp only [List.set_cons_succ, List.getD_cons_succ, val, this, Int.mul_add, Int.pow_succ]
   generalize val l = u
   generalize (72057594037927936 : Int) ^ i = b
   grind

theorem val_take (l : List Int) (k : Nat) : val (l.take (k + 1)) = val (l.take k) + l.getD k 0 * 72057594037927936 ^ k := by
 induction l generalizing k with
 | nil => simp [val]
 | cons x l ih =>
  cases k with
  | zero => simp [val]
  | succ k =>
   have := ih k
   simp only [List.take_succ_cons, val, List.getD_cons_succ, this, Int.mul_add, Int.pow_succ]
   generalize val (l.take k) = u
   generalize (72057594037927936 : Int) ^ k = b
   grind

theorem getD_set_ne' (l : List Int) (i j : Nat) (v : Int) (h : i ≠ j) : (l.set i v).getD j 0 = l.getD j 0 := by
 simp [List.getD, List.getElem?_set, h]
theorem getD_set_eq' (l : List Int) (i : Nat) (v : Int) (h : i < l.length) : (l.set i v).getD i 0 = v := by
 simp [List.getD, List.getElem?_set, h]

theorem mulI_law (x : Int) (m : List Int) (i : Nat) (ns : List Int) (c X : Int) (hX : 0 ≤ X) (hi : i + 8 ≤ ns.length) (hn : ∀ j, 0 ≤ ns.getD j 0 ∧ ns.getD j 0 ≤ c)
 (hp : ∀ k, k < 8 → 0 ≤ x * m.getD k 0 ∧ x * m.getD k 0 ≤ X) (hc : c + X < 340282366920938463463374607431768211456) : ∀ k, k ≤ 8 →
   (∀ j, 0 ≤ (mulI x m i ns k).getD j 0 ∧ (mulI x m i ns k).getD j 0 ≤ c + X) ∧ (∀ j, i + k ≤ j → (mulI x m i ns k).getD j 0 = ns.getD j 0) ∧
   val (mulI x m i ns k) = val ns + x * val (m.take k) * 72057594037927936 ^ i := by
 intro k
 induction k with
 | zero =>
  intro _
  refine ⟨fun j => ?_, fun j _ => rfl, ?_⟩
  ·have := hn j; simp only [mulI]; omega
  ·simp [mulI, val]
 | succ k ih =>
  intro hk
  obtain ⟨h1, h2, h3⟩ := ih (by omega)
  have hl : i + k < (mulI x m i ns k).length := by rw [mulI_len]; omega
  have e := h2 (i + k) (by omega)
  have b := hn (i + k)
  have p := hp k (by omega)
  have w : ((mulI x m i ns k).getD (i + k) 0 + x * m.getD k 0) % 340282366920938463463374607431768211456 = (mulI x m i ns k).getD (i + k) 0 + x * m.getD k 0 := by
   rw [e]; exact Int.emod_eq_of_lt (by omega) (by omega)
  rw [mulI, w]
  refine ⟨fun j => ?_, fun j hj => ?_, ?_⟩
  ·by_cases hj : i + k = j
   ·subst hj
    rw [getD_set_eq' _ _ _ hl, e]; omega
   ·rw [getD_set_ne' _ _ _ _ hj]; exact h1 j
  ·rw [getD_set_ne' _ _ _ _ (by omega)]; exact h2 j (by omega)
  ·rw [val_set _ _ _ hl, h3, val_take, Int.pow_add]
   generalize val ns = u
   generalize val (m.take k) = t
   generalize m.getD k 0 = y
   generalize (72057594037927936 : Int) ^ i = b
   generalize (72057594037927936 : Int) ^ k = b'
   grind

theorem mulO_law (l m : List Int) (hl : l.length = 8) (hm : m.length = 8) (bl : ∀ i, i < 8 → 0 ≤ l.getD i 0 ∧ l.getD i 0 < 72057594037928192) (bm : ∀ i, i < 8 → 0 ≤ m.getD i 0 ∧ m.getD i 0 < 72057594037928192) : ∀ i, i ≤ 8 →
 (∀ j, 0 ≤ (mulO l m i).getD j 0 ∧ (mulO l m i).getD j 0 ≤ i * 5192296858534864543600352262881280) ∧ val (mulO l m i) = val (l.take i) * val m := by
 intro i
 induction i with
 | zero =>
  intro _
  refine ⟨fun j => ?_, ?_⟩
  ·have : (mulO l m 0).getD j 0 = 0 := by
    show (List.replicate 15 (0 : Int)).getD j 0 = 0
    simp only [List.getD, List.getElem?_replicate]
    split <;> rfl
   rw [this]; omega
  ·simp [mulO, val, z15]
 | succ i ih =>
  intro hi
  obtain ⟨h1, h2⟩ := ih (by omega)
  have hp : ∀ k, k < 8 → 0 ≤ l.getD i 0 * m.getD k 0 ∧ l.getD i 0 * m.getD k 0 ≤ 5192296858534864543600352262881280 := by
   intro k hk
   have a := bl i (by omega)
   have b := bm k hk
   refine ⟨Int.mul_nonneg a.1 b.1, ?_⟩
   have := Int.mul_le_mul (show l.getD i 0 ≤ 72057594037928191 by omega) (show m.getD k 0 ≤ 72057594037928191 by omega) b.1 (by omega)
   omega
  obtain ⟨g1, -, g3⟩ := mulI_law (l.getD i 0) m i (mulO l m i) (i * 5192296858534864543600352262881280) 5192296858534864543600352262881280 (by omega) (by rw [mulO_len]; omega) h1 hp (by omega) 8 (by omega)
  refine ⟨fun j => ?_, ?_⟩
  ·have := g1 j
   rw [mulO]; omega
  ·rw [mulO, g3, h2, val_take l i, List.take_of_length_le (show m.length ≤ 8 by omega)]
   generalize val (l.take i) = u
   generalize val m = t
   generalize l.getD i 0 = y
   generalize (72057594037927936 : Int) ^ i = b
   grind

theorem list15 {p : List Int} (h : p.length = 15) : ∃ a0 a1 a2 a3 a4 a5 a6 a7 a8 a9 a10 a11 a12 a13 a14, p = [a0, a1, a2, a3, a4, a5, a6, a7, a8, a9, a10, a11, a12, a13, a14] := by
 match p, h with
 | [a0, a1, a2, a3, a4, a5, a6, a7, a8, a9, a10, a11, a12, a13, a14], _ => exact ⟨a0, a1, a2, a3, a4, a5, a6, a7, a8, a9, a10, a11, a12, a13, a14, rfl⟩

theorem foldT_step {ns q : List Int} {c : Nat} (h : foldT ns c = q) {x y t y' : Int} (hx : q.getD (14 - c - 8) 0 = x) (ht : q.getD (14 - c) 0 = t) {q1 : List Int} (h1 : q.set (14 - c - 8) ((x + t) % 340282366920938463463374607431768211456) = q1)
 (hy : q1.getD (14 - c - 4) 0 = y) (hy' : q1.getD (14 - c) 0 = y') : foldT ns (c + 1) = q1.set (14 - c - 4) ((y + y') % 340282366920938463463374607431768211456) := by
 rw [foldT, h]; simp only [hx, ht, h1, hy, hy']

theorem limbT_step {ns m : List Int} {k : Nat} {o x r q : Int} (h : limbT ns k = (m, o)) (hx : ns.getD k 0 = x) (hr : (x + o) % 340282366920938463463374607431768211456 % 72057594037927936 = r) (hq : (x + o) % 340282366920938463463374607431768211456 / 72057594037927936 = q) :
 limbT ns (k + 1) = (m.set k r, q) := by
 rw [limbT, h]; simp only [hx, hr, hq]

theorem wstep (x p : Int) (h0 : 0 ≤ x + p) (h1 : x + p < 1329227995784915872903807060280344576) : ∃ r o, (x + p) % 340282366920938463463374607431768211456 % 72057594037927936 = r ∧ (x + p) % 340282366920938463463374607431768211456 / 72057594037927936 = o ∧ x + p = r + 72057594037927936 * o ∧ 0 ≤ r ∧ r < 72057594037927936 ∧ 0 ≤ o ∧ o < 18446744073709551616 :=
 ⟨_, _, rfl, rfl, by omega, by omega, by omega, by omega, by omega⟩

theorem w128 (x y : Int) (hx : 0 ≤ x) (hy : 0 ≤ y) (hx' : x < 166153499473114484112975882535043072) (hy' : y < 166153499473114484112975882535043072) : (x + y) % 340282366920938463463374607431768211456 = x + y := by omega

set_option maxHeartbeats 1000000 in
theorem fold_law (n0 n1 n2 n3 n4 n5 n6 n7 n8 n9 n10 n11 n12 n13 n14 : Int) (hn : ∀ x ∈ [n0, n1, n2, n3, n4, n5, n6, n7, n8, n9, n10, n11, n12, n13, n14], 0 ≤ x ∧ x < 41538374868278916348802818103050241) :
 foldT [n0, n1, n2, n3, n4, n5, n6, n7, n8, n9, n10, n11, n12, n13, n14] 7 =
  [n0 + (n8 + n12), n1 + (n9 + n13), n2 + (n10 + n14), n3 + n11, n4 + n12 + (n8 + n12), n5 + n13 + (n9 + n13), n6 + n14 + (n10 + n14), n7 + n11, n8 + n12, n9 + n13, n10 + n14, n11, n12, n13, n14] := by
 simp only [List.mem_cons, List.not_mem_nil, or_false, forall_eq_or_imp, forall_eq] at hn
 obtain ⟨h0, h1, h2, h3, h4, h5, h6, h7, h8, h9, h10, h11, h12, h13, h14⟩ := hn
 have e0 : foldT [n0, n1, n2, n3, n4, n5, n6, n7, n8, n9, n10, n11, n12, n13, n14] 0 = [n0, n1, n2, n3, n4, n5, n6, n7, n8, n9, n10, n11, n12, n13, n14] := rfl
 have e1 := foldT_step e0 rfl rfl rfl rfl rfl
 simp only [Nat.zero_add, Nat.reduceAdd, Nat.reduceSub, List.set_cons_zero, List.set_cons_succ, List.getD_cons_zero, List.getD_cons_succ] at e1
 rw [w128 n6 n14 (by omega) (by omega) (by omega) (by omega), w128 n10 n14 (by omega) (by omega) (by omega) (by omega)] at e1
 have e2 := foldT_step e1 rfl rfl rfl rfl rfl
 simp only [Nat.zero_add, Nat.reduceAdd, Nat.reduceSub, List.set_cons_zero, List.set_cons_succ, List.getD_cons_zero, List.getD_cons_succ] at e2
 rw [w128 n5 n13 (by omega) (by omega) (by omega) (by omega), w128 n9 n13 (by omega) (by omega) (by omega) (by omega)] at e2
 have e3 := foldT_step e2 rfl rfl rfl rfl rfl
 simp only [Nat.zero_add, Nat.reduceAdd, Nat.reduceSub, List.set_cons_zero, List.set_cons_succ, List.getD_cons_zero, List.getD_cons_succ] at e3
 rw [w128 n4 n12 (by omega) (by omega) (by omega) (by omega), w128 n8 n12 (by omega) (by omega) (by omega) (by omega)] at e3
 have e4 := foldT_step e3 rfl rfl rfl rfl rfl
 simp only [Nat.zero_add, Nat.reduceAdd, Nat.reduceSub, List.set_cons_zero, List.set_cons_succ, List.getD_cons_zero, List.getD_cons_succ] at e4
 rw [w128 n3 n11 (by omega) (by omega) (by omega) (by omega), w128 n7 n11 (by omega) (by omega) (by omega) (by omega)] at e4
 have e5 := foldT_step e4 rfl rfl rfl rfl rfl
 simp only [Nat.zero_add, Nat.reduceAdd, Nat.reduceSub, List.set_cons_zero, List.set_cons_succ, List.getD_cons_zero, List.getD_cons_succ] at e5
 rw [w128 n2 (n10 + n14) (by omega) (by omega) (by omega) (by omega), w128 (n6 + n14) (n10 + n14) (by omega) (by omega) (by omega) (by omega)] at e5
 have e6 := foldT_step e5 rfl rfl rfl rfl rfl
 simp only [Nat.zero_add, Nat.reduceAdd, Nat.reduceSub, List.set_cons_zero, List.set_cons_succ, List.getD_cons_zero, List.getD_cons_succ] at e6
 rw [w128 n1 (n9 + n13) (by omega) (by omega) (by omega) (by omega), w128 (n5 + n13) (n9 + n13) (by omega) (by omega) (by omega) (by omega)] at e6
 have e7 := foldT_step e6 rfl rfl rfl rfl rfl
 simp only [Nat.zero_add, Nat.reduceAdd, Nat.reduceSub, List.set_cons_zero, List.set_cons_succ, List.getD_cons_zero, List.getD_cons_succ] at e7
 rw [w128 n0 (n8 + n12) (by omega) (by omega) (by omega) (by omega), w128 (n4 + n12) (n8 + n12) (by omega) (by omega) (by omega) (by omega)] at e7
 exact e7

set_option maxHeartbeats 1000000 in
theorem limb_law (q0 q1 q2 q3 q4 q5 q6 q7 q8 q9 q10 q11 q12 q13 q14 : Int) (hn : ∀ x ∈ [q0, q1, q2, q3, q4, q5, q6, q7], 0 ≤ x ∧ x < 664613997892457936451903530140172288) :
 ∃ r0 r1 r2 r3 r4 r5 r6 r7 o : Int, limbT [q0, q1, q2, q3, q4, q5, q6, q7, q8, q9, q10, q11, q12, q13, q14] 8 = ([r0, r1, r2, r3, r4, r5, r6, r7], o) ∧
  (∀ x ∈ [r0, r1, r2, r3, r4, r5, r6, r7], 0 ≤ x ∧ x < 72057594037927936) ∧ (0 ≤ o ∧ o < 18446744073709551616) ∧
  val [q0, q1, q2, q3, q4, q5, q6, q7] = val [r0, r1, r2, r3, r4, r5, r6, r7] + 72057594037927936 ^ 8 * o := by
 simp only [List.mem_cons, List.not_mem_nil, or_false, forall_eq_or_imp, forall_eq] at hn
 obtain ⟨h0, h1, h2, h3, h4, h5, h6, h7⟩ := hn
 have e0 : limbT [q0, q1, q2, q3, q4, q5, q6, q7, q8, q9, q10, q11, q12, q13, q14] 0 = (zE, 0) := rfl
 obtain ⟨r0, o0, a0, b0, c0, d0⟩ := wstep q0 0 (by omega) (by omega)
 have e1 := limbT_step e0 rfl a0 b0
 obtain ⟨r1, o1, a1, b1, c1, d1⟩ := wstep q1 o0 (by omega) (by omega)
 have e2 := limbT_step e1 rfl a1 b1
 obtain ⟨r2, o2, a2, b2, c2, d2⟩ := wstep q2 o1 (by omega) (by omega)
 have e3 := limbT_step e2 rfl a2 b2
 obtain ⟨r3, o3, a3, b3, c3, d3⟩ := wstep q3 o2 (by omega) (by omega)
 have e4 := limbT_step e3 rfl a3 b3
 obtain ⟨r4, o4, a4, b4, c4, d4⟩ := wstep q4 o3 (by omega) (by omega)
 have e5 := limbT_step e4 rfl a4 b4
 obtain ⟨r5, o5, a5, b5, c5, d5⟩ := wstep q5 o4 (by omega) (by omega)
 have e6 := limbT_step e5 rfl a5 b5
 obtain ⟨r6, o6, a6, b6, c6, d6⟩ := wstep q6 o5 (by omega) (by omega)
 have e7 := limbT_step e6 rfl a6 b6
 obtain ⟨r7, o7, a7, b7, c7, d7⟩ := wstep q7 o6 (by omega) (by omega)
 have e8 := limbT_step e7 rfl a7 b7
 clear e0 e1 e2 e3 e4 e5 e6 e7 a0 a1 a2 a3 a4 a5 a6 a7 b0 b1 b2 b3 b4 b5 b6 b7
 refine ⟨r0, r1, r2, r3, r4, r5, r6, r7, o7, e8, ?_, ⟨d7.2.2.1, d7.2.2.2⟩, ?_⟩
 ·simp only [List.mem_cons, List.not_mem_nil, or_false, forall_eq_or_imp, forall_eq]
  omega
 ·simp only [val]
  omega

set_option maxHeartbeats 1000000 in
theorem mul_E {l m : List Int} {a b : F} (hl : E l a) (hm : E m b) : E (mulF l m) (a * b) := by
 obtain ⟨h1, h2⟩ := mulO_law l m hl.1 hm.1 hl.nth hm.nth 8 (by omega)
 rw [List.take_of_length_le (by have := hl.1; omega)] at h2
 have hlen := mulO_len l m 8
 have he : ∀ L : List Int × Int, ∀ q, limbT (foldT q 7) 8 = L → mulO l m 8 = q → mulF l m = carryF (endL L.1 L.2) := by
  intro L q h h'; unfold mulF; rw [h', h]
 generalize mulO l m 8 = ns at *
 obtain ⟨n0, n1, n2, n3, n4, n5, n6, n7, n8, n9, n10, n11, n12, n13, n14, rfl⟩ := list15 hlen
 have hn : ∀ x ∈ [n0, n1, n2, n3, n4, n5, n6, n7, n8, n9, n10, n11, n12, n13, n14], 0 ≤ x ∧ x < 41538374868278916348802818103050241 := by
  have k0 := h1 0; have k1 := h1 1; have k2 := h1 2; have k3 := h1 3; have k4 := h1 4; have k5 := h1 5; have k6 := h1 6; have k7 := h1 7; have k8 := h1 8; have k9 := h1 9; have k10 := h1 10; have k11 := h1 11; have k12 := h1 12; have k13 := h1 13; have k14 := h1 14
  simp only [List.getD_cons_zero, List.getD_cons_succ] at k0 k1 k2 k3 k4 k5 k6 k7 k8 k9 k10 k11 k12 k13 k14
  simp only [List.mem_cons, List.not_mem_nil, or_false, forall_eq_or_imp, forall_eq]
  omega
 have ef := fold_law n0 n1 n2 n3 n4 n5 n6 n7 n8 n9 n10 n11 n12 n13 n14 hn
 simp only [List.mem_cons, List.not_mem_nil, or_false, forall_eq_or_imp, forall_eq] at hn
 obtain ⟨r0, r1, r2, r3, r4, r5, r6, r7, o, el, hr, ho, hv⟩ := limb_law (n0 + (n8 + n12)) (n1 + (n9 + n13)) (n2 + (n10 + n14)) (n3 + n11) (n4 + n12 + (n8 + n12)) (n5 + n13 + (n9 + n13)) (n6 + n14 + (n10 + n14)) (n7 + n11) (n8 + n12) (n9 + n13) (n10 + n14) n11 n12 n13 n14
  (by simp only [List.mem_cons, List.not_mem_nil, or_false, forall_eq_or_imp, forall_eq]; omega)
 rw [← ef] at el
 rw [he _ _ el rfl]
 simp only [List.mem_cons, List.not_mem_nil, or_false, forall_eq_or_imp, forall_eq] at hr
 have es : endL [r0, r1, r2, r3, r4, r5, r6, r7] o = [r0 + o % 72057594037927936, r1 + o / 72057594037927936, r2, r3, r4 + o % 72057594037927936, r5 + o / 72057594037927936, r6, r7] := by
  unfold endL
  simp only [List.getD_cons_zero, List.getD_cons_succ]
  rw [show o / 72057594037927936 % 18446744073709551616 = o / 72057594037927936 by omega, wrap_in _ (by omega) (by omega), wrap_in _ (by omega) (by omega), wrap_in _ (by omega) (by omega), wrap_in _ (by omega) (by omega)]
 have h := carry_E (l := endL [r0, r1, r2, r3, r4, r5, r6, r7] o) rfl (by
  rw [es]; intro x hx
  simp only [List.mem_cons, List.not_mem_nil, or_false] at hx
  omega)
 have ev : val (endL [r0, r1, r2, r3, r4, r5, r6, r7] o) = val l * val m - P * (o + (n8 + n12) + 72057594037927936 * (n9 + n13) + 72057594037927936 ^ 2 * (n10 + n14) + 72057594037927936 ^ 3 * n11 + 72057594037927936 ^ 4 * n12 + 72057594037927936 ^ 5 * n13 + 72057594037927936 ^ 6 * n14) := by
  rw [← h2, es, P_eq]
  simp only [val] at hv ⊢
  omega
 rw [ev, z_minus, z_mul, hl.2.2, hm.2.2] at h
 exact h
end Go.Proofs.Ytdpongijmmdnoaa
/- plain law: the number less than p, zero, bytes, whole numbers -/
namespace Go.Proofs.Ytdpongijmmdnoaa
open Go.RowKit FdP FdP.Ch

def dig (n : Int) : List Int :=
 [n % 72057594037927936, n / 72057594037927936 % 72057594037927936, n / 72057594037927936 ^ 2 % 72057594037927936, n / 72057594037927936 ^ 3 % 72057594037927936,
  n / 72057594037927936 ^ 4 % 72057594037927936, n / 72057594037927936 ^ 5 % 72057594037927936, n / 72057594037927936 ^ 6 % 72057594037927936, n / 72057594037927936 ^ 7 % 72057594037927936]

theorem dig_val (l0 l1 l2 l3 l4 l5 l6 l7 : Int) (h : ∀ x ∈ [l0, l1, l2, l3, l4, l5, l6, l7], 0 ≤ x ∧ x < 72057594037927936) : dig (val [l0, l1, l2, l3, l4, l5, l6, l7]) = [l0, l1, l2, l3, l4, l5, l6, l7] := by
 simp only [List.mem_cons, List.not_mem_nil, or_false, forall_eq_or_imp, forall_eq] at h
 obtain ⟨h0, h1, h2, h3, h4, h5, h6, h7⟩ := h
 unfold dig
 have e0 : val [l0, l1, l2, l3, l4, l5, l6, l7] % 72057594037927936 = l0 := by simp only [val]; omega
 have e1 : val [l0, l1, l2, l3, l4, l5, l6, l7] / 72057594037927936 = val [l1, l2, l3, l4, l5, l6, l7] := by simp only [val]; omega
 have d : ∀ (n : Int) k, n / 72057594037927936 ^ (k + 1) = n / 72057594037927936 ^ k / 72057594037927936 := by
  intro n k; rw [Int.pow_succ, Int.ediv_ediv_of_nonneg (Int.pow_nonneg (by omega))]
 have e2 : val [l0, l1, l2, l3, l4, l5, l6, l7] / 72057594037927936 ^ 2 = val [l2, l3, l4, l5, l6, l7] := by rw [d _ 1, Int.pow_one, e1]; simp only [val]; omega
 have e3 : val [l0, l1, l2, l3, l4, l5, l6, l7] / 72057594037927936 ^ 3 = val [l3, l4, l5, l6, l7] := by rw [d _ 2, e2]; simp only [val]; omega
 have e4 : val [l0, l1, l2, l3, l4, l5, l6, l7] / 72057594037927936 ^ 4 = val [l4, l5, l6, l7] := by rw [d _ 3, e3]; simp only [val]; omega
 have e5 : val [l0, l1, l2, l3, l4, l5, l6, l7] / 72057594037927936 ^ 5 = val [l5, l6, l7] := by rw [d _ 4, e4]; simp only [val]; omega
 have e6 : val [l0, l1, l2, l3, l4, l5, l6, l7] / 72057594037927936 ^ 6 = val [l6, l7] := by rw [d _ 5, e5]; simp only [val]; omega
 have e7 : val [l0, l1, l2, l3, l4, l5, l6, l7] / 72057594037927936 ^ 7 = val [l7] := by rw [d _ 6, e6]; simp only [val]; omega
 rw [e0, e1, e2, e3, e4, e5, e6, e7]
 simp only [val]
 simp only [List.cons.injEq, and_true, true_and]
 refine ⟨?_, ?_, ?_, ?_, ?_, ?_, ?_⟩ <;> omega

theorem sel_zero (a b : Int) (ha : 0 ≤ a ∧ a < 18446744073709551616) (hb : 0 ≤ b ∧ b < 18446744073709551616) : bits .xor .u64 a (bits .and .u64 0 (bits .xor .u64 a b)) = a := by
 obtain ⟨n, rfl⟩ := Int.eq_ofNat_of_zero_le ha.1
 obtain ⟨m, rfl⟩ := Int.eq_ofNat_of_zero_le hb.1
 rw [bits_xor_u64_nat n m (by omega) (by omega), show (0 : Int) = ((0 : Nat) : Int) from rfl, bits_and_u64_nat 0 _ (by omega) (Nat.xor_lt_two_pow (n := 64) (by omega) (by omega)), Nat.zero_and,
  bits_xor_u64_nat n 0 (by omega) (by omega), Nat.xor_zero]
theorem sel_one (a b : Int) (ha : 0 ≤ a ∧ a < 18446744073709551616) (hb : 0 ≤ b ∧ b < 18446744073709551616) : bits .xor .u64 a (bits .and .u64 18446744073709551615 (bits .xor .u64 a b)) = b := by
 obtain ⟨n, rfl⟩ := Int.eq_ofNat_of_zero_le ha.1
 obtain ⟨m, rfl⟩ := Int.eq_ofNat_of_zero_le hb.1
 have hx : n ^^^ m < 2 ^ 64 := Nat.xor_lt_two_pow (n := 64) (by omega) (by omega)
 rw [bits_xor_u64_nat n m (by omega) (by omega), show (18446744073709551615 : Int) = ((18446744073709551615 : Nat) : Int) from rfl, bits_and_u64_nat _ _ (by omega) hx, Nat.and_comm,
  show 18446744073709551615 = 2 ^ 64 - 1 from rfl, Nat.and_two_pow_sub_one_eq_mod, Nat.mod_eq_of_lt hx,
  bits_xor_u64_nat n _ (by omega) hx, ← Nat.xor_assoc, Nat.xor_self, Nat.zero_xor]

theorem tab8_ext {g : Nat → Int} {l : List Int} (hl : l.length = 8) (h : ∀ i, i < 8 → g i = l.getD i 0) : tab8 g = l := by
 obtain ⟨l0, l1, l2, l3, l4, l5, l6, l7, rfl⟩ := list8 hl
 rw [tab8_eq, h 0 (by omega), h 1 (by omega), h 2 (by omega), h 3 (by omega), h 4 (by omega), h 5 (by omega), h 6 (by omega), h 7 (by omega)]
 rfl

theorem and_one (x : Int) : bits .and .u64 (IntKind.u64.wrap x) 1 = x % 2 := by
 rw [IntKind.wrap_u64]; exact and_mask x 1 (by omega)
theorem selF_law (bit : Int) (a b : List Int) (la : a.length = 8) (lb : b.length = 8) (ba : Bd a) (bb : Bd b) : selF bit a b = if bit % 2 = 0 then a else b := by
 have ga := fun i (hi : i < 8) => bd_get ba i (by omega)
 have gb := fun i (hi : i < 8) => bd_get bb i (by omega)
 have hm : selM bit = IntKind.u64.wrap (-(bit % 2)) := by unfold selM; rw [and_one]
 unfold selF selR
 rw [hm]
 split
 ·rename_i h
  rw [h]
  exact tab8_ext la fun i hi => sel_zero _ _ (ga i hi) (gb i hi)
 ·rename_i h
  rw [show bit % 2 = 1 by omega]
  exact tab8_ext lb fun i hi => sel_one _ _ (ga i hi) (gb i hi)

theorem strT_step {c m : List Int} {k : Nat} {o x p r : Int} (h : strT c k = (m, o)) (hx : c.getD k 0 = x) (hp : primeL.getD k 0 = p) (h0 : 0 ≤ p + o) (h1 : p + o < 18446744073709551616) (hr : (x - (p + o)) % 72057594037927936 = r) {s : Int} (hs : sbH x (p + o) = s) :
 strT c (k + 1) = (m.set k r, s) := by
 rw [strT, h]; simp only [hx, hp, wrap_in _ h0 h1, hr, hs]

theorem sstep (x p b : Int) (hx : 0 ≤ x ∧ x < 72057594037927936) (hp : 72057594037927934 ≤ p ∧ p < 72057594037927936) (hb : 0 ≤ b ∧ b ≤ 1) :
 ∃ r o, (x - (p + b)) % 72057594037927936 = r ∧ sbH x (p + b) = o ∧ x - (p + b) = r - 72057594037927936 * o ∧ 0 ≤ r ∧ r < 72057594037927936 ∧ 0 ≤ o ∧ o ≤ 1 := by
 refine ⟨_, _, rfl, rfl, ?_⟩
 unfold sbH
 split <;> omega

theorem less_law (c0 c1 c2 c3 c4 c5 c6 c7 : Int) (h : ∀ x ∈ [c0, c1, c2, c3, c4, c5, c6, c7], 0 ≤ x ∧ x < 72057594037927936) :
 ∃ r0 r1 r2 r3 r4 r5 r6 r7 o : Int, strT [c0, c1, c2, c3, c4, c5, c6, c7] 8 = ([r0, r1, r2, r3, r4, r5, r6, r7], o) ∧ (∀ x ∈ [r0, r1, r2, r3, r4, r5, r6, r7], 0 ≤ x ∧ x < 72057594037927936) ∧ (0 ≤ o ∧ o ≤ 1) ∧
  val [c0, c1, c2, c3, c4, c5, c6, c7] - P = val [r0, r1, r2, r3, r4, r5, r6, r7] - 72057594037927936 ^ 8 * o := by
 simp only [List.mem_cons, List.not_mem_nil, or_false, forall_eq_or_imp, forall_eq] at h
 obtain ⟨h0, h1, h2, h3, h4, h5, h6, h7⟩ := h
 have e0 : strT [c0, c1, c2, c3, c4, c5, c6, c7] 0 = ([c0, c1, c2, c3, c4, c5, c6, c7], 0) := rfl
 obtain ⟨r0, o0, a0, b0, d0, k0⟩ := sstep c0 72057594037927935 0 h0 (by omega) (by omega)
 have e1 := strT_step (x := c0) (p := 72057594037927935) e0 rfl rfl (by omega) (by omega) a0 b0
 obtain ⟨r1, o1, a1, b1, d1, k1⟩ := sstep c1 72057594037927935 o0 h1 (by omega) (by omega)
 have e2 := strT_step (x := c1) (p := 72057594037927935) e1 rfl rfl (by omega) (by omega) a1 b1
 obtain ⟨r2, o2, a2, b2, d2, k2⟩ := sstep c2 72057594037927935 o1 h2 (by omega) (by omega)
 have e3 := strT_step (x := c2) (p := 72057594037927935) e2 rfl rfl (by omega) (by omega) a2 b2
 obtain ⟨r3, o3, a3, b3, d3, k3⟩ := sstep c3 72057594037927935 o2 h3 (by omega) (by omega)
 have e4 := strT_step (x := c3) (p := 72057594037927935) e3 rfl rfl (by omega) (by omega) a3 b3
 obtain ⟨r4, o4, a4, b4, d4, k4⟩ := sstep c4 72057594037927934 o3 h4 (by omega) (by omega)
 have e5 := strT_step (x := c4) (p := 72057594037927934) e4 rfl rfl (by omega) (by omega) a4 b4
 obtain ⟨r5, o5, a5, b5, d5, k5⟩ := sstep c5 72057594037927935 o4 h5 (by omega) (by omega)
 have e6 := strT_step (x := c5) (p := 72057594037927935) e5 rfl rfl (by omega) (by omega) a5 b5
 obtain ⟨r6, o6, a6, b6, d6, k6⟩ := sstep c6 72057594037927935 o5 h6 (by omega) (by omega)
 have e7 := strT_step (x := c6) (p := 72057594037927935) e6 rfl rfl (by omega) (by omega) a6 b6
 obtain ⟨r7, o7, a7, b7, d7, k7⟩ := sstep c7 72057594037927935 o6 h7 (by omega) (by omega)
 have e8 := strT_step (x := c7) (p := 72057594037927935) e7 rfl rfl (by omega) (by omega) a7 b7
 clear e0 e1 e2 e3 e4 e5 e6 e7 a0 a1 a2 a3 a4 a5 a6 a7 b0 b1 b2 b3 b4 b5 b6 b7
 refine ⟨r0, r1, r2, r3, r4, r5, r6, r7, o7, e8, ?_, ⟨k7.2.2.1, k7.2.2.2⟩, ?_⟩
 ·simp only [List.mem_cons, List.not_mem_nil, or_false, forall_eq_or_imp, forall_eq]
  omega
 ·rw [P_eq]
  simp only [val]
  omega

theorem z_small {n : Int} {a : F} (h0 : 0 ≤ n) (h1 : n < P) (h : z n = a) : n = a.val := by
 have := z_val n
 rw [h] at this
 rw [this, Int.emod_eq_of_lt h0 h1]

theorem wrap64_in (x : Int) (h0 : 0 ≤ x) (h1 : x < 9223372036854775808) : wrap64 x = x := by unfold wrap64; omega

set_option maxHeartbeats 1000000 in
theorem strong_E {l : List Int} {a : F} (hl : E l a) : strongF l = dig a.val := by
 have ha := hl.2.2
 have n := fun i hi => hl.nth i hi
 obtain ⟨l0, l1, l2, l3, l4, l5, l6, l7, rfl⟩ := list8 hl.1
 have x0 := n 0 (by omega); have x1 := n 1 (by omega); have x2 := n 2 (by omega); have x3 := n 3 (by omega); have x4 := n 4 (by omega); have x5 := n 5 (by omega); have x6 := n 6 (by omega); have x7 := n 7 (by omega)
 clear n
 simp only [List.getD_cons_zero, List.getD_cons_succ] at x0 x1 x2 x3 x4 x5 x6 x7
 obtain ⟨r0, r1, r2, r3, r4, r5, r6, r7, o, e, h0, h1, h2, h3, h4, h5, h6, h7, ho, ⟨p, hp0, hp1, hp, hpp⟩, -, hv⟩ := carry_law l0 l1 l2 l3 l4 l5 l6 l7 (by omega) (by omega) (by omega) (by omega) (by omega) (by omega) (by omega) (by omega)
 have hpp := hpp (by omega)
 obtain ⟨s0, s1, s2, s3, s4, s5, s6, s7, q, e', g0, g1, g2, g3, g4, g5, g6, g7, hq, ⟨t, ht0, ht1, ht, htt⟩, hsame, hv'⟩ := carry_law (r0 + o) r1 r2 r3 (r4 + o) r5 r6 r7 (by omega) (by omega) (by omega) (by omega) (by omega) (by omega) (by omega) (by omega)
 have htt := htt (by omega)
 have hq0 : q = 0 := by
  by_cases hz : o = 0
  ·exact (hsame (by omega)).2.2.2.2.2.2.2.2
  ·omega
 subst hq0
 have hc : carryF (carryF [l0, l1, l2, l3, l4, l5, l6, l7]) = [s0, s1, s2, s3, s4, s5, s6, s7] := by
  rw [e, e']; simp only [Int.add_zero]
 have hz : z (val [s0, s1, s2, s3, s4, s5, s6, s7]) = a := by
  have : val [s0, s1, s2, s3, s4, s5, s6, s7] = val [l0, l1, l2, l3, l4, l5, l6, l7] - P * o := by
   rw [P_eq]
   clear hpp htt hsame
   simp only [val] at hv hv' ⊢
   omega
  rw [this, z_minus, ha]
 have hs : ∀ x ∈ [s0, s1, s2, s3, s4, s5, s6, s7], 0 ≤ x ∧ x < 72057594037927936 := by
  simp only [List.mem_cons, List.not_mem_nil, or_false, forall_eq_or_imp, forall_eq]
  omega
 clear hv hv' e e' hsame htt hpp ht hp
 obtain ⟨u0, u1, u2, u3, u4, u5, u6, u7, k, es, hu, hk, hw⟩ := less_law s0 s1 s2 s3 s4 s5 s6 s7 hs
 have hb : Bd [s0, s1, s2, s3, s4, s5, s6, s7] := fun x hx => by have := hs x hx; omega
 have hb' : Bd [u0, u1, u2, u3, u4, u5, u6, u7] := fun x hx => by have := hu x hx; omega
 have bit : wrap64 (IntKind.u64.wrap (1 - k)) = 1 - k := by rw [wrap_in _ (by omega) (by omega), wrap64_in _ (by omega) (by omega)]
 unfold strongF
 simp only [hc, es, bit]
 rw [selF_law _ _ _ rfl rfl hb hb']
 have hs2 := hs
 have hu2 := hu
 simp only [List.mem_cons, List.not_mem_nil, or_false, forall_eq_or_imp, forall_eq] at hs2 hu2
 have P8 := P_eq
 by_cases hk0 : k = 0
 ·subst hk0
  rw [if_neg (by omega)]
  have : val [u0, u1, u2, u3, u4, u5, u6, u7] = a.val := by
   refine z_small ?_ ?_ ?_
   ·simp only [val]; omega
   ·rw [P8] at hw ⊢
    simp only [val] at hw ⊢
    omega
   ·rw [show val [u0, u1, u2, u3, u4, u5, u6, u7] = val [s0, s1, s2, s3, s4, s5, s6, s7] - P * 1 by omega, z_minus, hz]
  rw [← this, dig_val _ _ _ _ _ _ _ _ hu]
 ·have : k = 1 := by omega
  subst this
  rw [if_pos (by omega)]
  have : val [s0, s1, s2, s3, s4, s5, s6, s7] = a.val := by
   refine z_small ?_ ?_ hz
   ·simp only [val]; omega
   ·rw [P8] at hw ⊢
    simp only [val] at hw ⊢
    omega
  rw [← this, dig_val _ _ _ _ _ _ _ _ hs]
end Go.Proofs.Ytdpongijmmdnoaa
/- plain law: zero, whole numbers, bytes -/
namespace Go.Proofs.Ytdpongijmmdnoaa
open Go.RowKit FdP FdP.Ch

theorem dig_zero_iff (a : F) : dig a.val = zE ↔ a = 0 := by
 constructor
 ·intro h
  have hlt : (a.val : Int) < P := by have := a.isLt; omega
  rw [P_eq] at hlt
  simp only [dig, zE, List.cons.injEq, and_true] at h
  have : a.val = 0 := by omega
  exact Fin.ext this
 ·rintro rfl; decide +kernel

theorem or_nn {x y : Int} (hx : 0 ≤ x ∧ x < 18446744073709551616) (hy : 0 ≤ y ∧ y < 18446744073709551616) :
 (0 ≤ bits .or .u64 x y ∧ bits .or .u64 x y < 18446744073709551616) ∧ (bits .or .u64 x y = 0 ↔ x = 0 ∧ y = 0) := by
 obtain ⟨n, rfl⟩ := Int.eq_ofNat_of_zero_le hx.1
 obtain ⟨m, rfl⟩ := Int.eq_ofNat_of_zero_le hy.1
 have hb : n ||| m < 2 ^ 64 := Nat.or_lt_two_pow (by omega) (by omega)
 rw [bits_or_u64_nat n m (by omega) (by omega)]
 refine ⟨by omega, ?_⟩
 have : (n ||| m) = 0 ↔ n = 0 ∧ m = 0 := Nat.or_eq_zero_iff
 omega

theorem orT_law (l : List Int) (hb : ∀ i, i < 8 → 0 ≤ l.getD i 0 ∧ l.getD i 0 < 18446744073709551616) : ∀ k, k ≤ 8 →
 (0 ≤ orT l k ∧ orT l k < 18446744073709551616) ∧ (orT l k = 0 ↔ ∀ i, i < k → l.getD i 0 = 0) := by
 intro k
 induction k with
 | zero => intro _; simp [orT]
 | succ k ih =>
  intro hk
  obtain ⟨h1, h2⟩ := ih (by omega)
  have hy := hb k (by omega)
  generalize hz : l.getD k 0 = y at hy
  obtain ⟨g1, g2⟩ := or_nn h1 hy
  rw [orT, hz]
  refine ⟨g1, g2.trans ?_⟩
  rw [h2]
  constructor
  ·rintro ⟨a, b⟩ i hi
   by_cases he : i = k
   ·subst he; rw [hz]; exact b
   ·exact a i (by omega)
  ·intro h
   exact ⟨fun i hi => h i (by omega), by rw [← hz]; exact h k (by omega)⟩

theorem dig_bd (n : Int) : ∀ x ∈ dig n, 0 ≤ x ∧ x < 72057594037927936 := by
 intro x hx
 simp only [dig, List.mem_cons, List.not_mem_nil, or_false] at hx
 rcases hx with rfl | rfl | rfl | rfl | rfl | rfl | rfl | rfl <;> exact ⟨Int.emod_nonneg _ (by omega), Int.emod_lt_of_pos _ (by omega)⟩

theorem zero_law {l : List Int} {a : F} (hl : E l a) : isZF l = decide (a = 0) := by
 unfold isZF
 rw [strong_E hl]
 have hb := dig_bd a.val
 have h1 := (orT_law (dig a.val) (fun i hi => by
  have hl : i < (dig a.val).length := hi
  have : (dig a.val).getD i 0 = (dig a.val)[i] := by simp [List.getD, hl]
  rw [this]
  have := hb _ (List.getElem_mem hl)
  omega) 8 (by omega)).2
 have h2 : (orT (dig a.val) 8 = 0) ↔ a = 0 := by
  rw [h1, ← dig_zero_iff]
  constructor
  ·intro h
   have k0 := h 0 (by omega); have k1 := h 1 (by omega); have k2 := h 2 (by omega); have k3 := h 3 (by omega); have k4 := h 4 (by omega); have k5 := h 5 (by omega); have k6 := h 6 (by omega); have k7 := h 7 (by omega)
   simp only [dig, List.getD_cons_zero, List.getD_cons_succ] at k0 k1 k2 k3 k4 k5 k6 k7
   simp only [dig, zE, k0, k1, k2, k3, k4, k5, k6, k7]
  ·intro h i hi
   rw [h]
   match i, hi with
   | 0, _ | 1, _ | 2, _ | 3, _ | 4, _ | 5, _ | 6, _ | 7, _ => rfl
 by_cases h : a = 0
 ·rw [decide_eq_true h]; simpa using h2.2 h
 ·rw [decide_eq_false h]
  have : ¬ orT (dig a.val) 8 = 0 := fun e => h (h2.1 e)
  simpa using this

theorem intL_E (n : Int) (h0 : 0 ≤ n) (h1 : n < 18446744073709551616) : E (intL n) (z n) := by
 have e : bits .and .u64 n 72057594037927935 = n % 72057594037927936 := by
  have := and_mask n 56 (by omega); rwa [Int.emod_eq_of_lt h0 h1] at this
 refine ⟨rfl, ?_, ?_⟩
 ·intro x hx
  simp only [intL, List.mem_cons, List.not_mem_nil, or_false, e] at hx
  omega
 ·congr 1
  simp only [intL, val, e]
  omega
theorem int_E (n : Int) (h0 : -9223372036854775808 ≤ n) (h1 : n < 9223372036854775808) : E (intF n) (z n) := by
 unfold intF
 split
 ·rename_i h
  have e : IntKind.u64.wrap (wrap64 (-n)) = -n := by rw [IntKind.wrap_u64]; unfold wrap64; omega
  rw [e]
  have := neg_E (intL_E (-n) (by omega) (by omega))
  rw [← z_neg, Int.neg_neg] at this
  exact this
 ·rw [wrap_in _ (by omega) (by omega)]
  exact intL_E n (by omega) (by omega)

def bval : List Int → Int
 | [] => 0
 | x :: l => x + 256 * bval l
def By (b : List Int) : Prop := ∀ x ∈ b, 0 ≤ x ∧ x < 256
theorem or_shift (x y : Int) (k : Nat) (hk : k ≤ 48) (hx : 0 ≤ x ∧ x < 2 ^ k) (hy : 0 ≤ y ∧ y < 256) : bits .or .u64 x (IntKind.u64.wrap (IntKind.u64.wrap y * 2 ^ k)) = x + y * 2 ^ k := by
 obtain ⟨n, rfl⟩ := Int.eq_ofNat_of_zero_le hx.1
 obtain ⟨m, rfl⟩ := Int.eq_ofNat_of_zero_le hy.1
 have hm : m < 256 := by omega
 have hn : n < 2 ^ k := by have := hx.2; exact_mod_cast this
 have hp : 2 ^ k ≤ 2 ^ 48 := Nat.pow_le_pow_right (by omega) hk
 have hmk : m * 2 ^ k < 2 ^ 57 := by
  have : m * 2 ^ k ≤ 255 * 2 ^ 48 := Nat.mul_le_mul (by omega) hp
  omega
 have e : ((m : Int) * 2 ^ k) = ((m * 2 ^ k : Nat) : Int) := by push_cast; rfl
 rw [wrap_in (m : Int) (by omega) (by omega), e, wrap_in _ (by omega) (by omega), bits_or_u64_nat n _ (by omega) (by omega)]
 have : n ||| m * 2 ^ k = n + m * 2 ^ k := by
  rw [Nat.or_comm, Nat.mul_comm, ← Nat.two_pow_add_eq_or_of_lt hn, Nat.add_comm]
 rw [this]; push_cast; rfl
theorem by_get {b : List Int} (h : By b) (i : Nat) (hi : i < b.length) : 0 ≤ b.getD i 0 ∧ b.getD i 0 < 256 := by
 have : b.getD i 0 = b[i] := by simp [List.getD, hi]
 rw [this]; exact h _ (List.getElem_mem hi)
theorem bval_take (l : List Int) (k : Nat) : bval (l.take (k + 1)) = bval (l.take k) + l.getD k 0 * 2 ^ (8 * k) := by
 induction l generalizing k with
 | nil => simp [bval]
 | cons x l ih =>
  cases k with
  | zero => simp [bval]
  | succ k =>
   have := ih k
   simp only [List.take_succ_cons, bval, List.getD_cons_succ, this, Int.mul_add, show 8 * (k + 1) = 8 * k + 8 by omega, Int.pow_add]
   generalize bval (l.take k) = u
   generalize (2 : Int) ^ (8 * k) = b
   grind
theorem limbO_law (b : List Int) (j : Nat) (hb : By b) (hj : j + 7 ≤ b.length) : ∀ k, k ≤ 7 → (0 ≤ limbO b j k ∧ limbO b j k < 2 ^ (8 * k)) ∧ limbO b j k = bval ((b.drop j).take k) := by
 intro k
 induction k with
 | zero => intro _; simp [limbO, bval]
 | succ k ih =>
  intro hk
  obtain ⟨h1, h2⟩ := ih (by omega)
  have hy := by_get hb (j + k) (by omega)
  have e := or_shift (limbO b j k) (b.getD (j + k) 0) (8 * k) (by omega) h1 hy
  have g : (b.drop j).getD k 0 = b.getD (j + k) 0 := by simp [List.getD]
  rw [limbO, e]
  have hp : (2 : Int) ^ (8 * (k + 1)) = 256 * 2 ^ (8 * k) := by rw [show 8 * (k + 1) = 8 * k + 8 by omega, Int.pow_add]; generalize (2 : Int) ^ (8 * k) = q; omega
  refine ⟨?_, ?_⟩
  ·rw [hp]
   have hpos : (0 : Int) < 2 ^ (8 * k) := Int.pow_pos (by omega)
   generalize (2 : Int) ^ (8 * k) = q at *
   generalize b.getD (j + k) 0 = y at *
   have : y * q ≤ 255 * q := Int.mul_le_mul_of_nonneg_right (by omega) (by omega)
   have : 0 ≤ y * q := Int.mul_nonneg hy.1 (by omega)
   omega
  ·rw [bval_take, g, h2]
theorem bval_app (a b : List Int) : bval (a ++ b) = bval a + 2 ^ (8 * a.length) * bval b := by
 induction a with
 | nil => simp [bval]
 | cons x a ih =>
  simp only [List.cons_append, bval, ih, List.length_cons, show 8 * (a.length + 1) = 8 * a.length + 8 by omega, Int.pow_add]
  generalize (2 : Int) ^ (8 * a.length) = q
  generalize bval a = u
  generalize bval b = v
  grind
theorem p56 : (2 : Int) ^ (8 * 7) = 72057594037927936 := by decide
theorem bval_cut (b : List Int) (j : Nat) (hj : j + 7 ≤ b.length) : bval (b.drop j) = bval ((b.drop j).take 7) + 72057594037927936 * bval (b.drop (j + 7)) := by
 have : b.drop j = (b.drop j).take 7 ++ b.drop (j + 7) := by rw [← List.drop_drop, List.take_append_drop]
 conv => lhs; rw [this]
 rw [bval_app]
 have : ((b.drop j).take 7).length = 7 := by simp; omega
 rw [this, p56]
theorem of_law (b : List Int) (lb : b.length = 56) (hb : By b) : (∀ x ∈ ofF b, 0 ≤ x ∧ x < 72057594037927936) ∧ val (ofF b) = bval b := by
 have h : ∀ i, i < 8 → (0 ≤ limbO b (7 * i) 7 ∧ limbO b (7 * i) 7 < 72057594037927936) ∧ limbO b (7 * i) 7 = bval ((b.drop (7 * i)).take 7) := fun i hi => by
  have q := limbO_law b (7 * i) hb (by omega) 7 (by omega)
  rw [p56] at q
  exact q
 refine ⟨?_, ?_⟩
 ·intro x hx
  unfold ofF at hx
  rw [tab8_eq] at hx
  have h0 := (h 0 (by omega)).1; have h1 := (h 1 (by omega)).1; have h2 := (h 2 (by omega)).1; have h3 := (h 3 (by omega)).1; have h4 := (h 4 (by omega)).1; have h5 := (h 5 (by omega)).1; have h6 := (h 6 (by omega)).1; have h7 := (h 7 (by omega)).1
  simp only [List.mem_cons, List.not_mem_nil, or_false] at hx
  rcases hx with rfl | rfl | rfl | rfl | rfl | rfl | rfl | rfl
  ·exact h0
  ·exact h1
  ·exact h2
  ·exact h3
  ·exact h4
  ·exact h5
  ·exact h6
  ·exact h7
 ·unfold ofF
  rw [tab8_eq]
  simp only [val, (h 0 (by omega)).2, (h 1 (by omega)).2, (h 2 (by omega)).2, (h 3 (by omega)).2, (h 4 (by omega)).2, (h 5 (by omega)).2, (h 6 (by omega)).2, (h 7 (by omega)).2]
  have c0 := bval_cut b 0 (by omega); have c1 := bval_cut b 7 (by omega); have c2 := bval_cut b 14 (by omega); have c3 := bval_cut b 21 (by omega); have c4 := bval_cut b 28 (by omega); have c5 := bval_cut b 35 (by omega); have c6 := bval_cut b 42 (by omega); have c7 := bval_cut b 49 (by omega)
  have c8 : bval (b.drop (49 + 7)) = 0 := by rw [List.drop_eq_nil_of_le (by omega)]; rfl
  simp only [Nat.reduceMul, Nat.reduceAdd, List.drop_zero] at c0 c1 c2 c3 c4 c5 c6 c7 c8 ⊢
  omega
theorem of_E (b : List Int) (lb : b.length = 56) (hb : By b) : E (ofF b) (z (bval b)) := by
 obtain ⟨h1, h2⟩ := of_law b lb hb
 exact ⟨ofF_len b, fun x hx => by have := h1 x hx; omega, by rw [h2]⟩
end Go.Proofs.Ytdpongijmmdnoaa
