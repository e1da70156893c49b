/- plain: numbers modulo p (Prm) -/
namespace Go.Proofs.Ytdpongijmmdnoaa.FdP
/-- p, 2^448 - 2^224 - 1 -/
def P : Nat := 726838724295606890549323807888004534353641360687318060281490199180612328166730772686396383698676545930088884461843637361053498018365439

namespace Prm

/-- a power of a pair, as of a + b i, in whole numbers -/
def pw (a b : Int) : Nat → Int × Int
  | 0 => (1, 0)
  | k + 1 => ((pw a b k).1 * a - (pw a b k).2 * b, (pw a b k).1 * b + (pw a b k).2 * a)

theorem pw_add (a b : Int) (i j : Nat) :
    (pw a b (i + j)).1 = (pw a b i).1 * (pw a b j).1 - (pw a b i).2 * (pw a b j).2 ∧
    (pw a b (i + j)).2 = (pw a b i).1 * (pw a b j).2 + (pw a b i).2 * (pw a b j).1 := by
  induction j with
  | zero => simp [pw]
  | succ j ih =>
    obtain ⟨h1, h2⟩ := ih
    rw [← Nat.add_assoc]
    simp only [pw, h1, h2]
    constructor <;> grind

theorem pw_norm (a b : Int) (k : Nat) : (pw a b k).1 * (pw a b k).1 + (pw a b k).2 * (pw a b k).2 = (a * a + b * b) ^ k := by
  induction k with
  | zero => simp [pw]
  | succ k ih => simp only [pw]; rw [Int.pow_succ, ← ih]; grind

/-- the same, reduced at each step, by the bits of the exponent; fuel -/
def pm (n a b : Nat) : Nat → Nat → Nat × Nat
  | 0, _ => (1, 0)
  | f + 1, k =>
    if k = 0 then (1, 0) else
    let h := pm n a b f (k / 2)
    let x := (h.1 * h.1 + (n - 1) * (h.2 * h.2)) % n
    let y := (2 * h.1 * h.2) % n
    if k % 2 = 0 then (x, y) else ((x * a + (n - 1) * (y * b)) % n, (x * b + y * a) % n)

theorem mod_cong (n : Int) {a b : Int} (h : n ∣ a - b) (c d : Int) (h' : n ∣ c - d) : n ∣ a * c - b * d := by
  have : a * c - b * d = (a - b) * c + b * (c - d) := by grind
  rw [this]; exact Int.dvd_add (Int.dvd_mul_of_dvd_left h) (Int.dvd_mul_of_dvd_right h')

theorem sub_mod_dvd (n : Int) (a : Int) : n ∣ a % n - a := by
  refine ⟨-(a / n), ?_⟩
  have := Int.mul_ediv_add_emod a n
  grind

theorem pm_pw (n a b : Nat) (hn : 0 < n) : ∀ f k, k < 2 ^ f → (n : Int) ∣ ((pm n a b f k).1 : Int) - (pw a b k).1 ∧ (n : Int) ∣ ((pm n a b f k).2 : Int) - (pw a b k).2 := by
  intro f
  induction f with
  | zero =>
    intro k hk
    have : k = 0 := by simpa using hk
    subst this; simp [pm, pw]
  | succ f ih =>
    intro k hk
    by_cases h0 : k = 0
    · subst h0; simp [pm, pw]
    have hk2 : k / 2 < 2 ^ f := by rw [Nat.pow_succ] at hk; omega
    obtain ⟨h1, h2⟩ := ih (k / 2) hk2
    generalize hp : pm n a b f (k / 2) = p at *
    obtain ⟨d1, d2⟩ := pw_add a b (k / 2) (k / 2)
    generalize hw : pw a b (k / 2) = w at *
    obtain ⟨c1, hc1⟩ := h1
    obtain ⟨c2, hc2⟩ := h2
    have e1 : (p.1 : Int) = w.1 + n * c1 := by omega
    have e2 : (p.2 : Int) = w.2 + n * c2 := by omega
    have X : (n : Int) ∣ (((p.1 * p.1 + (n - 1) * (p.2 * p.2)) % n : Nat) : Int) - (pw a b (k/2 + k/2)).1 := by
      rw [d1]
      have s := sub_mod_dvd (n : Int) ((p.1 * p.1 + (n - 1) * (p.2 * p.2) : Nat) : Int)
      rw [← Int.natCast_emod] at s
      obtain ⟨t, ht⟩ := s
      have e3 : (((p.1 * p.1 + (n - 1) * (p.2 * p.2) : Nat)) : Int) = (p.1 : Int) * p.1 + ((n : Int) - 1) * ((p.2 : Int) * p.2) := by
        rw [Int.natCast_add, Int.natCast_mul, Int.natCast_mul, Int.natCast_mul, Int.natCast_sub hn]; rfl
      rw [e3] at ht
      refine ⟨t + 2 * w.1 * c1 + n * c1 * c1 + p.2 * p.2 - 2 * w.2 * c2 - n * c2 * c2, ?_⟩
      have : ((p.1 * p.1 + (n - 1) * (p.2 * p.2)) % n : Nat) = ((p.1 : Int) * p.1 + ((n : Int) - 1) * ((p.2 : Int) * p.2)) + n * t := by omega
      rw [this]; grind
    have Y : (n : Int) ∣ (((2 * p.1 * p.2) % n : Nat) : Int) - (pw a b (k/2 + k/2)).2 := by
      rw [d2]
      have s := sub_mod_dvd (n : Int) ((2 * p.1 * p.2 : Nat) : Int)
      rw [← Int.natCast_emod] at s
      obtain ⟨t, ht⟩ := s
      have e3 : ((2 * p.1 * p.2 : Nat) : Int) = 2 * (p.1 : Int) * p.2 := by simp
      rw [e3] at ht
      refine ⟨t + 2 * w.1 * c2 + 2 * w.2 * c1 + 2 * n * c1 * c2, ?_⟩
      have : (((2 * p.1 * p.2) % n : Nat) : Int) = 2 * (p.1 : Int) * p.2 + n * t := by omega
      rw [this]; grind
    generalize hx : (p.1 * p.1 + (n - 1) * (p.2 * p.2)) % n = x at *
    generalize hy : (2 * p.1 * p.2) % n = y at *
    by_cases hm : k % 2 = 0
    · have e : pm n a b (f + 1) k = (x, y) := by simp only [pm, if_neg h0, hp, hx, hy, if_pos hm]
      have ek : k / 2 + k / 2 = k := by omega
      rw [e]; rw [ek] at X Y; exact ⟨X, Y⟩
    · have e : pm n a b (f + 1) k = ((x * a + (n - 1) * (y * b)) % n, (x * b + y * a) % n) := by simp only [pm, if_neg h0, hp, hx, hy, if_neg hm]
      have ek : k / 2 + k / 2 + 1 = k := by omega
      have hz : pw a b k = ((pw a b (k/2+k/2)).1 * a - (pw a b (k/2+k/2)).2 * b, (pw a b (k/2+k/2)).1 * b + (pw a b (k/2+k/2)).2 * a) := by
        conv => lhs; rw [← ek]
        rfl
      rw [e, hz]
      clear e hz d1 d2 hw
      generalize pw a b (k/2 + k/2) = z at *
      obtain ⟨u, hu⟩ := X
      obtain ⟨v, hv⟩ := Y
      have s1 := sub_mod_dvd (n : Int) ((x * a + (n - 1) * (y * b) : Nat) : Int)
      have s2 := sub_mod_dvd (n : Int) ((x * b + y * a : Nat) : Int)
      rw [← Int.natCast_emod] at s1 s2
      obtain ⟨t1, ht1⟩ := s1
      obtain ⟨t2, ht2⟩ := s2
      have e3 : ((x * a + (n - 1) * (y * b) : Nat) : Int) = (x : Int) * a + ((n : Int) - 1) * ((y : Int) * b) := by
        rw [Int.natCast_add, Int.natCast_mul, Int.natCast_mul, Int.natCast_mul, Int.natCast_sub hn]; rfl
      have e4 : ((x * b + y * a : Nat) : Int) = (x : Int) * b + y * a := by simp
      rw [e3] at ht1
      rw [e4] at ht2
      generalize (x * a + (n - 1) * (y * b)) % n = r1 at *
      generalize (x * b + y * a) % n = r2 at *
      refine ⟨⟨t1 + u * a + y * b - v * b, ?_⟩, ⟨t2 + u * b + v * a, ?_⟩⟩
      · have : (r1 : Int) = (x : Int) * a + ((n : Int) - 1) * ((y : Int) * b) + n * t1 := by omega
        have hx : (x : Int) = z.1 + n * u := by omega
        have hy : (y : Int) = z.2 + n * v := by omega
        simp only [this, hx, hy]; grind
      · have : (r2 : Int) = (x : Int) * b + y * a + n * t2 := by omega
        have hx : (x : Int) = z.1 + n * u := by omega
        have hy : (y : Int) = z.2 + n * v := by omega
        simp only [this, hx, hy]; grind

/-- the pair is 1 modulo q -/
def One (q : Nat) (a b : Int) (k : Nat) : Prop := (q : Int) ∣ (pw a b k).1 - 1 ∧ (q : Int) ∣ (pw a b k).2

theorem one_zero (q : Nat) (a b : Int) : One q a b 0 := by simp [One, pw]

theorem one_add {q : Nat} {a b : Int} {i j : Nat} (hi : One q a b i) (hj : One q a b j) : One q a b (i + j) := by
  obtain ⟨⟨s, hs⟩, ⟨t, ht⟩⟩ := hi
  obtain ⟨⟨u, hu⟩, ⟨v, hv⟩⟩ := hj
  obtain ⟨d1, d2⟩ := pw_add a b i j
  have es : (pw a b i).1 = 1 + q * s := by omega
  have eu : (pw a b j).1 = 1 + q * u := by omega
  refine ⟨⟨s + u + q * s * u - q * t * v, ?_⟩, ⟨v + t + q * s * v + q * t * u, ?_⟩⟩
  · rw [d1, es, eu, ht, hv]; grind
  · rw [d2, es, eu, ht, hv]; grind

theorem one_mul {q : Nat} {a b : Int} {i : Nat} (hi : One q a b i) : ∀ j, One q a b (i * j)
  | 0 => by simpa using one_zero q a b
  | j + 1 => by rw [Nat.mul_succ]; exact one_add (one_mul hi j) hi

/-- what is 1 at i and at i + j is 1 at j -/
theorem one_sub {q : Nat} {a b : Int} {i j : Nat} (hi : One q a b i) (hj : One q a b (i + j)) : One q a b j := by
  obtain ⟨⟨s, hs⟩, ⟨t, ht⟩⟩ := hi
  obtain ⟨⟨u, hu⟩, ⟨v, hv⟩⟩ := hj
  obtain ⟨d1, d2⟩ := pw_add a b i j
  have es : (pw a b i).1 = 1 + q * s := by omega
  rw [d1, es, ht] at hu
  rw [d2, es, ht] at hv
  refine ⟨⟨u - s * (pw a b j).1 + t * (pw a b j).2, ?_⟩, ⟨v - s * (pw a b j).2 - t * (pw a b j).1, ?_⟩⟩
  · grind
  · grind

theorem one_gcd {q : Nat} {a b : Int} : ∀ m n : Nat, One q a b m → One q a b n → One q a b (Nat.gcd m n) := by
  intro m n
  induction m, n using Nat.gcd.induction with
  | H0 n => intro _ h; simpa using h
  | H1 m n hm ih =>
    intro h1 h2
    rw [Nat.gcd_rec]
    refine ih ?_ h1
    have e : m * (n / m) + n % m = n := Nat.div_add_mod n m
    exact one_sub (one_mul h1 (n / m)) (by rw [e]; exact h2)

/-- equal powers: the power of the difference is 1, where the norm is 1 -/
theorem one_of_eq {q : Nat} {a b : Int} (hn : (q : Int) ∣ a * a + b * b - 1) {i e : Nat}
    (h1 : (q : Int) ∣ (pw a b (i + e)).1 - (pw a b i).1) (h2 : (q : Int) ∣ (pw a b (i + e)).2 - (pw a b i).2) : One q a b e := by
  have nrm : ∀ k, (q : Int) ∣ (pw a b k).1 * (pw a b k).1 + (pw a b k).2 * (pw a b k).2 - 1 := by
    intro k
    rw [pw_norm]
    induction k with
    | zero => simp
    | succ k ih =>
      obtain ⟨s, hs⟩ := ih
      obtain ⟨t, ht⟩ := hn
      refine ⟨s * (a * a + b * b) + t, ?_⟩
      rw [Int.pow_succ]
      have : (a * a + b * b) ^ k = 1 + q * s := by omega
      rw [this]; grind
  obtain ⟨s, hs⟩ := nrm i
  obtain ⟨d1, d2⟩ := pw_add a b i e
  rw [d1] at h1
  rw [d2] at h2
  obtain ⟨u, hu⟩ := h1
  obtain ⟨v, hv⟩ := h2
  generalize pw a b i = z at *
  generalize hw : pw a b e = w at *
  unfold One
  rw [hw]
  refine ⟨⟨z.1 * u + z.2 * v - s * (w.1 - 1), ?_⟩, ⟨z.1 * v - z.2 * u - s * w.2, ?_⟩⟩
  · grind
  · grind

/-- as many numbers below M, told apart by numbers below K: M is at most K -/
theorem pigeon : ∀ (K M : Nat) (f : Nat → Nat), (∀ i, i < M → f i < K) → (∀ i j, i < M → j < M → f i = f j → i = j) → M ≤ K := by
  intro K
  induction K with
  | zero =>
    intro M f h _
    rcases Nat.eq_zero_or_pos M with h0 | h0
    · omega
    · exact absurd (h 0 h0) (by omega)
  | succ K ih =>
    intro M f h inj
    rcases Nat.eq_zero_or_pos M with h0 | h0
    · omega
    have := ih (M - 1) (fun i => if f i = K then f (M - 1) else f i) (by
      intro i hi
      have a1 := h i (by omega)
      have a2 := h (M - 1) (by omega)
      show (if f i = K then f (M - 1) else f i) < K
      split
      · rename_i hk
        have : f (M - 1) ≠ K := fun e => by have := inj i (M - 1) (by omega) (by omega) (by omega); omega
        omega
      · omega) (by
      intro i j hi hj
      show (if f i = K then f (M - 1) else f i) = (if f j = K then f (M - 1) else f j) → i = j
      split <;> split
      · intro _; exact inj i j (by omega) (by omega) (by omega)
      · intro e; have := inj (M - 1) j (by omega) (by omega) e; omega
      · intro e; have := inj i (M - 1) (by omega) (by omega) e; omega
      · intro e; exact inj i j (by omega) (by omega) e)
    omega

/-- of a number greater than 1 the least divisor greater than 1 -/
theorem least_factor : ∀ (n : Nat), 1 < n → ∃ q, 1 < q ∧ q ∣ n ∧ ∀ d, 1 < d → d ∣ n → q ≤ d := by
  intro n hn
  have key : ∀ k, (∃ d, 1 < d ∧ d ≤ k ∧ d ∣ n) → ∃ q, 1 < q ∧ q ∣ n ∧ ∀ d, 1 < d → d ∣ n → q ≤ d := by
    intro k
    induction k with
    | zero => rintro ⟨d, h1, h2, _⟩; omega
    | succ k ih =>
      intro h
      by_cases hk : ∃ d, 1 < d ∧ d ≤ k ∧ d ∣ n
      · exact ih hk
      · obtain ⟨d, h1, h2, h3⟩ := h
        refine ⟨d, h1, h3, fun e he hd => ?_⟩
        rcases Nat.lt_or_ge e d with hlt | hge
        · exact absurd ⟨e, he, by omega, hd⟩ hk
        · exact hge
  exact key n ⟨n, hn, Nat.le_refl _, Nat.dvd_refl n⟩

/-- a number has no divisors but 1 and itself: it divides a product just if it divides a part -/
theorem euclid {q : Nat} (_h1 : 1 < q) (hq : ∀ d, d ∣ q → d = 1 ∨ d = q) {a b : Nat} (h : q ∣ a * b) : q ∣ a ∨ q ∣ b := by
  rcases hq (Nat.gcd q a) (Nat.gcd_dvd_left q a) with g | g
  · exact Or.inr (Nat.Coprime.dvd_of_dvd_mul_left g h)
  · left; rw [← g]; exact Nat.gcd_dvd_right q a

theorem euclid_int {q : Nat} (h1 : 1 < q) (hq : ∀ d, d ∣ q → d = 1 ∨ d = q) {a b : Int} (h : (q : Int) ∣ a * b) : (q : Int) ∣ a ∨ (q : Int) ∣ b := by
  have := Int.natAbs_dvd_natAbs.2 h
  rw [Int.natAbs_mul, Int.natAbs_natCast] at this
  rcases euclid h1 hq this with g | g
  · left; rw [← Int.natAbs_dvd_natAbs]; simpa using g
  · right; rw [← Int.natAbs_dvd_natAbs]; simpa using g

/-- a number n, with n + 1 a multiple of M = 2^224 * 15, for which a pair of norm 1 has the power n + 1 but no power
(n + 1) / r, r = 2, 3, 5, that is 1 modulo any divisor: it has no divisor but 1 and itself, if 2 (2 n)^(1/2) < M -/
theorem prime_of (n a b M k : Nat) (hn : 1 < n) (hodd : n % 2 = 1) (hM : M = 2 ^ k * 15) (hMn : M ∣ n + 1)
    (hk : 4 * n < M * M)
    (hnorm : (n : Int) ∣ (a : Int) * a + (b : Int) * b - 1)
    (hone : ∀ q : Nat, q ∣ n → One q a b (n + 1))
    (h2 : ∀ q : Nat, 1 < q → q ∣ n → ¬ One q a b ((n + 1) / 2))
    (h3 : ∀ q : Nat, 1 < q → q ∣ n → ¬ One q a b ((n + 1) / 3))
    (h5 : ∀ q : Nat, 1 < q → q ∣ n → ¬ One q a b ((n + 1) / 5)) :
    ∀ d, d ∣ n → d = 1 ∨ d = n := by
  obtain ⟨q, q1, qn, ql⟩ := least_factor n hn
  have qp : ∀ d, d ∣ q → d = 1 ∨ d = q := by
    intro d hd
    rcases Nat.lt_or_ge 1 d with h | h
    · have := ql d h (Nat.dvd_trans hd qn)
      have := Nat.le_of_dvd (by omega) hd
      right; omega
    · rcases Nat.eq_zero_or_pos d with h0 | h0
      · subst h0; have := Nat.eq_zero_of_zero_dvd hd; omega
      · left; omega
  have qodd : q % 2 = 1 := by
    obtain ⟨c, hc⟩ := qn
    rcases Nat.mod_two_eq_zero_or_one q with h | h
    · rw [hc, Nat.mul_mod, h] at hodd; simp at hodd
    · exact h
  -- powers below M are told apart modulo q
  have hlow : ∀ e, 0 < e → e < M → ¬ One q a b e := by
    intro e e0 eM ho
    have hg := one_gcd e (n + 1) ho (hone q qn)
    obtain ⟨h, hh⟩ := Nat.gcd_dvd_right e (n + 1)
    have gle : Nat.gcd e (n + 1) ≤ e := Nat.le_of_dvd e0 (Nat.gcd_dvd_left e (n + 1))
    have gpos : 0 < Nat.gcd e (n + 1) := Nat.gcd_pos_of_pos_left _ e0
    generalize Nat.gcd e (n + 1) = g at *
    have red : ∀ r, 0 < r → r ∣ h → One q a b ((n + 1) / r) := by
      rintro r hr ⟨c, hc⟩
      have : (n + 1) / r = g * c := by
        rw [hh, hc, show g * (r * c) = r * (g * c) by rw [Nat.mul_left_comm], Nat.mul_div_cancel_left _ hr]
      rw [this]; exact one_mul hg c
    have cop : ∀ r, (∀ d, d ∣ r → d = 1 ∨ d = r) → 0 < r → ¬ r ∣ h → Nat.Coprime r h := by
      intro r hr h0 hn
      rcases hr (Nat.gcd r h) (Nat.gcd_dvd_left r h) with g1 | g1
      · exact g1
      · exact absurd (by rw [← g1]; exact Nat.gcd_dvd_right r h) hn
    have c2 : Nat.Coprime 2 h := cop 2 (fun d hd => (by decide : ∀ d, d < 3 → d ∣ 2 → d = 1 ∨ d = 2) d (by have := Nat.le_of_dvd (by omega) hd; omega) hd) (by omega) fun z => h2 q q1 qn (red 2 (by omega) z)
    have c3 : Nat.Coprime 3 h := cop 3 (fun d hd => (by decide : ∀ d, d < 4 → d ∣ 3 → d = 1 ∨ d = 3) d (by have := Nat.le_of_dvd (by omega) hd; omega) hd) (by omega) fun z => h3 q q1 qn (red 3 (by omega) z)
    have c5 : Nat.Coprime 5 h := cop 5 (fun d hd => (by decide : ∀ d, d < 6 → d ∣ 5 → d = 1 ∨ d = 5) d (by have := Nat.le_of_dvd (by omega) hd; omega) hd) (by omega) fun z => h5 q q1 qn (red 5 (by omega) z)
    have cM : Nat.Coprime M h := by
      rw [hM, show (15 : Nat) = 3 * 5 from rfl]
      exact Nat.Coprime.mul_left (Nat.Coprime.pow_left k c2) (Nat.Coprime.mul_left c3 c5)
    rw [hh] at hMn
    have := Nat.le_of_dvd gpos (Nat.Coprime.dvd_of_dvd_mul_right cM hMn)
    omega
  -- so M is at most 2 q
  have hle : M ≤ 2 * q := by
    have q0 : (0 : Int) < q := by omega
    have bd : ∀ z : Int, 0 ≤ z % (q : Int) ∧ z % (q : Int) < q := fun z => ⟨Int.emod_nonneg z (by omega), Int.emod_lt_of_pos z q0⟩
    refine pigeon (2 * q) M (fun i => 2 * ((pw a b i).1 % (q : Int)).toNat + (if 2 * ((pw a b i).2 % (q : Int)) < q then 0 else 1)) ?_ ?_
    · intro i _
      have := bd (pw a b i).1
      show 2 * ((pw a b i).1 % (q : Int)).toNat + (if 2 * ((pw a b i).2 % (q : Int)) < q then 0 else 1) < 2 * q
      split <;> omega
    · -- of the same code: the same power
      have hnq : (q : Int) ∣ (a : Int) * a + (b : Int) * b - 1 := Int.dvd_trans (Int.natCast_dvd_natCast.2 qn) hnorm
      have nrm : ∀ k, (q : Int) ∣ (pw a b k).1 * (pw a b k).1 + (pw a b k).2 * (pw a b k).2 - 1 := by
        intro k
        rw [pw_norm]
        induction k with
        | zero => simp
        | succ k ih =>
          obtain ⟨s, hs⟩ := ih
          obtain ⟨t, ht⟩ := hnq
          refine ⟨s * (a * a + b * b) + t, ?_⟩
          rw [Int.pow_succ]
          have : ((a : Int) * a + b * b) ^ k = 1 + q * s := by omega
          rw [this]; grind
      have main : ∀ i e, i + e < M → 0 < e →
          2 * ((pw a b i).1 % (q : Int)).toNat + (if 2 * ((pw a b i).2 % (q : Int)) < q then 0 else 1) = 2 * ((pw a b (i + e)).1 % (q : Int)).toNat + (if 2 * ((pw a b (i + e)).2 % (q : Int)) < q then 0 else 1) → False := by
        intro i e he e0 hc
        apply hlow e e0 (by omega)
        have b1 := bd (pw a b i).1
        have b2 := bd (pw a b i).2
        have b3 := bd (pw a b (i + e)).1
        have b4 := bd (pw a b (i + e)).2
        have N1 := nrm i
        have N2 := nrm (i + e)
        refine one_of_eq (q := q) (a := a) (b := b) (i := i) hnq ?_ ?_
        · apply Int.dvd_of_emod_eq_zero
          rw [Int.sub_emod]
          have : (pw a b (i + e)).1 % (q : Int) = (pw a b i).1 % (q : Int) := by
            split at hc <;> split at hc <;> omega
          rw [this]; simp
        · have e1 : (pw a b (i + e)).1 % (q : Int) = (pw a b i).1 % (q : Int) := by
            split at hc <;> split at hc <;> omega
          have x1 : (q : Int) ∣ (pw a b (i + e)).1 - (pw a b i).1 := by
            apply Int.dvd_of_emod_eq_zero
            rw [Int.sub_emod, e1]; simp
          have yy : (q : Int) ∣ ((pw a b (i + e)).2 - (pw a b i).2) * ((pw a b (i + e)).2 + (pw a b i).2) := by
            obtain ⟨s, hs⟩ := x1
            obtain ⟨t, ht⟩ := N1
            obtain ⟨u, hu⟩ := N2
            refine ⟨u - t - s * ((pw a b (i + e)).1 + (pw a b i).1), ?_⟩
            grind
          rcases euclid_int q1 qp yy with h | h
          · exact h
          · have s0 := Int.emod_eq_zero_of_dvd h
            rw [Int.add_emod] at s0
            have : (pw a b (i + e)).2 % (q : Int) = (pw a b i).2 % (q : Int) := by
              generalize (pw a b (i + e)).2 % (q : Int) = v at *
              generalize (pw a b i).2 % (q : Int) = w at *
              have hs : v + w = 0 ∨ v + w = q := by
                rcases Int.lt_or_le (v + w) q with l | l
                · left; rwa [Int.emod_eq_of_lt (by omega) l] at s0
                · right
                  have : (v + w) % (q : Int) = v + w - q := by
                    rw [← Int.sub_emod_right]; exact Int.emod_eq_of_lt (by omega) (by omega)
                  omega
              rcases hs with hs | hs
              · omega
              · split at hc <;> split at hc <;> omega
            apply Int.dvd_of_emod_eq_zero
            rw [Int.sub_emod, this]; simp
      intro i j hi hj hc
      rcases Nat.lt_trichotomy i j with l | l | l
      · exfalso
        obtain ⟨e, rfl⟩ : ∃ e, j = i + e := ⟨j - i, by omega⟩
        exact main i e hj (by omega) hc
      · exact l
      · exfalso
        obtain ⟨e, rfl⟩ : ∃ e, i = j + e := ⟨i - j, by omega⟩
        exact main j e hi (by omega) hc.symm
  -- so q q is more than n
  have hqn : n < q * q := by
    have : M * M ≤ (2 * q) * (2 * q) := Nat.mul_le_mul hle hle
    have e : (2 * q) * (2 * q) = 4 * (q * q) := by grind
    omega
  -- q is n
  obtain ⟨c, hc⟩ := qn
  have c1 : c = 1 := by
    rcases Nat.lt_or_ge 1 c with l | l
    · have := ql c l ⟨q, by rw [hc, Nat.mul_comm]⟩
      have : q * q ≤ q * c := Nat.mul_le_mul_left q this
      omega
    · rcases Nat.eq_zero_or_pos c with z | z
      · subst z; omega
      · omega
  subst c1
  rw [Nat.mul_one] at hc
  rw [hc]; exact qp

/-- 'not 1' from the reduced power: one part of it, less 1, has no divisor in common with n -/
theorem not_one (n a b k : Nat) (f : Nat) (hn : 0 < n) (hk : k < 2 ^ f)
    (h : Nat.gcd ((pm n a b f k).1 + (n - 1)) n = 1 ∨ Nat.gcd (pm n a b f k).2 n = 1) : ∀ q : Nat, 1 < q → q ∣ n → ¬ One q a b k := by
  rintro q q1 qn ⟨o1, o2⟩
  obtain ⟨p1, p2⟩ := pm_pw n a b hn f k hk
  have qi : (q : Int) ∣ n := Int.natCast_dvd_natCast.2 qn
  rcases h with h | h
  · have d1 : (q : Int) ∣ ((pm n a b f k).1 + (n - 1) : Nat) := by
      have e : (((pm n a b f k).1 + (n - 1) : Nat) : Int) = (((pm n a b f k).1 : Int) - (pw a b k).1) + ((pw a b k).1 - 1) + n := by omega
      rw [e]; exact Int.dvd_add (Int.dvd_add (Int.dvd_trans qi p1) o1) qi
    have := Nat.dvd_gcd (Int.natCast_dvd_natCast.1 d1) qn
    rw [h] at this
    have := Nat.le_of_dvd (by omega) this
    omega
  · have d2 : (q : Int) ∣ ((pm n a b f k).2 : Nat) := by
      have e : (((pm n a b f k).2 : Nat) : Int) = (((pm n a b f k).2 : Int) - (pw a b k).2) + (pw a b k).2 := by omega
      rw [e]; exact Int.dvd_add (Int.dvd_trans qi p2) o2
    have := Nat.dvd_gcd (Int.natCast_dvd_natCast.1 d2) qn
    rw [h] at this
    have := Nat.le_of_dvd (by omega) this
    omega

theorem yes_one (n a b k : Nat) (f : Nat) (hn : 1 < n) (hk : k < 2 ^ f) (h : pm n a b f k = (1, 0)) : ∀ q : Nat, q ∣ n → One q a b k := by
  rintro q qn
  obtain ⟨p1, p2⟩ := pm_pw n a b (by omega) f k hk
  rw [h] at p1 p2
  have qi : (q : Int) ∣ n := Int.natCast_dvd_natCast.2 qn
  constructor
  · have := Int.dvd_trans qi p1
    have e : (pw a b k).1 - 1 = -(((1 : Nat) : Int) - (pw a b k).1) := by omega
    rw [e]; exact Int.dvd_neg.2 this
  · have := Int.dvd_trans qi p2
    have e : (pw a b k).2 = -(((0 : Nat) : Int) - (pw a b k).2) := by omega
    rw [e]; exact Int.dvd_neg.2 this

/-- THE NUMBER p IS A PRIME NUMBER -/
theorem P_prime : ∀ d, d ∣ P → d = 1 ∨ d = P := by
  refine prime_of P 111821342199324137007588278136616082208252517028818163120229261412401896641035503490214828261334853220013674532591328824777461233594682 559106710996620685037941390683080411041262585144090815601146307062009483205177517451074141306674266100068372662956644123887306167973415 (2 ^ 224 * 15) 224 (by decide +kernel) (by decide +kernel) rfl (by decide +kernel) (by decide +kernel) ?_ ?_ ?_ ?_ ?_
  · apply Int.dvd_of_emod_eq_zero; decide +kernel
  · exact yes_one P _ _ (P + 1) 450 (by decide +kernel) (by decide +kernel) (by decide +kernel)
  · exact not_one P _ _ ((P + 1) / 2) 450 (by decide +kernel) (by decide +kernel) (by decide +kernel)
  · exact not_one P _ _ ((P + 1) / 3) 450 (by decide +kernel) (by decide +kernel) (by decide +kernel)
  · exact not_one P _ _ ((P + 1) / 5) 450 (by decide +kernel) (by decide +kernel) (by decide +kernel)
end Prm

end Go.Proofs.Ytdpongijmmdnoaa.FdP
