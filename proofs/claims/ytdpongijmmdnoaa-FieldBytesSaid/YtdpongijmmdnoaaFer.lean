/- plain: numbers modulo p (Fer) -/
import Derived.Test.YtdpongijmmdnoaaPrm
namespace Go.Proofs.Ytdpongijmmdnoaa.FdP
/-! Fermat's little theorem -/
namespace Prm

/-- how many choices of k of n -/
def ch : Nat → Nat → Nat
  | _, 0 => 1
  | 0, _ + 1 => 0
  | n + 1, k + 1 => ch n k + ch n (k + 1)

theorem ch_zero (n : Nat) : ch n 0 = 1 := by cases n <;> rfl

theorem ch_gt : ∀ n k, n < k → ch n k = 0 := by
  intro n
  induction n with
  | zero => intro k h; cases k with
    | zero => omega
    | succ k => rfl
  | succ n ih => intro k h; cases k with
    | zero => omega
    | succ k => simp [ch, ih k (by omega), ih (k + 1) (by omega)]

theorem ch_self (n : Nat) : ch n n = 1 := by
  induction n with
  | zero => rfl
  | succ n ih => simp [ch, ih, ch_gt n (n + 1) (by omega)]

theorem ch_absorb : ∀ n k, (k + 1) * ch (n + 1) (k + 1) = (n + 1) * ch n k := by
  intro n
  induction n with
  | zero => intro k; cases k with
    | zero => rfl
    | succ k => simp [ch]
  | succ n ih => intro k; cases k with
    | zero =>
      have := ih 0
      simp only [ch, ch_zero] at *; grind
    | succ k =>
      have h1 := ih k
      have h2 := ih (k + 1)
      rw [show ch (n + 1 + 1) (k + 1 + 1) = ch (n + 1) (k + 1) + ch (n + 1) (k + 1 + 1) from rfl]
      rw [show ch (n + 1) (k + 1) = ch n k + ch n (k + 1) from rfl] at *
      grind

/-- a sum of n parts -/
def sm (f : Nat → Nat) : Nat → Nat
  | 0 => 0
  | n + 1 => sm f n + f n

theorem sm_add (f g : Nat → Nat) (n : Nat) : sm (fun i => f i + g i) n = sm f n + sm g n := by
  induction n with
  | zero => rfl
  | succ n ih => simp only [sm, ih]; omega

theorem sm_mul (f : Nat → Nat) (c n : Nat) : sm (fun i => f i * c) n = sm f n * c := by
  induction n with
  | zero => simp [sm]
  | succ n ih => simp only [sm, ih]; grind

theorem sm_shift (f : Nat → Nat) (n : Nat) : sm f (n + 1) = f 0 + sm (fun i => f (i + 1)) n := by
  induction n with
  | zero => simp [sm]
  | succ n ih => rw [sm, ih]; simp only [sm]; omega

theorem binom (a n : Nat) : (a + 1) ^ n = sm (fun k => ch n k * a ^ k) (n + 1) := by
  induction n with
  | zero => simp [sm, ch]
  | succ n ih =>
    rw [Nat.pow_succ, ih, sm_shift (fun k => ch (n + 1) k * a ^ k) (n + 1)]
    have e : (fun i => ch (n + 1) (i + 1) * a ^ (i + 1)) = fun i => ch n i * a ^ i * a + ch n (i + 1) * a ^ (i + 1) := by
      funext i; simp only [ch, Nat.pow_succ]; grind
    have e1 : sm (fun i => ch (n + 1) (i + 1) * a ^ (i + 1)) (n + 1) = sm (fun i => ch n i * a ^ i) (n + 1) * a + sm (fun i => ch n (i + 1) * a ^ (i + 1)) (n + 1) := by
      rw [e, sm_add, sm_mul]
    rw [show sm (fun i => (fun k => ch (n + 1) k * a ^ k) (i + 1)) (n + 1) = sm (fun i => ch (n + 1) (i + 1) * a ^ (i + 1)) (n + 1) from rfl, e1]
    have e2 : sm (fun i => ch n (i + 1) * a ^ (i + 1)) (n + 1) = sm (fun i => ch n (i + 1) * a ^ (i + 1)) n := by
      rw [sm, ch_gt n (n + 1) (by omega)]; simp
    have e3 : sm (fun k => ch n k * a ^ k) (n + 1) = 1 + sm (fun i => ch n (i + 1) * a ^ (i + 1)) n := by
      rw [sm_shift]; simp [ch_zero]
    rw [e2, ch_zero]
    generalize sm (fun i => ch n (i + 1) * a ^ (i + 1)) n = t at *
    rw [e3]; simp; grind

theorem sm_dvd (f : Nat → Nat) (q n : Nat) (h : ∀ i, i < n → q ∣ f i) : q ∣ sm f n := by
  induction n with
  | zero => exact Nat.dvd_zero q
  | succ n ih => exact Nat.dvd_add (ih fun i hi => h i (by omega)) (h n (by omega))

theorem fermat_step {q : Nat} (q1 : 1 < q) (hq : ∀ d, d ∣ q → d = 1 ∨ d = q) (a : Nat) : (a + 1) ^ q % q = (a ^ q + 1) % q := by
  obtain ⟨m, rfl⟩ : ∃ m, q = m + 1 := ⟨q - 1, by omega⟩
  rw [binom, sm_shift, sm]
  have hd : (m + 1) ∣ sm (fun i => (fun k => ch (m + 1) k * a ^ k) (i + 1)) m := by
    apply sm_dvd
    intro i hi
    show (m + 1) ∣ ch (m + 1) (i + 1) * a ^ (i + 1)
    have h := ch_absorb m i
    have : (m + 1) ∣ (i + 1) * ch (m + 1) (i + 1) := ⟨_, h⟩
    rcases euclid q1 hq this with g | g
    · have := Nat.le_of_dvd (by omega) g; omega
    · exact Nat.dvd_mul_right_of_dvd g _
  obtain ⟨c, hc⟩ := hd
  show (ch (m + 1) 0 * a ^ 0 + (sm (fun i => (fun k => ch (m + 1) k * a ^ k) (i + 1)) m + ch (m + 1) (m + 1) * a ^ (m + 1))) % (m + 1) = _
  rw [hc, ch_self, ch_zero]
  have e : 1 * a ^ 0 + ((m + 1) * c + 1 * a ^ (m + 1)) = a ^ (m + 1) + 1 + (m + 1) * c := by simp; omega
  rw [e, Nat.add_mul_mod_self_left]

theorem fermat {q : Nat} (q1 : 1 < q) (hq : ∀ d, d ∣ q → d = 1 ∨ d = q) (a : Nat) : a ^ q % q = a % q := by
  induction a with
  | zero => rw [Nat.zero_pow (by omega)]
  | succ a ih => rw [fermat_step q1 hq, Nat.add_mod, ih, ← Nat.add_mod]

end Prm

end Go.Proofs.Ytdpongijmmdnoaa.FdP
