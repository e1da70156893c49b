/- plain law: an element's bytes -/
import Derived.Test.YtdpongijmmdnoaaDec
namespace Go.Proofs.Ytdpongijmmdnoaa
open Go.RowKit FdP FdP.Ch

theorem rawX_by (x : Int) (k : Nat) : By (rawX x k) := by
  induction k with
  | zero => intro y hy; simp [rawX] at hy
  | succ k ih =>
    intro y hy
    rw [rawX] at hy
    rcases List.mem_append.1 hy with h | h
    · exact ih y h
    · rw [List.mem_singleton.1 h]; exact ⟨Int.emod_nonneg _ (by omega), Int.emod_lt_of_pos _ (by omega)⟩
theorem rawO_by (l : List Int) (i : Nat) : By (rawO l i) := by
  induction i with
  | zero => intro y hy; simp [rawO] at hy
  | succ i ih =>
    intro y hy
    rw [rawO] at hy
    rcases List.mem_append.1 hy with h | h
    · exact ih y h
    · exact rawX_by _ _ y h
theorem rawF_by (l : List Int) : By (rawF l) := rawO_by l 8

theorem mod_more (x q : Int) (hq : 0 < q) : x % (256 * q) = x % q + q * (x / q % 256) := by
  have h1 := Int.emod_add_mul_ediv x q
  have h2 := Int.emod_add_mul_ediv (x / q) 256
  have h3 := Int.emod_add_mul_ediv x (256 * q)
  have h4 : x / (256 * q) = x / q / 256 := by rw [Int.mul_comm 256 q, Int.ediv_ediv_of_nonneg (by omega)]
  rw [h4] at h3
  generalize x / q = u at *
  generalize u / 256 = v at *
  generalize u % 256 = t at *
  generalize x % q = r at *
  generalize x % (256 * q) = s at *
  grind

theorem rawX_law (x : Int) (k : Nat) : bval (rawX x k) = x % 2 ^ (8 * k) := by
  induction k with
  | zero => simp [rawX, bval]
  | succ k ih =>
    have hp : (2 : Int) ^ (8 * (k + 1)) = 256 * 2 ^ (8 * k) := by rw [show 8 * (k + 1) = 8 * k + 8 by omega, Int.pow_add]; generalize (2 : Int) ^ (8 * k) = q; omega
    have hpos : (0 : Int) < 2 ^ (8 * k) := Int.pow_pos (by omega)
    rw [rawX, bval_app, ih, rawX_len, hp, mod_more _ _ hpos]
    simp [bval]

theorem pow56 (i : Nat) : (2 : Int) ^ (8 * (7 * i)) = 72057594037927936 ^ i := by
  rw [show 8 * (7 * i) = 56 * i by omega, Int.pow_mul]; rfl

theorem rawO_law (l : List Int) (h : ∀ i, i < 8 → 0 ≤ l.getD i 0 ∧ l.getD i 0 < 72057594037927936) : ∀ i, i ≤ 8 → bval (rawO l i) = val (l.take i) := by
  intro i
  induction i with
  | zero => intro _; simp [rawO, bval, val]
  | succ i ih =>
    intro hi
    have hx := h i (by omega)
    rw [rawO, bval_app, ih (by omega), rawO_len, rawX_law, p56, Int.emod_eq_of_lt hx.1 hx.2, pow56, val_take l i, Int.mul_comm]

theorem rawF_law (l : List Int) (hl : l.length = 8) (h : ∀ x ∈ l, 0 ≤ x ∧ x < 72057594037927936) : bval (rawF l) = val l := by
  have := rawO_law l (fun i hi => by
    have hlt : i < l.length := by omega
    have e : l.getD i 0 = l[i] := by simp [List.getD, hlt]
    rw [e]; exact h _ (List.getElem_mem hlt)) 8 (by omega)
  rw [List.take_of_length_le (by omega)] at this
  exact this

theorem val_dig (n : Int) (h0 : 0 ≤ n) (h1 : n < 72057594037927936 ^ 8) : val (dig n) = n := by
  have d : ∀ k, n / 72057594037927936 ^ (k + 1) = n / 72057594037927936 ^ k / 72057594037927936 := by
    intro k; rw [Int.pow_succ, Int.ediv_ediv_of_nonneg (Int.pow_nonneg (by omega))]
  unfold dig
  have d1 := d 1; have d2 := d 2; have d3 := d 3; have d4 := d 4; have d5 := d 5; have d6 := d 6
  simp only [Int.pow_one] at d1
  simp only [val, d6, d5, d4, d3, d2, d1]
  omega
theorem val_lt (a : F) : (a.val : Int) < 72057594037927936 ^ 8 := by
  have : (a.val : Int) < P := by have := a.isLt; omega
  rw [P_eq] at this; omega

/-- an element's bytes bear its number -/
theorem bytes_val {l : List Int} {a : F} (h : E l a) : bval (bytesF l) = a.val := by
  unfold bytesF
  rw [strong_E h, rawF_law _ rfl (dig_bd _), val_dig _ (by omega) (val_lt a)]
theorem bytes_by {l : List Int} {a : F} (_ : E l a) : By (bytesF l) := rawF_by _
theorem bytes_eq {l : List Int} {a : F} (h : E l a) : bytesF l = rawF (dig a.val) := by unfold bytesF; rw [strong_E h]
theorem bytes_iff {l m : List Int} {a b : F} (h : E l a) (g : E m b) : bytesF l = bytesF m ↔ a = b := by
  constructor
  · intro e
    have := bytes_val h
    rw [e, bytes_val g] at this
    exact (Fin.ext (by omega)).symm
  · rintro rfl; rw [bytes_eq h, bytes_eq g]
theorem of_bytes {l : List Int} {a : F} (h : E l a) : E (ofF (bytesF l)) a := by
  have := of_E (bytesF l) (bytesF_len l) (bytes_by h)
  rwa [bytes_val h, z_of_val] at this
theorem prime_by : By (rawF primeL) := rawF_by _
theorem prime_val : bval (rawF primeL) = P := by
  rw [rawF_law primeL rfl (by intro x hx; simp [primeL] at hx; omega), P_eq]; rfl
theorem of_prime : E (ofF (rawF primeL)) 0 := by
  have := of_E (rawF primeL) (rawF_len _) prime_by
  rwa [prime_val, z_P] at this

theorem decode_ok {l : List Int} {a : F} (g cap : Nat) (h : E l a) (w : World) (hr : Rd w g 0 (bytesF l)) :
    Calls Try.prog 27 #[.slice (some ⟨g, 0, none⟩) 56 cap] w fun e w' => e = .returned (.tuple #[AG (us (ofF (bytesF l))), .int .i64 0]) ∧ Below w.heap.size w w' := by
  have := decode_any g 0 cap (bytesF l) (bytesF_len l) (bytes_by h) w hr
  rwa [if_pos ((bytes_iff (of_bytes h) h).2 rfl), if_pos ((bytes_iff (of_bytes h) h).2 rfl)] at this
theorem decode_p (g cap : Nat) (w : World) (hr : Rd w g 0 (rawF primeL)) :
    Calls Try.prog 27 #[.slice (some ⟨g, 0, none⟩) 56 cap] w fun e w' => e = .returned (.tuple #[AG (us zE), .int .i64 12]) ∧ Below w.heap.size w w' := by
  have hne : ¬ bytesF (ofF (rawF primeL)) = rawF primeL := by
    intro e
    have h1 := bytes_val of_prime
    rw [e, prime_val] at h1
    have : (0 : F).val = 0 := rfl
    rw [this] at h1
    have := P_pos
    omega
  have := decode_any g 0 cap (rawF primeL) (rawF_len _) prime_by w hr
  rwa [if_neg hne, if_neg hne] at this
theorem lawEq_is {l m : List Int} {a b : F} (h : E l a) (g : E m b) (v : Bool) (x y : Value) (w : World) (hx : Sv w x (bytesF l)) (hy : Sv w y (bytesF m)) (hv : decide (a = b) = v) :
    Calls Try.prog 28 #[x, y] w fun e w' => e = .returned (.bool v) ∧ Below w.heap.size w w' := by
  have := lawEq_any (bytesF l) (bytesF m) x y w hx hy (by simp)
  rwa [decide_eq_decide.2 (bytes_iff h g), hv] at this
end Go.Proofs.Ytdpongijmmdnoaa
