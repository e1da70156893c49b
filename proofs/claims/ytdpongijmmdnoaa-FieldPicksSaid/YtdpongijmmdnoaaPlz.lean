/- plain law: zero, whole numbers, bytes -/
import Derived.Test.YtdpongijmmdnoaaPls
import Derived.Test.YtdpongijmmdnoaaMad
namespace Go.Proofs.Ytdpongijmmdnoaa
open Go.RowKit FdP FdP.Ch

theorem dig_zero_iff (a : F) : dig a.val = zE ↔ a = 0 := by
  constructor
  · intro h
    have hlt : (a.val : Int) < P := by have := a.isLt; omega
    rw [P_eq] at hlt
    simp only [dig, zE, List.cons.injEq, and_true] at h
    have : a.val = 0 := by omega
    exact Fin.ext this
  · rintro rfl; decide +kernel

theorem or_nn {x y : Int} (hx : 0 ≤ x ∧ x < 18446744073709551616) (hy : 0 ≤ y ∧ y < 18446744073709551616) :
    (0 ≤ bits .or .u64 x y ∧ bits .or .u64 x y < 18446744073709551616) ∧ (bits .or .u64 x y = 0 ↔ x = 0 ∧ y = 0) := by
  obtain ⟨n, rfl⟩ := Int.eq_ofNat_of_zero_le hx.1
  obtain ⟨m, rfl⟩ := Int.eq_ofNat_of_zero_le hy.1
  have hb : n ||| m < 2 ^ 64 := Nat.or_lt_two_pow (by omega) (by omega)
  rw [bits_or_u64_nat n m (by omega) (by omega)]
  refine ⟨by omega, ?_⟩
  have : (n ||| m) = 0 ↔ n = 0 ∧ m = 0 := Nat.or_eq_zero_iff
  omega

theorem orT_law (l : List Int) (hb : ∀ i, i < 8 → 0 ≤ l.getD i 0 ∧ l.getD i 0 < 18446744073709551616) : ∀ k, k ≤ 8 →
    (0 ≤ orT l k ∧ orT l k < 18446744073709551616) ∧ (orT l k = 0 ↔ ∀ i, i < k → l.getD i 0 = 0) := by
  intro k
  induction k with
  | zero => intro _; simp [orT]
  | succ k ih =>
    intro hk
    obtain ⟨h1, h2⟩ := ih (by omega)
    have hy := hb k (by omega)
    generalize hz : l.getD k 0 = y at hy
    obtain ⟨g1, g2⟩ := or_nn h1 hy
    rw [orT, hz]
    refine ⟨g1, g2.trans ?_⟩
    rw [h2]
    constructor
    · rintro ⟨a, b⟩ i hi
      by_cases he : i = k
      · subst he; rw [hz]; exact b
      · exact a i (by omega)
    · intro h
      exact ⟨fun i hi => h i (by omega), by rw [← hz]; exact h k (by omega)⟩

theorem dig_bd (n : Int) : ∀ x ∈ dig n, 0 ≤ x ∧ x < 72057594037927936 := by
  intro x hx
  simp only [dig, List.mem_cons, List.not_mem_nil, or_false] at hx
  rcases hx with rfl | rfl | rfl | rfl | rfl | rfl | rfl | rfl <;> exact ⟨Int.emod_nonneg _ (by omega), Int.emod_lt_of_pos _ (by omega)⟩

theorem zero_law {l : List Int} {a : F} (hl : E l a) : isZF l = decide (a = 0) := by
  unfold isZF
  rw [strong_E hl]
  have hb := dig_bd a.val
  have h1 := (orT_law (dig a.val) (fun i hi => by
    have hl : i < (dig a.val).length := hi
    have : (dig a.val).getD i 0 = (dig a.val)[i] := by simp [List.getD, hl]
    rw [this]
    have := hb _ (List.getElem_mem hl)
    omega) 8 (by omega)).2
  have h2 : (orT (dig a.val) 8 = 0) ↔ a = 0 := by
    rw [h1, ← dig_zero_iff]
    constructor
    · intro h
      have k0 := h 0 (by omega); have k1 := h 1 (by omega); have k2 := h 2 (by omega); have k3 := h 3 (by omega); have k4 := h 4 (by omega); have k5 := h 5 (by omega); have k6 := h 6 (by omega); have k7 := h 7 (by omega)
      simp only [dig, List.getD_cons_zero, List.getD_cons_succ] at k0 k1 k2 k3 k4 k5 k6 k7
      simp only [dig, zE, k0, k1, k2, k3, k4, k5, k6, k7]
    · intro h i hi
      rw [h]
      match i, hi with
      | 0, _ | 1, _ | 2, _ | 3, _ | 4, _ | 5, _ | 6, _ | 7, _ => rfl
  by_cases h : a = 0
  · rw [decide_eq_true h]; simpa using h2.2 h
  · rw [decide_eq_false h]
    have : ¬ orT (dig a.val) 8 = 0 := fun e => h (h2.1 e)
    simpa using this

theorem eq_law {l m : List Int} {a b : F} (hl : E l a) (hm : E m b) : isZF (subF l m) = decide (a = b) := by
  rw [zero_law (sub_E hl hm)]
  have : a - b = 0 ↔ a = b := ⟨fun h => by grind, fun h => by grind⟩
  exact decide_eq_decide.2 this

/-- whole numbers -/
theorem intL_E (n : Int) (h0 : 0 ≤ n) (h1 : n < 18446744073709551616) : E (intL n) (z n) := by
  have e : bits .and .u64 n 72057594037927935 = n % 72057594037927936 := by
    have := and_mask n 56 (by omega); rwa [Int.emod_eq_of_lt h0 h1] at this
  refine ⟨rfl, ?_, ?_⟩
  · intro x hx
    simp only [intL, List.mem_cons, List.not_mem_nil, or_false, e] at hx
    omega
  · congr 1
    simp only [intL, val, e]
    omega
theorem int_E (n : Int) (h0 : -9223372036854775808 ≤ n) (h1 : n < 9223372036854775808) : E (intF n) (z n) := by
  unfold intF
  split
  · rename_i h
    have e : IntKind.u64.wrap (wrap64 (-n)) = -n := by rw [IntKind.wrap_u64]; unfold wrap64; omega
    rw [e]
    have := neg_E (intL_E (-n) (by omega) (by omega))
    rw [← z_neg, Int.neg_neg] at this
    exact this
  · rw [wrap_in _ (by omega) (by omega)]
    exact intL_E n (by omega) (by omega)

/-- the number of bytes -/
def bval : List Int → Int
  | [] => 0
  | x :: l => x + 256 * bval l
/-- bytes -/
def By (b : List Int) : Prop := ∀ x ∈ b, 0 ≤ x ∧ x < 256
theorem or_shift (x y : Int) (k : Nat) (hk : k ≤ 48) (hx : 0 ≤ x ∧ x < 2 ^ k) (hy : 0 ≤ y ∧ y < 256) : bits .or .u64 x (IntKind.u64.wrap (IntKind.u64.wrap y * 2 ^ k)) = x + y * 2 ^ k := by
  obtain ⟨n, rfl⟩ := Int.eq_ofNat_of_zero_le hx.1
  obtain ⟨m, rfl⟩ := Int.eq_ofNat_of_zero_le hy.1
  have hm : m < 256 := by omega
  have hn : n < 2 ^ k := by have := hx.2; exact_mod_cast this
  have hp : 2 ^ k ≤ 2 ^ 48 := Nat.pow_le_pow_right (by omega) hk
  have hmk : m * 2 ^ k < 2 ^ 57 := by
    have : m * 2 ^ k ≤ 255 * 2 ^ 48 := Nat.mul_le_mul (by omega) hp
    omega
  have e : ((m : Int) * 2 ^ k) = ((m * 2 ^ k : Nat) : Int) := by push_cast; rfl
  rw [wrap_in (m : Int) (by omega) (by omega), e, wrap_in _ (by omega) (by omega), bits_or_u64_nat n _ (by omega) (by omega)]
  have : n ||| m * 2 ^ k = n + m * 2 ^ k := by
    rw [Nat.or_comm, Nat.mul_comm, ← Nat.two_pow_add_eq_or_of_lt hn, Nat.add_comm]
  rw [this]; push_cast; rfl
theorem by_get {b : List Int} (h : By b) (i : Nat) (hi : i < b.length) : 0 ≤ b.getD i 0 ∧ b.getD i 0 < 256 := by
  have : b.getD i 0 = b[i] := by simp [List.getD, hi]
  rw [this]; exact h _ (List.getElem_mem hi)
theorem bval_take (l : List Int) (k : Nat) : bval (l.take (k + 1)) = bval (l.take k) + l.getD k 0 * 2 ^ (8 * k) := by
  induction l generalizing k with
  | nil => simp [bval]
  | cons x l ih =>
    cases k with
    | zero => simp [bval]
    | succ k =>
      have := ih k
      simp only [List.take_succ_cons, bval, List.getD_cons_succ, this, Int.mul_add, show 8 * (k + 1) = 8 * k + 8 by omega, Int.pow_add]
      generalize bval (l.take k) = u
      generalize (2 : Int) ^ (8 * k) = b
      grind
theorem limbO_law (b : List Int) (j : Nat) (hb : By b) (hj : j + 7 ≤ b.length) : ∀ k, k ≤ 7 → (0 ≤ limbO b j k ∧ limbO b j k < 2 ^ (8 * k)) ∧ limbO b j k = bval ((b.drop j).take k) := by
  intro k
  induction k with
  | zero => intro _; simp [limbO, bval]
  | succ k ih =>
    intro hk
    obtain ⟨h1, h2⟩ := ih (by omega)
    have hy := by_get hb (j + k) (by omega)
    have e := or_shift (limbO b j k) (b.getD (j + k) 0) (8 * k) (by omega) h1 hy
    have g : (b.drop j).getD k 0 = b.getD (j + k) 0 := by simp [List.getD]
    rw [limbO, e]
    have hp : (2 : Int) ^ (8 * (k + 1)) = 256 * 2 ^ (8 * k) := by rw [show 8 * (k + 1) = 8 * k + 8 by omega, Int.pow_add]; generalize (2 : Int) ^ (8 * k) = q; omega
    refine ⟨?_, ?_⟩
    · rw [hp]
      have hpos : (0 : Int) < 2 ^ (8 * k) := Int.pow_pos (by omega)
      generalize (2 : Int) ^ (8 * k) = q at *
      generalize b.getD (j + k) 0 = y at *
      have : y * q ≤ 255 * q := Int.mul_le_mul_of_nonneg_right (by omega) (by omega)
      have : 0 ≤ y * q := Int.mul_nonneg hy.1 (by omega)
      omega
    · rw [bval_take, g, h2]
theorem bval_app (a b : List Int) : bval (a ++ b) = bval a + 2 ^ (8 * a.length) * bval b := by
  induction a with
  | nil => simp [bval]
  | cons x a ih =>
    simp only [List.cons_append, bval, ih, List.length_cons, show 8 * (a.length + 1) = 8 * a.length + 8 by omega, Int.pow_add]
    generalize (2 : Int) ^ (8 * a.length) = q
    generalize bval a = u
    generalize bval b = v
    grind
theorem p56 : (2 : Int) ^ (8 * 7) = 72057594037927936 := by decide
theorem bval_cut (b : List Int) (j : Nat) (hj : j + 7 ≤ b.length) : bval (b.drop j) = bval ((b.drop j).take 7) + 72057594037927936 * bval (b.drop (j + 7)) := by
  have : b.drop j = (b.drop j).take 7 ++ b.drop (j + 7) := by rw [← List.drop_drop, List.take_append_drop]
  conv => lhs; rw [this]
  rw [bval_app]
  have : ((b.drop j).take 7).length = 7 := by simp; omega
  rw [this, p56]
theorem of_law (b : List Int) (lb : b.length = 56) (hb : By b) : (∀ x ∈ ofF b, 0 ≤ x ∧ x < 72057594037927936) ∧ val (ofF b) = bval b := by
  have h : ∀ i, i < 8 → (0 ≤ limbO b (7 * i) 7 ∧ limbO b (7 * i) 7 < 72057594037927936) ∧ limbO b (7 * i) 7 = bval ((b.drop (7 * i)).take 7) := fun i hi => by
    have q := limbO_law b (7 * i) hb (by omega) 7 (by omega)
    rw [p56] at q
    exact q
  refine ⟨?_, ?_⟩
  · intro x hx
    unfold ofF at hx
    rw [tab8_eq] at hx
    have h0 := (h 0 (by omega)).1; have h1 := (h 1 (by omega)).1; have h2 := (h 2 (by omega)).1; have h3 := (h 3 (by omega)).1; have h4 := (h 4 (by omega)).1; have h5 := (h 5 (by omega)).1; have h6 := (h 6 (by omega)).1; have h7 := (h 7 (by omega)).1
    simp only [List.mem_cons, List.not_mem_nil, or_false] at hx
    rcases hx with rfl | rfl | rfl | rfl | rfl | rfl | rfl | rfl
    · exact h0
    · exact h1
    · exact h2
    · exact h3
    · exact h4
    · exact h5
    · exact h6
    · exact h7
  · unfold ofF
    rw [tab8_eq]
    simp only [val, (h 0 (by omega)).2, (h 1 (by omega)).2, (h 2 (by omega)).2, (h 3 (by omega)).2, (h 4 (by omega)).2, (h 5 (by omega)).2, (h 6 (by omega)).2, (h 7 (by omega)).2]
    have c0 := bval_cut b 0 (by omega); have c1 := bval_cut b 7 (by omega); have c2 := bval_cut b 14 (by omega); have c3 := bval_cut b 21 (by omega); have c4 := bval_cut b 28 (by omega); have c5 := bval_cut b 35 (by omega); have c6 := bval_cut b 42 (by omega); have c7 := bval_cut b 49 (by omega)
    have c8 : bval (b.drop (49 + 7)) = 0 := by rw [List.drop_eq_nil_of_le (by omega)]; rfl
    simp only [Nat.reduceMul, Nat.reduceAdd, List.drop_zero] at c0 c1 c2 c3 c4 c5 c6 c7 c8 ⊢
    omega
theorem of_E (b : List Int) (lb : b.length = 56) (hb : By b) : E (ofF b) (z (bval b)) := by
  obtain ⟨h1, h2⟩ := of_law b lb hb
  exact ⟨ofF_len b, fun x hx => by have := h1 x hx; omega, by rw [h2]⟩
end Go.Proofs.Ytdpongijmmdnoaa
