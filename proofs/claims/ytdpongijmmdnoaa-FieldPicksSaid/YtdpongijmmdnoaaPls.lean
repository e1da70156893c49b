/- plain law: the number less than p, zero, bytes, whole numbers -/
import Derived.Test.YtdpongijmmdnoaaPlm
import Derived.Laws.Bits64
import Derived.Laws.Bits64b
namespace Go.Proofs.Ytdpongijmmdnoaa
open Go.RowKit FdP FdP.Ch

/-- the limbs of a number -/
def dig (n : Int) : List Int :=
  [n % 72057594037927936, n / 72057594037927936 % 72057594037927936, n / 72057594037927936 ^ 2 % 72057594037927936, n / 72057594037927936 ^ 3 % 72057594037927936,
   n / 72057594037927936 ^ 4 % 72057594037927936, n / 72057594037927936 ^ 5 % 72057594037927936, n / 72057594037927936 ^ 6 % 72057594037927936, n / 72057594037927936 ^ 7 % 72057594037927936]

theorem dig_val (l0 l1 l2 l3 l4 l5 l6 l7 : Int) (h : ∀ x ∈ [l0, l1, l2, l3, l4, l5, l6, l7], 0 ≤ x ∧ x < 72057594037927936) : dig (val [l0, l1, l2, l3, l4, l5, l6, l7]) = [l0, l1, l2, l3, l4, l5, l6, l7] := by
  simp only [List.mem_cons, List.not_mem_nil, or_false, forall_eq_or_imp, forall_eq] at h
  obtain ⟨h0, h1, h2, h3, h4, h5, h6, h7⟩ := h
  unfold dig
  have e0 : val [l0, l1, l2, l3, l4, l5, l6, l7] % 72057594037927936 = l0 := by simp only [val]; omega
  have e1 : val [l0, l1, l2, l3, l4, l5, l6, l7] / 72057594037927936 = val [l1, l2, l3, l4, l5, l6, l7] := by simp only [val]; omega
  have d : ∀ (n : Int) k, n / 72057594037927936 ^ (k + 1) = n / 72057594037927936 ^ k / 72057594037927936 := by
    intro n k; rw [Int.pow_succ, Int.ediv_ediv_of_nonneg (Int.pow_nonneg (by omega))]
  have e2 : val [l0, l1, l2, l3, l4, l5, l6, l7] / 72057594037927936 ^ 2 = val [l2, l3, l4, l5, l6, l7] := by rw [d _ 1, Int.pow_one, e1]; simp only [val]; omega
  have e3 : val [l0, l1, l2, l3, l4, l5, l6, l7] / 72057594037927936 ^ 3 = val [l3, l4, l5, l6, l7] := by rw [d _ 2, e2]; simp only [val]; omega
  have e4 : val [l0, l1, l2, l3, l4, l5, l6, l7] / 72057594037927936 ^ 4 = val [l4, l5, l6, l7] := by rw [d _ 3, e3]; simp only [val]; omega
  have e5 : val [l0, l1, l2, l3, l4, l5, l6, l7] / 72057594037927936 ^ 5 = val [l5, l6, l7] := by rw [d _ 4, e4]; simp only [val]; omega
  have e6 : val [l0, l1, l2, l3, l4, l5, l6, l7] / 72057594037927936 ^ 6 = val [l6, l7] := by rw [d _ 5, e5]; simp only [val]; omega
  have e7 : val [l0, l1, l2, l3, l4, l5, l6, l7] / 72057594037927936 ^ 7 = val [l7] := by rw [d _ 6, e6]; simp only [val]; omega
  rw [e0, e1, e2, e3, e4, e5, e6, e7]
  simp only [val]
  simp only [List.cons.injEq, and_true, true_and]
  refine ⟨?_, ?_, ?_, ?_, ?_, ?_, ?_⟩ <;> omega

theorem sel_zero (a b : Int) (ha : 0 ≤ a ∧ a < 18446744073709551616) (hb : 0 ≤ b ∧ b < 18446744073709551616) : bits .xor .u64 a (bits .and .u64 0 (bits .xor .u64 a b)) = a := by
  obtain ⟨n, rfl⟩ := Int.eq_ofNat_of_zero_le ha.1
  obtain ⟨m, rfl⟩ := Int.eq_ofNat_of_zero_le hb.1
  rw [bits_xor_u64_nat n m (by omega) (by omega), show (0 : Int) = ((0 : Nat) : Int) from rfl, bits_and_u64_nat 0 _ (by omega) (Nat.xor_lt_two_pow (n := 64) (by omega) (by omega)), Nat.zero_and,
    bits_xor_u64_nat n 0 (by omega) (by omega), Nat.xor_zero]
theorem sel_one (a b : Int) (ha : 0 ≤ a ∧ a < 18446744073709551616) (hb : 0 ≤ b ∧ b < 18446744073709551616) : bits .xor .u64 a (bits .and .u64 18446744073709551615 (bits .xor .u64 a b)) = b := by
  obtain ⟨n, rfl⟩ := Int.eq_ofNat_of_zero_le ha.1
  obtain ⟨m, rfl⟩ := Int.eq_ofNat_of_zero_le hb.1
  have hx : n ^^^ m < 2 ^ 64 := Nat.xor_lt_two_pow (n := 64) (by omega) (by omega)
  rw [bits_xor_u64_nat n m (by omega) (by omega), show (18446744073709551615 : Int) = ((18446744073709551615 : Nat) : Int) from rfl, bits_and_u64_nat _ _ (by omega) hx, Nat.and_comm,
    show 18446744073709551615 = 2 ^ 64 - 1 from rfl, Nat.and_two_pow_sub_one_eq_mod, Nat.mod_eq_of_lt hx,
    bits_xor_u64_nat n _ (by omega) hx, ← Nat.xor_assoc, Nat.xor_self, Nat.zero_xor]

theorem tab8_ext {g : Nat → Int} {l : List Int} (hl : l.length = 8) (h : ∀ i, i < 8 → g i = l.getD i 0) : tab8 g = l := by
  obtain ⟨l0, l1, l2, l3, l4, l5, l6, l7, rfl⟩ := list8 hl
  rw [tab8_eq, h 0 (by omega), h 1 (by omega), h 2 (by omega), h 3 (by omega), h 4 (by omega), h 5 (by omega), h 6 (by omega), h 7 (by omega)]
  rfl

theorem and_one (x : Int) : bits .and .u64 (IntKind.u64.wrap x) 1 = x % 2 := by
  rw [IntKind.wrap_u64]; exact and_mask x 1 (by omega)
theorem selF_law (bit : Int) (a b : List Int) (la : a.length = 8) (lb : b.length = 8) (ba : Bd a) (bb : Bd b) : selF bit a b = if bit % 2 = 0 then a else b := by
  have ga := fun i (hi : i < 8) => bd_get ba i (by omega)
  have gb := fun i (hi : i < 8) => bd_get bb i (by omega)
  have hm : selM bit = IntKind.u64.wrap (-(bit % 2)) := by unfold selM; rw [and_one]
  unfold selF selR
  rw [hm]
  split
  · rename_i h
    rw [h]
    exact tab8_ext la fun i hi => sel_zero _ _ (ga i hi) (gb i hi)
  · rename_i h
    rw [show bit % 2 = 1 by omega]
    exact tab8_ext lb fun i hi => sel_one _ _ (ga i hi) (gb i hi)

theorem strT_step {c m : List Int} {k : Nat} {o x p r : Int} (h : strT c k = (m, o)) (hx : c.getD k 0 = x) (hp : primeL.getD k 0 = p) (h0 : 0 ≤ p + o) (h1 : p + o < 18446744073709551616) (hr : (x - (p + o)) % 72057594037927936 = r) {s : Int} (hs : sbH x (p + o) = s) :
    strT c (k + 1) = (m.set k r, s) := by
  rw [strT, h]; simp only [hx, hp, wrap_in _ h0 h1, hr, hs]

theorem sstep (x p b : Int) (hx : 0 ≤ x ∧ x < 72057594037927936) (hp : 72057594037927934 ≤ p ∧ p < 72057594037927936) (hb : 0 ≤ b ∧ b ≤ 1) :
    ∃ r o, (x - (p + b)) % 72057594037927936 = r ∧ sbH x (p + b) = o ∧ x - (p + b) = r - 72057594037927936 * o ∧ 0 ≤ r ∧ r < 72057594037927936 ∧ 0 ≤ o ∧ o ≤ 1 := by
  refine ⟨_, _, rfl, rfl, ?_⟩
  unfold sbH
  split <;> omega

theorem less_law (c0 c1 c2 c3 c4 c5 c6 c7 : Int) (h : ∀ x ∈ [c0, c1, c2, c3, c4, c5, c6, c7], 0 ≤ x ∧ x < 72057594037927936) :
    ∃ r0 r1 r2 r3 r4 r5 r6 r7 o : Int, strT [c0, c1, c2, c3, c4, c5, c6, c7] 8 = ([r0, r1, r2, r3, r4, r5, r6, r7], o) ∧ (∀ x ∈ [r0, r1, r2, r3, r4, r5, r6, r7], 0 ≤ x ∧ x < 72057594037927936) ∧ (0 ≤ o ∧ o ≤ 1) ∧
      val [c0, c1, c2, c3, c4, c5, c6, c7] - P = val [r0, r1, r2, r3, r4, r5, r6, r7] - 72057594037927936 ^ 8 * o := by
  simp only [List.mem_cons, List.not_mem_nil, or_false, forall_eq_or_imp, forall_eq] at h
  obtain ⟨h0, h1, h2, h3, h4, h5, h6, h7⟩ := h
  have e0 : strT [c0, c1, c2, c3, c4, c5, c6, c7] 0 = ([c0, c1, c2, c3, c4, c5, c6, c7], 0) := rfl
  obtain ⟨r0, o0, a0, b0, d0, k0⟩ := sstep c0 72057594037927935 0 h0 (by omega) (by omega)
  have e1 := strT_step (x := c0) (p := 72057594037927935) e0 rfl rfl (by omega) (by omega) a0 b0
  obtain ⟨r1, o1, a1, b1, d1, k1⟩ := sstep c1 72057594037927935 o0 h1 (by omega) (by omega)
  have e2 := strT_step (x := c1) (p := 72057594037927935) e1 rfl rfl (by omega) (by omega) a1 b1
  obtain ⟨r2, o2, a2, b2, d2, k2⟩ := sstep c2 72057594037927935 o1 h2 (by omega) (by omega)
  have e3 := strT_step (x := c2) (p := 72057594037927935) e2 rfl rfl (by omega) (by omega) a2 b2
  obtain ⟨r3, o3, a3, b3, d3, k3⟩ := sstep c3 72057594037927935 o2 h3 (by omega) (by omega)
  have e4 := strT_step (x := c3) (p := 72057594037927935) e3 rfl rfl (by omega) (by omega) a3 b3
  obtain ⟨r4, o4, a4, b4, d4, k4⟩ := sstep c4 72057594037927934 o3 h4 (by omega) (by omega)
  have e5 := strT_step (x := c4) (p := 72057594037927934) e4 rfl rfl (by omega) (by omega) a4 b4
  obtain ⟨r5, o5, a5, b5, d5, k5⟩ := sstep c5 72057594037927935 o4 h5 (by omega) (by omega)
  have e6 := strT_step (x := c5) (p := 72057594037927935) e5 rfl rfl (by omega) (by omega) a5 b5
  obtain ⟨r6, o6, a6, b6, d6, k6⟩ := sstep c6 72057594037927935 o5 h6 (by omega) (by omega)
  have e7 := strT_step (x := c6) (p := 72057594037927935) e6 rfl rfl (by omega) (by omega) a6 b6
  obtain ⟨r7, o7, a7, b7, d7, k7⟩ := sstep c7 72057594037927935 o6 h7 (by omega) (by omega)
  have e8 := strT_step (x := c7) (p := 72057594037927935) e7 rfl rfl (by omega) (by omega) a7 b7
  clear e0 e1 e2 e3 e4 e5 e6 e7 a0 a1 a2 a3 a4 a5 a6 a7 b0 b1 b2 b3 b4 b5 b6 b7
  refine ⟨r0, r1, r2, r3, r4, r5, r6, r7, o7, e8, ?_, ⟨k7.2.2.1, k7.2.2.2⟩, ?_⟩
  · simp only [List.mem_cons, List.not_mem_nil, or_false, forall_eq_or_imp, forall_eq]
    omega
  · rw [P_eq]
    simp only [val]
    omega

theorem z_small {n : Int} {a : F} (h0 : 0 ≤ n) (h1 : n < P) (h : z n = a) : n = a.val := by
  have := z_val n
  rw [h] at this
  rw [this, Int.emod_eq_of_lt h0 h1]

theorem wrap64_in (x : Int) (h0 : 0 ≤ x) (h1 : x < 9223372036854775808) : wrap64 x = x := by unfold wrap64; omega

set_option maxHeartbeats 1000000 in
theorem strong_E {l : List Int} {a : F} (hl : E l a) : strongF l = dig a.val := by
  have ha := hl.2.2
  have n := fun i hi => hl.nth i hi
  obtain ⟨l0, l1, l2, l3, l4, l5, l6, l7, rfl⟩ := list8 hl.1
  have x0 := n 0 (by omega); have x1 := n 1 (by omega); have x2 := n 2 (by omega); have x3 := n 3 (by omega); have x4 := n 4 (by omega); have x5 := n 5 (by omega); have x6 := n 6 (by omega); have x7 := n 7 (by omega)
  clear n
  simp only [List.getD_cons_zero, List.getD_cons_succ] at x0 x1 x2 x3 x4 x5 x6 x7
  obtain ⟨r0, r1, r2, r3, r4, r5, r6, r7, o, e, h0, h1, h2, h3, h4, h5, h6, h7, ho, ⟨p, hp0, hp1, hp, hpp⟩, -, hv⟩ := carry_law l0 l1 l2 l3 l4 l5 l6 l7 (by omega) (by omega) (by omega) (by omega) (by omega) (by omega) (by omega) (by omega)
  have hpp := hpp (by omega)
  obtain ⟨s0, s1, s2, s3, s4, s5, s6, s7, q, e', g0, g1, g2, g3, g4, g5, g6, g7, hq, ⟨t, ht0, ht1, ht, htt⟩, hsame, hv'⟩ := carry_law (r0 + o) r1 r2 r3 (r4 + o) r5 r6 r7 (by omega) (by omega) (by omega) (by omega) (by omega) (by omega) (by omega) (by omega)
  have htt := htt (by omega)
  have hq0 : q = 0 := by
    by_cases hz : o = 0
    · exact (hsame (by omega)).2.2.2.2.2.2.2.2
    · omega
  subst hq0
  have hc : carryF (carryF [l0, l1, l2, l3, l4, l5, l6, l7]) = [s0, s1, s2, s3, s4, s5, s6, s7] := by
    rw [e, e']; simp only [Int.add_zero]
  have hz : z (val [s0, s1, s2, s3, s4, s5, s6, s7]) = a := by
    have : val [s0, s1, s2, s3, s4, s5, s6, s7] = val [l0, l1, l2, l3, l4, l5, l6, l7] - P * o := by
      rw [P_eq]
      clear hpp htt hsame
      simp only [val] at hv hv' ⊢
      omega
    rw [this, z_minus, ha]
  have hs : ∀ x ∈ [s0, s1, s2, s3, s4, s5, s6, s7], 0 ≤ x ∧ x < 72057594037927936 := by
    simp only [List.mem_cons, List.not_mem_nil, or_false, forall_eq_or_imp, forall_eq]
    omega
  clear hv hv' e e' hsame htt hpp ht hp
  obtain ⟨u0, u1, u2, u3, u4, u5, u6, u7, k, es, hu, hk, hw⟩ := less_law s0 s1 s2 s3 s4 s5 s6 s7 hs
  have hb : Bd [s0, s1, s2, s3, s4, s5, s6, s7] := fun x hx => by have := hs x hx; omega
  have hb' : Bd [u0, u1, u2, u3, u4, u5, u6, u7] := fun x hx => by have := hu x hx; omega
  have bit : wrap64 (IntKind.u64.wrap (1 - k)) = 1 - k := by rw [wrap_in _ (by omega) (by omega), wrap64_in _ (by omega) (by omega)]
  unfold strongF
  simp only [hc, es, bit]
  rw [selF_law _ _ _ rfl rfl hb hb']
  have hs2 := hs
  have hu2 := hu
  simp only [List.mem_cons, List.not_mem_nil, or_false, forall_eq_or_imp, forall_eq] at hs2 hu2
  have P8 := P_eq
  by_cases hk0 : k = 0
  · subst hk0
    rw [if_neg (by omega)]
    have : val [u0, u1, u2, u3, u4, u5, u6, u7] = a.val := by
      refine z_small ?_ ?_ ?_
      · simp only [val]; omega
      · rw [P8] at hw ⊢
        simp only [val] at hw ⊢
        omega
      · rw [show val [u0, u1, u2, u3, u4, u5, u6, u7] = val [s0, s1, s2, s3, s4, s5, s6, s7] - P * 1 by omega, z_minus, hz]
    rw [← this, dig_val _ _ _ _ _ _ _ _ hu]
  · have : k = 1 := by omega
    subst this
    rw [if_pos (by omega)]
    have : val [s0, s1, s2, s3, s4, s5, s6, s7] = a.val := by
      refine z_small ?_ ?_ hz
      · simp only [val]; omega
      · rw [P8] at hw ⊢
        simp only [val] at hw ⊢
        omega
    rw [← this, dig_val _ _ _ _ _ _ _ _ hs]
end Go.Proofs.Ytdpongijmmdnoaa
