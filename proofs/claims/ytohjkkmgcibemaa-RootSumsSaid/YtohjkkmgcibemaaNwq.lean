/- Numbers in words and bytes: plain (2). -/
import Derived.Test.YtohjkkmgcibemaaNwp
import Derived.Test.YtohjkkmgcibemaaJ13
import Derived.Laws.Bits64b
set_option linter.unusedSimpArgs false
set_option linter.unusedVariables false
namespace Go.Proofs.Ytohjkkmgcibemaa
open Go.RowKit FdP FdP.Ch
def atW (l : List Int) (i : Int) : Int := if i < 0 then 0 else l.getD i.toNat 0
theorem atW_nat {l : List Int} (h : W64 l) (i : Nat) : atW l (i : Int) = ((nW l / 18446744073709551616 ^ i % 18446744073709551616 : Nat) : Int) := by
 rw [nW_get l i h]; unfold atW; rw [if_neg (by omega)]; rfl
def carW (A B i : Nat) : Nat := (A % 18446744073709551616 ^ i + B % 18446744073709551616 ^ i) / 18446744073709551616 ^ i
theorem car0 (A B : Nat) : carW A B 0 = 0 := by unfold carW; simp [Nat.mod_one]
theorem carW_le (A B i : Nat) : carW A B i ≤ 1 := by
 have hw : 0 < 18446744073709551616 ^ i := Nat.pow_pos (by omega)
 have h1 := Nat.mod_lt A hw
 have h2 := Nat.mod_lt B hw
 unfold carW
 generalize 18446744073709551616 ^ i = w at *
 have := (Nat.div_lt_iff_lt_mul hw (x := A % w + B % w) (y := 2)).2 (by omega)
 omega
theorem add_vals (A B i : Nat) : ((((A / 18446744073709551616 ^ i % 18446744073709551616 : Nat) : Int) + ((B / 18446744073709551616 ^ i % 18446744073709551616 : Nat) : Int) + ((carW A B i : Nat) : Int)) % 18446744073709551616 = (((A + B) / 18446744073709551616 ^ i % 18446744073709551616 : Nat) : Int)) ∧
 ((((A / 18446744073709551616 ^ i % 18446744073709551616 : Nat) : Int) + ((B / 18446744073709551616 ^ i % 18446744073709551616 : Nat) : Int) + ((carW A B i : Nat) : Int)) / 18446744073709551616 = ((carW A B (i + 1) : Nat) : Int)) := by
 obtain ⟨h1, h2⟩ := add_step A B i
 have e1 : carW A B (i + 1) = (A / 18446744073709551616 ^ i % 18446744073709551616 + B / 18446744073709551616 ^ i % 18446744073709551616 + carW A B i) / 18446744073709551616 := h1
 have e2 : (A + B) / 18446744073709551616 ^ i % 18446744073709551616 = (A / 18446744073709551616 ^ i % 18446744073709551616 + B / 18446744073709551616 ^ i % 18446744073709551616 + carW A B i) % 18446744073709551616 := h2
 rw [e1, e2]
 generalize A / 18446744073709551616 ^ i % 18446744073709551616 = p
 generalize B / 18446744073709551616 ^ i % 18446744073709551616 = q
 generalize carW A B i = c
 omega
theorem two_lt {A B la lb : Nat} (ha : A < 18446744073709551616 ^ la) (hb : B < 18446744073709551616 ^ lb) : A + B < 18446744073709551616 ^ (max la lb + 1) := by
 have h1 : 18446744073709551616 ^ la ≤ 18446744073709551616 ^ max la lb := Nat.pow_le_pow_right (by omega) (Nat.le_max_left _ _)
 have h2 : 18446744073709551616 ^ lb ≤ 18446744073709551616 ^ max la lb := Nat.pow_le_pow_right (by omega) (Nat.le_max_right _ _)
 rw [Nat.pow_succ]
 omega
theorem dig_all {N M : Nat} (h : N < 18446744073709551616 ^ M) : W64 (digL N M ++ List.replicate (M - M) 0) ∧ nW (digL N M ++ List.replicate (M - M) 0) = N ∧ (digL N M ++ List.replicate (M - M) (0 : Int)).length = M := by
 rw [Nat.sub_self]
 show W64 (digL N M ++ []) ∧ nW (digL N M ++ []) = N ∧ (digL N M ++ []).length = M
 rw [List.append_nil]
 exact ⟨digL_W64 _ _, by rw [nW_digL, Nat.mod_eq_of_lt h], digL_len _ _⟩
theorem dig_len {N M i : Nat} (h : i ≤ M) : (digL N i ++ List.replicate (M - i) (0 : Int)).length = M := by
 rw [List.length_append, digL_len, List.length_replicate]; omega
theorem wdsF_last : ∀ (f n : Nat), n ≤ f → wdsF f n ≠ [] → (wdsF f n).getLast? ≠ some 0
 | 0, n, _, h => absurd rfl h
 | f + 1, n, hn, h => by
  unfold wdsF at h ⊢
  split at h
  ·exact absurd rfl h
  ·rename_i n0
   rw [if_neg n0]
   by_cases e : wdsF f (n / 18446744073709551616) = []
   ·rw [e]
    have hz := wdsF_nW f (n / 18446744073709551616) (by omega)
    rw [e] at hz
    have hz : 0 = n / 18446744073709551616 := hz
    simp only [List.getLast?_singleton, ne_eq, Option.some.injEq]
    omega
   ·have := wdsF_last f (n / 18446744073709551616) (by omega) e
    cases hc : wdsF f (n / 18446744073709551616) with
    | nil => exact absurd hc e
    | cons y l => rw [List.getLast?_cons_cons, ← hc]; exact this
theorem wdN_last {n : Nat} (h : wdN n ≠ []) : (wdN n).getD ((wdN n).length - 1) 0 ≠ 0 := by
 have hl : (wdN n).getLast? ≠ some 0 := by
  unfold wdN at h ⊢; exact wdsF_last n n (Nat.le_refl _) h
 intro e
 refine hl ?_
 have h0 : 0 < (wdN n).length := List.length_pos_iff.2 h
 rw [List.getLast?_eq_getElem?, List.getElem?_eq_getElem (by omega)]
 rw [List.getD_eq_getElem?_getD, List.getElem?_eq_getElem (by omega)] at e
 simpa using e
theorem len_top {l : List Int} (h : W64 l) {k L0 : Nat} (hk : l.length = k + 1) (h1 : (l.getD k 0).toNat < 2 ^ L0) (h2 : 2 ^ (L0 - 1) ≤ (l.getD k 0).toNat) (h0 : 0 < L0) : nW l < 2 ^ (64 * k + L0) ∧ (64 * k + L0 = 0 ∨ 2 ^ (64 * k + L0 - 1) ≤ nW l) := by
 have e : l = l.take k ++ [l.getD k 0] := by
  rw [List.getD_eq_getElem?_getD, List.getElem?_eq_getElem (by omega)]
  conv => lhs; rw [← List.take_length (l := l), hk, List.take_add_one, List.getElem?_eq_getElem (by omega)]
  rfl
 have hl : (l.take k).length = k := by rw [List.length_take]; omega
 have hn : nW l = nW (l.take k) + 18446744073709551616 ^ k * (l.getD k 0).toNat := by
  conv => lhs; rw [e, nW_app, hl]
  simp [nW]
 have hlt := nW_lt (h.take k)
 rw [hl] at hlt
 have hw : (18446744073709551616 : Nat) ^ k = 2 ^ (64 * k) := by rw [Nat.pow_mul]
 rw [hw] at hn hlt
 rw [hn, Nat.pow_add, show 64 * k + L0 - 1 = 64 * k + (L0 - 1) by omega, Nat.pow_add]
 generalize (l.getD k 0).toNat = t at *
 generalize 2 ^ (64 * k) = w at *
 refine ⟨?_, .inr ?_⟩
 ·have := Nat.mul_le_mul_left w (show t + 1 ≤ 2 ^ L0 from h1)
  rw [Nat.mul_add] at this
  omega
 ·have := Nat.mul_le_mul_left w h2
  omega
def digB (N : Nat) : Nat → List Int
 | 0 => []
 | m + 1 => digB N m ++ [((N / 256 ^ m % 256 : Nat) : Int)]
theorem digB_len (N : Nat) : ∀ m, (digB N m).length = m
 | 0 => rfl
 | m + 1 => by simp [digB, digB_len N m]
theorem digB_by (N : Nat) : ∀ m, By (digB N m)
 | 0 => fun x hx => by cases hx
 | m + 1 => fun x hx => by
  rcases List.mem_append.1 hx with hx | hx
  ·exact digB_by N m x hx
  ·rw [List.mem_singleton.1 hx]; omega
theorem nval_app {a b : List Int} (ha : By a) (hb : By b) : nval (a ++ b) = nval a + 256 ^ a.length * nval b := by
 have h1 := nval_eq ha
 have h2 := nval_eq hb
 have h3 : (nval (a ++ b) : Int) = bval (a ++ b) := nval_eq fun x hx => (List.mem_append.1 hx).elim (ha x) (hb x)
 have e : (2 : Int) ^ (8 * a.length) = ((256 ^ a.length : Nat) : Int) := by
  rw [Int.pow_mul, Int.natCast_pow]; rfl
 rw [bval_app, ← h1, ← h2, e, ← Int.natCast_mul, ← Int.natCast_add] at h3
 exact Int.ofNat.inj h3
theorem nval_one {x : Int} (h : 0 ≤ x ∧ x < 256) : nval [x] = x.toNat := by
 show (x + 256 * 0).toNat = x.toNat
 rw [Int.mul_zero, Int.add_zero]
theorem nval_digB (N : Nat) : ∀ m, nval (digB N m) = N % 256 ^ m
 | 0 => by simp [digB, Nat.mod_one]; rfl
 | m + 1 => by
  rw [digB, nval_app (digB_by N m) (fun x hx => by rw [List.mem_singleton.1 hx]; omega), nval_digB N m, digB_len, Nat.pow_succ, Nat.mod_mul, nval_one (by omega), Int.toNat_natCast]
theorem digB_set (N m i : Nat) (h : i < m) : (digB N i ++ List.replicate (m - i) (0 : Int)).set i ((N / 256 ^ i % 256 : Nat) : Int) = digB N (i + 1) ++ List.replicate (m - (i + 1)) 0 := by
 have e : m - i = (m - (i + 1)) + 1 := by omega
 rw [e, List.replicate_succ, List.set_append_right _ _ (by rw [digB_len]; exact Nat.le_refl _), digB_len, Nat.sub_self, List.set_cons_zero, digB, List.append_assoc]; rfl
theorem digB_rep {N M i : Nat} (h : i ≤ M) : (digB N i ++ List.replicate (M - i) (0 : Int)).length = M := by
 rw [List.length_append, digB_len, List.length_replicate]; omega
theorem pow_split (i : Nat) : (256 : Nat) ^ i = 18446744073709551616 ^ (i / 8) * 2 ^ (8 * (i % 8)) := by
 rw [show (18446744073709551616 : Nat) = 2 ^ 64 from rfl, show (256 : Nat) = 2 ^ 8 from rfl, ← Nat.pow_mul, ← Nat.pow_mul, ← Nat.pow_add]
 congr 1; omega
theorem byte_word (N i : Nat) : N / 18446744073709551616 ^ (i / 8) % 18446744073709551616 / 2 ^ (8 * (i % 8)) % 256 = N / 256 ^ i % 256 := by
 rw [pow_split, ← Nat.div_div_eq_div_mul]
 generalize N / 18446744073709551616 ^ (i / 8) = x
 rcases (by omega : i % 8 = 0 ∨ i % 8 = 1 ∨ i % 8 = 2 ∨ i % 8 = 3 ∨ i % 8 = 4 ∨ i % 8 = 5 ∨ i % 8 = 6 ∨ i % 8 = 7) with h | h | h | h | h | h | h | h <;> rw [h] <;> simp only [Nat.reduceMul, Nat.reducePow] <;> omega
theorem shr_word {X : Nat} {s : Nat} (hs : s < 64) : ((X : Nat) : Int).fdiv (2 ^ min ((s : Nat) : Int).toNat IntKind.u64.bits) = ((X / 2 ^ s : Nat) : Int) := by
 have : min ((s : Nat) : Int).toNat IntKind.u64.bits = s := by show min s 64 = s; omega
 rw [this, Int.fdiv_eq_ediv_of_nonneg _ (Int.pow_nonneg (by omega)), Int.natCast_ediv, Int.natCast_pow]; rfl
theorem or_word {X x s : Nat} (hX : X < 2 ^ s) (hx : x < 256) (hs : s ≤ 56) : bits .or .u64 (X : Int) (IntKind.u64.wrap (((x : Nat) : Int) * 2 ^ min ((s : Nat) : Int).toNat IntKind.u64.bits)) = ((X + x * 2 ^ s : Nat) : Int) := by
 have hm : min ((s : Nat) : Int).toNat IntKind.u64.bits = s := by show min s 64 = s; omega
 have h56 : 2 ^ s ≤ 2 ^ 56 := Nat.pow_le_pow_right (by omega) hs
 have hlt : x * 2 ^ s < 18446744073709551616 := by
  have := Nat.mul_le_mul (show x ≤ 255 by omega) h56
  omega
 have e1 : IntKind.u64.wrap (((x : Nat) : Int) * 2 ^ s) = ((x * 2 ^ s : Nat) : Int) := by
  have e2 : ((x : Nat) : Int) * 2 ^ s = ((x * 2 ^ s : Nat) : Int) := by rw [Int.natCast_mul, Int.natCast_pow]; rfl
  rw [e2]
  show ((x * 2 ^ s : Nat) : Int) % (2 ^ 64 : Nat) = _
  omega
 rw [hm, e1, bits_or_u64_nat _ _ (by omega) hlt]
 congr 1
 have := Nat.shiftLeft_add_eq_or_of_lt hX x
 rw [Nat.shiftLeft_eq] at this
 rw [Nat.or_comm, ← this, Nat.add_comm]
theorem nval_take_s {b : List Int} (hb : By b) {i : Nat} (hi : i < b.length) : nval (b.take (i + 1)) = nval (b.take i) + (b.getD i 0).toNat * 256 ^ i := by
 have hx : ∀ k, By (b.take k) := fun k x hx => hb x (List.mem_of_mem_take hx)
 have h1 := by_getD' hb i
 rw [List.take_add_one, List.getElem?_eq_getElem hi]
 rw [List.getD_eq_getElem?_getD, List.getElem?_eq_getElem hi] at h1 ⊢
 simp only [Option.getD_some, Option.toList_some] at h1 ⊢
 rw [nval_app (hx i) (fun y hy => by rw [List.mem_singleton.1 hy]; exact h1), nval_one h1, List.length_take, Nat.min_eq_left (by omega), Nat.mul_comm]
theorem nval_take_lt {b : List Int} (hb : By b) {i : Nat} (hi : i ≤ b.length) : nval (b.take i) < 256 ^ i := by
 have := nval_lt (l := b.take i) fun x hx => hb x (List.mem_of_mem_take hx)
 rw [List.length_take, Nat.min_eq_left hi, Nat.pow_mul] at this
 exact this
def OfI (b : List Int) (i : Nat) (R : List Int) : Prop := W64 R ∧ R.length = (b.length + 7) / 8 ∧ nW R = nval (b.take i)
theorem of_zero (b : List Int) : OfI b 0 (List.replicate ((b.length + 7) / 8) 0) := ⟨fun x hx => by rw [List.eq_of_mem_replicate hx]; omega, List.length_replicate, nW_rep _⟩
theorem of_step {b R : List Int} {i : Nat} (hb : By b) (h : OfI b i R) (hi : i < b.length) :
 R.getD (i / 8) 0 = ((nval (b.take i) / 18446744073709551616 ^ (i / 8) : Nat) : Int) ∧ nval (b.take i) / 18446744073709551616 ^ (i / 8) < 2 ^ (8 * (i % 8)) ∧
 OfI b (i + 1) (R.set (i / 8) ((nval (b.take i) / 18446744073709551616 ^ (i / 8) + (b.getD i 0).toNat * 2 ^ (8 * (i % 8)) : Nat) : Int)) := by
 obtain ⟨h1, h2, h3⟩ := h
 have hlt := nval_take_lt hb (Nat.le_of_lt hi)
 have hx := by_getD' hb i
 have hw : 0 < 18446744073709551616 ^ (i / 8) := Nat.pow_pos (by omega)
 have hX : nval (b.take i) / 18446744073709551616 ^ (i / 8) < 2 ^ (8 * (i % 8)) := by
  rw [Nat.div_lt_iff_lt_mul hw, Nat.mul_comm, ← pow_split]; exact hlt
 have hp : 2 ^ (8 * (i % 8)) ≤ 2 ^ 56 := Nat.pow_le_pow_right (by omega) (by omega)
 have hg : R.getD (i / 8) 0 = ((nval (b.take i) / 18446744073709551616 ^ (i / 8) : Nat) : Int) := by
  rw [← nW_get R (i / 8) h1, h3, Nat.mod_eq_of_lt (by omega)]
 refine ⟨hg, hX, h1.set _ ?_, by rw [List.length_set]; exact h2, ?_⟩
 ·have := Nat.mul_le_mul (show (b.getD i 0).toNat ≤ 255 by omega) hp
  clear hg h3 hlt
  generalize nval (b.take i) / 18446744073709551616 ^ (i / 8) = q at *
  generalize 2 ^ (8 * (i % 8)) = p at *
  generalize (b.getD i 0).toNat * p = m at *
  omega
 ·have hs := nW_set R (i / 8) ((nval (b.take i) / 18446744073709551616 ^ (i / 8) + (b.getD i 0).toNat * 2 ^ (8 * (i % 8)) : Nat) : Int) (by omega)
  rw [hg, Int.toNat_natCast, Int.toNat_natCast, h3, Nat.add_mul] at hs
  rw [nval_take_s hb hi, pow_split]
  have e : (b.getD i 0).toNat * 2 ^ (8 * (i % 8)) * 18446744073709551616 ^ (i / 8) = (b.getD i 0).toNat * (18446744073709551616 ^ (i / 8) * 2 ^ (8 * (i % 8))) := by rw [Nat.mul_assoc, Nat.mul_comm (2 ^ (8 * (i % 8)))]
  omega
def MulR (a b : List Int) (i : Nat) (R : List Int) : Prop := W64 R ∧ R.length = a.length + b.length ∧ (∀ j, i + b.length ≤ j → R.getD j 0 = 0) ∧ nW R = nW a % 18446744073709551616 ^ i * nW b
def MulS (a b : List Int) (i k : Nat) (c : Int) (R : List Int) : Prop := W64 R ∧ R.length = a.length + b.length ∧ (∀ j, i + b.length ≤ j → R.getD j 0 = 0) ∧ (0 ≤ c ∧ c < 18446744073709551616) ∧
 nW R + c.toNat * 18446744073709551616 ^ (i + k) = nW a % 18446744073709551616 ^ i * nW b + (a.getD i 0).toNat * (nW b % 18446744073709551616 ^ k) * 18446744073709551616 ^ i
theorem getD_rep (n j : Nat) : (List.replicate n (0 : Int)).getD j 0 = 0 := by
 rw [List.getD_eq_getElem?_getD, List.getElem?_replicate]; split <;> rfl
theorem mulR0 (a b : List Int) : MulR a b 0 (List.replicate (a.length + b.length) 0) := ⟨fun x hx => by rw [List.eq_of_mem_replicate hx]; omega, List.length_replicate, fun j _ => getD_rep _ j, by rw [nW_rep]; simp [Nat.mod_one]⟩
theorem mulS0 {a b R : List Int} {i : Nat} (h : MulR a b i R) : MulS a b i 0 0 R := ⟨h.1, h.2.1, h.2.2.1, by omega, by rw [h.2.2.2]; simp [Nat.mod_one]⟩
theorem mul_word {x y d c : Int} (hx : 0 ≤ x ∧ x < 18446744073709551616) (hy : 0 ≤ y ∧ y < 18446744073709551616) (hd : 0 ≤ d ∧ d < 18446744073709551616) (hc : 0 ≤ c ∧ c < 18446744073709551616) :
 let hi := x * y / 18446744073709551616
 let lo := x * y % 18446744073709551616
 let s1 := (lo + d + 0) % 18446744073709551616
 let c1 := (lo + d + 0) / 18446744073709551616
 let s2 := (s1 + c + 0) % 18446744073709551616
 let c2 := (s1 + c + 0) / 18446744073709551616
 (0 ≤ hi ∧ hi < 18446744073709551616) ∧ (0 ≤ lo ∧ lo < 18446744073709551616) ∧ (0 ≤ s1 ∧ s1 < 18446744073709551616) ∧ (0 ≤ hi + c1 ∧ hi + c1 < 18446744073709551616) ∧ (0 ≤ hi + c1 + c2 ∧ hi + c1 + c2 < 18446744073709551616) ∧ (0 ≤ s2 ∧ s2 < 18446744073709551616) ∧
 s2.toNat + 18446744073709551616 * (hi + c1 + c2).toNat = x.toNat * y.toNat + d.toNat + c.toNat := by
 have hP0 : 0 ≤ x * y := Int.mul_nonneg hx.1 hy.1
 have hP : x * y ≤ 18446744073709551615 * 18446744073709551615 := Int.mul_le_mul (by omega) (by omega) hy.1 (by omega)
 have hN : x.toNat * y.toNat = (x * y).toNat := by
  obtain ⟨m, rfl⟩ := Int.eq_ofNat_of_zero_le hx.1
  obtain ⟨n, rfl⟩ := Int.eq_ofNat_of_zero_le hy.1
  rw [← Int.natCast_mul]; rfl
 rw [hN]
 generalize x * y = p at *
 intro hi lo s1 c1 s2 c2
 omega
theorem mulS_s {a b R : List Int} {i k : Nat} {c : Int} (ha : W64 a) (hb : W64 b) (h : MulS a b i k c R) (hi : i < a.length) (hk : k < b.length) {s v : Int} (hs : 0 ≤ s ∧ s < 18446744073709551616) (hv : 0 ≤ v ∧ v < 18446744073709551616)
 (he : s.toNat + 18446744073709551616 * v.toNat = (a.getD i 0).toNat * (b.getD k 0).toNat + (R.getD (i + k) 0).toNat + c.toNat) : MulS a b i (k + 1) v (R.set (i + k) s) := by
 obtain ⟨h1, h2, h3, h4, h5⟩ := h
 refine ⟨h1.set _ hs, by rw [List.length_set]; exact h2, fun j hj => ?_, hv, ?_⟩
 ·rw [List.getD_eq_getElem?_getD, List.getElem?_set_ne (by omega), ← List.getD_eq_getElem?_getD]; exact h3 j hj
 ·have hbk : (b.getD k 0).toNat = nW b / 18446744073709551616 ^ k % 18446744073709551616 := by rw [← nW_get b k hb, Int.toNat_natCast]
  have := mul_step (out := R) (p := i + k) (i := i) (k := k) (a := (a.getD i 0).toNat) (b := (b.getD k 0).toNat) (o := c.toNat) (s := s.toNat) (h := v.toNat) (O := nW a % 18446744073709551616 ^ i * nW b) (B := nW b) rfl (by omega) he hbk h5
  rw [show ((s.toNat : Nat) : Int) = s by omega, show i + k + 1 = i + (k + 1) by omega] at this
  exact this
theorem mulS_e {a b R : List Int} {i : Nat} {c : Int} (ha : W64 a) (hb : W64 b) (h : MulS a b i b.length c R) (hi : i < a.length) : MulR a b (i + 1) (R.set (i + b.length) c) := by
 obtain ⟨h1, h2, h3, h4, h5⟩ := h
 have hz := h3 (i + b.length) (Nat.le_refl _)
 have hs := nW_set R (i + b.length) c (by omega)
 rw [hz] at hs
 refine ⟨h1.set _ h4, by rw [List.length_set]; exact h2, fun j hj => ?_, ?_⟩
 ·rw [List.getD_eq_getElem?_getD, List.getElem?_set_ne (by omega), ← List.getD_eq_getElem?_getD]; exact h3 j (by omega)
 ·rw [Nat.mod_eq_of_lt (nW_lt hb)] at h5
  have e : (0 : Int).toNat * 18446744073709551616 ^ (i + b.length) = 0 := by simp
  rw [e, Nat.add_zero, h5] at hs
  rw [hs, Nat.pow_succ, Nat.mod_mul, Nat.add_mul]
  have ha' : (a.getD i 0).toNat = nW a / 18446744073709551616 ^ i % 18446744073709551616 := by rw [← nW_get a i ha, Int.toNat_natCast]
  rw [ha']
  congr 1
  rw [Nat.mul_comm (18446744073709551616 ^ i), Nat.mul_assoc, Nat.mul_assoc, Nat.mul_comm (nW b)]
theorem mulR_e {a b R : List Int} (ha : W64 a) (h : MulR a b a.length R) : nW R = nW a * nW b := by
 rw [h.2.2.2, Nat.mod_eq_of_lt (nW_lt ha)]
end Go.Proofs.Ytohjkkmgcibemaa
