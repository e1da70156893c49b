/- plain law: products -/
import Derived.Test.YtdpongijmmdnoaaPla
namespace Go.Proofs.Ytdpongijmmdnoaa
open FdP FdP.Ch

theorem val_set (l : List Int) (i : Nat) (v : Int) (h : i < l.length) : val (l.set i (l.getD i 0 + v)) = val l + v * 72057594037927936 ^ i := by
  induction l generalizing i with
  | nil => simp at h
  | cons x l ih =>
    cases i with
    | zero => simp [val]; omega
    | succ i =>
      have := ih i (by simpa using h)
      simp only [List.set_cons_succ, List.getD_cons_succ, val, this, Int.mul_add, Int.pow_succ]
      generalize val l = u
      generalize (72057594037927936 : Int) ^ i = b
      grind

theorem val_take (l : List Int) (k : Nat) : val (l.take (k + 1)) = val (l.take k) + l.getD k 0 * 72057594037927936 ^ k := by
  induction l generalizing k with
  | nil => simp [val]
  | cons x l ih =>
    cases k with
    | zero => simp [val]
    | succ k =>
      have := ih k
      simp only [List.take_succ_cons, val, List.getD_cons_succ, this, Int.mul_add, Int.pow_succ]
      generalize val (l.take k) = u
      generalize (72057594037927936 : Int) ^ k = b
      grind

theorem getD_set_ne' (l : List Int) (i j : Nat) (v : Int) (h : i ≠ j) : (l.set i v).getD j 0 = l.getD j 0 := by
  simp [List.getD, List.getElem?_set, h]
theorem getD_set_eq' (l : List Int) (i : Nat) (v : Int) (h : i < l.length) : (l.set i v).getD i 0 = v := by
  simp [List.getD, List.getElem?_set, h]

/-- products of one limb -/
theorem mulI_law (x : Int) (m : List Int) (i : Nat) (ns : List Int) (c X : Int) (hX : 0 ≤ X) (hi : i + 8 ≤ ns.length) (hn : ∀ j, 0 ≤ ns.getD j 0 ∧ ns.getD j 0 ≤ c)
    (hp : ∀ k, k < 8 → 0 ≤ x * m.getD k 0 ∧ x * m.getD k 0 ≤ X) (hc : c + X < 340282366920938463463374607431768211456) : ∀ k, k ≤ 8 →
      (∀ j, 0 ≤ (mulI x m i ns k).getD j 0 ∧ (mulI x m i ns k).getD j 0 ≤ c + X) ∧ (∀ j, i + k ≤ j → (mulI x m i ns k).getD j 0 = ns.getD j 0) ∧
      val (mulI x m i ns k) = val ns + x * val (m.take k) * 72057594037927936 ^ i := by
  intro k
  induction k with
  | zero =>
    intro _
    refine ⟨fun j => ?_, fun j _ => rfl, ?_⟩
    · have := hn j; simp only [mulI]; omega
    · simp [mulI, val]
  | succ k ih =>
    intro hk
    obtain ⟨h1, h2, h3⟩ := ih (by omega)
    have hl : i + k < (mulI x m i ns k).length := by rw [mulI_len]; omega
    have e := h2 (i + k) (by omega)
    have b := hn (i + k)
    have p := hp k (by omega)
    have w : ((mulI x m i ns k).getD (i + k) 0 + x * m.getD k 0) % 340282366920938463463374607431768211456 = (mulI x m i ns k).getD (i + k) 0 + x * m.getD k 0 := by
      rw [e]; exact Int.emod_eq_of_lt (by omega) (by omega)
    rw [mulI, w]
    refine ⟨fun j => ?_, fun j hj => ?_, ?_⟩
    · by_cases hj : i + k = j
      · subst hj
        rw [getD_set_eq' _ _ _ hl, e]; omega
      · rw [getD_set_ne' _ _ _ _ hj]; exact h1 j
    · rw [getD_set_ne' _ _ _ _ (by omega)]; exact h2 j (by omega)
    · rw [val_set _ _ _ hl, h3, val_take, Int.pow_add]
      generalize val ns = u
      generalize val (m.take k) = t
      generalize m.getD k 0 = y
      generalize (72057594037927936 : Int) ^ i = b
      generalize (72057594037927936 : Int) ^ k = b'
      grind

theorem mulO_law (l m : List Int) (hl : l.length = 8) (hm : m.length = 8) (bl : ∀ i, i < 8 → 0 ≤ l.getD i 0 ∧ l.getD i 0 < 72057594037928192) (bm : ∀ i, i < 8 → 0 ≤ m.getD i 0 ∧ m.getD i 0 < 72057594037928192) : ∀ i, i ≤ 8 →
      (∀ j, 0 ≤ (mulO l m i).getD j 0 ∧ (mulO l m i).getD j 0 ≤ i * 5192296858534864543600352262881280) ∧ val (mulO l m i) = val (l.take i) * val m := by
  intro i
  induction i with
  | zero =>
    intro _
    refine ⟨fun j => ?_, ?_⟩
    · have : (mulO l m 0).getD j 0 = 0 := by
        show (List.replicate 15 (0 : Int)).getD j 0 = 0
        simp only [List.getD, List.getElem?_replicate]
        split <;> rfl
      rw [this]; omega
    · simp [mulO, val, z15]
  | succ i ih =>
    intro hi
    obtain ⟨h1, h2⟩ := ih (by omega)
    have hp : ∀ k, k < 8 → 0 ≤ l.getD i 0 * m.getD k 0 ∧ l.getD i 0 * m.getD k 0 ≤ 5192296858534864543600352262881280 := by
      intro k hk
      have a := bl i (by omega)
      have b := bm k hk
      refine ⟨Int.mul_nonneg a.1 b.1, ?_⟩
      have := Int.mul_le_mul (show l.getD i 0 ≤ 72057594037928191 by omega) (show m.getD k 0 ≤ 72057594037928191 by omega) b.1 (by omega)
      omega
    obtain ⟨g1, -, g3⟩ := mulI_law (l.getD i 0) m i (mulO l m i) (i * 5192296858534864543600352262881280) 5192296858534864543600352262881280 (by omega) (by rw [mulO_len]; omega) h1 hp (by omega) 8 (by omega)
    refine ⟨fun j => ?_, ?_⟩
    · have := g1 j
      rw [mulO]; omega
    · rw [mulO, g3, h2, val_take l i, List.take_of_length_le (show m.length ≤ 8 by omega)]
      generalize val (l.take i) = u
      generalize val m = t
      generalize l.getD i 0 = y
      generalize (72057594037927936 : Int) ^ i = b
      grind

theorem list15 {p : List Int} (h : p.length = 15) : ∃ a0 a1 a2 a3 a4 a5 a6 a7 a8 a9 a10 a11 a12 a13 a14, p = [a0, a1, a2, a3, a4, a5, a6, a7, a8, a9, a10, a11, a12, a13, a14] := by
  match p, h with
  | [a0, a1, a2, a3, a4, a5, a6, a7, a8, a9, a10, a11, a12, a13, a14], _ => exact ⟨a0, a1, a2, a3, a4, a5, a6, a7, a8, a9, a10, a11, a12, a13, a14, rfl⟩

theorem foldT_step {ns q : List Int} {c : Nat} (h : foldT ns c = q) {x y t y' : Int} (hx : q.getD (14 - c - 8) 0 = x) (ht : q.getD (14 - c) 0 = t) {q1 : List Int} (h1 : q.set (14 - c - 8) ((x + t) % 340282366920938463463374607431768211456) = q1)
    (hy : q1.getD (14 - c - 4) 0 = y) (hy' : q1.getD (14 - c) 0 = y') : foldT ns (c + 1) = q1.set (14 - c - 4) ((y + y') % 340282366920938463463374607431768211456) := by
  rw [foldT, h]; simp only [hx, ht, h1, hy, hy']

theorem limbT_step {ns m : List Int} {k : Nat} {o x r q : Int} (h : limbT ns k = (m, o)) (hx : ns.getD k 0 = x) (hr : (x + o) % 340282366920938463463374607431768211456 % 72057594037927936 = r) (hq : (x + o) % 340282366920938463463374607431768211456 / 72057594037927936 = q) :
    limbT ns (k + 1) = (m.set k r, q) := by
  rw [limbT, h]; simp only [hx, hr, hq]

theorem wstep (x p : Int) (h0 : 0 ≤ x + p) (h1 : x + p < 1329227995784915872903807060280344576) : ∃ r o, (x + p) % 340282366920938463463374607431768211456 % 72057594037927936 = r ∧ (x + p) % 340282366920938463463374607431768211456 / 72057594037927936 = o ∧ x + p = r + 72057594037927936 * o ∧ 0 ≤ r ∧ r < 72057594037927936 ∧ 0 ≤ o ∧ o < 18446744073709551616 :=
  ⟨_, _, rfl, rfl, by omega, by omega, by omega, by omega, by omega⟩

theorem w128 (x y : Int) (hx : 0 ≤ x) (hy : 0 ≤ y) (hx' : x < 166153499473114484112975882535043072) (hy' : y < 166153499473114484112975882535043072) : (x + y) % 340282366920938463463374607431768211456 = x + y := by omega

set_option maxHeartbeats 1000000 in
theorem fold_law (n0 n1 n2 n3 n4 n5 n6 n7 n8 n9 n10 n11 n12 n13 n14 : Int) (hn : ∀ x ∈ [n0, n1, n2, n3, n4, n5, n6, n7, n8, n9, n10, n11, n12, n13, n14], 0 ≤ x ∧ x < 41538374868278916348802818103050241) :
    foldT [n0, n1, n2, n3, n4, n5, n6, n7, n8, n9, n10, n11, n12, n13, n14] 7 =
      [n0 + (n8 + n12), n1 + (n9 + n13), n2 + (n10 + n14), n3 + n11, n4 + n12 + (n8 + n12), n5 + n13 + (n9 + n13), n6 + n14 + (n10 + n14), n7 + n11, n8 + n12, n9 + n13, n10 + n14, n11, n12, n13, n14] := by
  simp only [List.mem_cons, List.not_mem_nil, or_false, forall_eq_or_imp, forall_eq] at hn
  obtain ⟨h0, h1, h2, h3, h4, h5, h6, h7, h8, h9, h10, h11, h12, h13, h14⟩ := hn
  have e0 : foldT [n0, n1, n2, n3, n4, n5, n6, n7, n8, n9, n10, n11, n12, n13, n14] 0 = [n0, n1, n2, n3, n4, n5, n6, n7, n8, n9, n10, n11, n12, n13, n14] := rfl
  have e1 := foldT_step e0 rfl rfl rfl rfl rfl
  simp only [Nat.zero_add, Nat.reduceAdd, Nat.reduceSub, List.set_cons_zero, List.set_cons_succ, List.getD_cons_zero, List.getD_cons_succ] at e1
  rw [w128 n6 n14 (by omega) (by omega) (by omega) (by omega), w128 n10 n14 (by omega) (by omega) (by omega) (by omega)] at e1
  have e2 := foldT_step e1 rfl rfl rfl rfl rfl
  simp only [Nat.zero_add, Nat.reduceAdd, Nat.reduceSub, List.set_cons_zero, List.set_cons_succ, List.getD_cons_zero, List.getD_cons_succ] at e2
  rw [w128 n5 n13 (by omega) (by omega) (by omega) (by omega), w128 n9 n13 (by omega) (by omega) (by omega) (by omega)] at e2
  have e3 := foldT_step e2 rfl rfl rfl rfl rfl
  simp only [Nat.zero_add, Nat.reduceAdd, Nat.reduceSub, List.set_cons_zero, List.set_cons_succ, List.getD_cons_zero, List.getD_cons_succ] at e3
  rw [w128 n4 n12 (by omega) (by omega) (by omega) (by omega), w128 n8 n12 (by omega) (by omega) (by omega) (by omega)] at e3
  have e4 := foldT_step e3 rfl rfl rfl rfl rfl
  simp only [Nat.zero_add, Nat.reduceAdd, Nat.reduceSub, List.set_cons_zero, List.set_cons_succ, List.getD_cons_zero, List.getD_cons_succ] at e4
  rw [w128 n3 n11 (by omega) (by omega) (by omega) (by omega), w128 n7 n11 (by omega) (by omega) (by omega) (by omega)] at e4
  have e5 := foldT_step e4 rfl rfl rfl rfl rfl
  simp only [Nat.zero_add, Nat.reduceAdd, Nat.reduceSub, List.set_cons_zero, List.set_cons_succ, List.getD_cons_zero, List.getD_cons_succ] at e5
  rw [w128 n2 (n10 + n14) (by omega) (by omega) (by omega) (by omega), w128 (n6 + n14) (n10 + n14) (by omega) (by omega) (by omega) (by omega)] at e5
  have e6 := foldT_step e5 rfl rfl rfl rfl rfl
  simp only [Nat.zero_add, Nat.reduceAdd, Nat.reduceSub, List.set_cons_zero, List.set_cons_succ, List.getD_cons_zero, List.getD_cons_succ] at e6
  rw [w128 n1 (n9 + n13) (by omega) (by omega) (by omega) (by omega), w128 (n5 + n13) (n9 + n13) (by omega) (by omega) (by omega) (by omega)] at e6
  have e7 := foldT_step e6 rfl rfl rfl rfl rfl
  simp only [Nat.zero_add, Nat.reduceAdd, Nat.reduceSub, List.set_cons_zero, List.set_cons_succ, List.getD_cons_zero, List.getD_cons_succ] at e7
  rw [w128 n0 (n8 + n12) (by omega) (by omega) (by omega) (by omega), w128 (n4 + n12) (n8 + n12) (by omega) (by omega) (by omega) (by omega)] at e7
  exact e7

set_option maxHeartbeats 1000000 in
theorem limb_law (q0 q1 q2 q3 q4 q5 q6 q7 q8 q9 q10 q11 q12 q13 q14 : Int) (hn : ∀ x ∈ [q0, q1, q2, q3, q4, q5, q6, q7], 0 ≤ x ∧ x < 664613997892457936451903530140172288) :
    ∃ r0 r1 r2 r3 r4 r5 r6 r7 o : Int, limbT [q0, q1, q2, q3, q4, q5, q6, q7, q8, q9, q10, q11, q12, q13, q14] 8 = ([r0, r1, r2, r3, r4, r5, r6, r7], o) ∧
      (∀ x ∈ [r0, r1, r2, r3, r4, r5, r6, r7], 0 ≤ x ∧ x < 72057594037927936) ∧ (0 ≤ o ∧ o < 18446744073709551616) ∧
      val [q0, q1, q2, q3, q4, q5, q6, q7] = val [r0, r1, r2, r3, r4, r5, r6, r7] + 72057594037927936 ^ 8 * o := by
  simp only [List.mem_cons, List.not_mem_nil, or_false, forall_eq_or_imp, forall_eq] at hn
  obtain ⟨h0, h1, h2, h3, h4, h5, h6, h7⟩ := hn
  have e0 : limbT [q0, q1, q2, q3, q4, q5, q6, q7, q8, q9, q10, q11, q12, q13, q14] 0 = (zE, 0) := rfl
  obtain ⟨r0, o0, a0, b0, c0, d0⟩ := wstep q0 0 (by omega) (by omega)
  have e1 := limbT_step e0 rfl a0 b0
  obtain ⟨r1, o1, a1, b1, c1, d1⟩ := wstep q1 o0 (by omega) (by omega)
  have e2 := limbT_step e1 rfl a1 b1
  obtain ⟨r2, o2, a2, b2, c2, d2⟩ := wstep q2 o1 (by omega) (by omega)
  have e3 := limbT_step e2 rfl a2 b2
  obtain ⟨r3, o3, a3, b3, c3, d3⟩ := wstep q3 o2 (by omega) (by omega)
  have e4 := limbT_step e3 rfl a3 b3
  obtain ⟨r4, o4, a4, b4, c4, d4⟩ := wstep q4 o3 (by omega) (by omega)
  have e5 := limbT_step e4 rfl a4 b4
  obtain ⟨r5, o5, a5, b5, c5, d5⟩ := wstep q5 o4 (by omega) (by omega)
  have e6 := limbT_step e5 rfl a5 b5
  obtain ⟨r6, o6, a6, b6, c6, d6⟩ := wstep q6 o5 (by omega) (by omega)
  have e7 := limbT_step e6 rfl a6 b6
  obtain ⟨r7, o7, a7, b7, c7, d7⟩ := wstep q7 o6 (by omega) (by omega)
  have e8 := limbT_step e7 rfl a7 b7
  clear e0 e1 e2 e3 e4 e5 e6 e7 a0 a1 a2 a3 a4 a5 a6 a7 b0 b1 b2 b3 b4 b5 b6 b7
  refine ⟨r0, r1, r2, r3, r4, r5, r6, r7, o7, e8, ?_, ⟨d7.2.2.1, d7.2.2.2⟩, ?_⟩
  · simp only [List.mem_cons, List.not_mem_nil, or_false, forall_eq_or_imp, forall_eq]
    omega
  · simp only [val]
    omega

set_option maxHeartbeats 1000000 in
theorem mul_E {l m : List Int} {a b : F} (hl : E l a) (hm : E m b) : E (mulF l m) (a * b) := by
  obtain ⟨h1, h2⟩ := mulO_law l m hl.1 hm.1 hl.nth hm.nth 8 (by omega)
  rw [List.take_of_length_le (by have := hl.1; omega)] at h2
  have hlen := mulO_len l m 8
  have he : ∀ L : List Int × Int, ∀ q, limbT (foldT q 7) 8 = L → mulO l m 8 = q → mulF l m = carryF (endL L.1 L.2) := by
    intro L q h h'; unfold mulF; rw [h', h]
  generalize mulO l m 8 = ns at *
  obtain ⟨n0, n1, n2, n3, n4, n5, n6, n7, n8, n9, n10, n11, n12, n13, n14, rfl⟩ := list15 hlen
  have hn : ∀ x ∈ [n0, n1, n2, n3, n4, n5, n6, n7, n8, n9, n10, n11, n12, n13, n14], 0 ≤ x ∧ x < 41538374868278916348802818103050241 := by
    have k0 := h1 0; have k1 := h1 1; have k2 := h1 2; have k3 := h1 3; have k4 := h1 4; have k5 := h1 5; have k6 := h1 6; have k7 := h1 7; have k8 := h1 8; have k9 := h1 9; have k10 := h1 10; have k11 := h1 11; have k12 := h1 12; have k13 := h1 13; have k14 := h1 14
    simp only [List.getD_cons_zero, List.getD_cons_succ] at k0 k1 k2 k3 k4 k5 k6 k7 k8 k9 k10 k11 k12 k13 k14
    simp only [List.mem_cons, List.not_mem_nil, or_false, forall_eq_or_imp, forall_eq]
    omega
  have ef := fold_law n0 n1 n2 n3 n4 n5 n6 n7 n8 n9 n10 n11 n12 n13 n14 hn
  simp only [List.mem_cons, List.not_mem_nil, or_false, forall_eq_or_imp, forall_eq] at hn
  obtain ⟨r0, r1, r2, r3, r4, r5, r6, r7, o, el, hr, ho, hv⟩ := limb_law (n0 + (n8 + n12)) (n1 + (n9 + n13)) (n2 + (n10 + n14)) (n3 + n11) (n4 + n12 + (n8 + n12)) (n5 + n13 + (n9 + n13)) (n6 + n14 + (n10 + n14)) (n7 + n11) (n8 + n12) (n9 + n13) (n10 + n14) n11 n12 n13 n14
    (by simp only [List.mem_cons, List.not_mem_nil, or_false, forall_eq_or_imp, forall_eq]; omega)
  rw [← ef] at el
  rw [he _ _ el rfl]
  simp only [List.mem_cons, List.not_mem_nil, or_false, forall_eq_or_imp, forall_eq] at hr
  have es : endL [r0, r1, r2, r3, r4, r5, r6, r7] o = [r0 + o % 72057594037927936, r1 + o / 72057594037927936, r2, r3, r4 + o % 72057594037927936, r5 + o / 72057594037927936, r6, r7] := by
    unfold endL
    simp only [List.getD_cons_zero, List.getD_cons_succ]
    rw [show o / 72057594037927936 % 18446744073709551616 = o / 72057594037927936 by omega, wrap_in _ (by omega) (by omega), wrap_in _ (by omega) (by omega), wrap_in _ (by omega) (by omega), wrap_in _ (by omega) (by omega)]
  have h := carry_E (l := endL [r0, r1, r2, r3, r4, r5, r6, r7] o) rfl (by
    rw [es]; intro x hx
    simp only [List.mem_cons, List.not_mem_nil, or_false] at hx
    omega)
  have ev : val (endL [r0, r1, r2, r3, r4, r5, r6, r7] o) = val l * val m - P * (o + (n8 + n12) + 72057594037927936 * (n9 + n13) + 72057594037927936 ^ 2 * (n10 + n14) + 72057594037927936 ^ 3 * n11 + 72057594037927936 ^ 4 * n12 + 72057594037927936 ^ 5 * n13 + 72057594037927936 ^ 6 * n14) := by
    rw [← h2, es, P_eq]
    simp only [val] at hv ⊢
    omega
  rw [ev, z_minus, z_mul, hl.2.2, hm.2.2] at h
  exact h
end Go.Proofs.Ytdpongijmmdnoaa
