/- plain law: what the limbs stand for: carry, sums -/
import Derived.Test.YtdpongijmmdnoaaByt
import Derived.Test.YtdpongijmmdnoaaFld
namespace Go.Proofs.Ytdpongijmmdnoaa
open FdP FdP.Ch

/-- the number of limbs -/
def val : List Int → Int
  | [] => 0
  | x :: l => x + 72057594037927936 * val l

/-- limbs of an element, as the program holds them -/
def E (l : List Int) (a : F) : Prop := l.length = 8 ∧ (∀ x ∈ l, 0 ≤ x ∧ x < 72057594037928192) ∧ z (val l) = a
theorem E.len {l : List Int} {a : F} (h : E l a) : l.length = 8 := h.1
theorem E.bd {l : List Int} {a : F} (h : E l a) : Bd l := fun x hx => by have := h.2.1 x hx; omega

theorem P_eq : (P : Int) = 72057594037927936 ^ 8 - 72057594037927936 ^ 4 - 1 := by decide +kernel
theorem z_minus (n o : Int) : z (n - P * o) = z n := by rw [z_eq]; simp

theorem step (x p : Int) (h0 : 0 ≤ x + p) (h1 : x + p < 18446744073709551616) : ∃ r o, (x + p) % 72057594037927936 = r ∧ (x + p) % 18446744073709551616 / 72057594037927936 = o ∧ x + p = r + 72057594037927936 * o ∧ 0 ≤ r ∧ r < 72057594037927936 ∧ 0 ≤ o ∧ o < 256 :=
  ⟨_, _, rfl, rfl, by omega, by omega, by omega, by omega, by omega⟩

theorem carryTo_step {l m : List Int} {k : Nat} {o x r q : Int} (h : carryTo l k = (m, o)) (hx : m.getD k 0 = x) (hr : (x + o) % 72057594037927936 = r) (hq : (x + o) % 18446744073709551616 / 72057594037927936 = q) :
    carryTo l (k + 1) = (m.set k r, q) := by
  rw [carryTo, h]; simp only [hx, hr, hq]

theorem carry_law (l0 l1 l2 l3 l4 l5 l6 l7 : Int) (h0 : 0 ≤ l0 ∧ l0 < 18446744073709551360) (h1 : 0 ≤ l1 ∧ l1 < 18446744073709551360) (h2 : 0 ≤ l2 ∧ l2 < 18446744073709551360) (h3 : 0 ≤ l3 ∧ l3 < 18446744073709551360)
    (h4 : 0 ≤ l4 ∧ l4 < 18446744073709551360) (h5 : 0 ≤ l5 ∧ l5 < 18446744073709551360) (h6 : 0 ≤ l6 ∧ l6 < 18446744073709551360) (h7 : 0 ≤ l7 ∧ l7 < 18446744073709551360) :
    ∃ r0 r1 r2 r3 r4 r5 r6 r7 o : Int, carryF [l0, l1, l2, l3, l4, l5, l6, l7] = [r0 + o, r1, r2, r3, r4 + o, r5, r6, r7] ∧
      (0 ≤ r0 ∧ r0 < 72057594037927936) ∧ (0 ≤ r1 ∧ r1 < 72057594037927936) ∧ (0 ≤ r2 ∧ r2 < 72057594037927936) ∧ (0 ≤ r3 ∧ r3 < 72057594037927936) ∧
      (0 ≤ r4 ∧ r4 < 72057594037927936) ∧ (0 ≤ r5 ∧ r5 < 72057594037927936) ∧ (0 ≤ r6 ∧ r6 < 72057594037927936) ∧ (0 ≤ r7 ∧ r7 < 72057594037927936) ∧ (0 ≤ o ∧ o < 256) ∧
      (∃ p, 0 ≤ p ∧ p < 256 ∧ l7 + p = r7 + 72057594037927936 * o ∧ (l6 < 72057594037928192 → p ≤ 1)) ∧
      ((l0 < 72057594037927936 ∧ l1 < 72057594037927936 ∧ l2 < 72057594037927936 ∧ l3 < 72057594037927936 ∧ l4 < 72057594037927936 ∧ l5 < 72057594037927936 ∧ l6 < 72057594037927936 ∧ l7 < 72057594037927936) →
        r0 = l0 ∧ r1 = l1 ∧ r2 = l2 ∧ r3 = l3 ∧ r4 = l4 ∧ r5 = l5 ∧ r6 = l6 ∧ r7 = l7 ∧ o = 0) ∧
      val [l0, l1, l2, l3, l4, l5, l6, l7] = val [r0, r1, r2, r3, r4, r5, r6, r7] + 72057594037927936 ^ 8 * o := by
  have e0 : carryTo [l0, l1, l2, l3, l4, l5, l6, l7] 0 = ([l0, l1, l2, l3, l4, l5, l6, l7], 0) := rfl
  obtain ⟨r0, o0, a0, b0, c0, d0⟩ := step l0 0 (by omega) (by omega)
  have e1 := carryTo_step e0 rfl a0 b0
  obtain ⟨r1, o1, a1, b1, c1, d1⟩ := step l1 o0 (by omega) (by omega)
  have e2 := carryTo_step e1 rfl a1 b1
  obtain ⟨r2, o2, a2, b2, c2, d2⟩ := step l2 o1 (by omega) (by omega)
  have e3 := carryTo_step e2 rfl a2 b2
  obtain ⟨r3, o3, a3, b3, c3, d3⟩ := step l3 o2 (by omega) (by omega)
  have e4 := carryTo_step e3 rfl a3 b3
  obtain ⟨r4, o4, a4, b4, c4, d4⟩ := step l4 o3 (by omega) (by omega)
  have e5 := carryTo_step e4 rfl a4 b4
  obtain ⟨r5, o5, a5, b5, c5, d5⟩ := step l5 o4 (by omega) (by omega)
  have e6 := carryTo_step e5 rfl a5 b5
  obtain ⟨r6, o6, a6, b6, c6, d6⟩ := step l6 o5 (by omega) (by omega)
  have e7 := carryTo_step e6 rfl a6 b6
  obtain ⟨r7, o7, a7, b7, c7, d7⟩ := step l7 o6 (by omega) (by omega)
  have e8 := carryTo_step e7 rfl a7 b7
  clear e0 e1 e2 e3 e4 e5 e6 e7 a0 a1 a2 a3 a4 a5 a6 a7 b0 b1 b2 b3 b4 b5 b6 b7
  refine ⟨r0, r1, r2, r3, r4, r5, r6, r7, o7, ?_, ⟨d0.1, d0.2.1⟩, ⟨d1.1, d1.2.1⟩, ⟨d2.1, d2.2.1⟩, ⟨d3.1, d3.2.1⟩, ⟨d4.1, d4.2.1⟩, ⟨d5.1, d5.2.1⟩, ⟨d6.1, d6.2.1⟩, ⟨d7.1, d7.2.1⟩, ⟨d7.2.2.1, d7.2.2.2⟩, ⟨o6, d6.2.2.1, d6.2.2.2, c7, ?_⟩, ?_, ?_⟩
  · have f0 : (r0 + o7) % 18446744073709551616 = r0 + o7 := by omega
    have f4 : (r4 + o7) % 18446744073709551616 = r4 + o7 := by omega
    unfold carryF
    rw [e8]
    unfold carryEnd
    simp only [List.set_cons_zero, List.set_cons_succ, List.getD_cons_zero, List.getD_cons_succ, f0, f4]
  · omega
  · omega
  · simp only [val]
    omega

/-- a carry leaves the number, but for p -/
theorem carry_E {l : List Int} (hl : l.length = 8) (hb : ∀ x ∈ l, 0 ≤ x ∧ x < 18446744073709551360) : E (carryF l) (z (val l)) := by
  obtain ⟨l0, l1, l2, l3, l4, l5, l6, l7, rfl⟩ := list8 hl
  obtain ⟨r0, r1, r2, r3, r4, r5, r6, r7, o, e, h0, h1, h2, h3, h4, h5, h6, h7, ho, -, -, hv⟩ := carry_law l0 l1 l2 l3 l4 l5 l6 l7 (hb _ (by simp)) (hb _ (by simp)) (hb _ (by simp)) (hb _ (by simp)) (hb _ (by simp)) (hb _ (by simp)) (hb _ (by simp)) (hb _ (by simp))
  refine ⟨by simp, ?_, ?_⟩
  · rw [e]
    intro x hx
    simp only [List.mem_cons, List.not_mem_nil, or_false] at hx
    omega
  · have : val (carryF [l0, l1, l2, l3, l4, l5, l6, l7]) = val [l0, l1, l2, l3, l4, l5, l6, l7] - P * o := by
      rw [e, hv, P_eq]
      simp only [val]
      omega
    rw [this, z_minus]

theorem E.nth {l : List Int} {a : F} (h : E l a) (i : Nat) (hi : i < 8) : 0 ≤ l.getD i 0 ∧ l.getD i 0 < 72057594037928192 := by
  have hl : i < l.length := by rw [h.1]; exact hi
  have : l.getD i 0 = l[i] := by simp [List.getD, hl]
  rw [this]; exact h.2.1 _ (List.getElem_mem hl)

theorem wrap_in (x : Int) (h0 : 0 ≤ x) (h1 : x < 18446744073709551616) : IntKind.u64.wrap x = x := by rw [IntKind.wrap_u64]; omega

theorem tab8_eq (g : Nat → Int) : tab8 g = [g 0, g 1, g 2, g 3, g 4, g 5, g 6, g 7] := rfl

theorem add_E {l m : List Int} {a b : F} (hl : E l a) (hm : E m b) : E (addF l m) (a + b) := by
  have ha := hl.2.2
  have hb := hm.2.2
  have n := fun i hi => hl.nth i hi
  have n' := fun i hi => hm.nth i hi
  obtain ⟨l0, l1, l2, l3, l4, l5, l6, l7, rfl⟩ := list8 hl.1
  obtain ⟨m0, m1, m2, m3, m4, m5, m6, m7, rfl⟩ := list8 hm.1
  have x0 := n 0 (by omega); have x1 := n 1 (by omega); have x2 := n 2 (by omega); have x3 := n 3 (by omega); have x4 := n 4 (by omega); have x5 := n 5 (by omega); have x6 := n 6 (by omega); have x7 := n 7 (by omega)
  have y0 := n' 0 (by omega); have y1 := n' 1 (by omega); have y2 := n' 2 (by omega); have y3 := n' 3 (by omega); have y4 := n' 4 (by omega); have y5 := n' 5 (by omega); have y6 := n' 6 (by omega); have y7 := n' 7 (by omega)
  clear n n'
  simp only [List.getD_cons_zero, List.getD_cons_succ] at x0 x1 x2 x3 x4 x5 x6 x7 y0 y1 y2 y3 y4 y5 y6 y7
  have e : addR [l0, l1, l2, l3, l4, l5, l6, l7] [m0, m1, m2, m3, m4, m5, m6, m7] = [l0 + m0, l1 + m1, l2 + m2, l3 + m3, l4 + m4, l5 + m5, l6 + m6, l7 + m7] := by
    unfold addR; rw [tab8_eq]
    simp only [List.getD_cons_zero, List.getD_cons_succ]
    rw [wrap_in _ (by omega) (by omega), wrap_in _ (by omega) (by omega), wrap_in _ (by omega) (by omega), wrap_in _ (by omega) (by omega), wrap_in _ (by omega) (by omega), wrap_in _ (by omega) (by omega), wrap_in _ (by omega) (by omega), wrap_in _ (by omega) (by omega)]
  have h := carry_E (addR_len [l0, l1, l2, l3, l4, l5, l6, l7] [m0, m1, m2, m3, m4, m5, m6, m7]) (by
    rw [e]; intro x hx
    simp only [List.mem_cons, List.not_mem_nil, or_false] at hx
    omega)
  have ev : val (addR [l0, l1, l2, l3, l4, l5, l6, l7] [m0, m1, m2, m3, m4, m5, m6, m7]) = val [l0, l1, l2, l3, l4, l5, l6, l7] + val [m0, m1, m2, m3, m4, m5, m6, m7] := by
    rw [e]; simp only [val]; omega
  rw [ev, z_add, ha, hb] at h
  exact h

theorem sub_E {l m : List Int} {a b : F} (hl : E l a) (hm : E m b) : E (subF l m) (a - b) := by
  have ha := hl.2.2
  have hb := hm.2.2
  have n := fun i hi => hl.nth i hi
  have n' := fun i hi => hm.nth i hi
  obtain ⟨l0, l1, l2, l3, l4, l5, l6, l7, rfl⟩ := list8 hl.1
  obtain ⟨m0, m1, m2, m3, m4, m5, m6, m7, rfl⟩ := list8 hm.1
  have x0 := n 0 (by omega); have x1 := n 1 (by omega); have x2 := n 2 (by omega); have x3 := n 3 (by omega); have x4 := n 4 (by omega); have x5 := n 5 (by omega); have x6 := n 6 (by omega); have x7 := n 7 (by omega)
  have y0 := n' 0 (by omega); have y1 := n' 1 (by omega); have y2 := n' 2 (by omega); have y3 := n' 3 (by omega); have y4 := n' 4 (by omega); have y5 := n' 5 (by omega); have y6 := n' 6 (by omega); have y7 := n' 7 (by omega)
  clear n n'
  simp only [List.getD_cons_zero, List.getD_cons_succ] at x0 x1 x2 x3 x4 x5 x6 x7 y0 y1 y2 y3 y4 y5 y6 y7
  have w3 : ∀ x p y : Int, 0 ≤ x → x < 72057594037928192 → 72057594037927934 ≤ p → p ≤ 72057594037927935 → 0 ≤ y → y < 72057594037928192 → IntKind.u64.wrap (IntKind.u64.wrap (x + IntKind.u64.wrap (2 * p)) - y) = x + 2 * p - y := by
    intro x p y _ _ _ _ _ _
    simp only [IntKind.wrap_u64]
    omega
  have e : subR [l0, l1, l2, l3, l4, l5, l6, l7] [m0, m1, m2, m3, m4, m5, m6, m7] = [l0 + 2 * 72057594037927935 - m0, l1 + 2 * 72057594037927935 - m1, l2 + 2 * 72057594037927935 - m2, l3 + 2 * 72057594037927935 - m3, l4 + 2 * 72057594037927934 - m4, l5 + 2 * 72057594037927935 - m5, l6 + 2 * 72057594037927935 - m6, l7 + 2 * 72057594037927935 - m7] := by
    unfold subR; rw [tab8_eq]
    simp only [primeL, List.getD_cons_zero, List.getD_cons_succ]
    rw [w3 l0 _ m0 (by omega) (by omega) (by omega) (by omega) (by omega) (by omega), w3 l1 _ m1 (by omega) (by omega) (by omega) (by omega) (by omega) (by omega), w3 l2 _ m2 (by omega) (by omega) (by omega) (by omega) (by omega) (by omega), w3 l3 _ m3 (by omega) (by omega) (by omega) (by omega) (by omega) (by omega),
      w3 l4 _ m4 (by omega) (by omega) (by omega) (by omega) (by omega) (by omega), w3 l5 _ m5 (by omega) (by omega) (by omega) (by omega) (by omega) (by omega), w3 l6 _ m6 (by omega) (by omega) (by omega) (by omega) (by omega) (by omega), w3 l7 _ m7 (by omega) (by omega) (by omega) (by omega) (by omega) (by omega)]
  have h := carry_E (subR_len [l0, l1, l2, l3, l4, l5, l6, l7] [m0, m1, m2, m3, m4, m5, m6, m7]) (by
    rw [e]; intro x hx
    simp only [List.mem_cons, List.not_mem_nil, or_false] at hx
    omega)
  have ev : val (subR [l0, l1, l2, l3, l4, l5, l6, l7] [m0, m1, m2, m3, m4, m5, m6, m7]) = (val [l0, l1, l2, l3, l4, l5, l6, l7] - val [m0, m1, m2, m3, m4, m5, m6, m7]) - P * (-2) := by
    rw [e, P_eq]; simp only [val]; omega
  rw [ev, z_minus, z_sub, ha, hb] at h
  exact h

theorem zero_E : E zE 0 := ⟨rfl, by intro x hx; simp [zE] at hx; omega, by rw [show val zE = 0 from rfl, z_zero]⟩
theorem neg_E {l : List Int} {a : F} (hl : E l a) : E (negF l) (-a) := by
  have := sub_E zero_E hl
  have e : (0 : F) - a = -a := by grind
  rw [e] at this
  exact this
end Go.Proofs.Ytdpongijmmdnoaa
