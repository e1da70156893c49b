/- plain law: bytes of points (chapter 9) -/
import Derived.Test.YtmhpagceheekcaaJ13
import Derived.Test.YtmhpagceheekcaaRfs
set_option linter.unusedSimpArgs false
set_option linter.unusedVariables false
namespace Go.Proofs.Ytmhpagceheekcaa
open Go.RowKit FdP FdP.Ch
theorem op2_ex {α : Type} (g : F → F → α) : ∃ f : F → F → α, f = g := ⟨g, rfl⟩
/-- a ratio's root, and whether it is one: for the kernel not to open -/
noncomputable def ratA : F → F → F := (op2_ex fun u v => abs (rat u v)).choose
theorem ratA_eq (u v : F) : ratA u v = abs (rat u v) := congrFun (congrFun (op2_ex fun u v => abs (rat u v)).choose_spec u) v
noncomputable def ratI : F → F → Prop := (op2_ex fun u v => v * (rat u v * rat u v) = u).choose
theorem ratI_eq (u v : F) : ratI u v = (v * (rat u v * rat u v) = u) := congrFun (congrFun (op2_ex fun u v => v * (rat u v * rat u v) = u).choose_spec u) v
abbrev dU (y : F) : F := y * y - z 1
abbrev dV (y : F) : F := y * y * z (-39081) - z 1
theorem dV_eq (y : F) : dV y = cd * (y * y) - 1 := by
  show y * y * cd - z 1 = _
  rw [z_one]; grind
theorem dU_eq (y : F) : dU y = y * y - 1 := by show y * y - z 1 = _; rw [z_one]
theorem z00 (c : F) : c * ((0 : F) * 0) = 0 := by grind
theorem dV_ne (y : F) : ¬ dV y = 0 := by
  rw [dV_eq]
  intro h
  have h1 : (1 : F) * 1 = cd * (y * y) := by grind
  by_cases hy : y = 0
  · subst hy
    rw [z00 cd] at h1
    exact absurd (congrArg Fin.val h1) (by decide +kernel)
  · exact no_sq cd_no hy h1
/-- x y is a point -/
abbrev On (x y : F) : Prop := x * x + y * y = 1 + cd * ((x * x) * (y * y))
theorem on_iff (x y : F) : On x y ↔ dV y * (x * x) = dU y := by
  rw [dV_eq, dU_eq]
  constructor
  · intro h; grind
  · intro h; grind
theorem dX_on {y : F} (h : ratI (dU y) (dV y)) : On (ratA (dU y) (dV y)) y := by
  rw [ratI_eq] at h
  rw [on_iff, ratA_eq, abs_sq]
  exact h
theorem dX_onN {y : F} (h : ratI (dU y) (dV y)) : On (-ratA (dU y) (dV y)) y := by
  have := dX_on h
  show -ratA (dU y) (dV y) * -ratA (dU y) (dV y) + y * y = 1 + cd * ((-ratA (dU y) (dV y) * -ratA (dU y) (dV y)) * (y * y))
  have e : -ratA (dU y) (dV y) * -ratA (dU y) (dV y) = ratA (dU y) (dV y) * ratA (dU y) (dV y) := by grind
  rw [e]; exact this
theorem dX_uniq {x y : F} (h : On x y) : ratI (dU y) (dV y) ∧ ratA (dU y) (dV y) = abs x := by
  have h1 := (on_iff x y).1 h
  have hv := dV_ne y
  rw [ratI_eq, ratA_eq]
  generalize dU y = u at *
  generalize dV y = v at *
  have hi := mul_inv hv
  have key : v * (rat u v * rat u v) = u := by
    by_cases hu : u = 0
    · rw [rat_zero u v (.inl hu), hu]; grind
    refine (rat_or hu hv).resolve_right fun h2 => ?_
    have e : -(x * x) = rat u v * rat u v := by grind
    have hx : x * x ≠ 0 := fun h0 => hu (by rw [← h1, h0]; grind)
    have r1 := rt_square x
    have r2 := rt_square (rat u v)
    rw [← e] at r2
    exact (rt_neg hx).1 r2 r1
  refine ⟨key, abs_of_sq ?_⟩
  grind
/-- a point's 57 bytes -/
def encB (g : G) : List Int := byF g.y ++ [(byF g.x).getD 0 0 % 2 * 128]
theorem par01 (x : F) : (byF x).getD 0 0 % 2 = 0 ∨ (byF x).getD 0 0 % 2 = 1 := by have := byF_odd x; omega
theorem encB_len (g : G) : (encB g).length = 57 := by unfold encB; rw [List.length_append, byF_len]; rfl
theorem encB_by (g : G) : By (encB g) := by
  intro x hx
  rcases List.mem_append.1 hx with h | h
  · exact byF_by _ x h
  · simp only [List.mem_singleton] at h
    have := par01 g.x
    omega
theorem encB_take (g : G) : (encB g).take 56 = byF g.y := by unfold encB; rw [List.take_left' (byF_len _)]
theorem encB_56 (g : G) : (encB g).getD 56 0 = (byF g.x).getD 0 0 % 2 * 128 := by
  unfold encB
  rw [List.getD_eq_getElem?_getD, List.getElem?_append_right (by rw [byF_len]; exact Nat.le_refl _), byF_len]; rfl
theorem by_par (x : F) : x = if (byF x).getD 0 0 % 2 = 0 then abs x else -abs x := by
  have h := byF_odd x
  by_cases ho : x.val % 2 = 1
  · rw [if_neg (by omega), show abs x = -x from if_pos ho, neg_neg1]
  · rw [if_pos (by omega), show abs x = x from if_neg ho]
abbrev yOf (b : List Int) : F := z (bval (b.take 56))
/-- a point's bytes? -/
def DecOK (b : List Int) : Prop := bval (b.take 56) < P ∧ (b.getD 56 0 = 0 ∨ b.getD 56 0 = 128) ∧ ratI (dU (yOf b)) (dV (yOf b)) ∧ ¬ (ratA (dU (yOf b)) (dV (yOf b)) = 0 ∧ b.getD 56 0 = 128)
noncomputable def decX (b : List Int) : F := if b.getD 56 0 / 128 % 2 = 0 then ratA (dU (yOf b)) (dV (yOf b)) else -ratA (dU (yOf b)) (dV (yOf b))
noncomputable def decG (b : List Int) : G := ofP (decX b) (yOf b)
theorem decX_on {b : List Int} (h : ratI (dU (yOf b)) (dV (yOf b))) : On (decX b) (yOf b) := by
  unfold decX
  split
  · exact dX_on h
  · exact dX_onN h
theorem decG_x {b : List Int} (h : ratI (dU (yOf b)) (dV (yOf b))) : (decG b).x = decX b ∧ (decG b).y = yOf b := ofP_x (decX_on h)
theorem yOf_enc (g : G) : yOf (encB g) = g.y := by show z (bval ((encB g).take 56)) = g.y; rw [encB_take, byF_z]
theorem dec_enc (g : G) : DecOK (encB g) ∧ decG (encB g) = g := by
  have hu := dX_uniq (x := g.x) (y := g.y) g.on
  have hp := par01 g.x
  have hx := by_par g.x
  refine ⟨⟨?_, ?_, ?_, ?_⟩, ?_⟩
  · rw [encB_take]; exact byF_lt _
  · rw [encB_56]; omega
  · rw [yOf_enc]; exact hu.1
  · rw [yOf_enc, hu.2, encB_56]
    rintro ⟨h0, h1⟩
    have hz := abs_eq_zero h0
    have := byF_odd g.x
    rw [hz] at h1
    rw [hz, zero_val] at this
    omega
  · have e : decX (encB g) = g.x := by
      unfold decX
      rw [yOf_enc, hu.2, encB_56]
      conv => rhs; rw [hx]
      rcases hp with h | h <;> rw [h] <;> rfl
    unfold decG
    rw [e, yOf_enc]
    exact ofP_eq g
theorem getD_split {b : List Int} (h : b.length = 57) : b = b.take 56 ++ [b.getD 56 0] := by
  apply List.ext_getElem
  · simp; omega
  · intro i h1 h2
    by_cases hi : i < 56
    · rw [List.getElem_append_left (by simp; omega), List.getElem_take]
    · have e : i = 56 := by omega
      subst e
      rw [List.getElem_append_right (by simp; omega)]
      simp [List.getD, h]
theorem enc_dec {b : List Int} (hl : b.length = 57) (hb : By b) (h : DecOK b) : encB (decG b) = b := by
  obtain ⟨h1, h2, h3, h4⟩ := h
  obtain ⟨ex, ey⟩ := decG_x h3
  have hr : ¬ (ratA (dU (yOf b)) (dV (yOf b))).val % 2 = 1 := by rw [ratA_eq]; exact abs_even _
  have e1 : byF (yOf b) = b.take 56 := byF_of (by simp; omega) (fun x hx => hb x (List.mem_of_mem_take hx)) h1
  have e2 : (byF (decX b)).getD 0 0 % 2 * 128 = b.getD 56 0 := by
    have hq := byF_odd (decX b)
    rcases h2 with h | h
    · have e : decX b = ratA (dU (yOf b)) (dV (yOf b)) := by unfold decX; rw [h]; exact if_pos rfl
      rw [e] at hq ⊢
      omega
    · have e : decX b = -ratA (dU (yOf b)) (dV (yOf b)) := by unfold decX; rw [h]; exact if_neg (by decide)
      have hne : ratA (dU (yOf b)) (dV (yOf b)) ≠ 0 := fun hz => h4 ⟨hz, h⟩
      have := (neg_odd hne).2 hr
      rw [e] at hq ⊢
      omega
  conv => rhs; rw [getD_split hl]
  unfold encB
  rw [ex, ey, e1, e2]
theorem encB_inj {g h : G} (e : encB g = encB h) : g = h := by rw [← (dec_enc g).2, ← (dec_enc h).2, e]
theorem encB_iff {g h : G} : encB g = encB h ↔ g = h := ⟨encB_inj, fun e => by rw [e]⟩
/-- a point turned round: the last byte is the same just if x is 0 -/
theorem encB_neg (g : G) : (encB g).take 56 = (encB (-g)).take 56 ∧ ((encB g).getD 56 0 = (encB (-g)).getD 56 0 ↔ g.x = 0) := by
  refine ⟨by rw [encB_take, encB_take]; rfl, ?_⟩
  rw [encB_56, encB_56]
  show (byF g.x).getD 0 0 % 2 * 128 = (byF (-g.x)).getD 0 0 % 2 * 128 ↔ _
  have h1 := byF_odd g.x
  have h2 := byF_odd (-g.x)
  constructor
  · intro h
    by_cases hz : g.x = 0
    · exact hz
    · have := neg_odd hz
      omega
  · intro h
    rw [h, neg_zero']
end Go.Proofs.Ytmhpagceheekcaa
