/- plain law: bytes of points (chapter 9) -/
import Derived.Test.YtohebkkiicbdoaaJ13
import Derived.Test.YtohebkkiicbdoaaRfs
set_option linter.unusedSimpArgs false
set_option linter.unusedVariables false
namespace Go.Proofs.Ytohebkkiicbdoaa
open Go.RowKit FdP FdP.Ch
theorem op2_ex {α : Type} (g : F → F → α) : ∃ f : F → F → α, f = g := ⟨g, rfl⟩
noncomputable def ratA : F → F → F := (op2_ex fun u v => abs (rat u v)).choose
theorem ratA_eq (u v : F) : ratA u v = abs (rat u v) := congrFun (congrFun (op2_ex fun u v => abs (rat u v)).choose_spec u) v
noncomputable def ratI : F → F → Prop := (op2_ex fun u v => v * (rat u v * rat u v) = u).choose
theorem ratI_eq (u v : F) : ratI u v = (v * (rat u v * rat u v) = u) := congrFun (congrFun (op2_ex fun u v => v * (rat u v * rat u v) = u).choose_spec u) v
abbrev dU (y : F) : F := y * y - z 1
abbrev dV (y : F) : F := y * y * z (-39081) - z 1
theorem dV_eq (y : F) : dV y = cd * (y * y) - 1 := by
 show y * y * cd - z 1 = _
 rw [z_one]; grind
theorem dU_eq (y : F) : dU y = y * y - 1 := by show y * y - z 1 = _; rw [z_one]
theorem z00 (c : F) : c * ((0 : F) * 0) = 0 := by grind
theorem dV_ne (y : F) : ¬ dV y = 0 := by
 rw [dV_eq]
 intro h
 have h1 : (1 : F) * 1 = cd * (y * y) := by grind
 by_cases hy : y = 0
 ·subst hy
  rw [z00 cd] at h1
  exact absurd (congrArg Fin.val h1) (by decide +kernel)
 ·exact no_sq cd_no hy h1
abbrev On (x y : F) : Prop := x * x + y * y = 1 + cd * ((x * x) * (y * y))
theorem on_iff (x y : F) : On x y ↔ dV y * (x * x) = dU y := by
 rw [dV_eq, dU_eq]
 constructor
 ·intro h; grind
 ·intro h; grind
theorem dX_on {y : F} (h : ratI (dU y) (dV y)) : On (ratA (dU y) (dV y)) y := by
 rw [ratI_eq] at h
 rw [on_iff, ratA_eq, abs_sq]
 exact h
theorem dX_onN {y : F} (h : ratI (dU y) (dV y)) : On (-ratA (dU y) (dV y)) y := by
 have := dX_on h
 show -ratA (dU y) (dV y) * -ratA (dU y) (dV y) + y * y = 1 + cd * ((-ratA (dU y) (dV y) * -ratA (dU y) (dV y)) * (y * y))
 have e : -ratA (dU y) (dV y) * -ratA (dU y) (dV y) = ratA (dU y) (dV y) * ratA (dU y) (dV y) := by grind
 rw [e]; exact this
theorem dX_uniq {x y : F} (h : On x y) : ratI (dU y) (dV y) ∧ ratA (dU y) (dV y) = abs x := by
 have h1 := (on_iff x y).1 h
 have hv := dV_ne y
 rw [ratI_eq, ratA_eq]
 generalize dU y = u at *
 generalize dV y = v at *
 have hi := mul_inv hv
 have key : v * (rat u v * rat u v) = u := by
  by_cases hu : u = 0
  ·rw [rat_zero u v (.inl hu), hu]; grind
  refine (rat_or hu hv).resolve_right fun h2 => ?_
  have e : -(x * x) = rat u v * rat u v := by grind
  have hx : x * x ≠ 0 := fun h0 => hu (by rw [← h1, h0]; grind)
  have r1 := rt_square x
  have r2 := rt_square (rat u v)
  rw [← e] at r2
  exact (rt_neg hx).1 r2 r1
 refine ⟨key, abs_of_sq ?_⟩
 grind
def encB (g : G) : List Int := byF g.y ++ [(byF g.x).getD 0 0 % 2 * 128]
theorem par01 (x : F) : (byF x).getD 0 0 % 2 = 0 ∨ (byF x).getD 0 0 % 2 = 1 := by have := byF_odd x; omega
theorem encB_len (g : G) : (encB g).length = 57 := by unfold encB; rw [List.length_append, byF_len]; rfl
theorem encB_by (g : G) : By (encB g) := by
 intro x hx
 rcases List.mem_append.1 hx with h | h
 ·exact byF_by _ x h
 ·simp only [List.mem_singleton] at h
  have := par01 g.x
  omega
theorem encB_take (g : G) : (encB g).take 56 = byF g.y := by unfold encB; rw [List.take_left' (byF_len _)]
theorem encB_56 (g : G) : (encB g).getD 56 0 = (byF g.x).getD 0 0 % 2 * 128 := by
 unfold encB
 rw [List.getD_eq_getElem?_getD, List.getElem?_append_right (by rw [byF_len]; exact Nat.le_refl _), byF_len]; rfl
theorem by_par (x : F) : x = if (byF x).getD 0 0 % 2 = 0 then abs x else -abs x := by
 have h := byF_odd x
 by_cases ho : x.val % 2 = 1
 ·rw [if_neg (by omega), show abs x = -x from if_pos ho, neg_neg1]
 ·rw [if_pos (by omega), show abs x = x from if_neg ho]
abbrev yOf (b : List Int) : F := z (bval (b.take 56))
def DecOK (b : List Int) : Prop := bval (b.take 56) < P ∧ (b.getD 56 0 = 0 ∨ b.getD 56 0 = 128) ∧ ratI (dU (yOf b)) (dV (yOf b)) ∧ ¬ (ratA (dU (yOf b)) (dV (yOf b)) = 0 ∧ b.getD 56 0 = 128)
noncomputable def decX (b : List Int) : F := if b.getD 56 0 / 128 % 2 = 0 then ratA (dU (yOf b)) (dV (yOf b)) else -ratA (dU (yOf b)) (dV (yOf b))
noncomputable def decG (b : List Int) : G := ofP (decX b) (yOf b)
theorem decX_on {b : List Int} (h : ratI (dU (yOf b)) (dV (yOf b))) : On (decX b) (yOf b) := by
 unfold decX
 split
 ·exact dX_on h
 ·exact dX_onN h
theorem yOf_enc (g : G) : yOf (encB g) = g.y := by show z (bval ((encB g).take 56)) = g.y; rw [encB_take, byF_z]
theorem dec_enc (g : G) : DecOK (encB g) ∧ decG (encB g) = g := by
 have hu := dX_uniq (x := g.x) (y := g.y) g.on
 have hp := par01 g.x
 have hx := by_par g.x
 refine ⟨⟨?_, ?_, ?_, ?_⟩, ?_⟩
 ·rw [encB_take]; exact byF_lt _
 ·rw [encB_56]; omega
 ·rw [yOf_enc]; exact hu.1
 ·rw [yOf_enc, hu.2, encB_56]
  rintro ⟨h0, h1⟩
  have hz := abs_eq_zero h0
  have := byF_odd g.x
  rw [hz] at h1
  rw [hz, zero_val] at this
  omega
 ·have e : decX (encB g) = g.x := by
   unfold decX
   rw [yOf_enc, hu.2, encB_56]
   conv => rhs; rw [hx]
   rcases hp with h | h <;> rw [h] <;> rfl
  unfold decG
  rw [e, yOf_enc]
  exact ofP_eq g
end Go.Proofs.Ytohebkkiicbdoaa
