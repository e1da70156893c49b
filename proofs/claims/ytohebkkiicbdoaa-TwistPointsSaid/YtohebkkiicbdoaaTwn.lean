/- The twisted curve, plain: To is a homomorphism; Back of To. -/
import Derived.Test.YtohebkkiicbdoaaTwm
set_option linter.unusedSimpArgs false
set_option linter.unusedVariables false
namespace Go.Proofs.Ytohebkkiicbdoaa
open FdP FdP.Ch
theorem tw_fin1 {P4 c N num M Z A3 A3n XY u3 w : F} (f1 : P4 * (1 - c) = N) (f2 : P4 * w = 2 * num) (f3 : N * (M * Z) = num * A3n) (f4 : A3 * (Z * Z) = A3n) (f5 : XY * Z = M) (f6 : u3 * A3 = 2 * XY) (n1 : P4 ≠ 0) (n2 : A3 ≠ 0) (n3 : Z ≠ 0) : (1 - c) * u3 = w := by
 apply cancelF (mul_ne n1 (mul_ne n2 (mul_ne n3 n3)))
 have e1 : P4 * (A3 * (Z * Z)) * ((1 - c) * u3) = (P4 * (1 - c)) * ((u3 * A3) * (Z * Z)) := by clear f1 f2 f3 f4 f5 f6 n1 n2 n3; grind
 have e2 : P4 * (A3 * (Z * Z)) * w = (A3 * (Z * Z)) * (P4 * w) := by clear f1 f2 f3 f4 f5 f6 n1 n2 n3 e1; grind
 rw [e1, e2, f1, f6, f4, f2]
 have e3 : N * (2 * XY * (Z * Z)) = 2 * (N * ((XY * Z) * Z)) := by clear f1 f2 f3 f4 f5 f6 n1 n2 n3 e1 e2; grind
 rw [e3, f5, f3]
 clear f1 f2 f3 f4 f5 f6 n1 n2 n3 e1 e2 e3; grind
theorem tw_fin2 {P4 c N num Z B3 E3 B3n v3 w : F} (f1 : P4 * (1 + c) = N) (f2 : P4 * w = num) (f3 : B3n * N = (2 * (Z * Z) - B3n) * num) (f4 : B3 * (Z * Z) = B3n) (f5 : E3 = 2 - B3) (f6 : v3 * E3 = B3) (n1 : P4 ≠ 0) (n2 : E3 ≠ 0) (n3 : Z ≠ 0) : (1 + c) * v3 = w := by
 apply cancelF (mul_ne n1 (mul_ne n2 (mul_ne n3 n3)))
 have e1 : P4 * (E3 * (Z * Z)) * ((1 + c) * v3) = (P4 * (1 + c)) * ((v3 * E3) * (Z * Z)) := by clear f1 f2 f3 f4 f5 f6 n1 n2 n3; grind
 have e2 : P4 * (E3 * (Z * Z)) * w = (E3 * (Z * Z)) * (P4 * w) := by clear f1 f2 f3 f4 f5 f6 n1 n2 n3 e1; grind
 have e3 : E3 * (Z * Z) = 2 * (Z * Z) - B3n := by rw [f5, ← f4]; clear f1 f2 f3 f4 f5 f6 n1 n2 n3 e1 e2; grind
 rw [e1, e2, f1, f6, f4, f2, e3, ← f3]
 clear f1 f2 f3 f4 f5 f6 n1 n2 n3 e1 e2 e3; grind
theorem tq_B {d x y : F} (h : x * x + y * y = 1 + d * ((x * x) * (y * y))) : y * y + x * x = 1 + d * ((x * y) * (x * y)) := by grind
theorem tq_D (d x y r s : F) : d * ((x * r) * (y * s)) = d * ((x * y) * (r * s)) := by grind
theorem tq_Z (D : F) : 1 - D * D = (1 + D) * (1 - D) := by grind
theorem hom {x y r s X Y D : F} (h1 : x * x + y * y = 1 + cd * ((x * x) * (y * y))) (h2 : r * r + s * s = 1 + cd * ((r * r) * (s * s))) (h3 : X * X + Y * Y = 1 + cd * ((X * X) * (Y * Y)))
 (hD : D = cd * ((x * r) * (y * s))) (hX : X * (1 + D) = x * s + r * y) (hY : Y * (1 - D) = y * s - x * r) (n1 : 1 + D ≠ 0) (n2 : 1 - D ≠ 0) :
 (1 - kd * (tuF x y * tuF r s * (tvF x y * tvF r s))) * tuF X Y = tuF x y * tvF r s + tvF x y * tuF r s ∧ (1 + kd * (tuF x y * tuF r s * (tvF x y * tvF r s))) * tvF X Y = tvF x y * tvF r s + tuF x y * tuF r s := by
 have a1 := tuF_mul h1
 have a2 := tvF_mul h1
 have a3 := tuF_mul h2
 have a4 := tvF_mul h2
 have a5 := tuF_mul h3
 have a6 := tvF_mul h3
 have b1 := twA_ne h1
 have b2 := twE_ne h1
 have b3 := twA_ne h2
 have b4 := twE_ne h2
 have b5 := twA_ne h3
 have b6 := twE_ne h3
 generalize tuF x y = u1 at *
 generalize tvF x y = v1 at *
 generalize tuF r s = u2 at *
 generalize tvF r s = v2 at *
 generalize tuF X Y = u3 at *
 generalize tvF X Y = v3 at *
 have c1 := tw_e1 (A := y * y - x * x) (B := y * y + x * x) (m := x * y) (A' := s * s - r * r) (B' := s * s + r * r) (n := r * s) rfl rfl rfl rfl rfl rfl hX hY
 have c1' := tw_e1' (A := y * y - x * x) (B := y * y + x * x) (m := x * y) (A' := s * s - r * r) (B' := s * s + r * r) (n := r * s) rfl rfl rfl rfl rfl rfl hX hY
 have c2 := tw_e2 (A := y * y - x * x) (m := x * y) (A' := s * s - r * r) (n := r * s) rfl rfl rfl rfl hX hY
 have r1 := tw_rel (x := x) (y := y) rfl rfl rfl
 have r2 := tw_rel (x := r) (y := s) rfl rfl rfl
 have q1 : y * y + x * x = 1 + cd * ((x * y) * (x * y)) := tq_B h1
 have q2 : s * s + r * r = 1 + cd * ((r * s) * (r * s)) := tq_B h2
 have q3 : D = cd * ((x * y) * (r * s)) := by rw [hD]; exact tq_D cd x y r s
 have nz : 1 - D * D ≠ 0 := by
  rw [tq_Z]; exact mul_ne n1 n2
 clear hX hY h1 h2 h3 hD
 have e3' : Y * Y + X * X = Y * Y + X * X := rfl
 generalize hA : y * y - x * x = A at *
 generalize hB : y * y + x * x = B at *
 generalize hm : x * y = m at *
 generalize hA' : s * s - r * r = A' at *
 generalize hB' : s * s + r * r = B' at *
 generalize hn : r * s = n at *
 have I1 := tw_I1 kd_eq r1 r2 q1 q2 rfl rfl q3
 have I2 := tw_I2 kd_eq r1 r2 q1 q2 rfl rfl q3
 have np : A * A' * ((2 - B) * (2 - B')) ≠ 0 := mul_ne (mul_ne b1 b3) (mul_ne b2 b4)
 constructor
 ·exact tw_fin1 (tw_e4 a1 a2 a3 a4) (tw_e5 a1 a2 a3 a4) I1 c1 c2 a5 np b5 nz
 ·exact tw_fin2 (tw_e4' a1 a2 a3 a4) (tw_e5' a1 a2 a3 a4) I2 c1' rfl a6 np b6 nz
def tuG (g : G) : F := tuF g.x g.y
def tvG (g : G) : F := tvF g.x g.y
theorem tn_6 (t : F) : 0 * t = 0 := by grind
theorem on_var {d k m A B E u v : F} (hk : k = 1 - d) (hA : A * A = B * B - 4 * (m * m)) (hB : B = 1 + d * (m * m)) (hE : E = 2 - B) (h1 : u * A = 2 * m) (h2 : v * E = B) (nA : A ≠ 0) (nE : E ≠ 0) : v * v - u * u = 1 - k * (u * u * (v * v)) := by
 apply cancelF (mul_ne (mul_ne nA nA) (mul_ne nE nE))
 have e1 : A * A * (E * E) * (v * v - u * u) = (v * E) * (v * E) * (A * A) - (u * A) * (u * A) * (E * E) := by clear hk hA hB hE h1 h2 nA nE; grind
 have e2 : A * A * (E * E) * (1 - k * (u * u * (v * v))) = A * A * (E * E) - k * ((u * A) * (u * A) * ((v * E) * (v * E))) := by clear hk hA hB hE h1 h2 nA nE e1; grind
 rw [e1, e2, h1, h2, hA]
 clear e1 e2 h1 h2 hA nA nE
 subst hk hE hB
 grind
theorem onG (g : G) : tvG g * tvG g - tuG g * tuG g = 1 - kd * (tuG g * tuG g * (tvG g * tvG g)) :=
 on_var kd_eq (tw_rel rfl rfl rfl) (tq_B g.on) rfl (tuF_mul g.on) (tvF_mul g.on) (twA_ne g.on) (twE_ne g.on)
end Go.Proofs.Ytohebkkiicbdoaa
