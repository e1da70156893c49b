/- The twisted curve, plain. -/
import Derived.Test.YtohebkkiicbdoaaJ13
set_option linter.unusedSimpArgs false
set_option linter.unusedVariables false
namespace Go.Proofs.Ytohebkkiicbdoaa
open FdP FdP.Ch
theorem tw_rel {x y A B m : F} (hA : A = y * y - x * x) (hB : B = y * y + x * x) (hm : m = x * y) : A * A = B * B - 4 * (m * m) := by subst hA hB hm; grind
theorem tw_I1 {d k m n A A' B B' E E' D : F} (hk : k = 1 - d) (hA : A * A = B * B - 4 * (m * m)) (hA' : A' * A' = B' * B' - 4 * (n * n)) (hB : B = 1 + d * (m * m)) (hB' : B' = 1 + d * (n * n)) (hE : E = 2 - B) (hE' : E' = 2 - B') (hD : D = d * (m * n)) :
 (A * A' * (E * E') - 4 * k * (m * n) * (B * B')) * ((m * A' + n * A) * (1 - D * D)) = (m * A' * (E * B') + n * A * (E' * B)) * ((A * A' - 4 * (m * n)) * (1 + D * D) + 2 * (D * (B * B'))) := by
 subst hE hE' hD hk
 have a1 := hA
 have a2 := hA'
 subst hB hB'
 grind
theorem tw_I2 {d k m n A A' B B' E E' D : F} (hk : k = 1 - d) (hA : A * A = B * B - 4 * (m * m)) (hA' : A' * A' = B' * B' - 4 * (n * n)) (hB : B = 1 + d * (m * m)) (hB' : B' = 1 + d * (n * n)) (hE : E = 2 - B) (hE' : E' = 2 - B') (hD : D = d * (m * n)) :
 (B * B' * (1 + D * D) + 2 * (D * (A * A')) - 8 * (m * n * D)) * (A * A' * (E * E') + 4 * k * (m * n) * (B * B')) = (2 * ((1 - D * D) * (1 - D * D)) - (B * B' * (1 + D * D) + 2 * (D * (A * A')) - 8 * (m * n * D))) * (B * B' * (A * A') + 4 * (m * n) * (E * E')) := by
 subst hE hE' hD hk
 have a1 := hA
 have a2 := hA'
 subst hB hB'
 grind
theorem tz' (a : F) : a * 0 = 0 := by grind
theorem ta (a : F) : a + 0 = a := by grind
def kd : F := z 39082
theorem kd_eq : kd = 1 - cd := by apply Fin.ext; decide +kernel
theorem kd_val : kd.val = 39082 := by decide +kernel
theorem kd_ne : kd ≠ 0 := by
 intro e
 have := congrArg Fin.val e
 rw [kd_val] at this
 revert this; decide +kernel
theorem kd_no : ¬ Sq kd := by
 rw [not_sq_iff kd_ne]
 apply Fin.ext
 rw [pow_mp kd H 450 (by decide +kernel), kd_val]
 decide +kernel
def m1 : F := -1
theorem twA_ne {x y : F} (h : x * x + y * y = 1 + cd * ((x * x) * (y * y))) : y * y - x * x ≠ 0 := by
 intro e
 refine no_sq kd_no (w := 1) one_ne (a := cd * (x * x) - 1) ?_
 rw [kd_eq]
 generalize cd = d at *
 grind
theorem twE_ne {x y : F} (h : x * x + y * y = 1 + cd * ((x * x) * (y * y))) : 2 - (y * y + x * x) ≠ 0 := by
 intro e
 have e2 : cd * ((x * y) * (x * y)) = 1 := by generalize cd = d at *; grind
 have hw : x * y ≠ 0 := by
  intro g
  rw [g] at e2
  exact one_ne (by rw [← e2]; grind)
 exact no_sq cd_no hw (a := 1) (by rw [e2]; generalize cd = d at *; grind)
def tuF (x y : F) : F := 2 * (x * y) * inv (y * y - x * x)
def tvF (x y : F) : F := (y * y + x * x) * inv (2 - (y * y + x * x))
theorem over_mul {a b : F} (h : b ≠ 0) : a * inv b * b = a := by have := mul_inv h; grind
theorem tuF_mul {x y : F} (h : x * x + y * y = 1 + cd * ((x * x) * (y * y))) : tuF x y * (y * y - x * x) = 2 * (x * y) := over_mul (twA_ne h)
theorem tvF_mul {x y : F} (h : x * x + y * y = 1 + cd * ((x * x) * (y * y))) : tvF x y * (2 - (y * y + x * x)) = y * y + x * x := over_mul (twE_ne h)
theorem tw_e1 {x y r s X Y D A B m A' B' n : F} (hA : A = y * y - x * x) (hB : B = y * y + x * x) (hm : m = x * y) (hA' : A' = s * s - r * r) (hB' : B' = s * s + r * r) (hn : n = r * s) (hX : X * (1 + D) = x * s + r * y) (hY : Y * (1 - D) = y * s - x * r) :
 (Y * Y - X * X) * ((1 - D * D) * (1 - D * D)) = (A * A' - 4 * (m * n)) * (1 + D * D) + 2 * (D * (B * B')) := by
 have k1 : (Y * Y - X * X) * ((1 - D * D) * (1 - D * D)) = (Y * (1 - D)) * (Y * (1 - D)) * ((1 + D) * (1 + D)) - (X * (1 + D)) * (X * (1 + D)) * ((1 - D) * (1 - D)) := by clear hX hY; grind
 rw [k1, hX, hY]
 clear k1 hX hY
 subst hA hB hm hA' hB' hn
 grind
theorem tw_e1' {x y r s X Y D A B m A' B' n : F} (hA : A = y * y - x * x) (hB : B = y * y + x * x) (hm : m = x * y) (hA' : A' = s * s - r * r) (hB' : B' = s * s + r * r) (hn : n = r * s) (hX : X * (1 + D) = x * s + r * y) (hY : Y * (1 - D) = y * s - x * r) :
 (Y * Y + X * X) * ((1 - D * D) * (1 - D * D)) = B * B' * (1 + D * D) + 2 * (D * (A * A')) - 8 * (m * n * D) := by
 have k1 : (Y * Y + X * X) * ((1 - D * D) * (1 - D * D)) = (Y * (1 - D)) * (Y * (1 - D)) * ((1 + D) * (1 + D)) + (X * (1 + D)) * (X * (1 + D)) * ((1 - D) * (1 - D)) := by clear hX hY; grind
 rw [k1, hX, hY]
 clear k1 hX hY
 subst hA hB hm hA' hB' hn
 grind
theorem tw_e2 {x y r s X Y D A m A' n : F} (hA : A = y * y - x * x) (hm : m = x * y) (hA' : A' = s * s - r * r) (hn : n = r * s) (hX : X * (1 + D) = x * s + r * y) (hY : Y * (1 - D) = y * s - x * r) : X * Y * (1 - D * D) = m * A' + n * A := by
 have k1 : X * Y * (1 - D * D) = (X * (1 + D)) * (Y * (1 - D)) := by clear hX hY; grind
 rw [k1, hX, hY]
 subst hA hm hA' hn
 grind
theorem tw_e4 {k u1 u2 v1 v2 A A' E E' B B' m n : F} (h1 : u1 * A = 2 * m) (h2 : v1 * E = B) (h3 : u2 * A' = 2 * n) (h4 : v2 * E' = B') : A * A' * (E * E') * (1 - k * (u1 * u2 * (v1 * v2))) = A * A' * (E * E') - 4 * k * (m * n) * (B * B') := by
 have : A * A' * (E * E') * (1 - k * (u1 * u2 * (v1 * v2))) = A * A' * (E * E') - k * ((u1 * A) * (u2 * A') * ((v1 * E) * (v2 * E'))) := by clear h1 h2 h3 h4; grind
 rw [this, h1, h2, h3, h4]; grind
theorem tw_e4' {k u1 u2 v1 v2 A A' E E' B B' m n : F} (h1 : u1 * A = 2 * m) (h2 : v1 * E = B) (h3 : u2 * A' = 2 * n) (h4 : v2 * E' = B') : A * A' * (E * E') * (1 + k * (u1 * u2 * (v1 * v2))) = A * A' * (E * E') + 4 * k * (m * n) * (B * B') := by
 have : A * A' * (E * E') * (1 + k * (u1 * u2 * (v1 * v2))) = A * A' * (E * E') + k * ((u1 * A) * (u2 * A') * ((v1 * E) * (v2 * E'))) := by clear h1 h2 h3 h4; grind
 rw [this, h1, h2, h3, h4]; grind
theorem tw_e5 {u1 u2 v1 v2 A A' E E' B B' m n : F} (h1 : u1 * A = 2 * m) (h2 : v1 * E = B) (h3 : u2 * A' = 2 * n) (h4 : v2 * E' = B') : A * A' * (E * E') * (u1 * v2 + v1 * u2) = 2 * (m * A' * (E * B') + n * A * (E' * B)) := by
 have : A * A' * (E * E') * (u1 * v2 + v1 * u2) = (u1 * A) * A' * (E * (v2 * E')) + (u2 * A') * A * (E' * (v1 * E)) := by clear h1 h2 h3 h4; grind
 rw [this, h1, h2, h3, h4]; grind
theorem tw_e5' {u1 u2 v1 v2 A A' E E' B B' m n : F} (h1 : u1 * A = 2 * m) (h2 : v1 * E = B) (h3 : u2 * A' = 2 * n) (h4 : v2 * E' = B') : A * A' * (E * E') * (v1 * v2 + u1 * u2) = B * B' * (A * A') + 4 * (m * n) * (E * E') := by
 have : A * A' * (E * E') * (v1 * v2 + u1 * u2) = (v1 * E) * (v2 * E') * (A * A') + (u1 * A) * (u2 * A') * (E * E') := by clear h1 h2 h3 h4; grind
 rw [this, h1, h2, h3, h4]; grind
theorem cancelF {a b c : F} (ha : a ≠ 0) (h : a * b = a * c) : b = c := by
 have := mul_inv ha
 have e : inv a * (a * b) = inv a * (a * c) := by rw [h]
 grind
end Go.Proofs.Ytohebkkiicbdoaa
