/- The twisted curve, plain: To is a homomorphism; Back of To. -/
import Derived.Test.YtohebkkiicbdoaaGreatTwm
set_option linter.unusedSimpArgs false
set_option linter.unusedVariables false
namespace Go.Proofs.YtohebkkiicbdoaaGreat
open FdP FdP.Ch
theorem tw_fin1 {P4 c N num M Z A3 A3n XY u3 w : F} (f1 : P4 * (1 - c) = N) (f2 : P4 * w = 2 * num) (f3 : N * (M * Z) = num * A3n) (f4 : A3 * (Z * Z) = A3n) (f5 : XY * Z = M) (f6 : u3 * A3 = 2 * XY) (n1 : P4 ≠ 0) (n2 : A3 ≠ 0) (n3 : Z ≠ 0) : (1 - c) * u3 = w := by
  apply cancelF (mul_ne n1 (mul_ne n2 (mul_ne n3 n3)))
  have e1 : P4 * (A3 * (Z * Z)) * ((1 - c) * u3) = (P4 * (1 - c)) * ((u3 * A3) * (Z * Z)) := by clear f1 f2 f3 f4 f5 f6 n1 n2 n3; grind
  have e2 : P4 * (A3 * (Z * Z)) * w = (A3 * (Z * Z)) * (P4 * w) := by clear f1 f2 f3 f4 f5 f6 n1 n2 n3 e1; grind
  rw [e1, e2, f1, f6, f4, f2]
  have e3 : N * (2 * XY * (Z * Z)) = 2 * (N * ((XY * Z) * Z)) := by clear f1 f2 f3 f4 f5 f6 n1 n2 n3 e1 e2; grind
  rw [e3, f5, f3]
  clear f1 f2 f3 f4 f5 f6 n1 n2 n3 e1 e2 e3; grind
theorem tw_fin2 {P4 c N num Z B3 E3 B3n v3 w : F} (f1 : P4 * (1 + c) = N) (f2 : P4 * w = num) (f3 : B3n * N = (2 * (Z * Z) - B3n) * num) (f4 : B3 * (Z * Z) = B3n) (f5 : E3 = 2 - B3) (f6 : v3 * E3 = B3) (n1 : P4 ≠ 0) (n2 : E3 ≠ 0) (n3 : Z ≠ 0) : (1 + c) * v3 = w := by
  apply cancelF (mul_ne n1 (mul_ne n2 (mul_ne n3 n3)))
  have e1 : P4 * (E3 * (Z * Z)) * ((1 + c) * v3) = (P4 * (1 + c)) * ((v3 * E3) * (Z * Z)) := by clear f1 f2 f3 f4 f5 f6 n1 n2 n3; grind
  have e2 : P4 * (E3 * (Z * Z)) * w = (E3 * (Z * Z)) * (P4 * w) := by clear f1 f2 f3 f4 f5 f6 n1 n2 n3 e1; grind
  have e3 : E3 * (Z * Z) = 2 * (Z * Z) - B3n := by rw [f5, ← f4]; clear f1 f2 f3 f4 f5 f6 n1 n2 n3 e1 e2; grind
  rw [e1, e2, f1, f6, f4, f2, e3, ← f3]
  clear f1 f2 f3 f4 f5 f6 n1 n2 n3 e1 e2 e3; grind
theorem tq_B {d x y : F} (h : x * x + y * y = 1 + d * ((x * x) * (y * y))) : y * y + x * x = 1 + d * ((x * y) * (x * y)) := by grind
theorem tq_D (d x y r s : F) : d * ((x * r) * (y * s)) = d * ((x * y) * (r * s)) := by grind
theorem tq_Z (D : F) : 1 - D * D = (1 + D) * (1 - D) := by grind
theorem tq_n (a : F) : 1 + -a = 1 - a := by grind
theorem tq_n' (a : F) : 1 - -a = 1 + a := by grind
theorem tq_0 (k u v w : F) : k * (u * 0 * (v * w)) = 0 := by grind
theorem tq_0' (k u v w : F) : k * (u * v * (0 * w)) = 0 := by grind
theorem hom {x y r s X Y D : F} (h1 : x * x + y * y = 1 + cd * ((x * x) * (y * y))) (h2 : r * r + s * s = 1 + cd * ((r * r) * (s * s))) (h3 : X * X + Y * Y = 1 + cd * ((X * X) * (Y * Y)))
    (hD : D = cd * ((x * r) * (y * s))) (hX : X * (1 + D) = x * s + r * y) (hY : Y * (1 - D) = y * s - x * r) (n1 : 1 + D ≠ 0) (n2 : 1 - D ≠ 0) :
    (1 - kd * (tuF x y * tuF r s * (tvF x y * tvF r s))) * tuF X Y = tuF x y * tvF r s + tvF x y * tuF r s ∧ (1 + kd * (tuF x y * tuF r s * (tvF x y * tvF r s))) * tvF X Y = tvF x y * tvF r s + tuF x y * tuF r s := by
  have a1 := tuF_mul h1
  have a2 := tvF_mul h1
  have a3 := tuF_mul h2
  have a4 := tvF_mul h2
  have a5 := tuF_mul h3
  have a6 := tvF_mul h3
  have b1 := twA_ne h1
  have b2 := twE_ne h1
  have b3 := twA_ne h2
  have b4 := twE_ne h2
  have b5 := twA_ne h3
  have b6 := twE_ne h3
  generalize tuF x y = u1 at *
  generalize tvF x y = v1 at *
  generalize tuF r s = u2 at *
  generalize tvF r s = v2 at *
  generalize tuF X Y = u3 at *
  generalize tvF X Y = v3 at *
  have c1 := tw_e1 (A := y * y - x * x) (B := y * y + x * x) (m := x * y) (A' := s * s - r * r) (B' := s * s + r * r) (n := r * s) rfl rfl rfl rfl rfl rfl hX hY
  have c1' := tw_e1' (A := y * y - x * x) (B := y * y + x * x) (m := x * y) (A' := s * s - r * r) (B' := s * s + r * r) (n := r * s) rfl rfl rfl rfl rfl rfl hX hY
  have c2 := tw_e2 (A := y * y - x * x) (m := x * y) (A' := s * s - r * r) (n := r * s) rfl rfl rfl rfl hX hY
  have r1 := tw_rel (x := x) (y := y) rfl rfl rfl
  have r2 := tw_rel (x := r) (y := s) rfl rfl rfl
  have q1 : y * y + x * x = 1 + cd * ((x * y) * (x * y)) := tq_B h1
  have q2 : s * s + r * r = 1 + cd * ((r * s) * (r * s)) := tq_B h2
  have q3 : D = cd * ((x * y) * (r * s)) := by rw [hD]; exact tq_D cd x y r s
  have nz : 1 - D * D ≠ 0 := by
    rw [tq_Z]; exact mul_ne n1 n2
  clear hX hY h1 h2 h3 hD
  have e3' : Y * Y + X * X = Y * Y + X * X := rfl
  generalize hA : y * y - x * x = A at *
  generalize hB : y * y + x * x = B at *
  generalize hm : x * y = m at *
  generalize hA' : s * s - r * r = A' at *
  generalize hB' : s * s + r * r = B' at *
  generalize hn : r * s = n at *
  have I1 := tw_I1 kd_eq r1 r2 q1 q2 rfl rfl q3
  have I2 := tw_I2 kd_eq r1 r2 q1 q2 rfl rfl q3
  have np : A * A' * ((2 - B) * (2 - B')) ≠ 0 := mul_ne (mul_ne b1 b3) (mul_ne b2 b4)
  constructor
  · exact tw_fin1 (tw_e4 a1 a2 a3 a4) (tw_e5 a1 a2 a3 a4) I1 c1 c2 a5 np b5 nz
  · exact tw_fin2 (tw_e4' a1 a2 a3 a4) (tw_e5' a1 a2 a3 a4) I2 c1' rfl a6 np b6 nz
def tuG (g : G) : F := tuF g.x g.y
def tvG (g : G) : F := tvF g.x g.y
def tcG (p q : G) : F := kd * (tuG p * tuG q * (tvG p * tvG q))
theorem homG (p q : G) : (1 - tcG p q) * tuG (p + q) = tuG p * tvG q + tvG p * tuG q ∧ (1 + tcG p q) * tvG (p + q) = tvG p * tvG q + tuG p * tuG q :=
  hom p.on q.on (p + q).on rfl (Ed.add_x cd_no p q) (Ed.add_y cd_no p q) (up_ne cd_no p.on q.on) (dn_ne cd_no p.on q.on)
theorem tn_1 (x y : F) : y * y - -x * -x = y * y - x * x := by grind
theorem tn_2 (x y : F) : y * y + -x * -x = y * y + x * x := by grind
theorem tn_3 (x y i : F) : 2 * (-x * y) * i = -(2 * (x * y) * i) := by grind
theorem tn_4 (k u v w t : F) : k * (-u * v * (w * t)) = -(k * (u * v * (w * t))) := by grind
theorem tn_6 (t : F) : 0 * t = 0 := by grind
theorem dbl_var {d x y X Y : F} (h3 : x * x + y * y = 1 + d * ((x * x) * (y * y))) (h1 : X * (1 + d * ((x * x) * (y * y))) = x * y + x * y) (h2 : Y * (1 - d * ((x * x) * (y * y))) = y * y - x * x) : X * (y * y + x * x) = 2 * (x * y) ∧ Y * (2 - (y * y + x * x)) = y * y - x * x := by
  have e : d * ((x * x) * (y * y)) = y * y + x * x - 1 := by clear h1 h2; grind
  rw [e] at h1 h2
  clear e h3
  constructor
  · clear h2; grind
  · clear h1; grind
theorem tn_5 {c : F} (h : 1 - c = 0) : c = 1 := by grind
theorem tuG_neg (p : G) : tuG (-p) = -tuG p := by
  show 2 * (-p.x * p.y) * inv (p.y * p.y - -p.x * -p.x) = -(2 * (p.x * p.y) * inv (p.y * p.y - p.x * p.x))
  rw [tn_1, tn_3]
theorem tvG_neg (p : G) : tvG (-p) = tvG p := by
  show (p.y * p.y + -p.x * -p.x) * inv (2 - (p.y * p.y + -p.x * -p.x)) = (p.y * p.y + p.x * p.x) * inv (2 - (p.y * p.y + p.x * p.x))
  rw [tn_2]
theorem tcG_neg (p q : G) : tcG (-p) q = -tcG p q := by unfold tcG; rw [tuG_neg, tvG_neg, tn_4]
theorem tc_ne1 (p q : G) : 1 - tcG p q ≠ 0 := by
  intro e
  have h1 := (homG p q).1
  have h2 := (homG (-p) q).2
  rw [tcG_neg, tuG_neg, tvG_neg, tq_n, e] at h2
  rw [e] at h1
  have h3 : tcG p q = 1 := tn_5 e
  unfold tcG at h3
  generalize tuG (p + q) = u3 at *
  generalize tvG (-p + q) = v3 at *
  generalize tuG p = u1 at *
  generalize tuG q = u2 at *
  generalize tvG p = v1 at *
  generalize tvG q = v2 at *
  generalize kd = k at *
  have k1 : u2 * (v1 * v1 + u1 * u1) = 0 := by clear h3 e; grind
  rcases mul_zero k1 with k2 | k2
  · rw [k2] at h3
    exact one_ne (by rw [← h3]; exact tq_0 k u1 v1 v2)
  · by_cases hv : v1 = 0
    · rw [hv] at h3
      exact one_ne (by rw [← h3]; exact tq_0' k u1 u2 v2)
    · exact sum_sq_ne hv k2
theorem tc_ne2 (p q : G) : 1 + tcG p q ≠ 0 := by
  have := tc_ne1 (-p) q
  rw [tcG_neg, tq_n'] at this
  exact this
theorem over_eq {a b c : F} (hb : b ≠ 0) (h : b * c = a) : a * inv b = c := by have := mul_inv hb; grind
theorem add_u (p q : G) : (tuG p * tvG q + tvG p * tuG q) * inv (1 - tcG p q) = tuG (p + q) := over_eq (tc_ne1 p q) (homG p q).1
theorem add_v (p q : G) : (tvG p * tvG q + tuG p * tuG q) * inv (1 + tcG p q) = tvG (p + q) := over_eq (tc_ne2 p q) (homG p q).2
theorem tvG_ne (g : G) : tvG g ≠ 0 := by
  intro e
  have h := tvF_mul g.on
  have h0 : tvF g.x g.y = 0 := e
  rw [h0] at h
  have hb := twB_ne g.on
  rw [← h] at hb
  exact hb (by generalize 2 - (g.y * g.y + g.x * g.x) = t; clear h h0 hb e; exact tn_6 t)
theorem bk_var {u v x2 y2 A B E : F} (h1 : u * A = x2 * B) (h2 : v * E = B) (h3 : y2 * E = A) (nE : E ≠ 0) : u * y2 = x2 * v := by
  apply cancelF nE
  subst h2 h3
  have : E * (u * y2) = u * (y2 * E) := by clear h1; grind
  rw [this, h1]; clear this h1; grind
theorem bk_x {u v x2 y2 : F} (h : u * y2 = x2 * v) : u * v * (y2 * y2 + x2 * x2) = x2 * y2 * (v * v + u * u) := by grind
theorem bk_y2 {x2 y2 m A B E v : F} (hA : A * A = B * B - 4 * (m * m)) (hx : x2 * B = 2 * m) (h2 : v * E = B) (h3 : y2 * E = A) (nE : E ≠ 0) : y2 * y2 = v * v - x2 * x2 * (v * v) := by
  apply cancelF (mul_ne nE nE)
  have e1 : E * E * (y2 * y2) = (y2 * E) * (y2 * E) := by clear hA hx h2 h3 nE; grind
  have e2 : E * E * (v * v - x2 * x2 * (v * v)) = (v * E) * (v * E) - (x2 * (v * E)) * (x2 * (v * E)) := by clear hA hx h2 h3 nE e1; grind
  rw [e1, e2, h2, h3, hx, hA]; clear e1 e2 h2 h3 hx hA nE; grind
theorem bk_n {u v x2 y2 : F} (h : u * y2 = x2 * v) (hy : y2 * y2 = v * v - x2 * x2 * (v * v)) : y2 * y2 * (2 - (v * v - u * u)) = v * v * (2 - (y2 * y2 + x2 * x2)) := by
  have h' : (u * y2) * (u * y2) = (x2 * v) * (x2 * v) := by rw [h]
  clear h; grind
theorem bk_m {u v x2 y2 : F} (h : u * y2 = x2 * v) : y2 * y2 * (v * v - u * u) = v * v * (y2 * y2 - x2 * x2) := by
  have h' : (u * y2) * (u * y2) = (x2 * v) * (x2 * v) := by rw [h]
  clear h; grind
theorem bk_X {u v x2 y2 X : F} (h : u * y2 = x2 * v) (hX : X * (y2 * y2 + x2 * x2) = 2 * (x2 * y2)) (n2 : y2 * y2 + x2 * x2 ≠ 0) : (v * v + u * u) * X = 2 * (u * v) := by
  apply cancelF n2
  have e := bk_x h
  have e1 : (y2 * y2 + x2 * x2) * ((v * v + u * u) * X) = (X * (y2 * y2 + x2 * x2)) * (v * v + u * u) := by clear h hX n2 e; grind
  rw [e1, hX]
  have e2 : (y2 * y2 + x2 * x2) * (2 * (u * v)) = 2 * (u * v * (y2 * y2 + x2 * x2)) := by clear h hX n2 e e1; grind
  rw [e2, e]; clear h hX n2 e e1 e2; grind
theorem bk_Y {u v x2 y2 Y : F} (h : u * y2 = x2 * v) (hy : y2 * y2 = v * v - x2 * x2 * (v * v)) (hY : Y * (2 - (y2 * y2 + x2 * x2)) = y2 * y2 - x2 * x2) (n1 : y2 ≠ 0) : (2 - (v * v - u * u)) * Y = v * v - u * u := by
  apply cancelF (mul_ne n1 n1)
  have e1 : y2 * y2 * ((2 - (v * v - u * u)) * Y) = (y2 * y2 * (2 - (v * v - u * u))) * Y := by clear h hy hY n1; grind
  rw [e1, bk_n h hy, bk_m h, ← hY]
  clear h hy hY n1 e1; grind
theorem bk_nn {u v x2 y2 : F} (h : u * y2 = x2 * v) (hy : y2 * y2 = v * v - x2 * x2 * (v * v)) (nv : v ≠ 0) (n2 : 2 - (y2 * y2 + x2 * x2) ≠ 0) : 2 - (v * v - u * u) ≠ 0 := by
  intro e
  have := bk_n h hy
  rw [e, tz'] at this
  exact (mul_ne (mul_ne nv nv) n2) this.symm
theorem dblG (g : G) : (g + g).x * (g.y * g.y + g.x * g.x) = 2 * (g.x * g.y) ∧ (g + g).y * (2 - (g.y * g.y + g.x * g.x)) = g.y * g.y - g.x * g.x := by
  have h1 : (g + g).x * (1 + cd * ((g.x * g.x) * (g.y * g.y))) = g.x * g.y + g.x * g.y := Ed.add_x cd_no g g
  have h2 : (g + g).y * (1 - cd * ((g.x * g.x) * (g.y * g.y))) = g.y * g.y - g.x * g.x := Ed.add_y cd_no g g
  have h3 := g.on
  exact dbl_var h3 h1 h2
theorem backG (g : G) : 2 * (tuG g * tvG g) * inv (tvG g * tvG g + tuG g * tuG g) = ((g + g) + (g + g)).x ∧ (tvG g * tvG g - tuG g * tuG g) * inv (2 - (tvG g * tvG g - tuG g * tuG g)) = ((g + g) + (g + g)).y := by
  obtain ⟨d1, d2⟩ := dblG g
  obtain ⟨f1, f2⟩ := dblG (g + g)
  have a1 : tuG g * (g.y * g.y - g.x * g.x) = 2 * (g.x * g.y) := tuF_mul g.on
  have a2 : tvG g * (2 - (g.y * g.y + g.x * g.x)) = g.y * g.y + g.x * g.x := tvF_mul g.on
  have n1 := twA_ne g.on
  have n2 := twE_ne g.on
  have n3 := twB_ne (g + g).on
  have n4 := twE_ne (g + g).on
  have nv := tvG_ne g
  have r1 := tw_rel (x := g.x) (y := g.y) rfl rfl rfl
  have k1 := bk_var (a1.trans d1.symm) a2 d2 n2
  have k2 := bk_y2 r1 d1 a2 d2 n2
  have ny : (g + g).y ≠ 0 := by
    intro e
    rw [e] at d2
    exact n1 (d2.symm.trans (tn_6 _))
  have ns : tvG g * tvG g + tuG g * tuG g ≠ 0 := sum_sq_ne nv
  have nn := bk_nn k1 k2 nv n4
  exact ⟨over_eq ns (bk_X k1 f1 n3), over_eq nn (bk_Y k1 k2 f2 ny)⟩
end Go.Proofs.YtohebkkiicbdoaaGreat
