/- The ladder, plain: what a number and u come to. -/
import Derived.Test.YtmbapbbneapcnaaJ13
set_option linter.unusedSimpArgs false
set_option linter.unusedVariables false
namespace Go.Proofs.Ytmbapbbneapcnaa
open FdP FdP.Ch

/-- two fractions -/
structure L4 where
  x0 : F
  z0 : F
  x1 : F
  z1 : F
def lstep (u : F) (p : L4) : L4 :=
  ⟨(p.x0 + p.z0) * (p.x0 + p.z0) * ((p.x0 - p.z0) * (p.x0 - p.z0)),
   ((p.x0 + p.z0) * (p.x0 + p.z0) - (p.x0 - p.z0) * (p.x0 - p.z0)) * ((p.x0 + p.z0) * (p.x0 + p.z0) + ((p.x0 + p.z0) * (p.x0 + p.z0) - (p.x0 - p.z0) * (p.x0 - p.z0)) * z 39081),
   ((p.x1 - p.z1) * (p.x0 + p.z0) + (p.x1 + p.z1) * (p.x0 - p.z0)) * ((p.x1 - p.z1) * (p.x0 + p.z0) + (p.x1 + p.z1) * (p.x0 - p.z0)),
   u * (((p.x1 - p.z1) * (p.x0 + p.z0) - (p.x1 + p.z1) * (p.x0 - p.z0)) * ((p.x1 - p.z1) * (p.x0 + p.z0) - (p.x1 + p.z1) * (p.x0 - p.z0)))⟩
def lswap (p : L4) : L4 := ⟨p.x1, p.z1, p.x0, p.z0⟩
def lif (b : Nat) (p : L4) : L4 := if b % 2 = 1 then lswap p else p
theorem lif_lif (b : Nat) (p : L4) : lif b (lif b p) = p := by unfold lif; split <;> rfl
def lbit (u : F) (b : Nat) (p : L4) : L4 := lif b (lstep u (lif b p))
def ladS (u : F) : Nat → Nat → L4
  | 0, _ => ⟨z 1, z 0, u, z 1⟩
  | k + 1, m => lbit u m (ladS u k (m / 2))
def L4.res (p : L4) : F := p.x0 * inv p.z0
theorem ladS_rep {c d u : F} (hd : ¬ Sq d) (hm : Mont mm c d) {p : Ed d} (hu : u ≠ 0) (hf : u * (c * (1 - p.y)) = 1 + p.y) :
    ∀ k m, m < 2 ^ k → RepU c (ladS u k m).x0 (ladS u k m).z0 (Ed.mul hd m p) ∧ RepU c (ladS u k m).x1 (ladS u k m).z1 (Ed.mul hd (m + 1) p)
  | 0, m, h => by
    obtain rfl : m = 0 := by simpa using h
    refine ⟨?_, ?_⟩
    · show RepU c (z 1) (z 0) _
      rw [z_one, z_zero]; exact RepU.zero c
    · show RepU c u (z 1) (Ed.zero.add hd p)
      rw [z_one, Ed.zero_add]; exact RepU.start hm.cc hf
  | k + 1, m, h => by
    obtain ⟨h0, h1⟩ := ladS_rep hd hm hu hf k (m / 2) (by rw [Nat.pow_succ] at h; omega)
    show RepU c (lbit u m (ladS u k (m / 2))).x0 (lbit u m (ladS u k (m / 2))).z0 _ ∧ RepU c (lbit u m (ladS u k (m / 2))).x1 (lbit u m (ladS u k (m / 2))).z1 _
    generalize ladS u k (m / 2) = s at *
    unfold lbit lif
    by_cases hb : m % 2 = 1
    · rw [if_pos hb, if_pos hb]
      obtain ⟨g0, g1⟩ := RepU.step1 hd hm h1 h0 hu hf
      rw [show 2 * (m / 2) + 2 = m + 1 by omega] at g0
      rw [show 2 * (m / 2) + 1 = m by omega] at g1
      exact ⟨g1, g0⟩
    · rw [if_neg hb, if_neg hb]
      obtain ⟨g0, g1⟩ := RepU.step0 hd hm h0 h1 hu hf
      rw [show 2 * (m / 2) = m by omega] at g0 g1
      exact ⟨g0, g1⟩
theorem zl {a b : F} (h : a = 0) : a * b = 0 := by rw [h]; grind
theorem zr {a b : F} (h : b = 0) : a * b = 0 := by rw [h]; grind
theorem mul1 (a : F) : a * 1 = a := by grind
theorem subself (a : F) : a - a = 0 := by grind
theorem sub0 (a : F) : a - 0 = a := by grind
theorem prod_inv {a b : F} (h : a * b = 0) : a * inv b = 0 := by
  rcases mul_zero h with g | g
  · exact zl g
  · rw [g, inv_zero]; exact zr rfl
theorem w_of (a b : F) : (a + b) * (a + b) - (a - b) * (a - b) = 2 * (2 * (a * b)) := by grind
theorem ladS_nil {u : F} (hu : u = 0) : ∀ k m, (ladS u k m).x0 * (ladS u k m).z0 = 0 ∧ (ladS u k m).x1 * (ladS u k m).z1 = 0
  | 0, m => by
    refine ⟨?_, ?_⟩
    · show z 1 * z 0 = 0
      rw [z_zero]; exact zr rfl
    · show u * z 1 = 0
      exact zl hu
  | k + 1, m => by
    obtain ⟨h0, h1⟩ := ladS_nil hu k (m / 2)
    show (lbit u m (ladS u k (m / 2))).x0 * (lbit u m (ladS u k (m / 2))).z0 = 0 ∧ (lbit u m (ladS u k (m / 2))).x1 * (lbit u m (ladS u k (m / 2))).z1 = 0
    generalize ladS u k (m / 2) = s at *
    have key : ∀ s : L4, s.x0 * s.z0 = 0 → (lstep u s).x0 * (lstep u s).z0 = 0 ∧ (lstep u s).x1 * (lstep u s).z1 = 0 := by
      intro s hs
      refine ⟨zr (zl ?_), zr (zl hu)⟩
      rw [w_of, hs]; exact zr (zr rfl)
    unfold lbit lif
    by_cases hb : m % 2 = 1
    · rw [if_pos hb, if_pos hb]
      obtain ⟨g0, g1⟩ := key (lswap s) h1
      exact ⟨g1, g0⟩
    · rw [if_neg hb, if_neg hb]
      exact key s h0
theorem lad_ex : ∃ f : F → Nat → F, f = fun u m => (ladS u m m).res := ⟨_, rfl⟩
/-- what a number and u come to -/
noncomputable def ladU : F → Nat → F := lad_ex.choose
theorem ladU_def (u : F) (m : Nat) : ladU u m = (ladS u m m).res := congrFun (congrFun lad_ex.choose_spec u) m
theorem ladU_nil {u : F} (hu : u = 0) (m : Nat) : ladU u m = 0 := by
  rw [ladU_def]; exact prod_inv (ladS_nil hu m m).1
theorem ladU_at {c d u : F} (hd : ¬ Sq d) (hm : Mont mm c d) {p : Ed d} (hu : u ≠ 0) (hf : u * (c * (1 - p.y)) = 1 + p.y) (m : Nat) : ladU u m = uOf c (Ed.mul hd m p) := by
  rw [ladU_def]
  exact (ladS_rep hd hm hu hf m m Nat.lt_two_pow_self).1.out
theorem ladU_eq {u : F} {k m : Nat} (h : m < 2 ^ k) : (ladS u k m).res = ladU u m := by
  by_cases hu : u = 0
  · rw [ladU_nil hu]; exact prod_inv (ladS_nil hu k m).1
  · rcases on_one hu with ⟨p, hp⟩ | ⟨p, hp⟩
    · rw [ladU_at d1_no mont1 hu hp]; exact (ladS_rep d1_no mont1 hu hp k m h).1.out
    · rw [ladU_at d2_no mont2 hu hp]; exact (ladS_rep d2_no mont2 hu hp k m h).1.out
theorem ladU_zero (u : F) : ladU u 0 = 0 := by
  rw [ladU_def]
  show z 1 * inv (z 0) = 0
  rw [z_zero, inv_zero]; exact zr rfl
theorem ladU_one (u : F) : ladU u 1 = u := by
  by_cases hu : u = 0
  · rw [ladU_nil hu, hu]
  · rcases on_one hu with ⟨p, hp⟩ | ⟨p, hp⟩
    · rw [ladU_at d1_no mont1 hu hp]
      show uOf 1 (Ed.zero.add d1_no p) = u
      rw [Ed.zero_add]; exact uOf_of mont1.cc hp
    · rw [ladU_at d2_no mont2 hu hp]
      show uOf (-1) (Ed.zero.add d2_no p) = u
      rw [Ed.zero_add]; exact uOf_of mont2.cc hp
/-- a point whose x is 0 -/
def Two {d : F} (p : Ed d) : Prop := p.x = 0 ∧ p.y * p.y = 1
theorem two_add {d : F} (hd : ¬ Sq d) {p q : Ed d} (hp : Two p) (hq : Two q) : Two (p.add hd q) := by
  have ex := Ed.add_x hd p q
  have ey := Ed.add_y hd p q
  obtain ⟨p1, p2⟩ := hp
  obtain ⟨q1, q2⟩ := hq
  unfold Two
  generalize (p.add hd q).x = a at *
  generalize (p.add hd q).y = b at *
  rw [p1, q1] at ex ey
  generalize p.y = y at *
  generalize q.y = s at *
  have k1 : (0 : F) * 0 * (y * s) = 0 := zl (zmul 0)
  rw [k1, zr rfl, azero, zmul, zmul, azero, mul1] at ex
  rw [k1, zr rfl, zmul, sub0, sub0, mul1] at ey
  have e1 : a = 0 := ex
  have e2 : b = y * s := ey
  refine ⟨e1, ?_⟩
  rw [e2]
  have : y * s * (y * s) = (y * y) * (s * s) := by clear p2 q2 ex ey e1 e2; grind
  rw [this, p2, q2]; exact omul 1
theorem two_mul' {d : F} (hd : ¬ Sq d) {p : Ed d} (hp : Two p) : ∀ n, Two (Ed.mul hd n p)
  | 0 => ⟨rfl, omul 1⟩
  | n + 1 => two_add hd (two_mul' hd hp n) hp
theorem two_u {c d : F} {p : Ed d} (hp : Two p) : uOf c p = 0 := by
  have h := hp.2
  unfold uOf
  have : (1 + p.y) * (1 - p.y) = 0 := by
    have : (1 + p.y) * (1 - p.y) = 1 - p.y * p.y := by clear h; grind
    rw [this, h]; exact subself 1
  rcases mul_zero this with g | g
  · exact zl g
  · rw [g, show c * (0 : F) = 0 from zr rfl, inv_zero]; exact zr rfl
theorem u_two {c d : F} (hc : c * c = 1) (hd : ¬ Sq d) {p : Ed d} (h : uOf c p = 0) : Two p := by
  have nc : c ≠ 0 := by
    intro e
    rw [e] at hc
    exact one_ne (by rw [← hc]; exact zmul 0)
  have hy : p.y * p.y = 1 := by
    unfold uOf at h
    rcases mul_zero h with g | g
    · have : p.y = -1 := by clear hc h; grind
      rw [this]; clear this g h hc; grind
    · have : c * (1 - p.y) = 0 := by
        by_cases e : c * (1 - p.y) = 0
        · exact e
        · exact absurd g (inv_ne e)
      rcases mul_zero this with g | g
      · exact absurd g nc
      · have : p.y = 1 := by clear hc h; grind
        rw [this]; exact omul 1
  refine ⟨?_, hy⟩
  have on := p.on
  rw [hy] at on
  have e : (p.x * p.x) * (1 - d) = 0 := by clear hy h hc; grind
  rcases mul_zero e with g | g
  · rcases mul_zero g with g | g <;> exact g
  · exact absurd ⟨1, by clear on e hy h hc; grind⟩ hd
theorem uOf_back {c d : F} {p : Ed d} (h : uOf c p ≠ 0) : uOf c p * (c * (1 - p.y)) = 1 + p.y := by
  have hn : c * (1 - p.y) ≠ 0 := by
    intro e
    apply h
    unfold uOf
    rw [e, inv_zero]; exact zr rfl
  have i := mul_inv hn
  unfold uOf
  generalize c * (1 - p.y) = a at *
  generalize 1 + p.y = b at *
  have : b * inv a * a = b * (a * inv a) := by clear i h hn; grind
  rw [this, i]; clear this i h hn; grind
theorem ladU_mul_at {c d u : F} (hd : ¬ Sq d) (hm : Mont mm c d) {p : Ed d} (hu : u ≠ 0) (hf : u * (c * (1 - p.y)) = 1 + p.y) (m n : Nat) : ladU (ladU u m) n = ladU u (m * n) := by
  rw [ladU_at hd hm hu hf m, ladU_at hd hm hu hf (m * n), Nat.mul_comm m n, Ed.mul_mul]
  by_cases h0 : uOf c (Ed.mul hd m p) = 0
  · rw [ladU_nil h0]
    exact (two_u (two_mul' hd (u_two hm.cc hd h0) n)).symm
  · exact ladU_at hd hm h0 (uOf_back h0) n
/-- of one number, and then of another one: of their product -/
theorem ladU_mul (u : F) (m n : Nat) : ladU (ladU u m) n = ladU u (m * n) := by
  by_cases hu : u = 0
  · rw [ladU_nil (ladU_nil hu m), ladU_nil hu]
  · rcases on_one hu with ⟨p, hp⟩ | ⟨p, hp⟩
    · exact ladU_mul_at d1_no mont1 hu hp m n
    · exact ladU_mul_at d2_no mont2 hu hp m n
theorem ladU_comm (u : F) (m n : Nat) : ladU (ladU u m) n = ladU (ladU u n) m := by rw [ladU_mul, ladU_mul, Nat.mul_comm]

/-! the ladder of a point's u -/
/-- u of a point of the curve -/
def uP (g : G) : F := g.y * g.y * inv (g.x * g.x)
def RepQ (X Z : F) (p : G) : Prop := ∃ k, k ≠ 0 ∧ X = k * (p.y * p.y) ∧ Z = k * (p.x * p.x)
theorem cd_z : cd = -(z 39081) := z_neg 39081
theorem add_xG (p q : G) : (p + q).x * (1 + cd * ((p.x * q.x) * (p.y * q.y))) = p.x * q.y + q.x * p.y := Ed.add_x cd_no p q
theorem add_yG (p q : G) : (p + q).y * (1 - cd * ((p.x * q.x) * (p.y * q.y))) = p.y * q.y - p.x * q.x := Ed.add_y cd_no p q
theorem q_dbl {d m x y x2 y2 k X Z : F} (hk : k ≠ 0) (h1 : X = k * (y * y)) (h2 : Z = k * (x * x)) (hu : 1 + d * (x * x * (y * y)) ≠ 0) (hv : 1 - d * (x * x * (y * y)) ≠ 0) (on : x * x + y * y = 1 + d * (x * x * (y * y)))
    (ex : x2 * (1 + d * (x * x * (y * y))) = x * y + x * y) (ey : y2 * (1 - d * (x * x * (y * y))) = y * y - x * x) (ec : d = -m) :
    ∃ k, k ≠ 0 ∧ (X + Z) * (X + Z) * ((X - Z) * (X - Z)) = k * (y2 * y2) ∧ ((X + Z) * (X + Z) - (X - Z) * (X - Z)) * ((X + Z) * (X + Z) + ((X + Z) * (X + Z) - (X - Z) * (X - Z)) * m) = k * (x2 * x2) := by
  refine ⟨(k * k) * (k * k) * (((1 + d * (x * x * (y * y))) * (1 + d * (x * x * (y * y)))) * ((1 - d * (x * x * (y * y))) * (1 - d * (x * x * (y * y))))), mul_ne (mul_ne (mul_ne hk hk) (mul_ne hk hk)) (mul_ne (mul_ne hu hu) (mul_ne hv hv)), ?_, ?_⟩
  · have e1 : (k * k) * (k * k) * (((1 + d * (x * x * (y * y))) * (1 + d * (x * x * (y * y)))) * ((1 - d * (x * x * (y * y))) * (1 - d * (x * x * (y * y))))) * (y2 * y2) = (k * k) * (k * k) * ((1 + d * (x * x * (y * y))) * (1 + d * (x * x * (y * y)))) * ((y2 * (1 - d * (x * x * (y * y)))) * (y2 * (1 - d * (x * x * (y * y))))) := by clear ex ey on ec h1 h2 hu hv hk; grind
    rw [e1, ey, ← on, h1, h2]; clear e1 ex ey on ec h1 h2 hu hv hk; grind
  · have e1 : (k * k) * (k * k) * (((1 + d * (x * x * (y * y))) * (1 + d * (x * x * (y * y)))) * ((1 - d * (x * x * (y * y))) * (1 - d * (x * x * (y * y))))) * (x2 * x2) = (k * k) * (k * k) * ((1 - d * (x * x * (y * y))) * (1 - d * (x * x * (y * y)))) * ((x2 * (1 + d * (x * x * (y * y)))) * (x2 * (1 + d * (x * x * (y * y))))) := by clear ex ey on ec h1 h2 hu hv hk; grind
    have e2 : (x * x + y * y) * (x * x + y * y) + 2 * (2 * (x * x * (y * y))) * m = (1 - d * (x * x * (y * y))) * (1 - d * (x * x * (y * y))) := by
      rw [on, ec]; clear e1 ex ey on ec h1 h2 hu hv hk; grind
    rw [e1, ex, ← e2, h1, h2]; clear e1 e2 ex ey on ec h1 h2 hu hv hk; grind
theorem RepQ.dbl {p : G} {X Z : F} (h : RepQ X Z p) : RepQ ((X + Z) * (X + Z) * ((X - Z) * (X - Z))) (((X + Z) * (X + Z) - (X - Z) * (X - Z)) * ((X + Z) * (X + Z) + ((X + Z) * (X + Z) - (X - Z) * (X - Z)) * z 39081)) (p + p) := by
  obtain ⟨k, hk, h1, h2⟩ := h
  exact q_dbl hk h1 h2 (up_ne cd_no p.on p.on) (dn_ne cd_no p.on p.on) p.on (add_xG p p) (add_yG p p) cd_z
theorem q_add {u D x0 y0 x1 y1 s t f g k j a b X0 Z0 X1 Z1 : F} (hk : k ≠ 0) (hj : j ≠ 0) (e0 : X0 = k * (y0 * y0)) (f0 : Z0 = k * (x0 * x0)) (e1 : X1 = j * (y1 * y1)) (f1 : Z1 = j * (x1 * x1))
    (sx : s * (1 + D) = x0 * y1 + x1 * y0) (sy : t * (1 - D) = y0 * y1 - x0 * x1) (dx : f * (1 - D) = x0 * y1 + -x1 * y0) (dy : g * (1 + D) = y0 * y1 - x0 * -x1) (nu : 1 + D ≠ 0) (nv : 1 - D ≠ 0)
    (ha : f * f = a * a) (hb : g * g = b * b) (nb : b ≠ 0) (hu : u * (a * a) = b * b) :
    ∃ k, k ≠ 0 ∧ ((X1 - Z1) * (X0 + Z0) + (X1 + Z1) * (X0 - Z0)) * ((X1 - Z1) * (X0 + Z0) + (X1 + Z1) * (X0 - Z0)) = k * (t * t) ∧
      u * (((X1 - Z1) * (X0 + Z0) - (X1 + Z1) * (X0 - Z0)) * ((X1 - Z1) * (X0 + Z0) - (X1 + Z1) * (X0 - Z0))) = k * (s * s) := by
  have n2 : (2 : F) ≠ 0 := two_ne
  refine ⟨2 * 2 * ((k * k) * (j * j)) * (((1 + D) * (1 + D)) * ((1 - D) * (1 - D))) * (b * b), mul_ne (mul_ne (mul_ne (mul_ne n2 n2) (mul_ne (mul_ne hk hk) (mul_ne hj hj))) (mul_ne (mul_ne nu nu) (mul_ne nv nv))) (mul_ne nb nb), ?_, ?_⟩
  · have e : 2 * 2 * ((k * k) * (j * j)) * (((1 + D) * (1 + D)) * ((1 - D) * (1 - D))) * (b * b) * (t * t) = 2 * 2 * ((k * k) * (j * j)) * (((t * (1 - D)) * (t * (1 - D))) * ((g * (1 + D)) * (g * (1 + D)))) := by rw [← hb]; clear dx dy sx sy e0 f0 e1 f1 hu ha hb nu nv nb hk hj n2; grind
    rw [e, sy, dy, e0, f0, e1, f1]; clear e dx dy sx sy e0 f0 e1 f1 hu ha hb nu nv nb hk hj n2; grind
  · have e : 2 * 2 * ((k * k) * (j * j)) * (((1 + D) * (1 + D)) * ((1 - D) * (1 - D))) * (b * b) * (s * s) = 2 * 2 * u * ((k * k) * (j * j)) * (((s * (1 + D)) * (s * (1 + D))) * ((f * (1 - D)) * (f * (1 - D)))) := by rw [← hu, ← ha]; clear dx dy sx sy e0 f0 e1 f1 hu ha hb nu nv nb hk hj n2; grind
    rw [e, sx, dx, e0, f0, e1, f1]; clear e dx dy sx sy e0 f0 e1 f1 hu ha hb nu nv nb hk hj n2; grind
theorem neg_in {d x0 x1 y0 y1 : F} : 1 + d * (x0 * -x1 * (y0 * y1)) = 1 - d * (x0 * x1 * (y0 * y1)) ∧ 1 - d * (x0 * -x1 * (y0 * y1)) = 1 + d * (x0 * x1 * (y0 * y1)) := by
  constructor <;> grind
theorem RepQ.add {u : F} {p q : G} {X0 Z0 X1 Z1 : F} (h0 : RepQ X0 Z0 p) (h1 : RepQ X1 Z1 q) {a b : F} (ha : (p + -q).x * (p + -q).x = a * a) (hb : (p + -q).y * (p + -q).y = b * b) (nb : b ≠ 0) (hu : u * (a * a) = b * b) :
    RepQ (((X1 - Z1) * (X0 + Z0) + (X1 + Z1) * (X0 - Z0)) * ((X1 - Z1) * (X0 + Z0) + (X1 + Z1) * (X0 - Z0))) (u * (((X1 - Z1) * (X0 + Z0) - (X1 + Z1) * (X0 - Z0)) * ((X1 - Z1) * (X0 + Z0) - (X1 + Z1) * (X0 - Z0)))) (p + q) := by
  obtain ⟨k, hk, e0, f0⟩ := h0
  obtain ⟨j, hj, e1, f1⟩ := h1
  have dx : (p + -q).x * (1 + cd * (p.x * -q.x * (p.y * q.y))) = p.x * q.y + -q.x * p.y := add_xG p (-q)
  have dy : (p + -q).y * (1 - cd * (p.x * -q.x * (p.y * q.y))) = p.y * q.y - p.x * -q.x := add_yG p (-q)
  rw [neg_in.1] at dx
  rw [neg_in.2] at dy
  exact q_add hk hj e0 f0 e1 f1 (add_xG p q) (add_yG p q) dx dy (up_ne cd_no p.on q.on) (dn_ne cd_no p.on q.on) ha hb nb hu
theorem mulG_s (n : Nat) (p : G) : mulG (n + 1) p = mulG n p + p := rfl
theorem sub1G (a p : G) : a + -(a + p) = -p := by rw [G.neg_sum, ← G.assoc, G.add_neg, G.zero_add]
theorem sub2G (a p : G) : (a + p) + -a = p := by rw [G.comm a p, G.assoc, G.add_neg, G.add_zero]
theorem negsq (p : G) : (-p).x * (-p).x = p.x * p.x ∧ (-p).y * (-p).y = p.y * p.y := ⟨neg_one_sq' p.x, rfl⟩
theorem ladS_q {u : F} {p : G} (nx : p.x ≠ 0) (ny : p.y ≠ 0) (hu : u * (p.x * p.x) = p.y * p.y) :
    ∀ k m, m < 2 ^ k → RepQ (ladS u k m).x0 (ladS u k m).z0 (mulG m p) ∧ RepQ (ladS u k m).x1 (ladS u k m).z1 (mulG (m + 1) p)
  | 0, m, h => by
    obtain rfl : m = 0 := by simpa using h
    refine ⟨?_, ?_⟩
    · show RepQ (z 1) (z 0) 0
      rw [z_one, z_zero]
      refine ⟨1, one_ne, ?_, ?_⟩
      · show (1 : F) = 1 * (1 * 1)
        rw [omul, omul]
      · show (0 : F) = 1 * (0 * 0)
        rw [omul, zmul]
    · show RepQ u (z 1) (mulG 1 p)
      rw [z_one, mulG_one]
      have i := mul_inv (mul_ne nx nx)
      refine ⟨inv (p.x * p.x), inv_ne (mul_ne nx nx), ?_, ?_⟩
      · rw [← hu]
        generalize p.x * p.x = a at *
        have : inv a * (u * a) = u * (a * inv a) := by clear i hu; grind
        rw [this, i]; clear i hu this; grind
      · generalize p.x * p.x = a at *
        rw [← i]; clear i hu; grind
  | k + 1, m, h => by
    obtain ⟨h0, h1⟩ := ladS_q nx ny hu k (m / 2) (by rw [Nat.pow_succ] at h; omega)
    show RepQ (lbit u m (ladS u k (m / 2))).x0 (lbit u m (ladS u k (m / 2))).z0 _ ∧ RepQ (lbit u m (ladS u k (m / 2))).x1 (lbit u m (ladS u k (m / 2))).z1 _
    generalize ladS u k (m / 2) = s at *
    unfold lbit lif
    obtain ⟨n1, n2⟩ := negsq p
    by_cases hb : m % 2 = 1
    · rw [if_pos hb, if_pos hb]
      have e1 : mulG m p = mulG (m / 2 + 1) p + mulG (m / 2) p := by rw [← mulG_add]; congr 1; omega
      have e2 : mulG (m + 1) p = mulG (m / 2 + 1) p + mulG (m / 2 + 1) p := by rw [← mulG_add]; congr 1; omega
      have ed : mulG (m / 2 + 1) p + -mulG (m / 2) p = p := by rw [mulG_s, sub2G]
      rw [e1, e2]
      exact ⟨RepQ.add h1 h0 (a := p.x) (b := p.y) (by rw [ed]) (by rw [ed]) ny hu, RepQ.dbl h1⟩
    · rw [if_neg hb, if_neg hb]
      have e1 : mulG m p = mulG (m / 2) p + mulG (m / 2) p := by rw [← mulG_add]; congr 1; omega
      have e2 : mulG (m + 1) p = mulG (m / 2) p + mulG (m / 2 + 1) p := by rw [← mulG_add]; congr 1; omega
      have ed : mulG (m / 2) p + -mulG (m / 2 + 1) p = -p := by rw [mulG_s, sub1G]
      rw [e1, e2]
      exact ⟨RepQ.dbl h0, RepQ.add h0 h1 (a := p.x) (b := p.y) (by rw [ed]; exact n1) (by rw [ed]; exact n2) ny hu⟩
theorem RepQ.out {X Z : F} {p : G} (h : RepQ X Z p) : X * inv Z = uP p := by
  obtain ⟨k, hk, rfl, rfl⟩ := h
  unfold uP
  have i := mul_inv hk
  rw [inv_mul]
  generalize inv k = j at *
  generalize inv (p.x * p.x) = e
  generalize p.y * p.y = y
  have : k * y * (j * e) = (k * j) * (y * e) := by clear i; grind
  rw [this, i]; exact omul _
def Qu (p : G) : Prop := p.x * p.y = 0
theorem qu_add {p q : G} (hp : Qu p) (hq : Qu q) : Qu (p + q) := by
  have ex := add_xG p q
  have ey := add_yG p q
  unfold Qu at *
  have e0 : p.x * q.x * (p.y * q.y) = 0 := by
    have : p.x * q.x * (p.y * q.y) = (p.x * p.y) * (q.x * q.y) := by clear ex ey hp hq; grind
    rw [this, hp]; exact zl rfl
  rw [e0] at ex ey
  generalize (p + q).x = s at *
  generalize (p + q).y = t at *
  rw [zr rfl, azero, mul1] at ex
  rw [zr rfl, sub0, mul1] at ey
  have e1 := ex
  have e2 := ey
  have e3 : s * t = (p.x * p.y) * (q.y * q.y - q.x * q.x) + (q.x * q.y) * (p.y * p.y - p.x * p.x) := by rw [e1, e2]; clear ex ey e0 e1 e2 hp hq; grind
  rw [e3, hp, hq, zmul, zmul, azero]
theorem qu_mul {p : G} (hp : Qu p) : ∀ n, Qu (mulG n p)
  | 0 => zmul 1
  | n + 1 => qu_add (qu_mul hp n) hp
theorem qu_u {p : G} (hp : Qu p) : uP p = 0 := by
  unfold uP
  rcases mul_zero hp with g | g
  · rw [g, zmul, inv_zero]; exact zr rfl
  · rw [g]; exact zl (zmul 0)
/-- the ladder of a point's u is that of the point so many times -/
theorem ladU_point (p : G) (n : Nat) : ladU (uP p) n = uP (mulG n p) := by
  by_cases hq : Qu p
  · rw [ladU_nil (qu_u hq), qu_u (qu_mul hq n)]
  · have nx : p.x ≠ 0 := fun e => hq (zl e)
    have ny : p.y ≠ 0 := fun e => hq (zr e)
    have hu : uP p * (p.x * p.x) = p.y * p.y := by
      have i := mul_inv (mul_ne nx nx)
      unfold uP
      generalize p.x * p.x = a at *
      generalize p.y * p.y = b at *
      have : b * inv a * a = b * (a * inv a) := by clear i; grind
      rw [this, i]; clear this i; grind
    rw [ladU_def]
    exact (ladS_q nx ny hu n n Nat.lt_two_pow_self).1.out
end Go.Proofs.Ytmbapbbneapcnaa
