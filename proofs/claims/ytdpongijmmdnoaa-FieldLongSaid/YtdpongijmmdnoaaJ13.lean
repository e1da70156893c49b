/- joined: Bits Stp Bo Edm Vo -/
import Derived.Test.YtdpongijmmdnoaaJ12
set_option linter.unusedSimpArgs false
set_option linter.unusedVariables false
/- Bits of numbers, plain. -/
namespace Go.Proofs.Ytdpongijmmdnoaa
open FdP FdP.Ch
end Go.Proofs.Ytdpongijmmdnoaa
/- Steps of walks in plain words. -/
namespace Go.Proofs.Ytdpongijmmdnoaa
open Go.RowKit FdP FdP.Ch
instance (b : List Int) : Decidable (By b) := by unfold By; infer_instance
theorem Sub.refl' (a : AV) : Sub a a := fun _ _ h => h
theorem Subs.refl' : ∀ l : List AV, Subs l l
 | [] => trivial
 | a :: l => ⟨Sub.refl' a, Subs.refl' l⟩
theorem wI {e : Int} {K : Int → Prop} (h : -9223372036854775808 ≤ e ∧ e < 9223372036854775808) (k : K e) : ∀ r q : Int, r = e + q * 18446744073709551616 → -9223372036854775808 ≤ r → r < 9223372036854775808 → K r := by
 intro r q hr h1 h2
 obtain rfl : r = e := by omega
 exact k
theorem wB {e : Int} {K : Int → Prop} (h : 0 ≤ e ∧ e < 256) (k : K e) : ∀ r q : Int, r = e + q * 256 → 0 ≤ r → r < 256 → K r := by
 intro r q hr h1 h2
 obtain rfl : r = e := by omega
 exact k
theorem wR {m n : Int} {K : Int → Prop} (h : 0 ≤ m ∧ 0 < n) (k : K (m % n)) : ∀ r : Int, r = m.tmod n → (0 ≤ m → 0 < n → r = m % n) → K r := by
 intro r _ hr
 rw [hr h.1 h.2]; exact k
theorem wQ {m n : Int} {K : Int → Prop} (h : 0 ≤ m ∧ 0 < n) (k : K (m / n)) : ∀ r : Int, r = m.tdiv n → (0 ≤ m → 0 < n → r = m / n) → K r := by
 intro r _ hr
 rw [hr h.1 h.2]; exact k
theorem cTt {A B : Prop} (a : A) : Sel true A B := cT rfl a
theorem cNt {A B : Prop} (b : B) : Sel (!true) A B := cF rfl b
end Go.Proofs.Ytdpongijmmdnoaa
/- Contracts in plain words: bytes of elements, elements of bytes. -/
namespace Go.Proofs.Ytdpongijmmdnoaa
open Go.RowKit FdP FdP.Ch

section
variable {P : Program} {fn : FuncId}
end
end Go.Proofs.Ytdpongijmmdnoaa
/- Multiples of points, the base, and its order, plain. -/
namespace Go.Proofs.Ytdpongijmmdnoaa
open FdP FdP.Ch
theorem G.comm (p q : G) : p + q = q + p := Ed.add_comm cd_no p q
theorem G.assoc (p q r : G) : p + q + r = p + (q + r) := Ed.assoc cd_no p q r
theorem G.add_zero (p : G) : p + 0 = p := Ed.add_zero cd_no p
theorem G.zero_add (p : G) : 0 + p = p := Ed.zero_add cd_no p
theorem G.add_neg (p : G) : p + -p = 0 := Ed.add_neg cd_no p
theorem G.neg_add (p : G) : -p + p = 0 := by rw [G.comm, G.add_neg]
theorem G.cancel {p q r : G} (h : p + r = q + r) : p = q := by
 have : p + r + -r = q + r + -r := by rw [h]
 rwa [G.assoc, G.add_neg, G.add_zero, G.assoc, G.add_neg, G.add_zero] at this
theorem G.neg_uniq {p q : G} (h : p + q = 0) : q = -p := by
 apply G.cancel (r := p)
 rw [G.comm q, h, G.neg_add]
theorem G.neg_neg (p : G) : - -p = p := (G.neg_uniq (G.neg_add p)).symm
def mulG : Nat → G → G
 | 0, _ => 0
 | n + 1, p => mulG n p + p
theorem mulG_zero (p : G) : mulG 0 p = 0 := rfl
theorem mulG_add (m n : Nat) (p : G) : mulG (m + n) p = mulG m p + mulG n p := by
 induction n with
 | zero => rw [Nat.add_zero, mulG_zero, G.add_zero]
 | succ n ih => rw [← Nat.add_assoc]; show mulG (m + n) p + p = mulG m p + (mulG n p + p); rw [ih, G.assoc]
theorem Rep.zero : Rep (z 0) (z 1) (z 1) (0 : G) := by
 refine ⟨by rw [z_one]; exact one_ne, ?_, ?_⟩
 ·show z 0 = 0 * z 1; rw [z_zero]; grind
 ·show z 1 = 1 * z 1; rw [z_one]; grind
theorem Rep.neg {x y w : F} {g : G} (h : Rep x y w g) : Rep (-x) y w (-g) := by
 obtain ⟨h0, h1, h2⟩ := h
 refine ⟨h0, ?_, h2⟩
 show -x = -g.x * w
 rw [h1]; grind
theorem Rep.add {x y w x' y' w' : F} {g h : G} (p : Rep x y w g) (q : Rep x' y' w' h) {a b t dn up s X Y Z : F} (ha : a = w * w') (hb : b = a * a) (ht : t = cd * ((x * x') * (y * y'))) (hdn : dn = b - t) (hup : up = b + t) (hs : s = x * y' + x' * y)
 (hX : X = a * dn * s) (hY : Y = a * up * (y * y' - x * x')) (hZ : Z = dn * up) : Rep X Y Z (g + h) := by
 obtain ⟨p0, p1, p2⟩ := p
 obtain ⟨q0, q1, q2⟩ := q
 have hu := up_ne cd_no g.on h.on
 have hv := dn_ne cd_no g.on h.on
 have hx := Ed.add_x cd_no g h
 have hy := Ed.add_y cd_no g h
 have ex : (g + h : G).x = (Ed.add cd_no g h).x := rfl
 have ey : (g + h : G).y = (Ed.add cd_no g h).y := rfl
 rw [← ex] at hx; rw [← ey] at hy
 show Z ≠ 0 ∧ X = (g + h : G).x * Z ∧ Y = (g + h : G).y * Z
 generalize (g + h : G).x = gx at *
 generalize (g + h : G).y = gy at *
 generalize hU : 1 + cd * (g.x * h.x * (g.y * h.y)) = U at *
 generalize hV : 1 - cd * (g.x * h.x * (g.y * h.y)) = V at *
 have e1 : up = b * U := by rw [hup, hb, ha, ht, p1, p2, q1, q2, ← hU]; grind
 have e2 : dn = b * V := by rw [hdn, hb, ha, ht, p1, p2, q1, q2, ← hV]; grind
 have hb0 : b ≠ 0 := by rw [hb, ha]; exact mul_ne (mul_ne p0 q0) (mul_ne p0 q0)
 refine ⟨?_, ?_, ?_⟩
 ·rw [hZ, e1, e2]; exact mul_ne (mul_ne hb0 hv) (mul_ne hb0 hu)
 ·have : s = a * (gx * U) := by rw [hs, hx, ha, p1, p2, q1, q2]; grind
  rw [hX, this, hZ, e1, e2, hb]; grind
 ·have : y * y' - x * x' = a * (gy * V) := by rw [hy, ha, p1, p2, q1, q2]; grind
  rw [hY, this, hZ, e1, e2, hb]; grind
theorem mul_neg0 {a b : F} (h : a * -b = 0) : a * b = 0 := by
 have : a * b = -(a * -b) := by grind
 rw [this, h]; grind
theorem Rep.dbl {x y w : F} {g : G} (p : Rep x y w g) {b s j X Y Z : F} (hb : b = (x + y) * (x + y)) (hs : s = x * x + y * y) (hj : j = s - 2 * (w * w)) (hX : X = (b - s) * j) (hY : Y = s * (x * x - y * y)) (hZ : Z = s * j) : Rep X Y Z (g + g) := by
 obtain ⟨p0, p1, p2⟩ := p
 have hu := up_ne cd_no g.on g.on
 have hv := dn_ne cd_no g.on g.on
 have hx := Ed.add_x cd_no g g
 have hy := Ed.add_y cd_no g g
 have ex : (g + g : G).x = (Ed.add cd_no g g).x := rfl
 have ey : (g + g : G).y = (Ed.add cd_no g g).y := rfl
 rw [← ex] at hx; rw [← ey] at hy
 have on := g.on
 show Z ≠ 0 ∧ X = (g + g : G).x * Z ∧ Y = (g + g : G).y * Z
 generalize (g + g : G).x = gx at *
 generalize (g + g : G).y = gy at *
 generalize hU : 1 + cd * (g.x * g.x * (g.y * g.y)) = U at *
 generalize hV : 1 - cd * (g.x * g.x * (g.y * g.y)) = V at *
 have w0 : w * w ≠ 0 := mul_ne p0 p0
 have es : s = (w * w) * U := by rw [hs, p1, p2, ← on]; grind
 have ej : j = -((w * w) * V) := by rw [hj, es, ← hU, ← hV]; grind
 refine ⟨?_, ?_, ?_⟩
 ·rw [hZ, es, ej]
  intro e
  exact mul_ne (mul_ne w0 hu) (mul_ne w0 hv) (mul_neg0 e)
 ·have : b - s = (w * w) * (gx * U) := by rw [hb, hs, hx, p1, p2]; grind
  rw [hX, this, hZ, es]; grind
 ·have : x * x - y * y = -((w * w) * (gy * V)) := by rw [hy, p1, p2]; grind
  rw [hY, this, hZ, ej]; grind
theorem Rep.same {x y w x' y' w' : F} {g h : G} (p : Rep x y w g) (q : Rep x' y' w' h) : (x * w' = x' * w ∧ y * w' = y' * w) ↔ g = h := by
 obtain ⟨p0, p1, p2⟩ := p
 obtain ⟨q0, q1, q2⟩ := q
 have ww := mul_ne p0 q0
 constructor
 ·rintro ⟨h1, h2⟩
  apply Ed.ext'
  ·apply mul_cancel ww
   rw [p1, q1] at h1; grind
  ·apply mul_cancel ww
   rw [p2, q2] at h2; grind
 ·rintro rfl
  rw [p1, q1, p2, q2]; constructor <;> (grind)
def dblN (p : Nat × Nat × Nat) : Nat × Nat × Nat :=
 let x := p.1; let y := p.2.1; let w := p.2.2
 let c := x * x % P; let e := y * y % P
 let b := (x + y) * (x + y) % P
 let s := (c + e) % P
 let j := (s + (P + P) - 2 * (w * w % P)) % P
 ((b + P - s) % P * j % P, s * ((c + P - e) % P) % P, s * j % P)
def addN (p q : Nat × Nat × Nat) : Nat × Nat × Nat :=
 let a := p.2.2 * q.2.2 % P
 let b := a * a % P
 let c := p.1 * q.1 % P; let e := p.2.1 * q.2.1 % P
 let t := (P - 39081) * (c * e % P) % P
 let dn := (b + P - t) % P; let up := (b + t) % P
 let s := (p.1 * q.2.1 + q.1 * p.2.1) % P
 (a * dn % P * s % P, a * up % P * ((e + P - c) % P) % P, dn * up % P)
def mulN (p : Nat × Nat × Nat) : Nat → Nat → Nat × Nat × Nat
 | 0, _ => (0, 1, 1)
 | f + 1, k =>
  if k = 0 then (0, 1, 1) else
  let h := dblN (mulN p f (k / 2))
  if k % 2 = 0 then h else addN h p
def RepN (p : Nat × Nat × Nat) (g : G) : Prop := Rep (z p.1) (z p.2.1) (z p.2.2) g
theorem z_mod (n : Nat) : z ((n % P : Nat) : Int) = z (n : Int) := by rw [z_eq, Int.natCast_emod, Int.emod_emod_of_dvd _ (Int.dvd_refl _)]
theorem z_mulN (m n : Nat) : z ((m * n : Nat) : Int) = z m * z n := by rw [Int.natCast_mul, z_mul]
theorem z_addN (m n : Nat) : z ((m + n : Nat) : Int) = z m + z n := by rw [Int.natCast_add, z_add]
theorem z_subN (m n k : Nat) (h : n ≤ k * P) : z ((m + k * P - n : Nat) : Int) = z m - z n := by
 have : ((m + k * P - n : Nat) : Int) = (m : Int) - n + (k : Int) * P := by omega
 rw [this, z_add, z_mul, z_P, z_sub]; grind
theorem z_two : z ((2 : Nat) : Int) = 2 := by apply Fin.ext; decide +kernel
theorem z_cd : z ((P - 39081 : Nat) : Int) = cd := by apply Fin.ext; decide +kernel
theorem RepN.dbl {p : Nat × Nat × Nat} {g : G} (h : RepN p g) : RepN (dblN p) (g + g) := by
 obtain ⟨x, y, w⟩ := p
 have s1 : ∀ m n : Nat, z ((m + P - n % P : Nat) : Int) = z m - z n := fun m n => by
  have := z_subN m (n % P) 1 (by have := Nat.mod_lt n P_pos; omega)
  rw [Nat.one_mul] at this; rw [this, z_mod]
 have s2 : ∀ m n : Nat, z ((m + (P + P) - 2 * (n % P) : Nat) : Int) = z m - 2 * z n := fun m n => by
  have := z_subN m (2 * (n % P)) 2 (by have := Nat.mod_lt n P_pos; omega)
  rw [← Nat.two_mul, this, z_mulN, z_mod, z_two]
 refine Rep.dbl (s := z x * z x + z y * z y) (j := z x * z x + z y * z y - 2 * (z w * z w)) h rfl rfl rfl ?_ ?_ ?_ <;> simp only [dblN, z_mod, z_mulN, z_addN, s1, s2]
theorem RepN.add {p q : Nat × Nat × Nat} {g h : G} (hp : RepN p g) (hq : RepN q h) : RepN (addN p q) (g + h) := by
 obtain ⟨x, y, w⟩ := p
 obtain ⟨x', y', w'⟩ := q
 have s1 : ∀ m n : Nat, z ((m + P - n % P : Nat) : Int) = z m - z n := fun m n => by
  have := z_subN m (n % P) 1 (by have := Nat.mod_lt n P_pos; omega)
  rw [Nat.one_mul] at this; rw [this, z_mod]
 refine Rep.add hp hq rfl rfl rfl rfl rfl rfl ?_ ?_ ?_ <;> simp only [addN, z_mod, z_mulN, z_addN, s1, z_cd]
theorem RepN.mul {p : Nat × Nat × Nat} {g : G} (h : RepN p g) : ∀ f k, k < 2 ^ f → RepN (mulN p f k) (mulG k g)
 | 0, k, hk => by
  obtain rfl : k = 0 := by omega
  exact Rep.zero
 | f + 1, k, hk => by
  unfold mulN
  split
  ·rename_i h0; subst h0; exact Rep.zero
  ·have ih := (RepN.mul h f (k / 2) (by omega)).dbl
   rw [← mulG_add] at ih
   split
   ·rename_i h2
    have e : k / 2 + k / 2 = k := by omega
    rw [e] at ih; exact ih
   ·rename_i h2
    have := ih.add h
    have e : k = k / 2 + k / 2 + 1 := by omega
    have e2 : mulG k g = mulG (k / 2 + k / 2) g + g := by conv => lhs; rw [e]
                                                          rfl
    rw [e2]; exact this
end Go.Proofs.Ytdpongijmmdnoaa
/- Contracts of points: one value each. -/
namespace Go.Proofs.Ytdpongijmmdnoaa
open Go.RowKit FdP FdP.Ch

section
variable (o : AV → Option G) (K : G → AV)
end
section
variable {P : Program} {fn : FuncId} {o : AV → Option G} {K : G → AV} {R : AV → G → Prop} {g0 : Trans}
end
end Go.Proofs.Ytdpongijmmdnoaa
