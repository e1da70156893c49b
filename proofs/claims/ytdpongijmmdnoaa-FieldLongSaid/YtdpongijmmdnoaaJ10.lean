/- joined: Edw Obj Va Vb Vc Vd -/
import Derived.Test.YtdpongijmmdnoaaJ9
import Derived.Laws.BitsAllLaws
import Derived.Laws.Pointers
import Derived.Lib.SliceRun
set_option linter.unusedSimpArgs false
set_option linter.unusedVariables false
/- The curve's group, plain: sums in any order, a point turned round; no program in sight. -/
namespace Go.Proofs.Ytdpongijmmdnoaa.FdP
namespace Ch

def mp (n a : Nat) : Nat → Nat → Nat
 | 0, _ => 1
 | f + 1, k =>
  if k = 0 then 1 % n else
  let h := mp n a f (k / 2)
  let x := (h * h) % n
  if k % 2 = 0 then x else (x * a) % n
theorem mp_eq (n a : Nat) : ∀ f k, k < 2 ^ f → mp n a f k % n = a ^ k % n
 | 0, k, h => by
  have : k = 0 := by omega
  subst this; rfl
 | f + 1, k, h => by
  unfold mp
  split
  ·rename_i h0; subst h0; simp
  ·have ih := mp_eq n a f (k / 2) (by omega)
   have e : ∀ x, (mp n a f (k / 2) * mp n a f (k / 2)) % n = x → x % n = (a ^ (2 * (k / 2))) % n := by
    intro x hx
    rw [← hx, Nat.mod_mod, Nat.mul_mod, ih, ← Nat.mul_mod, ← Nat.pow_add, Nat.two_mul]
   split
   ·rename_i h2
    rw [e _ rfl]; congr 2; omega
   ·rename_i h2
    rw [Nat.mod_mod, Nat.mul_mod, e _ rfl, ← Nat.mul_mod, ← Nat.pow_succ]; congr 2; omega
theorem pow_mp (a : F) (k : Nat) (f : Nat) (h : k < 2 ^ f) : (a ^ k).val = mp P a.val f k % P := by
 rw [val_pow, mp_eq P a.val f k h]

def cd : F := z (-39081)
theorem cd_val : cd.val = P - 39081 := by decide +kernel
theorem cd_ne : cd ≠ 0 := by
 intro e
 have := congrArg Fin.val e
 rw [cd_val] at this
 revert this; decide +kernel
theorem cd_no : ¬ Sq cd := by
 rw [not_sq_iff cd_ne]
 apply Fin.ext
 rw [pow_mp cd H 450 (by decide +kernel), cd_val]
 decide +kernel
theorem no_sq {d : F} (hd : ¬ Sq d) {a w : F} (hw : w ≠ 0) : a * a ≠ d * (w * w) := by
 intro e
 apply hd
 refine ⟨a * inv w, ?_⟩
 have := mul_inv hw
 have : a * inv w * (a * inv w) = (a * a) * (inv w * inv w) := by grind
 rw [this, e]
 grind

theorem compl {d : F} (hd : ¬ Sq d) {a b x y : F} (h1 : a * a + b * b = 1 + d * ((a * a) * (b * b))) (h2 : x * x + y * y = 1 + d * ((x * x) * (y * y))) : (d * ((a * x) * (b * y))) * (d * ((a * x) * (b * y))) ≠ 1 := by
 intro h
 have hb : a * b ≠ 0 := by
  intro e
  apply one_ne
  rw [← h]
  have : d * (a * x * (b * y)) = (a * b) * (d * x * y) := by grind
  rw [this, e]; grind
 have hx : x * y ≠ 0 := by
  intro e
  apply one_ne
  rw [← h]
  have : d * (a * x * (b * y)) = (x * y) * (d * a * b) := by grind
  rw [this, e]; grind
 have k1 : (a + d * (a * x * (b * y)) * b) * (a + d * (a * x * (b * y)) * b) = d * ((a * b * (x + y)) * (a * b * (x + y))) := by grind
 have k2 : (a - d * (a * x * (b * y)) * b) * (a - d * (a * x * (b * y)) * b) = d * ((a * b * (x - y)) * (a * b * (x - y))) := by grind
 by_cases hs : x + y = 0
 ·by_cases ht : x - y = 0
  ·have : 2 * x = 0 := by grind
   rcases mul_zero this with g | g
   ·exact two_ne g
   ·apply hx; rw [g]; grind
  ·exact no_sq hd (mul_ne hb ht) k2
 ·exact no_sq hd (mul_ne hb hs) k1
theorem up_ne {d : F} (hd : ¬ Sq d) {a b x y : F} (h1 : a * a + b * b = 1 + d * ((a * a) * (b * b))) (h2 : x * x + y * y = 1 + d * ((x * x) * (y * y))) : 1 + d * ((a * x) * (b * y)) ≠ 0 := by
 intro e; apply compl hd h1 h2; grind
theorem dn_ne {d : F} (hd : ¬ Sq d) {a b x y : F} (h1 : a * a + b * b = 1 + d * ((a * a) * (b * b))) (h2 : x * x + y * y = 1 + d * ((x * x) * (y * y))) : 1 - d * ((a * x) * (b * y)) ≠ 0 := by
 intro e; apply compl hd h1 h2; grind

structure Ed (d : F) where
 x : F
 y : F
 on : x * x + y * y = 1 + d * ((x * x) * (y * y))
theorem Ed.ext' {d : F} {p q : Ed d} (h : p.x = q.x) (k : p.y = q.y) : p = q := by
 cases p; cases q; cases h; cases k; rfl
theorem sum_poly {d a b x y : F} (h1 : a * a + b * b = 1 + d * ((a * a) * (b * b))) (h2 : x * x + y * y = 1 + d * ((x * x) * (y * y))) :
 (a * y + x * b) * (a * y + x * b) * ((1 - d * (a * x * (b * y))) * (1 - d * (a * x * (b * y)))) +
   (b * y - a * x) * (b * y - a * x) * ((1 + d * (a * x * (b * y))) * (1 + d * (a * x * (b * y)))) =
   (1 + d * (a * x * (b * y))) * (1 + d * (a * x * (b * y))) *
     ((1 - d * (a * x * (b * y))) * (1 - d * (a * x * (b * y)))) +
     d * ((a * y + x * b) * (a * y + x * b) * ((b * y - a * x) * (b * y - a * x))) := by
 grind
theorem sum_on {d : F} {a b x y m n : F} (h1 : a * a + b * b = 1 + d * ((a * a) * (b * b))) (h2 : x * x + y * y = 1 + d * ((x * x) * (y * y))) (hu : 1 + d * ((a * x) * (b * y)) ≠ 0) (hv : 1 - d * ((a * x) * (b * y)) ≠ 0)
 (hm : m * (1 + d * ((a * x) * (b * y))) = a * y + x * b) (hn : n * (1 - d * ((a * x) * (b * y))) = b * y - a * x) : m * m + n * n = 1 + d * ((m * m) * (n * n)) := by
 have key : ((1 + d * ((a * x) * (b * y))) * (1 - d * ((a * x) * (b * y)))) * ((1 + d * ((a * x) * (b * y))) * (1 - d * ((a * x) * (b * y)))) ≠ 0 := mul_ne (mul_ne hu hv) (mul_ne hu hv)
 apply mul_cancel key
 generalize hU : 1 + d * ((a * x) * (b * y)) = U at *
 generalize hV : 1 - d * ((a * x) * (b * y)) = V at *
 have : (m * m + n * n) * (U * V * (U * V)) = (m * U) * (m * U) * (V * V) + (n * V) * (n * V) * (U * U) := by grind
 rw [this]
 have : (1 + d * (m * m * (n * n))) * (U * V * (U * V)) = U * U * (V * V) + d * ((m * U) * (m * U) * ((n * V) * (n * V))) := by grind
 rw [this, hm, hn, ← hU, ← hV]
 exact sum_poly h1 h2
section
variable {d : F}
def Ed.neg (p : Ed d) : Ed d := ⟨-p.x, p.y, by have := p.on; grind⟩
def Ed.zero : Ed d := ⟨0, 1, by grind⟩
def Ed.add (hd : ¬ Sq d) (p q : Ed d) : Ed d :=
 ⟨(p.x * q.y + q.x * p.y) * inv (1 + d * ((p.x * q.x) * (p.y * q.y))), (p.y * q.y - p.x * q.x) * inv (1 - d * ((p.x * q.x) * (p.y * q.y))), by
   have hu := up_ne hd p.on q.on
   have hv := dn_ne hd p.on q.on
   refine sum_on p.on q.on hu hv ?_ ?_
   ·have := mul_inv hu; grind
   ·have := mul_inv hv; grind⟩
theorem Ed.add_x (hd : ¬ Sq d) (p q : Ed d) : (p.add hd q).x * (1 + d * ((p.x * q.x) * (p.y * q.y))) = p.x * q.y + q.x * p.y := by
 have := mul_inv (up_ne hd p.on q.on)
 simp only [Ed.add]; grind
theorem Ed.add_y (hd : ¬ Sq d) (p q : Ed d) : (p.add hd q).y * (1 - d * ((p.x * q.x) * (p.y * q.y))) = p.y * q.y - p.x * q.x := by
 have := mul_inv (dn_ne hd p.on q.on)
 simp only [Ed.add]; grind
theorem Ed.add_eq (hd : ¬ Sq d) {p q r : Ed d} (h : r.x * (1 + d * ((p.x * q.x) * (p.y * q.y))) = p.x * q.y + q.x * p.y) (k : r.y * (1 - d * ((p.x * q.x) * (p.y * q.y))) = p.y * q.y - p.x * q.x) : p.add hd q = r := by
 apply Ed.ext'
 ·exact mul_cancel (up_ne hd p.on q.on) ((Ed.add_x hd p q).trans h.symm)
 ·exact mul_cancel (dn_ne hd p.on q.on) ((Ed.add_y hd p q).trans k.symm)
theorem Ed.add_comm (hd : ¬ Sq d) (p q : Ed d) : p.add hd q = q.add hd p := by
 apply Ed.add_eq
 ·have := Ed.add_x hd q p; grind
 ·have := Ed.add_y hd q p; grind
theorem Ed.add_zero (hd : ¬ Sq d) (p : Ed d) : p.add hd Ed.zero = p := by
 apply Ed.add_eq <;> simp only [Ed.zero] <;> grind
theorem Ed.zero_add (hd : ¬ Sq d) (p : Ed d) : Ed.zero.add hd p = p := by rw [Ed.add_comm, Ed.add_zero]
theorem Ed.add_neg (hd : ¬ Sq d) (p : Ed d) : p.add hd p.neg = Ed.zero := by
 have := p.on
 apply Ed.add_eq <;> simp only [Ed.zero, Ed.neg] <;> grind
theorem assoc_x {d a b x y r s : F} (h1 : a * a + b * b = 1 + d * ((a * a) * (b * b))) (h2 : x * x + y * y = 1 + d * ((x * x) * (y * y))) (h3 : r * r + s * s = 1 + d * ((r * r) * (s * s))) :
 ((a * y + x * b) * (1 - d * (a * x * (b * y))) * s + r * (b * y - a * x) * (1 + d * (a * x * (b * y)))) * ((1 + d * (x * r * (y * s))) * (1 - d * (x * r * (y * s))) + d * (a * b * ((x * s + r * y) * (y * s - x * r)))) =
 (a * (y * s - x * r) * (1 + d * (x * r * (y * s))) + (x * s + r * y) * (1 - d * (x * r * (y * s))) * b) * ((1 + d * (a * x * (b * y))) * (1 - d * (a * x * (b * y))) + d * (r * s * ((a * y + x * b) * (b * y - a * x)))) := by
 grind
theorem assoc_y {d a b x y r s : F} (h1 : a * a + b * b = 1 + d * ((a * a) * (b * b))) (h2 : x * x + y * y = 1 + d * ((x * x) * (y * y))) (h3 : r * r + s * s = 1 + d * ((r * r) * (s * s))) :
 ((b * y - a * x) * (1 + d * (a * x * (b * y))) * s - r * (a * y + x * b) * (1 - d * (a * x * (b * y)))) * ((1 + d * (x * r * (y * s))) * (1 - d * (x * r * (y * s))) - d * (a * b * ((x * s + r * y) * (y * s - x * r)))) =
 (b * (y * s - x * r) * (1 + d * (x * r * (y * s))) - (x * s + r * y) * (1 - d * (x * r * (y * s))) * a) * ((1 + d * (a * x * (b * y))) * (1 - d * (a * x * (b * y))) - d * (r * s * ((a * y + x * b) * (b * y - a * x)))) := by
 grind
theorem frac_x {d A D a b tx ty sx sy rx ry u v u' v' h m h' m' : F} (hA : A * D = a * ty + tx * b) (hD : D = 1 + d * (a * tx * (b * ty))) (h1 : sx * u = h) (h2 : sy * v = m) (h3 : tx * u' = h') (h4 : ty * v' = m') (nD : D ≠ 0) (nu : u ≠ 0) (nv : v ≠ 0) (nu' : u' ≠ 0) (nv' : v' ≠ 0)
 (key : (h * v * ry + rx * m * u) * (u' * v' + d * (a * b * (h' * m'))) = (a * m' * u' + h' * v' * b) * (u * v + d * (rx * ry * (h * m)))) :
 A * (1 + d * (sx * rx * (sy * ry))) = sx * ry + rx * sy := by
 apply mul_cancel (mul_ne nD (mul_ne (mul_ne nu nv) (mul_ne nu' nv')))
 have e1 : A * (1 + d * (sx * rx * (sy * ry))) * (D * (u * v * (u' * v'))) = (A * D) * ((u' * v') * (u * v + d * (rx * ry * (sx * u * (sy * v))))) := by clear key hA hD h1 h2 h3 h4 nD nu nv nu' nv'; grind
 have e2 : (sx * ry + rx * sy) * (D * (u * v * (u' * v'))) = (sx * u * v * ry + rx * (sy * v) * u) * (u' * v' * D) := by clear key hA hD h1 h2 h3 h4 nD nu nv nu' nv' e1; grind
 have e3 : u' * v' * D = u' * v' + d * (a * b * (tx * u' * (ty * v'))) := by rw [hD]; clear key hA hD h1 h2 h3 h4 nD nu nv nu' nv' e1 e2; grind
 have e4 : (a * ty + tx * b) * ((u' * v') * (u * v + d * (rx * ry * (h * m)))) = (a * (ty * v') * u' + tx * u' * v' * b) * (u * v + d * (rx * ry * (h * m))) := by clear key hA hD h1 h2 h3 h4 nD nu nv nu' nv' e1 e2 e3; grind
 rw [e1, e2, e3, hA, h1, h2, e4, h3, h4, key]
theorem frac_y {d A D a b tx ty sx sy rx ry u v u' v' h m h' m' : F} (hA : A * D = b * ty - a * tx) (hD : D = 1 - d * (a * tx * (b * ty))) (h1 : sx * u = h) (h2 : sy * v = m) (h3 : tx * u' = h') (h4 : ty * v' = m') (nD : D ≠ 0) (nu : u ≠ 0) (nv : v ≠ 0) (nu' : u' ≠ 0) (nv' : v' ≠ 0)
 (key : (m * u * ry - rx * h * v) * (u' * v' - d * (a * b * (h' * m'))) = (b * m' * u' - h' * v' * a) * (u * v - d * (rx * ry * (h * m)))) :
 A * (1 - d * (sx * rx * (sy * ry))) = sy * ry - sx * rx := by
 apply mul_cancel (mul_ne nD (mul_ne (mul_ne nu nv) (mul_ne nu' nv')))
 have e1 : A * (1 - d * (sx * rx * (sy * ry))) * (D * (u * v * (u' * v'))) = (A * D) * ((u' * v') * (u * v - d * (rx * ry * (sx * u * (sy * v))))) := by clear key hA hD h1 h2 h3 h4 nD nu nv nu' nv'; grind
 have e2 : (sy * ry - sx * rx) * (D * (u * v * (u' * v'))) = (sy * v * u * ry - rx * (sx * u) * v) * (u' * v' * D) := by clear key hA hD h1 h2 h3 h4 nD nu nv nu' nv' e1; grind
 have e3 : u' * v' * D = u' * v' - d * (a * b * (tx * u' * (ty * v'))) := by rw [hD]; clear key hA hD h1 h2 h3 h4 nD nu nv nu' nv' e1 e2; grind
 have e4 : (b * ty - a * tx) * ((u' * v') * (u * v - d * (rx * ry * (h * m)))) = (b * (ty * v') * u' - tx * u' * v' * a) * (u * v - d * (rx * ry * (h * m))) := by clear key hA hD h1 h2 h3 h4 nD nu nv nu' nv' e1 e2 e3; grind
 rw [e1, e2, e3, hA, h1, h2, e4, h3, h4, key]
theorem Ed.assoc (hd : ¬ Sq d) (p q r : Ed d) : (p.add hd q).add hd r = p.add hd (q.add hd r) := by
 apply Ed.add_eq
 ·exact frac_x (Ed.add_x hd p (q.add hd r)) rfl (Ed.add_x hd p q) (Ed.add_y hd p q) (Ed.add_x hd q r) (Ed.add_y hd q r) (up_ne hd p.on (q.add hd r).on) (up_ne hd p.on q.on) (dn_ne hd p.on q.on) (up_ne hd q.on r.on) (dn_ne hd q.on r.on) (assoc_x p.on q.on r.on)
 ·exact frac_y (Ed.add_y hd p (q.add hd r)) rfl (Ed.add_x hd p q) (Ed.add_y hd p q) (Ed.add_x hd q r) (Ed.add_y hd q r) (dn_ne hd p.on (q.add hd r).on) (up_ne hd p.on q.on) (dn_ne hd p.on q.on) (up_ne hd q.on r.on) (dn_ne hd q.on r.on) (assoc_y p.on q.on r.on)
end
end Ch
end Go.Proofs.Ytdpongijmmdnoaa.FdP
/- Points as one value each: how they lie in cells. -/
namespace Go.Proofs.Ytdpongijmmdnoaa
open Go.RowKit FdP FdP.Ch

abbrev G := Ed cd
instance : Add G := ⟨Ed.add cd_no⟩
instance : Neg G := ⟨Ed.neg⟩
instance : Zero G := ⟨Ed.zero⟩
def Rep (x y z : F) (g : G) : Prop := z ≠ 0 ∧ x = g.x * z ∧ y = g.y * z
inductive Ob where
 | pt (g : G)
 | fpt (g : G)
def Ob.size : Ob → Nat
 | .pt _ => 24
 | .fpt _ => 48
def Ob.R : Ob → List Value → Prop
 | .pt g, cs => ∃ (a b c : List Int) (x y z : F), cs = us a ++ us b ++ us c ∧ E a x ∧ E b y ∧ E c z ∧ Rep x y z g
 | .fpt g, cs => ∃ x y z : F, cs = is (dgs x) ++ is (dgs y) ++ is (dgs z) ∧ Rep x y z g
theorem Ob.one {o : Ob} {cs : List Value} (h : o.R cs) : ∀ x ∈ cs, x.oneCell' = true := by
 cases o with
 | pt g =>
  obtain ⟨a, b, c, x, y, z, rfl, _⟩ := h
  intro v hv
  rcases List.mem_append.1 hv with hv | hv
  ·rcases List.mem_append.1 hv with hv | hv
   ·exact us_one a v hv
   ·exact us_one b v hv
  ·exact us_one c v hv
 | fpt g =>
  obtain ⟨x, y, z, rfl, _⟩ := h
  intro v hv
  rcases List.mem_append.1 hv with hv | hv
  ·rcases List.mem_append.1 hv with hv | hv
   ·exact is_one _ v hv
   ·exact is_one _ v hv
  ·exact is_one _ v hv
theorem Ob.len {o : Ob} {cs : List Value} (h : o.R cs) : cs.length = o.size := by
 cases o with
 | pt g =>
  obtain ⟨a, b, c, x, y, z, rfl, ha, hb, hc, _⟩ := h
  simp [Ob.size, ha.len, hb.len, hc.len]
 | fpt g =>
  obtain ⟨x, y, z, rfl, _⟩ := h
  simp [Ob.size, dgs_len]
end Go.Proofs.Ytdpongijmmdnoaa
/- Values told in plain words: numbers, elements, lists, and how they lie in memory. -/
namespace Go.Proofs.Ytdpongijmmdnoaa
open Go.RowKit FdP FdP.Ch

inductive AV where
 | int (k : IntKind) (n : Int)
 | bool (b : Bool)
 | val (v : Value)
 | any
 | el (x : F)
 | fg (x : F)
 | ints (k : IntKind) (l : List Int)
 | lit (l : List Value)
 | agg (l : List AV)
 | isl (k : IntKind) (l : List Int)
 | sl (sz : Nat) (es : List AV)
 | ref (a : AV)
 | row (n : Nat)
 | own (T : TypeId) (sz : Nat) (c : AV)
 | tup (l : List AV)
 | ob (o : Ob)

def View (β : Base) (v : Value) (len sz : Nat) (cs : List Value) : Prop :=
 ∃ a cap, v = .slice a len cap ∧ len ≤ cap ∧ cs.length = len * sz ∧ (0 < cs.length → ∃ g off, a = some ⟨g, off, none⟩ ∧ g < β.w.heap.size ∧ ¬ β.x g ∧ ∀ j, j < cs.length → β.w.cell? ⟨g, off + j, none⟩ = cs[j]?)

mutual
def cellsR (β : Base) : AV → List Value → Prop
 | .int k n, cs => cs = [.int k n]
 | .bool b, cs => cs = [.bool b]
 | .val v, cs => cs = [v] ∧ v.oneCell' = true
 | .any, cs => ∃ v : Value, cs = [v] ∧ v.oneCell' = true
 | .el x, cs => ∃ l, cs = us l ∧ E l x
 | .fg x, cs => cs = is (dgs x)
 | .ints k l, cs => cs = l.map (.int k)
 | .lit l, cs => cs = l ∧ ∀ x ∈ l, x.oneCell' = true
 | .agg l, cs => cellsRs β none l cs
 | .isl k l, cs => ∃ v : Value, cs = [v] ∧ View β v l.length 1 (l.map (.int k))
 | .sl sz es, cs => ∃ (v : Value) (xs : List Value), cs = [v] ∧ View β v es.length sz xs ∧ cellsRs β (some sz) es xs
 | .ref a, cs => ∃ (g off : Nat) (xs : List Value), cs = [.pointer (some ⟨g, off, none⟩)] ∧ cellsR β a xs ∧ g < β.w.heap.size ∧ ¬ β.x g ∧ ∀ j, j < xs.length → β.w.cell? ⟨g, off + j, none⟩ = xs[j]?
 | .row n, cs => ∃ a cap, cs = [.slice a n cap]
 | .own T sz c, cs => ∃ (v : Value) (n : Nat) (xs : List Value), cs = [v] ∧ β.w.ownsRow 0 T sz v n xs ∧ (∀ g, v.ownBlock = some g → ¬ β.x g) ∧ cellsR β c xs
 | .tup _, _ => False
 | .ob o, cs => o.R cs
def cellsRs (β : Base) (sz : Option Nat) : List AV → List Value → Prop
 | [], cs => cs = []
 | a :: l, cs => ∃ c d, cs = c ++ d ∧ (∀ n, sz = some n → c.length = n) ∧ cellsR β a c ∧ cellsRs β sz l d
end

def AV.isAgg : AV → Bool
 | .el _ | .fg _ | .ints _ _ | .lit _ | .agg _ | .ob _ => true
 | _ => false
mutual
def AV.size : AV → Nat
 | .el _ => 8
 | .fg _ => 16
 | .ints _ l => l.length
 | .lit l => l.length
 | .agg l => AV.sizes l
 | .tup _ => 0
 | .ob o => o.size
 | _ => 1
def AV.sizes : List AV → Nat
 | [] => 0
 | a :: l => a.size + AV.sizes l
end
mutual
def AV.free : AV → Bool
 | .isl _ _ | .sl _ _ | .ref _ | .own _ _ _ => false
 | .agg l => AV.frees l
 | .tup l => AV.frees l
 | _ => true
def AV.frees : List AV → Bool
 | [] => true
 | a :: l => a.free && AV.frees l
end

def valR0 (β : Base) (a : AV) (v : Value) : Prop := if a.isAgg = true then ∃ cs : List Value, v = .agg cs.toArray ∧ cellsR β a cs else cellsR β a [v]
def valsR (β : Base) : List AV → List Value → Prop
 | [], vs => vs = []
 | a :: l, vs => ∃ v us, vs = v :: us ∧ valR0 β a v ∧ valsR β l us
def valR (β : Base) (a : AV) (v : Value) : Prop := match a with
 | .tup l => ∃ vs : List Value, v = .tuple vs.toArray ∧ valsR β l vs
 | a => valR0 β a v

structure Later (β β' : Base) : Prop where
 size : β.w.heap.size ≤ β'.w.heap.size
 block : ∀ k, k < β.w.heap.size → ¬ β.x k → β'.w.heap[k]? = β.w.heap[k]? ∧ ¬ β'.x k
theorem Later.refl (β : Base) : Later β β := ⟨Nat.le_refl _, fun _ _ h => ⟨rfl, h⟩⟩
theorem Later.trans {a b c : Base} (h : Later a b) (k : Later b c) : Later a c :=
 ⟨Nat.le_trans h.size k.size, fun i hi hx => by
   obtain ⟨h1, h2⟩ := h.block i hi hx
   obtain ⟨k1, k2⟩ := k.block i (Nat.lt_of_lt_of_le hi h.size) h2
   exact ⟨k1.trans h1, k2⟩⟩
theorem Later.upto {β : Base} {W : World} (h : Upto β W) : Later β ⟨W, β.x⟩ := ⟨h.size, fun k hk hx => ⟨h.block k hk hx, hx⟩⟩
theorem Later.cell {β β' : Base} (h : Later β β') {g i : Nat} (hg : g < β.w.heap.size) (hx : ¬ β.x g) : β'.w.cell? ⟨g, i, none⟩ = β.w.cell? ⟨g, i, none⟩ :=
 World.cell?_of_block (w := β.w) (h.block g hg hx).1

theorem View.later {β β' : Base} (h : Later β β') {v : Value} {len sz : Nat} {cs : List Value} (hv : View β v len sz cs) : View β' v len sz cs := by
 obtain ⟨a, cap, e, hc, hl, hp⟩ := hv
 refine ⟨a, cap, e, hc, hl, fun h0 => ?_⟩
 obtain ⟨g, off, ea, hg, hx, hj⟩ := hp h0
 exact ⟨g, off, ea, Nat.lt_of_lt_of_le hg h.size, (h.block g hg hx).2, fun j hlt => (h.cell hg hx).trans (hj j hlt)⟩
theorem _root_.Go.World.ownsRow.laterB {β β' : Base} (h : Later β β') {base : Nat} {T : TypeId} {sz : Nat} {v : Value} {n : Nat} {xs : List Value} (ho : β.w.ownsRow base T sz v n xs) (hx : ∀ g, v.ownBlock = some g → ¬ β.x g) : β'.w.ownsRow base T sz v n xs := by
 refine ⟨ho.1, ?_⟩
 rcases ho.2 with hn | ⟨g, cap, cur, rfl, hb, hgg, rest⟩
 ·exact .inl hn
 ·refine .inr ⟨g, cap, cur, rfl, hb, ?_, rest⟩
  rw [(h.block g (Array.getElem?_eq_some_iff.1 hgg).1 (hx g rfl)).1]; exact hgg
mutual
theorem cellsR.later {β β' : Base} (h : Later β β') : ∀ (a : AV) (cs : List Value), cellsR β a cs → cellsR β' a cs
 | .int _ _, _, hc => hc
 | .bool _, _, hc => hc
 | .val _, _, hc => hc
 | .any, _, hc => hc
 | .el _, _, hc => hc
 | .fg _, _, hc => hc
 | .ints _ _, _, hc => hc
 | .lit _, _, hc => hc
 | .agg l, cs, hc => cellsRs.later h none l cs hc
 | .isl _ _, _, ⟨v, e, hv⟩ => ⟨v, e, hv.later h⟩
 | .sl sz es, _, ⟨v, xs, e, hv, hs⟩ => ⟨v, xs, e, hv.later h, cellsRs.later h (some sz) es xs hs⟩
 | .ref a, _, ⟨g, off, xs, e, ha, hg, hx, hj⟩ => ⟨g, off, xs, e, cellsR.later h a xs ha, Nat.lt_of_lt_of_le hg h.size, (h.block g hg hx).2, fun j hlt => (h.cell hg hx).trans (hj j hlt)⟩
 | .row _, _, hc => hc
 | .own _ _ c, _, ⟨v, n, xs, e, ho, hx, hc⟩ => ⟨v, n, xs, e, ho.laterB h hx, fun g hg => by
  have := (ho.lt g hg).2
  exact (h.block g this (hx g hg)).2, cellsR.later h c xs hc⟩
 | .tup _, _, hc => hc
 | .ob _, _, hc => hc
theorem cellsRs.later {β β' : Base} (h : Later β β') (sz : Option Nat) : ∀ (l : List AV) (cs : List Value), cellsRs β sz l cs → cellsRs β' sz l cs
 | [], _, hc => hc
 | a :: l, _, ⟨c, d, e, hn, ha, hl⟩ => ⟨c, d, e, hn, cellsR.later h a c ha, cellsRs.later h sz l d hl⟩
end
theorem valR0.later {β β' : Base} (h : Later β β') {a : AV} {v : Value} (hv : valR0 β a v) : valR0 β' a v := by
 unfold valR0 at *
 split at hv
 ·rename_i ha
  rw [if_pos ha]
  obtain ⟨cs, e, hc⟩ := hv
  exact ⟨cs, e, hc.later h⟩
 ·rename_i ha
  rw [if_neg ha]
  exact hv.later h
theorem valsR.later {β β' : Base} (h : Later β β') : ∀ {l : List AV} {vs : List Value}, valsR β l vs → valsR β' l vs
 | [], _, hv => hv
 | _ :: _, _, ⟨v, us, e, h1, h2⟩ => ⟨v, us, e, h1.later h, h2.later h⟩
theorem valR.later {β β' : Base} (h : Later β β') {a : AV} {v : Value} (hv : valR β a v) : valR β' a v := by
 cases a with
 | tup l => obtain ⟨vs, e, hs⟩ := hv; exact ⟨vs, e, hs.later h⟩
 | _ => exact valR0.later h hv
mutual
theorem cellsR.free {β β' : Base} : ∀ (a : AV) (cs : List Value), a.free = true → cellsR β a cs → cellsR β' a cs
 | .int _ _, _, _, hc => hc
 | .bool _, _, _, hc => hc
 | .val _, _, _, hc => hc
 | .any, _, _, hc => hc
 | .el _, _, _, hc => hc
 | .fg _, _, _, hc => hc
 | .ints _ _, _, _, hc => hc
 | .lit _, _, _, hc => hc
 | .agg l, cs, h, hc => cellsRs.free none l cs (by simpa only [AV.free] using h) hc
 | .isl _ _, _, h, _ => by simp only [AV.free] at h; cases h
 | .sl _ _, _, h, _ => by simp only [AV.free] at h; cases h
 | .ref _, _, h, _ => by simp only [AV.free] at h; cases h
 | .row _, _, _, hc => hc
 | .own _ _ _, _, h, _ => by simp only [AV.free] at h; cases h
 | .tup _, _, _, hc => hc
 | .ob _, _, _, hc => hc
theorem cellsRs.free {β β' : Base} (sz : Option Nat) : ∀ (l : List AV) (cs : List Value), AV.frees l = true → cellsRs β sz l cs → cellsRs β' sz l cs
 | [], _, _, hc => hc
 | a :: l, _, h, ⟨c, d, e, hn, ha, hl⟩ => by
  simp only [AV.frees, Bool.and_eq_true] at h
  exact ⟨c, d, e, hn, cellsR.free a c h.1 ha, cellsRs.free sz l d h.2 hl⟩
end
theorem valR0.free {β β' : Base} {a : AV} {v : Value} (hf : a.free = true) (hv : valR0 β a v) : valR0 β' a v := by
 unfold valR0 at *
 split at hv
 ·rename_i ha
  rw [if_pos ha]
  obtain ⟨cs, e, hc⟩ := hv
  exact ⟨cs, e, cellsR.free a cs hf hc⟩
 ·rename_i ha
  rw [if_neg ha]
  exact cellsR.free a _ hf hv
theorem valsR.free {β β' : Base} : ∀ {l : List AV} {vs : List Value}, AV.frees l = true → valsR β l vs → valsR β' l vs
 | [], _, _, hv => hv
 | _ :: _, _, h, ⟨v, us, e, h1, h2⟩ => by
  simp only [AV.frees, Bool.and_eq_true] at h
  exact ⟨v, us, e, h1.free h.1, h2.free h.2⟩
theorem valR.free {β β' : Base} {a : AV} {v : Value} (hf : a.free = true) (hv : valR β a v) : valR β' a v := by
 cases a with
 | tup l => obtain ⟨vs, e, hs⟩ := hv; exact ⟨vs, e, hs.free (by simpa only [AV.free] using hf)⟩
 | _ => exact valR0.free hf hv

mutual
theorem cellsR.one {β : Base} : ∀ (a : AV) (cs : List Value), cellsR β a cs → ∀ x ∈ cs, x.oneCell' = true
 | .int _ _, _, hc => by cases hc; intro x hx; simp only [List.mem_singleton] at hx; subst hx; rfl
 | .bool _, _, hc => by cases hc; intro x hx; simp only [List.mem_singleton] at hx; subst hx; rfl
 | .val _, _, ⟨e, h⟩ => by cases e; intro x hx; simp only [List.mem_singleton] at hx; subst hx; exact h
 | .any, _, ⟨v, e, h⟩ => by cases e; intro x hx; simp only [List.mem_singleton] at hx; subst hx; exact h
 | .el _, _, ⟨l, e, _⟩ => by cases e; exact us_one l
 | .fg _, _, hc => by cases hc; exact is_one _
 | .ints _ _, _, hc => by
  cases hc; intro x hx
  obtain ⟨y, _, rfl⟩ := List.mem_map.1 hx
  rfl
 | .lit _, _, ⟨e, h⟩ => by cases e; exact h
 | .agg l, cs, hc => cellsRs.one none l cs hc
 | .isl _ _, _, ⟨v, e, a, cap, ev, _⟩ => by cases e; intro x hx; simp only [List.mem_singleton] at hx; subst hx; subst ev; rfl
 | .sl _ _, _, ⟨v, xs, e, ⟨a, cap, ev, _⟩, _⟩ => by cases e; intro x hx; simp only [List.mem_singleton] at hx; subst hx; subst ev; rfl
 | .ref _, _, ⟨g, off, xs, e, _⟩ => by cases e; intro x hx; simp only [List.mem_singleton] at hx; subst hx; rfl
 | .row _, _, ⟨a, cap, e⟩ => by cases e; intro x hx; simp only [List.mem_singleton] at hx; subst hx; rfl
 | .own _ _ _, _, ⟨v, n, xs, e, ho, _⟩ => by cases e; intro x hx; simp only [List.mem_singleton] at hx; subst hx; rcases ho.2 with ⟨rfl, _⟩ | ⟨_, _, _, rfl, _⟩ <;> rfl
 | .tup _, _, hc => by cases hc
 | .ob _, _, hc => Ob.one hc
theorem cellsRs.one {β : Base} (sz : Option Nat) : ∀ (l : List AV) (cs : List Value), cellsRs β sz l cs → ∀ x ∈ cs, x.oneCell' = true
 | [], _, hc => by cases hc; intro x hx; cases hx
 | a :: l, _, ⟨c, d, e, _, ha, hl⟩ => by
  cases e; intro x hx
  rcases List.mem_append.1 hx with hx | hx
  ·exact cellsR.one a c ha x hx
  ·exact cellsRs.one sz l d hl x hx
end
mutual
theorem cellsR.size {β : Base} : ∀ (a : AV) (cs : List Value), cellsR β a cs → cs.length = a.size
 | .int _ _, _, hc => by cases hc; rfl
 | .bool _, _, hc => by cases hc; rfl
 | .val _, _, ⟨e, _⟩ => by cases e; rfl
 | .any, _, ⟨v, e, h⟩ => by cases e; rfl
 | .el _, _, ⟨l, e, h⟩ => by cases e; simp [AV.size, h.len]
 | .fg _, _, hc => by cases hc; simp [AV.size, dgs_len]
 | .ints _ _, _, hc => by cases hc; simp [AV.size]
 | .lit _, _, ⟨e, _⟩ => by cases e; rfl
 | .agg l, cs, hc => by simp only [AV.size]; exact cellsRs.size none l cs hc
 | .isl _ _, _, ⟨v, e, _⟩ => by cases e; rfl
 | .sl _ _, _, ⟨v, xs, e, _⟩ => by cases e; rfl
 | .ref _, _, ⟨g, off, xs, e, _⟩ => by cases e; rfl
 | .row _, _, ⟨a, cap, e⟩ => by cases e; rfl
 | .own _ _ _, _, ⟨v, n, xs, e, _⟩ => by cases e; rfl
 | .tup _, _, hc => by cases hc
 | .ob _, _, hc => Ob.len hc
theorem cellsRs.size {β : Base} (sz : Option Nat) : ∀ (l : List AV) (cs : List Value), cellsRs β sz l cs → cs.length = AV.sizes l
 | [], _, hc => by cases hc; rfl
 | a :: l, _, ⟨c, d, e, _, ha, hl⟩ => by
  cases e
  simp only [AV.sizes, List.length_append, cellsR.size a c ha, cellsRs.size sz l d hl]
end
theorem valR0.one {β : Base} {a : AV} {v : Value} (hv : valR0 β a v) (ha : a.isAgg = false) : v.oneCell' = true := by
 unfold valR0 at hv
 rw [if_neg (by rw [ha]; simp)] at hv
 exact cellsR.one a _ hv v (by simp)
theorem valR0.agg {β : Base} {a : AV} {v : Value} (hv : valR0 β a v) (ha : a.isAgg = true) : ∃ cs : List Value, v = .agg cs.toArray ∧ cellsR β a cs := by
 unfold valR0 at hv
 rwa [if_pos ha] at hv
theorem valR0.cell {β : Base} {a : AV} {v : Value} (hv : valR0 β a v) (ha : a.isAgg = false) : cellsR β a [v] := by
 unfold valR0 at hv
 rwa [if_neg (by rw [ha]; simp)] at hv
theorem valR0.mk {β : Base} {a : AV} {cs : List Value} (ha : a.isAgg = true) (h : cellsR β a cs) : valR0 β a (.agg cs.toArray) := by
 unfold valR0; rw [if_pos ha]; exact ⟨cs, rfl, h⟩
theorem valR0.mk1 {β : Base} {a : AV} {v : Value} (ha : a.isAgg = false) (h : cellsR β a [v]) : valR0 β a v := by
 unfold valR0; rw [if_neg (by rw [ha]; simp)]; exact h
theorem valR0.notup {β : Base} {a : AV} {v : Value} (h : valR0 β a v) : valR β a v := by
 cases a with
 | tup l => exact absurd (h.cell rfl) (by simp [cellsR])
 | _ => exact h
theorem valR0.cells {β : Base} {a : AV} {v : Value} (hv : valR0 β a v) : cellsR β a v.cells.toList := by
 by_cases ha : a.isAgg = true
 ·obtain ⟨cs, rfl, h⟩ := hv.agg ha
  simpa [Value.cells] using h
 ·have hf : a.isAgg = false := by simpa using ha
  have h1 := hv.one hf
  have h2 := hv.cell hf
  have : v.cells = #[v] := by cases v <;> first | rfl | cases h1
  rw [this]; exact h2

theorem valsR.len {β : Base} : ∀ {l : List AV} {vs : List Value}, valsR β l vs → vs.length = l.length
 | [], _, h => by cases h; rfl
 | _ :: _, _, ⟨v, us, e, _, h⟩ => by cases e; simp [h.len]
theorem valsR.app {β : Base} : ∀ {l m : List AV} {vs us : List Value}, valsR β l vs → valsR β m us → valsR β (l ++ m) (vs ++ us)
 | [], _, _, _, h, h' => by cases h; exact h'
 | _ :: _, _, _, _, ⟨v, ws, e, h1, h2⟩, h' => by cases e; exact ⟨v, _, rfl, h1, h2.app h'⟩
theorem valsR.get {β : Base} : ∀ {l : List AV} {vs : List Value} {k : Nat} {a : AV}, valsR β l vs → l[k]? = some a → ∃ v, vs[k]? = some v ∧ valR0 β a v
 | [], _, _, _, _, e => by simp at e
 | b :: l, _, 0, a, ⟨v, us, e, h1, h2⟩, hk => by cases e; simp at hk; subst hk; exact ⟨v, rfl, h1⟩
 | b :: l, _, k + 1, a, ⟨v, us, e, h1, h2⟩, hk => by
  cases e
  obtain ⟨u, hu, hr⟩ := h2.get (by simpa using hk)
  exact ⟨u, by simpa using hu, hr⟩
theorem valsR.one1 {β : Base} {a : AV} {v : Value} (h : valR0 β a v) : valsR β [a] [v] := ⟨v, [], rfl, h, rfl⟩
end Go.Proofs.Ytdpongijmmdnoaa
/- Operands and operations, told in plain words. Over any program. -/
namespace Go.Proofs.Ytdpongijmmdnoaa
open Go.RowKit FdP FdP.Ch

def appK : List AV → List AV → (List AV → Prop) → Prop
 | [], m, K => K m
 | x :: l, m, K => appK l m fun r => K (x :: r)
theorem appK_eq : ∀ (l m : List AV) (K : List AV → Prop), appK l m K = K (l ++ m)
 | [], _, _ => rfl
 | x :: l, m, K => appK_eq l m fun r => K (x :: r)
def setK : List AV → Nat → AV → (List AV → Prop) → Prop
 | [], _, _, K => K []
 | _ :: l, 0, a, K => K (a :: l)
 | x :: l, k + 1, a, K => setK l k a fun r => K (x :: r)
theorem setK_eq : ∀ (l : List AV) (k : Nat) (a : AV) (K : List AV → Prop), setK l k a K = K (l.set k a)
 | [], _, _, _ => rfl
 | _ :: _, 0, _, _ => rfl
 | x :: l, k + 1, a, K => setK_eq l k a fun r => K (x :: r)
def nthA : List AV → Nat → Option AV
 | [], _ => none
 | a :: _, 0 => some a
 | _ :: l, k + 1 => nthA l k
theorem nthA_eq : ∀ (l : List AV) (k : Nat), nthA l k = l[k]?
 | [], _ => by simp [nthA]
 | _ :: _, 0 => by simp [nthA]
 | _ :: l, k + 1 => by simp [nthA, nthA_eq l k]
def lookT : List (Tmp × SV) → Tmp → Option SV
 | [], _ => none
 | (u, v) :: l, t => bif Nat.beq t u then some v else lookT l t
theorem lookT_eq : ∀ (l : List (Tmp × SV)) (t : Tmp), lookT l t = l.lookup t
 | [], _ => rfl
 | (u, v) :: l, t => by
  simp only [lookT, List.lookup, lookT_eq l t]
  cases h : Nat.beq t u with
  | true => have : t = u := by simpa using h
            subst this; simp
  | false =>
   have : ¬ t = u := fun e => by subst e; simp at h
   have h2 : (t == u) = false := by simpa using this
   rw [h2]; rfl
def ofVal : Value → AV
 | .int k n => .int k n
 | .bool b => .bool b
 | v => .val v
def ofValK (v : Value) (K : AV → Prop) : Prop := match v with
 | .int k n => K (.int k n)
 | .bool b => K (.bool b)
 | v => K (.val v)
theorem ofValK_eq (v : Value) (K : AV → Prop) : ofValK v K = K (ofVal v) := by unfold ofValK ofVal; cases v <;> rfl
def cutA : List AV → Nat → Nat → Option (List AV)
 | [], _, n => if n = 0 then some [] else none
 | a :: l, off, n => if n = 0 then some [] else if off = 0 then (if a.size ≤ n then (cutA l 0 (n - a.size)).map (a :: ·) else none) else (if a.size ≤ off then cutA l (off - a.size) n else none)
def sizeK (a : AV) (K : Nat → Prop) : Prop := match a with
 | .ints _ l => ∃ s, l.length = s ∧ K s
 | a => K a.size
theorem sizeK_ok {a : AV} {K : Nat → Prop} (h : sizeK a K) : K a.size := by
 unfold sizeK at h
 split at h
 ·obtain ⟨s, rfl, h⟩ := h; exact h
 ·exact h
def cutW : List AV → Nat → Nat → (List AV → Prop) → Prop
 | [], _, n, K => bif Nat.beq n 0 then K [] else False
 | a :: l, off, n, K => bif Nat.beq n 0 then K [] else sizeK a fun s => bif Nat.beq off 0 then (bif Nat.ble s n then cutW l 0 (n - s) fun r => K (a :: r) else False) else (bif Nat.ble s off then cutW l (off - s) n K else False)
theorem cutW_ok : ∀ {l : List AV} {off n : Nat} {K : List AV → Prop}, cutW l off n K → ∃ r, cutA l off n = some r ∧ K r
 | [], off, n, K, h => by
  simp only [cutW] at h
  cases hn : Nat.beq n 0 with
  | false => rw [hn] at h; exact h.elim
  | true =>
   rw [hn] at h
   have : n = 0 := by simpa using hn
   exact ⟨[], by simp [cutA, this], h⟩
 | a :: l, off, n, K, h => by
  simp only [cutW] at h
  cases hn : Nat.beq n 0 with
  | true =>
   rw [hn] at h
   have : n = 0 := by simpa using hn
   exact ⟨[], by simp [cutA, this], h⟩
  | false =>
   rw [hn] at h
   simp only [cond_false] at h
   have hn' : ¬ n = 0 := fun e => by subst e; cases hn
   have h := sizeK_ok h
   cases ho : Nat.beq off 0 with
   | true =>
    rw [ho] at h
    have ho' : off = 0 := by simpa using ho
    cases hs : Nat.ble a.size n with
    | false => rw [hs] at h; exact h.elim
    | true =>
     rw [hs] at h
     obtain ⟨r, h1, h2⟩ := cutW_ok (l := l) h
     exact ⟨a :: r, by simp [cutA, hn', ho', show a.size ≤ n by simpa using hs, h1], h2⟩
   | false =>
    rw [ho] at h
    have ho' : ¬ off = 0 := fun e => by subst e; cases ho
    cases hs : Nat.ble a.size off with
    | false => rw [hs] at h; exact h.elim
    | true =>
     rw [hs] at h
     obtain ⟨r, h1, h2⟩ := cutW_ok (l := l) h
     exact ⟨r, by simp [cutA, hn', ho', show a.size ≤ off by simpa using hs, h1], h2⟩
def atomW (ae : List AV) : Atom → (AV → Prop) → Prop
 | .const v, K => bif v.oneCell' then ofValK v K else False
 | .var k, K => match nthA ae k with
  | some a => bif a.isAgg then False else K a
  | none => False
 | .cell k i, K => match nthA ae k with
  | some (.ints kd l) => i < l.length ∧ K (.int kd (l.getD i 0))
  | some (.lit l) => match l[i]? with
   | some v => ofValK v K
   | none => False
  | some (.agg ps) => cutW ps i 1 fun q => match q with
   | [x] => bif x.isAgg then False else K x
   | _ => False
  | _ => False
 | _, _ => False
def segW (ae : List AV) : Seg → (List AV → Prop) → Prop
 | .whole k _, K => match nthA ae k with
  | some a => bif a.isAgg then K [a] else False
  | none => False
 | .part k off n, K => match nthA ae k with
  | some (.ints kd l) => off + n ≤ l.length ∧ K [.ints kd ((l.drop off).take n)]
  | some (.lit l) => off + n ≤ l.length ∧ K [.lit ((l.drop off).take n)]
  | some (.agg ps) => cutW ps off n K
  | _ => False
 | .lit l, K => bif l.all (·.oneCell') then K [.lit l] else False
 | .one a, K => atomW ae a fun x => K [x]
 | .rest k, K => match nthA ae k with
  | some a => bif a.isAgg then K [a] else False
  | none => False
 | .junk _, _ => False
def segsW (ae : List AV) : List Seg → (List AV → Prop) → Prop
 | [], K => K []
 | s :: r, K => segW ae s fun a => segsW ae r fun b => appK a b K
def pack : List AV → AV
 | [a] => bif a.isAgg then a else .agg [a]
 | l => .agg l
def packK (ps : List AV) (K : AV → Prop) : Prop := match ps with
 | [a] => bif a.isAgg then K a else K (.agg [a])
 | l => K (.agg l)
theorem packK_eq (ps : List AV) (K : AV → Prop) : packK ps K = K (pack ps) := by
 unfold packK pack
 split
 ·rename_i a; cases a.isAgg <;> rfl
 ·rfl
def leafW (ae : List AV) : Leaf → (AV → Prop) → Prop
 | .atom x, K => atomW ae x K
 | .agg l, K => segsW ae l fun ps => packK ps K
def leavesW (ae : List AV) : List Leaf → (List AV → Prop) → Prop
 | [], K => K []
 | x :: l, K => leafW ae x fun a => leavesW ae l fun b => K (a :: b)

section
variable {β : Base} {ae : List AV} {env : List Value} {gs : List Nat}
theorem ofVal_ok {v : Value} (h : v.oneCell' = true) : valR0 β (ofVal v) v := by
 unfold ofVal
 split
 ·exact valR0.mk1 rfl rfl
 ·exact valR0.mk1 rfl rfl
 ·exact valR0.mk1 rfl ⟨rfl, h⟩
theorem ofVal_cell {v : Value} (h : v.oneCell' = true) : (ofVal v).isAgg = false := by unfold ofVal; split <;> rfl

theorem cellsRs.snd {a : AV} {c : List Value} (h : cellsRs β none [a] c) : cellsR β a c := by
 obtain ⟨c1, d, e, _, h1, h2⟩ := h
 simp only [cellsRs] at h2
 subst h2
 rw [e, List.append_nil]; exact h1

theorem cutA_ok : ∀ {l : List AV} {off n : Nat} {r : List AV} {cs : List Value}, cutA l off n = some r → cellsRs β none l cs → cellsRs β none r ((cs.drop off).take n)
 | [], off, n, r, cs, h, hc => by
  simp only [cutA] at h
  split at h
  ·rename_i hn; cases h; subst hn; simp [cellsRs]
  ·cases h
 | a :: l, off, n, r, cs, h, ⟨c, d, e, _, ha, hl⟩ => by
  subst e
  have hs := cellsR.size a c ha
  simp only [cutA] at h
  split at h
  ·rename_i hn; cases h; subst hn; simp [cellsRs]
  split at h
  ·rename_i h0
   subst h0
   split at h
   ·rename_i hle
    obtain ⟨r', hr', rfl⟩ := Option.map_eq_some_iff.1 h
    have := cutA_ok hr' hl
    refine ⟨c, _, ?_, (fun _ hh => by cases hh), ha, this⟩
    simp only [List.drop_zero]
    rw [List.take_append, List.take_of_length_le (by omega), hs]
   ·cases h
  ·split at h
   ·rename_i hle
    have := cutA_ok h hl
    rw [List.drop_append, List.drop_of_length_le (by omega), List.nil_append, hs]
    exact this
   ·cases h

theorem atomW_ok {x : Atom} {K : AV → Prop} (h : atomW ae x K) (hv : valsR β ae env) : ∃ a, valR0 β a (x.den env gs) ∧ a.isAgg = false ∧ K a := by
 unfold atomW at h
 simp only [nthA_eq, ofValK_eq] at h
 split at h
 ·rename_i v
  cases h1 : v.oneCell' with
  | false => rw [h1] at h; exact h.elim
  | true => rw [h1] at h; exact ⟨_, ofVal_ok h1, ofVal_cell h1, h⟩
 ·rename_i k
  split at h
  ·rename_i a ha
   cases hag : a.isAgg with
   | true => rw [hag] at h; exact h.elim
   | false =>
    rw [hag] at h
    obtain ⟨v, hk, hr⟩ := hv.get ha
    exact ⟨a, by simp only [Atom.den, List.getD, hk]; exact hr, hag, h⟩
  ·exact h.elim
 ·rename_i k i
  split at h
  ·rename_i kd l ha
   obtain ⟨v, hk, hr⟩ := hv.get ha
   obtain ⟨cs, rfl, hc⟩ := hr.agg rfl
   simp only [cellsR] at hc
   subst hc
   refine ⟨_, ?_, rfl, h.2⟩
   have e : Atom.den env gs (.cell k i) = .int kd (l.getD i 0) := by
    simp only [Atom.den, cellsAt, List.getD, hk, Value.cells, Option.getD_some]
    simp [h.1]
   rw [e]
   exact valR0.mk1 rfl rfl
  ·rename_i l ha
   obtain ⟨v, hk, hr⟩ := hv.get ha
   obtain ⟨cs, rfl, hc⟩ := hr.agg rfl
   obtain ⟨rfl, h1⟩ := hc
   split at h
   ·rename_i u hu
    have e : Atom.den env gs (.cell k i) = u := by
     simp only [Atom.den, cellsAt, List.getD, hk, Value.cells, Option.getD_some]
     simp [hu]
    have hu1 := h1 u (List.mem_of_getElem? hu)
    exact ⟨_, by rw [e]; exact ofVal_ok hu1, ofVal_cell hu1, h⟩
   ·exact h.elim
  ·rename_i ps ha
   obtain ⟨v, hk, hr⟩ := hv.get ha
   obtain ⟨cs, rfl, hc⟩ := hr.agg rfl
   obtain ⟨q, hq, h⟩ := cutW_ok h
   split at h
   ·rename_i x
    cases hx : x.isAgg with
    | true => rw [hx] at h; exact h.elim
    | false =>
     rw [hx] at h
     have hp := (cutA_ok hq (show cellsRs β none ps cs from hc)).snd
     have hl := cellsR.size x _ hp
     have hx1 : x.size = 1 := by cases x <;> first | rfl | cases hx | skip
                                 simp [cellsR] at hp
     rw [hx1, List.length_take, List.length_drop] at hl
     have hi : i < cs.length := by omega
     have e : Atom.den env gs (.cell k i) = cs[i] := by
      simp only [Atom.den, cellsAt, List.getD, hk, Value.cells, Option.getD_some]
      simp [hi]
     have e2 : (cs.drop i).take 1 = [cs[i]] := by
      rw [List.drop_eq_getElem_cons hi]; rfl
     rw [e2] at hp
     exact ⟨x, by rw [e]; exact valR0.mk1 hx hp, hx, h⟩
   ·exact h.elim
  ·exact h.elim
 ·exact h.elim

theorem cellsRs.app : ∀ {l m : List AV} {c d : List Value}, cellsRs β none l c → cellsRs β none m d → cellsRs β none (l ++ m) (c ++ d)
 | [], _, _, _, h, h' => by cases h; exact h'
 | _ :: _, _, _, _, ⟨c1, c2, e, hn, h1, h2⟩, h' => by
  subst e
  exact ⟨c1, c2 ++ _, by rw [List.append_assoc], hn, h1, h2.app h'⟩
theorem cellsRs.one1 {a : AV} {c : List Value} (h : cellsR β a c) : cellsRs β none [a] c := ⟨c, [], by simp, (fun _ hh => by cases hh), h, rfl⟩
theorem segW_ok {s : Seg} {K : List AV → Prop} (h : segW ae s K) (hv : valsR β ae env) : ∃ ps, cellsRs β none ps (s.den env gs) ∧ K ps := by
 have whole : ∀ k, (match ae[k]? with | some a => bif a.isAgg then K [a] else False | none => False) → ∃ ps, cellsRs β none ps (cellsAt env k) ∧ K ps := by
  intro k h
  split at h
  ·rename_i a ha
   cases hag : a.isAgg with
   | false => rw [hag] at h; exact h.elim
   | true =>
    rw [hag] at h
    obtain ⟨v, hk, hr⟩ := hv.get ha
    obtain ⟨cs, rfl, hc⟩ := hr.agg hag
    refine ⟨[a], ?_, h⟩
    have e : cellsAt env k = cs := by simp [cellsAt, List.getD, hk, Value.cells]
    rw [e]; exact cellsRs.one1 hc
  ·exact h.elim
 unfold segW at h
 simp only [nthA_eq] at h
 split at h
 ·exact whole _ h
 ·rename_i k off n
  split at h
  ·rename_i kd l ha
   obtain ⟨v, hk, hr⟩ := hv.get ha
   obtain ⟨cs, rfl, hc⟩ := hr.agg rfl
   simp only [cellsR] at hc
   subst hc
   refine ⟨_, ?_, h.2⟩
   refine cellsRs.one1 ?_
   simp only [Seg.den, cellsR, cellsAt, List.getD, hk, Value.cells, Option.getD_some, List.map_take, List.map_drop]
  ·rename_i l ha
   obtain ⟨v, hk, hr⟩ := hv.get ha
   obtain ⟨cs, rfl, hc⟩ := hr.agg rfl
   obtain ⟨rfl, h1⟩ := hc
   refine ⟨_, ?_, h.2⟩
   refine cellsRs.one1 ⟨?_, fun x hx => h1 x (List.mem_of_mem_drop (List.mem_of_mem_take hx))⟩
   simp only [Seg.den, cellsAt, List.getD, hk, Value.cells, Option.getD_some]
  ·rename_i ps ha
   obtain ⟨v, hk, hr⟩ := hv.get ha
   obtain ⟨cs, rfl, hc⟩ := hr.agg rfl
   obtain ⟨r, hcut, h⟩ := cutW_ok h
   refine ⟨r, ?_, h⟩
   have e : Seg.den env gs (.part k off n) = (cs.drop off).take n := by simp [Seg.den, cellsAt, List.getD, hk, Value.cells]
   rw [e]
   exact cutA_ok hcut hc
  ·exact h.elim
 ·rename_i l
  cases h1 : l.all (·.oneCell') with
  | false => rw [h1] at h; exact h.elim
  | true => rw [h1] at h; exact ⟨[.lit l], cellsRs.one1 ⟨rfl, fun x hx => List.all_eq_true.1 h1 x hx⟩, h⟩
 ·rename_i x
  obtain ⟨a, h1, h2, h3⟩ := atomW_ok (gs := gs) h hv
  exact ⟨[a], cellsRs.one1 (h1.cell h2), h3⟩
 ·exact whole _ h
 ·exact h.elim
theorem segsW_ok : ∀ {l : List Seg} {K : List AV → Prop}, segsW ae l K → valsR β ae env → ∃ ps, cellsRs β none ps (flat env gs l) ∧ K ps
 | [], K, h, _ => ⟨[], by simp [cellsRs, flat], h⟩
 | s :: r, K, h, hv => by
  obtain ⟨a, h1, h2⟩ := segW_ok (gs := gs) h hv
  obtain ⟨b, h3, h4⟩ := segsW_ok h2 hv
  rw [appK_eq] at h4
  exact ⟨a ++ b, by rw [flat_cons]; exact h1.app h3, h4⟩
theorem pack_ok {ps : List AV} {cs : List Value} (h : cellsRs β none ps cs) : valR0 β (pack ps) (.agg cs.toArray) := by
 unfold pack
 split
 ·rename_i a
  cases ha : a.isAgg with
  | true => exact valR0.mk ha h.snd
  | false => exact valR0.mk rfl h
 ·exact valR0.mk rfl h
theorem leafW_ok {x : Leaf} {K : AV → Prop} (h : leafW ae x K) (hv : valsR β ae env) : ∃ a, valR0 β a (x.den env gs) ∧ K a := by
 cases x with
 | atom x => obtain ⟨a, h1, _, h2⟩ := atomW_ok (gs := gs) h hv; exact ⟨a, h1, h2⟩
 | agg l =>
  obtain ⟨ps, h1, h2⟩ := segsW_ok (gs := gs) h hv
  rw [packK_eq] at h2
  exact ⟨pack ps, by simp only [Leaf.den, catS_flat]; exact pack_ok h1, h2⟩
theorem leavesW_ok : ∀ {l : List Leaf} {K : List AV → Prop}, leavesW ae l K → valsR β ae env → ∃ zs, valsR β zs (l.map (Leaf.den env gs)) ∧ K zs
 | [], K, h, _ => ⟨[], rfl, h⟩
 | x :: l, K, h, hv => by
  obtain ⟨a, h1, h2⟩ := leafW_ok (gs := gs) h hv
  obtain ⟨b, h3, h4⟩ := leavesW_ok h2 hv
  exact ⟨a :: b, ⟨_, _, rfl, h1, h3⟩, h4⟩
end

noncomputable def dec (p : Prop) : Bool := @decide p (Classical.propDecidable p)
theorem dec_eq (p : Prop) [Decidable p] : dec p = decide p := by
 unfold dec
 by_cases h : p <;> simp [h]
theorem dec_true {p : Prop} (h : p) : dec p = true := by unfold dec; simp [h]
theorem dec_false {p : Prop} (h : ¬ p) : dec p = false := by unfold dec; simp [h]
def opA (ae : List AV) (ev : List (Tmp × SV)) : Operand → (AV → Prop) → Prop
 | .tmp t, K => match lookT ev t with
  | some (.leaf x) => leafW ae x K
  | _ => False
 | .const v, K => bif v.oneCell' then ofValK v K else False
 | _, _ => False
def AV.fg? : AV → Option F
 | .fg x => some x
 | .lit l => bif l.length == 16 && l.all (vsame (.int .i64 0)) then some 0 else none
 | _ => none
def arr16 (P : Program) (t : TypeId) : Bool := match P.underlying t with
 | some (.array 16 el) => (match P.underlying el with | some (.int .i64) => true | _ => false) && (tyN P el == some 1) && !P.eqGuardType P.depth t
 | _ => false
def isBoolT (P : Program) (t : TypeId) : Bool := match P.underlying t with | some .bool => true | _ => false
def isPtrT (P : Program) (t : TypeId) : Bool := match P.underlying t with | some (.pointer _) => true | _ => false
def wrapW (k : IntKind) (e : Int) (K : Int → Prop) : Prop := match k with
 | .i8 => ∀ r q : Int, r = e + q * 256 → -128 ≤ r → r < 128 → K r
 | .i16 => ∀ r q : Int, r = e + q * 65536 → -32768 ≤ r → r < 32768 → K r
 | .i32 => ∀ r q : Int, r = e + q * 4294967296 → -2147483648 ≤ r → r < 2147483648 → K r
 | .i64 => ∀ r q : Int, r = e + q * 18446744073709551616 → -9223372036854775808 ≤ r → r < 9223372036854775808 → K r
 | .u8 => ∀ r q : Int, r = e + q * 256 → 0 ≤ r → r < 256 → K r
 | .u16 => ∀ r q : Int, r = e + q * 65536 → 0 ≤ r → r < 65536 → K r
 | .u32 => ∀ r q : Int, r = e + q * 4294967296 → 0 ≤ r → r < 4294967296 → K r
 | .u64 => ∀ r q : Int, r = e + q * 18446744073709551616 → 0 ≤ r → r < 18446744073709551616 → K r
theorem wrapW_ok {k : IntKind} {e : Int} {K : Int → Prop} (h : wrapW k e K) : K (k.wrap e) := by
 cases k
 case i8 =>
  refine h _ ((IntKind.i8.wrap e - e) / 256) ?_ ?_ ?_ <;> simp only [IntKind.wrap, IntKind.bits, IntKind.signed] <;> simp <;> split <;> omega
 case i16 =>
  refine h _ ((IntKind.i16.wrap e - e) / 65536) ?_ ?_ ?_ <;> simp only [IntKind.wrap, IntKind.bits, IntKind.signed] <;> simp <;> split <;> omega
 case i32 =>
  refine h _ ((IntKind.i32.wrap e - e) / 4294967296) ?_ ?_ ?_ <;> simp only [IntKind.wrap, IntKind.bits, IntKind.signed] <;> simp <;> split <;> omega
 case i64 =>
  refine h _ ((IntKind.i64.wrap e - e) / 18446744073709551616) ?_ ?_ ?_ <;> simp only [IntKind.wrap, IntKind.bits, IntKind.signed] <;> simp <;> split <;> omega
 case u8 =>
  refine h _ ((IntKind.u8.wrap e - e) / 256) ?_ ?_ ?_ <;> simp only [IntKind.wrap, IntKind.bits, IntKind.signed] <;> simp <;> omega
 case u16 =>
  refine h _ ((IntKind.u16.wrap e - e) / 65536) ?_ ?_ ?_ <;> simp only [IntKind.wrap, IntKind.bits, IntKind.signed] <;> simp <;> omega
 case u32 =>
  refine h _ ((IntKind.u32.wrap e - e) / 4294967296) ?_ ?_ ?_ <;> simp only [IntKind.wrap, IntKind.bits, IntKind.signed] <;> simp <;> omega
 case u64 =>
  refine h _ ((IntKind.u64.wrap e - e) / 18446744073709551616) ?_ ?_ ?_ <;> simp only [IntKind.wrap, IntKind.bits, IntKind.signed] <;> simp <;> omega
def quoW (m n : Int) (K : Int → Prop) : Prop := ∀ r : Int, r = m.tdiv n → (0 ≤ m → 0 < n → r = m / n) → K r
def remW (m n : Int) (K : Int → Prop) : Prop := ∀ r : Int, r = m.tmod n → (0 ≤ m → 0 < n → r = m % n) → K r
theorem quoW_ok {m n : Int} {K : Int → Prop} (h : quoW m n K) : K (m.tdiv n) := h _ rfl fun h0 h1 => Int.tdiv_eq_ediv_of_nonneg h0
theorem remW_ok {m n : Int} {K : Int → Prop} (h : remW m n K) : K (m.tmod n) := h _ rfl fun h0 h1 => Int.tmod_eq_emod_of_nonneg h0
def intB (o : BinOp) (k : IntKind) (m n : Int) (K : AV → Prop) : Prop := match o with
 | .add => wrapW k (m + n) fun r => K (.int k r)
 | .sub => wrapW k (m - n) fun r => K (.int k r)
 | .mul => wrapW k (m * n) fun r => K (.int k r)
 | .quo => n ≠ 0 ∧ quoW m n fun e => wrapW k e fun r => K (.int k r)
 | .rem => n ≠ 0 ∧ remW m n fun r => K (.int k r)
 | .and => K (.int k (bits .and k m n))
 | .or => K (.int k (bits .or k m n))
 | .xor => K (.int k (bits .xor k m n))
 | .eql => K (.bool (decide (m = n)))
 | .neq => K (.bool (!decide (m = n)))
 | .lss => K (.bool (decide (m < n)))
 | .leq => K (.bool (decide (m ≤ n)))
 | .gtr => K (.bool (decide (n < m)))
 | .geq => K (.bool (decide (n ≤ m)))
 | _ => False
noncomputable def binW (P : Program) (o : BinOp) (t : TypeId) (a b : AV) (K : AV → Prop) : Prop := match o, a, b with
 | .shl, .int k m, .int _ n => 0 ≤ n ∧ K (.int k (k.wrap (m * 2 ^ (min n.toNat k.bits))))
 | .shr, .int k m, .int _ n => 0 ≤ n ∧ K (.int k (m.fdiv (2 ^ (min n.toNat k.bits))))
 | o, .int k m, .int k' n => bif decide (k = k') then intB o k m n K else False
 | .eql, .bool p, .bool q => bif isBoolT P t then K (.bool (p == q)) else False
 | .neq, .bool p, .bool q => bif isBoolT P t then K (.bool (!(p == q))) else False
 | .eql, .ref _, .val (.pointer none) => bif isPtrT P t then K (.bool false) else False
 | .neq, .ref _, .val (.pointer none) => bif isPtrT P t then K (.bool true) else False
 | .eql, .val (.pointer none), .val (.pointer none) => bif isPtrT P t then K (.bool true) else False
 | .neq, .val (.pointer none), .val (.pointer none) => bif isPtrT P t then K (.bool false) else False
 | .eql, .isl _ l, .val (.slice none 0 0) => bif (tySlc P t).isSome then ∀ c : Bool, (0 < l.length → c = false) → K (.bool c) else False
 | .eql, .sl sz es, .val (.slice none 0 0) => bif (tySlc P t).isSome && Nat.blt 0 sz then ∀ c : Bool, (0 < es.length → c = false) → K (.bool c) else False
 | .eql, a, b => bif arr16 P t then (match a.fg?, b.fg? with
  | some x, some y => K (.bool (dec (x = y)))
  | _, _ => False) else False
 | _, _, _ => False
def unW (o : UnOp) (a : AV) (K : AV → Prop) : Prop := match o, a with
 | .not, .bool b => K (.bool !b)
 | .neg, .int k n => wrapW k (0 - n) fun r => K (.int k r)
 | _, _ => False
def convW (P : Program) (s d : TypeId) (a : AV) (K : AV → Prop) : Prop := match P.underlying s, P.underlying d, a with
 | some _, some (.int k), .int _ n => wrapW k n fun r => K (.int k r)
 | _, _, _ => False
def isStrT (P : Program) (t : TypeId) : Bool := match P.underlying t with | some .string => true | _ => false
def strB (s : ByteArray) : List Int := s.data.toList.map fun b => (b.toNat : Int)
def AV.str? : AV → Option ByteArray
 | .val (.string s) => some s
 | _ => none
def indW (P : Program) (t : TypeId) (a b : AV) (K : AV → Prop) : Prop := bif isStrT P t then (match a.str?, b with
 | some s, .int _ m => 0 ≤ m ∧ m < ((strB s).length : Int) ∧ K (.int .u8 ((strB s).getD m.toNat 0))
 | _, _ => False) else False
def lenW (P : Program) (t : TypeId) (a : AV) (K : AV → Prop) : Prop := bif isStrT P t then (match a.str? with
 | some s => K (.int .i64 (strB s).length)
 | none => False) else bif (tySlc P t).isSome then (match a with
 | .isl _ l => K (.int .i64 l.length)
 | .sl _ es => K (.int .i64 es.length)
 | .row n => K (.int .i64 n)
 | .val (.slice none 0 0) => K (.int .i64 0)
 | _ => False) else False
def AV.parts : AV → List AV
 | .agg l => l
 | a => [a]
def idxW (P : Program) (t : TypeId) (a b : AV) (K : AV → Prop) : Prop := match b with
 | .int _ m => match a with
  | .isl k l => match (tySlc P t).bind (tyN P) with
   | some 1 => 0 ≤ m ∧ m < (l.length : Int) ∧ K (.ref (.int k (l.getD m.toNat 0)))
   | _ => False
  | .sl sz es => match (tySlc P t).bind (tyN P) with
   | some n => bif Nat.beq n sz && Nat.blt 0 sz then 0 ≤ m ∧ m < (es.length : Int) ∧ ∃ y, es.getD m.toNat .any = y ∧ K (.ref y) else False
   | _ => False
  | _ => False
 | _ => False
def loadW (P : Program) (t : TypeId) (a : AV) (K : AV → Prop) : Prop := match a with
 | .ref b => match tyAgg P t, tyN P t with
  | some ag, some n => bif (ag == b.isAgg) && (Nat.blt 0 n && Nat.beq n b.size) then K b else False
  | _, _ => False
 | _ => False
def unparts (P : Program) (t : TypeId) (ps : List AV) : Option AV := match tyAgg P t with
 | some true => some (pack ps)
 | some false => match ps with
  | [a] => some a
  | _ => none
 | none => none
def fldW (P : Program) (t : TypeId) (j : Nat) (a : AV) (K : AV → Prop) : Prop := match a with
 | .ref b => match tyFld P t j with
  | some (off, ft) => match tyN P ft with
   | some n => match cutA b.parts off n with
    | some ps => match unparts P ft ps with
     | some c => bif Nat.blt 0 n then K (.ref c) else False
     | none => False
    | none => False
   | none => False
  | none => False
 | _ => False
def bndW (ae : List AV) (ev : List (Tmp × SV)) (d : Int) : Option Operand → (Int → Prop) → Prop
 | none, K => K d
 | some x, K => opA ae ev x fun a => match a with
  | .int _ m => K m
  | _ => False
def sliceW (P : Program) (ae : List AV) (ev : List (Tmp × SV)) (t : TypeId) (a : AV) (lo hi mx : Option Operand) (K : AV → Prop) : Prop := match a with
 | .isl k l => match (tySlc P t).bind (tyN P) with
  | some 1 => bndW ae ev 0 lo fun m => bndW ae ev l.length hi fun n => bndW ae ev n mx fun c => 0 ≤ m ∧ m ≤ n ∧ n ≤ c ∧ c ≤ l.length ∧ (mx.isSome = true → hi.isSome = true) ∧ K (.isl k ((l.drop m.toNat).take (n - m).toNat))
  | _ => False
 | _ => False
def slcLen (ev : List (Tmp × SV)) : Operand → Option Nat
 | .tmp t => match lookT ev t with
  | some (.leaf (.atom (.slc _ _ n _))) => some n
  | _ => none
 | _ => none
def opAs (ae : List AV) (ev : List (Tmp × SV)) : List Operand → (List AV → Prop) → Prop
 | [], K => K []
 | x :: l, K => opA ae ev x fun a => opAs ae ev l fun zs => K (a :: zs)
def ExtOK (P : Program) (f : FuncId) (zs : List AV) (y : AV) : Prop := ∀ (β : Base) (vals : List Value), valsR β zs vals → ∃ v, valR β y v ∧ ∀ W, (callFunc f vals.toArray).run P W = .ok (.value v) W
noncomputable def opW (P : Program) (ae : List AV) (ev : List (Tmp × SV)) : Op → (AV → Prop) → Prop
 | .binOp o t x y _, K => opA ae ev x fun a => opA ae ev y fun b => binW P o t a b K
 | .unOp o _ x, K => opA ae ev x fun a => unW o a K
 | .convert s d x, K => opA ae ev x fun a => convW P s d a K
 | .call { callee := .builtin .len, args := args, argTypes := tys }, K => match args.toList, tys.toList with
  | [x], [t] => match slcLen ev x with
   | some n => lenW P t (.row n) K
   | none => opA ae ev x fun a => lenW P t a K
  | _, _ => False
 | .call { callee := .builtin .max, args := args, argTypes := _ }, K => match args.toList with
  | [x, y] => opA ae ev x fun a => opA ae ev y fun b => (match a, b with
   | .int k m, .int _ n => K (.int k (if n > m then n else m))
   | _, _ => False)
  | _ => False
 | .call { callee := .builtin .min, args := args, argTypes := _ }, K => match args.toList with
  | [x, y] => opA ae ev x fun a => opA ae ev y fun b => (match a, b with
   | .int k m, .int _ n => K (.int k (if n < m then n else m))
   | _, _ => False)
  | _ => False
 | .call { callee := .value (.func f), args := args, argTypes := _ }, K => opAs ae ev args.toList fun zs => ∃ y, ExtOK P f zs y ∧ K y
 | .indexAddr t x i, K => opA ae ev x fun a => opA ae ev i fun b => idxW P t a b K
 | .index t x i, K => opA ae ev x fun a => opA ae ev i fun b => indW P t a b K
 | .load t x, K => opA ae ev x fun a => loadW P t a K
 | .fieldAddr t x j, K => opA ae ev x fun a => fldW P t j a K
 | .slice t x lo hi mx, K => opA ae ev x fun a => sliceW P ae ev t a lo hi mx K
 | .move x, K => opA ae ev x K
 | .assign x, K => opA ae ev x K
 | .nilCheck x, K => opA ae ev x fun a => (match a with
  | .ref b => K (.ref b)
  | _ => False)
 | _, _ => False

section
variable {P : Program} {β : Base} {ae : List AV} {env : List Value} {gs : List Nat} {ev : List (Tmp × SV)}
def OpOK (P : Program) (β : Base) (env : List Value) (gs : List Nat) (ev : List (Tmp × SV)) (op : Op) (v : Value) : Prop :=
 ∀ (o : Oper) (ac : Act) (W : World), o.op = op → (∀ x ∈ ev, ac.eval (.tmp x.1) = x.2.den env gs) → Upto β W → (execOp ac.eval o).run P W = .ok (.value v) W
theorem opA_ok {x : Operand} {K : AV → Prop} (h : opA ae ev x K) (hv : valsR β ae env) : ∃ v a, opv ev env gs x = some v ∧ valR0 β a v ∧ K a := by
 unfold opA at h
 simp only [lookT_eq, ofValK_eq] at h
 split at h
 ·rename_i t
  split at h
  ·rename_i y hy
   obtain ⟨a, h1, h2⟩ := leafW_ok (gs := gs) h hv
   exact ⟨_, a, by simp only [opv, hy, Option.map_some, SV.den], h1, h2⟩
  ·exact h.elim
 ·rename_i v
  cases h1 : v.oneCell' with
  | false => rw [h1] at h; exact h.elim
  | true => rw [h1] at h; exact ⟨v, _, rfl, ofVal_ok h1, h⟩
 ·exact h.elim

theorem valR0.int_inv {k : IntKind} {n : Int} {v : Value} (h : valR0 β (.int k n) v) : v = .int k n := by
 have := h.cell rfl; simpa [cellsR] using this
theorem valR0.bool_inv {b : Bool} {v : Value} (h : valR0 β (.bool b) v) : v = .bool b := by
 have := h.cell rfl; simpa [cellsR] using this
theorem valR0.val_inv {u v : Value} (h : valR0 β (.val u) v) : v = u := by
 have := (h.cell rfl).1; simpa using this
theorem valR0.int_mk (k : IntKind) (n : Int) : valR β (.int k n) (.int k n) := valR0.mk1 rfl rfl
theorem valR0.bool_mk (b : Bool) : valR β (.bool b) (.bool b) := valR0.mk1 rfl rfl

theorem run_shl (t : TypeId) (k k' : IntKind) (m n : Int) (h : 0 ≤ n) (W : World) : (binOp .shl t (.int k m) (.int k' n)).run P W = .ok (.int k (k.wrap (m * 2 ^ (min n.toNat k.bits)))) W := by
 have : ¬ n < 0 := by omega
 simp [binOp, Op.shift, this]
theorem run_shr (t : TypeId) (k k' : IntKind) (m n : Int) (h : 0 ≤ n) (W : World) : (binOp .shr t (.int k m) (.int k' n)).run P W = .ok (.int k (m.fdiv (2 ^ (min n.toNat k.bits)))) W := by
 have : ¬ n < 0 := by omega
 simp [binOp, Op.shift, this]
theorem intB_ok {o : BinOp} {k : IntKind} {m n : Int} {K : AV → Prop} (h : intB o k m n K) : ∃ v a, valR β a v ∧ K a ∧ ∀ (t : TypeId) (W : World), (binOp o t (.int k m) (.int k n)).run P W = .ok v W := by
 unfold intB at h
 split at h
 ·exact ⟨_, _, valR0.int_mk _ _, wrapW_ok h, fun t W => bin_add t k m n W⟩
 ·exact ⟨_, _, valR0.int_mk _ _, wrapW_ok h, fun t W => bin_sub t k m n W⟩
 ·exact ⟨_, _, valR0.int_mk _ _, wrapW_ok h, fun t W => bin_mul t k m n W⟩
 ·exact ⟨_, _, valR0.int_mk _ _, wrapW_ok (quoW_ok h.2), fun t W => bin_quo t k m n h.1 W⟩
 ·exact ⟨_, _, valR0.int_mk _ _, remW_ok h.2, fun t W => bin_rem t k m n h.1 W⟩
 ·exact ⟨_, _, valR0.int_mk _ _, h, fun t W => by simp [binOp, intBits_and]⟩
 ·exact ⟨_, _, valR0.int_mk _ _, h, fun t W => by simp [binOp, intBits_or]⟩
 ·exact ⟨_, _, valR0.int_mk _ _, h, fun t W => by simp [binOp, intBits_xor]⟩
 ·exact ⟨_, _, valR0.bool_mk _, h, fun t W => bin_eql t k m n W⟩
 ·exact ⟨_, _, valR0.bool_mk _, h, fun t W => bin_neq t k m n W⟩
 ·exact ⟨_, _, valR0.bool_mk _, h, fun t W => bin_lss t k m n W⟩
 ·exact ⟨_, _, valR0.bool_mk _, h, fun t W => bin_leq t k m n W⟩
 ·exact ⟨_, _, valR0.bool_mk _, h, fun t W => bin_gtr t k m n W⟩
 ·exact ⟨_, _, valR0.bool_mk _, h, fun t W => bin_geq t k m n W⟩
 ·exact h.elim
theorem fg_zero : is (dgs 0) = List.replicate 16 (.int .i64 0) := by
 have : dgs (0 : F) = List.replicate 16 0 := by decide +kernel
 rw [this]; rfl
theorem all_zero {l : List Value} {z : Value} (h : l.all (vsame z) = true) : l = List.replicate l.length z := by
 induction l with
 | nil => rfl
 | cons x r ih =>
  simp only [List.all_cons, Bool.and_eq_true] at h
  rw [List.length_cons, List.replicate_succ, ← ih h.2, ← vsame_eq h.1]
theorem fg_inv {a : AV} {x : F} {v : Value} (h : a.fg? = some x) (hv : valR0 β a v) : v = FG x := by
 unfold AV.fg? at h
 split at h
 ·cases h
  obtain ⟨cs, rfl, hc⟩ := hv.agg rfl
  simp only [cellsR] at hc
  subst hc; rfl
 ·rename_i l
  cases hc : (l.length == 16 && l.all (vsame (.int .i64 0))) with
  | false => rw [hc] at h; cases h
  | true =>
   rw [hc] at h
   cases h
   simp only [Bool.and_eq_true, beq_iff_eq] at hc
   obtain ⟨cs, rfl, e, _⟩ := hv.agg rfl
   subst e
   rw [all_zero hc.2, hc.1]
   unfold FG AG; rw [fg_zero]
 ·cases h
end
end Go.Proofs.Ytdpongijmmdnoaa
/- Operations told in plain words are what the machine does. Over any program. -/
namespace Go.Proofs.Ytdpongijmmdnoaa
open Go.RowKit FdP FdP.Ch

section
variable {P : Program} {β : Base} {ae : List AV} {env : List Value} {gs : List Nat} {ev : List (Tmp × SV)}
theorem OpOK.bin {o : BinOp} {t yt : TypeId} {x y : Operand} {u w v : Value} (hx : opv ev env gs x = some u) (hy : opv ev env gs y = some w) (hg : ∀ W, (eqGuard o t x y u w).run P W = .ok () W) (hb : ∀ W, (binOp o t u w).run P W = .ok v W) :
 OpOK P β env gs ev (.binOp o t x y yt) v := by
 intro op ac W ho he _
 unfold execOp
 simp only [ho, opv_ok hx he, opv_ok hy he, Sem.run_bind, hg, Result.andThen_ok, hb, Sem.run_pure]

theorem isBoolT_ok {t : TypeId} (h : isBoolT P t = true) : P.underlying t = some .bool := by
 unfold isBoolT at h
 split at h
 ·rename_i hu; exact hu
 ·cases h
theorem isPtrT_ok {t : TypeId} (h : isPtrT P t = true) : P.underlying t = some (.pointer (P.pointee t)) := by
 unfold isPtrT at h
 split at h
 ·rename_i e hu; rw [hu]; simp [Program.pointee, hu]
 ·cases h
theorem arr16_ok {t : TypeId} (h : arr16 P t = true) : ∃ el, P.underlying t = some (.array 16 el) ∧ P.underlying el = some (.int .i64) ∧ tyN P el = some 1 ∧ P.eqGuardType P.depth t = false := by
 unfold arr16 at h
 split at h
 ·rename_i el hu
  simp only [Bool.and_eq_true, beq_iff_eq, Bool.not_eq_true'] at h
  obtain ⟨⟨h1, h2⟩, h3⟩ := h
  refine ⟨el, hu, ?_, h2, h3⟩
  split at h1
  ·rename_i h4; exact h4
  ·cases h1
 ·cases h
theorem run_eqFG {t el : TypeId} (x y : F) (ht : P.underlying t = some (.array 16 el)) (hel : P.underlying el = some (.int .i64)) (hsz : tyN P el = some 1) (W : World) : (binOp .eql t (FG x) (FG y)).run P W = .ok (.bool (decide (x = y))) W := by
 obtain ⟨i, hi⟩ : ∃ i, P.info? el = some i := by
  unfold tyN at hsz
  cases hq : P.info? el with
  | none => simp [hq] at hsz
  | some i => exact ⟨i, rfl⟩
 have hs1 : i.size = 1 := by simpa [tyN, hi] using hsz
 have lx := dgs_len x
 have ly := dgs_len y
 have e0 := run_eqItems_is (d := 9998) hel (dgs x) (dgs y) W (List.range 16) (fun j hj => by rw [List.mem_range] at hj; omega)
 have e1 : (Op.equalIn 10000 t (FG x) (FG y)).run P W = .ok (decide (x = y)) W := by
  have := run_equalIn_array W 9999 (is (dgs x)).toArray (is (dgs y)).toArray ht hi
  have hcs : P.cellsOf el = 1 := by simp [Program.cellsOf, hi, hs1]
  rw [hcs] at this
  refine this.trans (e0.trans ?_)
  congr 1
  rw [decide_eq_decide]
  constructor
  ·intro h
   refine dgs_inj (List.ext_getElem (by omega) fun j h1 h2 => ?_)
   have := h j (by simpa using (by omega : j < 16))
   simpa [List.getD, h1, h2] using this
  ·rintro rfl j _; rfl
 have := run_eql_struct (P := P) W t (is (dgs x)).toArray (is (dgs y)).toArray
 refine this.trans ?_
 have e1' : (Op.equalIn 10000 t (.agg (is (dgs x)).toArray) (.agg (is (dgs y)).toArray)).run P W = .ok (decide (x = y)) W := e1
 rw [e1']; rfl

theorem tySlc_some {t : TypeId} (h : (tySlc P t).isSome = true) : ∃ el, P.underlying t = some (.slice el) := by
 unfold tySlc at h
 split at h
 ·rename_i el hu; exact ⟨el, hu⟩
 ·cases h
theorem binW_ok {o : BinOp} {t yt : TypeId} {x y : Operand} {a b : AV} {u w : Value} {K : AV → Prop} (h : binW P o t a b K) (hx : opv ev env gs x = some u) (hy : opv ev env gs y = some w) (ha : valR0 β a u) (hb : valR0 β b w) :
 ∃ v c, valR β c v ∧ K c ∧ OpOK P β env gs ev (.binOp o t x y yt) v := by
 unfold binW at h
 split at h
 ·rename_i k m k' n
  obtain rfl := ha.int_inv; obtain rfl := hb.int_inv
  exact ⟨_, _, valR0.int_mk _ _, h.2, OpOK.bin hx hy (fun W => rfl) fun W => run_shl t k k' m n h.1 W⟩
 ·rename_i k m k' n
  obtain rfl := ha.int_inv; obtain rfl := hb.int_inv
  exact ⟨_, _, valR0.int_mk _ _, h.2, OpOK.bin hx hy (fun W => rfl) fun W => run_shr t k k' m n h.1 W⟩
 ·rename_i k m k' n _ _
  obtain rfl := ha.int_inv; obtain rfl := hb.int_inv
  cases hkk : decide (k = k') with
  | false => rw [hkk] at h; exact h.elim
  | true =>
  rw [hkk] at h
  obtain rfl := of_decide_eq_true hkk
  obtain ⟨v, c, h1, h2, h3⟩ := intB_ok (β := β) (P := P) h
  exact ⟨v, c, h1, h2, OpOK.bin hx hy (fun W => by unfold eqGuard; cases o <;> rfl) fun W => h3 t W⟩
 ·rename_i p q
  obtain rfl := ha.bool_inv; obtain rfl := hb.bool_inv
  cases ht : isBoolT P t with
  | false => rw [ht] at h; exact h.elim
  | true =>
   rw [ht] at h
   exact ⟨_, _, valR0.bool_mk _, h, OpOK.bin hx hy (fun W => rfl) fun W => run_eql_bool W t p q (isBoolT_ok ht)⟩
 ·rename_i p q
  obtain rfl := ha.bool_inv; obtain rfl := hb.bool_inv
  cases ht : isBoolT P t with
  | false => rw [ht] at h; exact h.elim
  | true =>
   rw [ht] at h
   exact ⟨_, _, valR0.bool_mk _, h, OpOK.bin hx hy (fun W => rfl) fun W => run_neq_bool W t p q (isBoolT_ok ht)⟩
 ·rename_i r
  obtain ⟨g, off, xs, e, _⟩ := ha.cell rfl
  obtain rfl := hb.val_inv
  obtain rfl : u = .pointer (some ⟨g, off, none⟩) := by simpa using e
  cases ht : isPtrT P t with
  | false => rw [ht] at h; exact h.elim
  | true =>
   rw [ht] at h
   exact ⟨_, _, valR0.bool_mk _, h, OpOK.bin hx hy (fun W => rfl) fun W => run_eql_pointer_nil W t _ (isPtrT_ok ht)⟩
 ·rename_i r
  obtain ⟨g, off, xs, e, _⟩ := ha.cell rfl
  obtain rfl := hb.val_inv
  obtain rfl : u = .pointer (some ⟨g, off, none⟩) := by simpa using e
  cases ht : isPtrT P t with
  | false => rw [ht] at h; exact h.elim
  | true =>
   rw [ht] at h
   exact ⟨_, _, valR0.bool_mk _, h, OpOK.bin hx hy (fun W => rfl) fun W => run_neq_pointer_nil W t _ (isPtrT_ok ht)⟩
 ·obtain rfl := ha.val_inv; obtain rfl := hb.val_inv
  cases ht : isPtrT P t with
  | false => rw [ht] at h; exact h.elim
  | true =>
   rw [ht] at h
   exact ⟨_, _, valR0.bool_mk _, h, OpOK.bin hx hy (fun W => rfl) fun W => run_eql_pointer_nil W t _ (isPtrT_ok ht)⟩
 ·obtain rfl := ha.val_inv; obtain rfl := hb.val_inv
  cases ht : isPtrT P t with
  | false => rw [ht] at h; exact h.elim
  | true =>
   rw [ht] at h
   exact ⟨_, _, valR0.bool_mk _, h, OpOK.bin hx hy (fun W => rfl) fun W => run_neq_pointer_nil W t _ (isPtrT_ok ht)⟩
 ·rename_i k l
  obtain ⟨v, e, ad, cap, rfl, _, hcl, hp⟩ := ha.cell rfl
  obtain rfl := hb.val_inv
  obtain rfl : u = .slice ad l.length cap := by simpa using e
  cases ht : (tySlc P t).isSome with
  | false => rw [ht] at h; exact h.elim
  | true =>
   rw [ht] at h
   obtain ⟨el, hel⟩ := tySlc_some ht
   refine ⟨_, _, valR0.bool_mk _, h ad.isNone fun h0 => ?_, OpOK.bin hx hy (fun W => rfl) fun W => Lib.run_eql_slice_nil W t el ad _ _ 0 0 hel⟩
   obtain ⟨g, off, rfl, _⟩ := hp (by simpa using h0)
   rfl
 ·rename_i sz es
  obtain ⟨v, xs, e, ⟨ad, cap, rfl, _, hcl, hp⟩, _⟩ := ha.cell rfl
  obtain rfl := hb.val_inv
  obtain rfl : u = .slice ad es.length cap := by simpa using e
  cases ht : ((tySlc P t).isSome && Nat.blt 0 sz) with
  | false => rw [ht] at h; exact h.elim
  | true =>
   rw [ht] at h
   simp only [Bool.and_eq_true, Nat.blt_eq] at ht
   obtain ⟨el, hel⟩ := tySlc_some ht.1
   refine ⟨_, _, valR0.bool_mk _, h ad.isNone fun h0 => ?_, OpOK.bin hx hy (fun W => rfl) fun W => Lib.run_eql_slice_nil W t el ad _ _ 0 0 hel⟩
   obtain ⟨g, off, rfl, _⟩ := hp (by rw [hcl]; exact Nat.mul_pos h0 ht.2)
   rfl
 ·cases ht : arr16 P t with
  | false => rw [ht] at h; exact h.elim
  | true =>
   rw [ht] at h
   obtain ⟨el, q1, q2, q3, q4⟩ := arr16_ok ht
   simp only [cond_true] at h
   split at h
   ·rename_i f g hf hg
    obtain rfl := fg_inv hf ha
    obtain rfl := fg_inv hg hb
    rw [dec_eq] at h
    exact ⟨_, _, valR0.bool_mk _, h, OpOK.bin hx hy (fun W => run_eqGuard_agg W .eql t x y _ _ q4) fun W => run_eqFG f g q1 q2 q3 W⟩
   ·exact h.elim
 ·exact h.elim

theorem unW_ok {o : UnOp} {t : TypeId} {x : Operand} {a : AV} {u : Value} {K : AV → Prop} (h : unW o a K) (hx : opv ev env gs x = some u) (ha : valR0 β a u) : ∃ v c, valR β c v ∧ K c ∧ OpOK P β env gs ev (.unOp o t x) v := by
 unfold unW at h
 split at h
 ·obtain rfl := ha.bool_inv
  refine ⟨_, _, valR0.bool_mk _, h, fun op ac W ho he _ => ?_⟩
  unfold execOp
  simp only [ho, opv_ok hx he, Op.unary, Sem.run_bind, Sem.run_pure, Result.andThen_ok]
 ·obtain rfl := ha.int_inv
  refine ⟨_, _, valR0.int_mk _ _, wrapW_ok h, fun op ac W ho he _ => ?_⟩
  unfold execOp
  simp only [ho, opv_ok hx he, Op.unary, Op.intArith, Sem.run_bind, Sem.run_pure, Result.andThen_ok]
 ·exact h.elim
theorem convW_ok {s d : TypeId} {x : Operand} {a : AV} {u : Value} {K : AV → Prop} (h : convW P s d a K) (hx : opv ev env gs x = some u) (ha : valR0 β a u) : ∃ v c, valR β c v ∧ K c ∧ OpOK P β env gs ev (.convert s d x) v := by
 unfold convW at h
 split at h
 ·rename_i s' k k' n hs hd
  obtain rfl := ha.int_inv
  refine ⟨_, _, valR0.int_mk _ _, wrapW_ok h, fun op ac W ho he _ => ?_⟩
  unfold execOp
  simp only [ho, opv_ok hx he, convert, Conv.intToInt, Sem.run_bind, run_underlying hs, run_underlying hd, Sem.run_pure, Result.andThen_ok]
 ·exact h.elim
theorem isStrT_under {t : TypeId} (h : isStrT P t = true) : P.underlying t = some .string := by
 unfold isStrT at h
 split at h
 ·assumption
 ·cases h
theorem strB_len (s : ByteArray) : (strB s).length = s.size := by simp [strB]
theorem str_inv {a : AV} {s : ByteArray} {v : Value} (h : a.str? = some s) (hv : valR0 β a v) : v = .string s := by
 unfold AV.str? at h
 split at h
 ·cases h; exact hv.val_inv
 ·cases h
theorem lenW_ok {t : TypeId} {x : Operand} {a : AV} {u : Value} {K : AV → Prop} (h : lenW P t a K) (hx : opv ev env gs x = some u) (ha : valR0 β a u) : ∃ v c, valR β c v ∧ K c ∧ OpOK P β env gs ev (.call { callee := .builtin .len, args := #[x], argTypes := #[t] }) v := by
 unfold lenW at h
 cases hs : isStrT P t with
 | true =>
  rw [hs] at h
  simp only [cond_true] at h
  split at h
  ·rename_i s hs'
   have hu := str_inv hs' ha
   subst hu
   refine ⟨_, _, valR0.int_mk _ _, h, fun op ac W ho he _ => ?_⟩
   have e1 : (Builtin.len_ #[t] op.type #[.string s]).run P W = .ok (.int .i64 ((strB s).length : Int)) W := by
    unfold Builtin.len_
    rw [strB_len]
    simp [run_underlying (isStrT_under hs), goInt]
   unfold execOp
   simp only [ho, resolve, invoke, builtin, Sem.run_bind, Sem.run_pure, Result.andThen_ok, List.map_toArray, List.map_cons, List.map_nil, opv_ok hx he, e1]
  ·exact h.elim
 | false =>
 rw [hs] at h
 simp only [cond_false] at h
 cases ht : (tySlc P t).isSome with
 | false => rw [ht] at h; exact h.elim
 | true =>
  rw [ht] at h
  simp only [cond_true] at h
  obtain ⟨el, hel⟩ := Option.isSome_iff_exists.1 ht
  have hu := tySlc_under hel
  have go : ∀ (n : Nat) (ad : Option Addr) (c : Nat), u = .slice ad n c → OpOK P β env gs ev (.call { callee := .builtin .len, args := #[x], argTypes := #[t] }) (.int .i64 n) := by
   intro n ad c e op ac W ho he _
   subst e
   have e1 : (Builtin.len_ #[t] op.type #[.slice ad n c]).run P W = .ok (.int .i64 (n : Int)) W := by
    unfold Builtin.len_
    simp [run_underlying hu, goInt]
   unfold execOp
   simp only [ho, resolve, invoke, builtin, Sem.run_bind, Sem.run_pure, Result.andThen_ok, List.map_toArray, List.map_cons, List.map_nil, opv_ok hx he, e1]
  split at h
  ·obtain ⟨v, e, ad, cap, rfl, _⟩ := ha.cell rfl
   exact ⟨_, _, valR0.int_mk _ _, h, go _ ad cap (by simpa using e)⟩
  ·obtain ⟨v, xs, e, ⟨ad, cap, rfl, _⟩, _⟩ := ha.cell rfl
   exact ⟨_, _, valR0.int_mk _ _, h, go _ ad cap (by simpa using e)⟩
  ·obtain ⟨ad, cap, e⟩ := ha.cell rfl
   exact ⟨_, _, valR0.int_mk _ _, h, go _ ad cap (by simpa using e)⟩
  ·obtain rfl := ha.val_inv
   exact ⟨_, _, valR0.int_mk _ _, h, go 0 none 0 rfl⟩
  ·exact h.elim

theorem slcLen_ok {x : Operand} {n : Nat} (h : slcLen ev x = some n) : ∃ u, opv ev env gs x = some u ∧ valR0 β (.row n) u := by
 unfold slcLen at h
 simp only [lookT_eq] at h
 split at h
 ·split at h
  ·rename_i b o m c hy
   simp only [Option.some.injEq] at h
   subst h
   exact ⟨_, by simp only [opv, hy, Option.map_some, SV.den]; rfl, valR0.mk1 rfl ⟨_, _, rfl⟩⟩
  ·cases h
 ·cases h
theorem indW_ok {t : TypeId} {x i : Operand} {a b : AV} {u v : Value} {K : AV → Prop} (h : indW P t a b K) (hx : opv ev env gs x = some u) (hi : opv ev env gs i = some v) (ha : valR0 β a u) (hb : valR0 β b v) :
 ∃ r c, valR β c r ∧ K c ∧ OpOK P β env gs ev (.index t x i) r := by
 unfold indW at h
 cases hs : isStrT P t with
 | false => rw [hs] at h; exact h.elim
 | true =>
  rw [hs] at h
  simp only [cond_true] at h
  split at h
  ·rename_i s k m hs'
   have hu := str_inv hs' ha
   subst hu
   obtain rfl := hb.int_inv
   obtain ⟨h0, h1, h⟩ := h
   refine ⟨_, _, valR0.int_mk _ _, h, fun op ac W ho he _ => ?_⟩
   have hl : m.toNat < s.size := by rw [strB_len] at h1; omega
   have e1 : (Instr.index t (.string s) (.int k m)).run P W = .ok (.int .u8 ((strB s).getD m.toNat 0)) W := by
    have e2 : s[m.toNat]? = some s[m.toNat] := getElem?_pos s m.toNat hl
    have e3 : (strB s).getD m.toNat 0 = ((s[m.toNat]).toNat : Int) := by
     have hl' : m.toNat < s.data.size := hl
     have : s[m.toNat] = s.data[m.toNat] := rfl
     rw [this]
     simp only [strB, List.getD, List.getElem?_map, Array.getElem?_toList]
     rw [getElem?_pos s.data m.toNat hl']; rfl
    rw [e3]
    unfold Instr.index
    simp [asIntOf, Sem.run_bind, run_underlying (isStrT_under hs), h0, e2]
   unfold execOp
   simp only [ho, opv_ok hx he, opv_ok hi he, e1, Sem.run_bind, Result.andThen_ok, Sem.run_pure]
  ·exact h.elim
theorem elems_get {sz : Nat} : ∀ {es : List AV} {cs : List Value} {i : Nat}, cellsRs β (some sz) es cs → i < es.length → ∃ c, cellsR β (es.getD i .any) c ∧ c.length = sz ∧ (∀ j, j < sz → cs[i * sz + j]? = c[j]?) ∧ i * sz + sz ≤ cs.length
 | [], _, _, _, h => by simp at h
 | a :: l, cs, 0, ⟨c, d, e, hn, ha, hl⟩, _ => by
  subst e
  have hc := hn sz rfl
  exact ⟨c, ha, hc, fun j hj => by rw [Nat.zero_mul, Nat.zero_add, List.getElem?_append_left (by omega)], by simp; omega⟩
 | a :: l, cs, i + 1, ⟨c, d, e, hn, ha, hl⟩, h => by
  subst e
  have hc := hn sz rfl
  obtain ⟨c', q1, q2, q3, q4⟩ := elems_get hl (by simpa using h : i < l.length)
  refine ⟨c', by simpa using q1, q2, fun j hj => ?_, ?_⟩
  ·rw [List.getElem?_append_right (by rw [Nat.succ_mul]; omega), ← q3 j hj]
   congr 1
   rw [Nat.succ_mul]; omega
  ·rw [List.length_append, Nat.succ_mul]; omega

theorem idxW_ok {t : TypeId} {x i : Operand} {a b : AV} {u w : Value} {K : AV → Prop} (h : idxW P t a b K) (hx : opv ev env gs x = some u) (hi : opv ev env gs i = some w) (ha : valR0 β a u) (hb : valR0 β b w) :
 ∃ v c, valR β c v ∧ K c ∧ OpOK P β env gs ev (.indexAddr t x i) v := by
 unfold idxW at h
 split at h
 ·rename_i kd m
  obtain rfl := hb.int_inv
  have go : ∀ (len cap n : Nat) (ad : Addr), u = .slice (some ad) len cap → (tySlc P t).bind (tyN P) = some n → 0 ≤ m → m < (len : Int) → OpOK P β env gs ev (.indexAddr t x i) (.pointer (some (ad.add (m.toNat * n)))) := by
   intro len cap n ad e hn h0 h1 op ac W ho he _
   subst e
   obtain ⟨el, hel, hn⟩ := Option.bind_eq_some_iff.1 hn
   unfold execOp
   simp only [ho, opv_ok hx he, opv_ok hi he, Instr.indexAt, asIntOf, Sem.run_bind, run_underlying (tySlc_under hel), Result.andThen_ok, Sem.run_pure, tyN_run hn, h0, h1, and_self, if_true]
  split at h
  ·rename_i k l
   split at h
   ·rename_i hn
    obtain ⟨h0, h1, h2⟩ := h
    obtain ⟨v, e, ad, cap, rfl, hle, hcl, hp⟩ := ha.cell rfl
    have hlt : m.toNat < l.length := by omega
    obtain ⟨g, off, rfl, hg, hxg, hj⟩ := hp (by simp; omega)
    refine ⟨_, _, ?_, h2, go _ cap 1 _ (by simpa using e) hn h0 h1⟩
    rw [addr_add, Nat.mul_one]
    refine valR0.mk1 rfl ⟨g, off + m.toNat, [.int k (l.getD m.toNat 0)], rfl, rfl, hg, hxg, fun j hjl => ?_⟩
    have hj0 : j = 0 := by simpa using hjl
    subst hj0
    have := hj m.toNat (by simpa using hlt)
    rw [Nat.add_zero, this]
    simp [List.getD, hlt]
   ·exact h.elim
  ·rename_i sz es
   split at h
   ·rename_i n hn
    cases hkk : (Nat.beq n sz && Nat.blt 0 sz) with
    | false => rw [hkk] at h; exact h.elim
    | true =>
    rw [hkk] at h
    simp only [Bool.and_eq_true, Nat.beq_eq, Nat.blt_eq] at hkk
    obtain ⟨rfl, hsz⟩ := hkk
    obtain ⟨h0, h1, y, hy, h2⟩ := (show _ ∧ _ ∧ ∃ y, _ ∧ _ from h)
    subst hy
    obtain ⟨v, xs, e, ⟨ad, cap, rfl, hle, hcl, hp⟩, hes⟩ := ha.cell rfl
    have hlt : m.toNat < es.length := by omega
    obtain ⟨c, q1, q2, q3, q4⟩ := elems_get hes hlt
    obtain ⟨g, off, rfl, hg, hxg, hj⟩ := hp (by omega)
    refine ⟨_, _, ?_, h2, go _ cap n _ (by simpa using e) hn h0 h1⟩
    rw [addr_add]
    refine valR0.mk1 rfl ⟨g, off + m.toNat * n, c, rfl, q1, hg, hxg, fun j hjl => ?_⟩
    rw [Nat.add_assoc, hj _ (by omega), q3 j (by omega)]
   ·exact h.elim
  ·exact h.elim
 ·exact h.elim

theorem cells_at {W : World} {g off : Nat} {xs : List Value} (h : ∀ j, j < xs.length → W.cell? ⟨g, off + j, none⟩ = xs[j]?) : ∀ (j : Nat) (u : Value), xs[j]? = some u → W.cell? ((⟨g, off, none⟩ : Addr).add j) = some u := fun j u hj => by
 rw [addr_add, h j (List.getElem?_eq_some_iff.1 hj).1, hj]
theorem loadW_ok {t : TypeId} {x : Operand} {a : AV} {u : Value} {K : AV → Prop} (h : loadW P t a K) (hx : opv ev env gs x = some u) (ha : valR0 β a u) : ∃ v c, valR β c v ∧ K c ∧ OpOK P β env gs ev (.load t x) v := by
 unfold loadW at h
 split at h
 ·rename_i b
  split at h
  ·rename_i ag n hag hn
   cases hkk : ((ag == b.isAgg) && (Nat.blt 0 n && Nat.beq n b.size)) with
   | false => rw [hkk] at h; exact h.elim
   | true =>
   rw [hkk] at h
   simp only [Bool.and_eq_true, Nat.beq_eq, Nat.blt_eq, beq_iff_eq] at hkk
   obtain ⟨rfl, hn0, rfl⟩ := hkk
   have hK : K b := h
   obtain ⟨g, off, xs, e, hc, hg, hxg, hj⟩ := ha.cell rfl
   obtain rfl : u = .pointer (some ⟨g, off, none⟩) := by simpa using e
   have hlen := cellsR.size b xs hc
   have hW : ∀ W, Upto β W → ∀ j, j < xs.length → W.cell? ⟨g, off + j, none⟩ = xs[j]? := fun W hu j hlt => ((Later.upto hu).cell hg hxg).trans (hj j hlt)
   cases hb : b.isAgg with
   | true =>
    refine ⟨.agg xs.toArray, b, (valR0.mk hb hc).notup, hK, fun op ac W ho he hu => ?_⟩
    rw [hb] at hag
    have hl : (loadCells ⟨g, off, none⟩ xs.length).run P W = .ok xs.toArray W := run_loadCells_list (P := P) W ⟨g, off, none⟩ xs (cells_at (hW W hu))
    unfold execOp
    simp only [ho, opv_ok hx he, Instr.loadAt, Instr.sureAddr, Sem.run_bind, Sem.run_pure, Result.andThen_ok, loadVar, tyAgg_run hag, if_true, tyN_run hn, ← hlen, hl]
   | false =>
    have h1 : xs.length = 1 := by
     rw [hlen]
     cases b <;> first | rfl | cases hb | skip
     simp [cellsR] at hc
    obtain ⟨v, rfl⟩ : ∃ v, xs = [v] := by
     match xs, h1 with
     | [v], _ => exact ⟨v, rfl⟩
    refine ⟨v, b, (valR0.mk1 hb hc).notup, hK, fun op ac W ho he hu => ?_⟩
    rw [hb] at hag
    have hcell : W.cell? ⟨g, off, none⟩ = some v := by
     have := hW W hu 0 (by simp)
     simpa using this
    unfold execOp
    simp only [ho, opv_ok hx he, Instr.loadAt, Instr.sureAddr, Sem.run_bind, Sem.run_pure, Result.andThen_ok, loadVar, tyAgg_run hag, Bool.false_eq_true, if_false, run_load, hcell]
  ·exact h.elim
 ·exact h.elim
theorem parts_ok {b : AV} {xs : List Value} (h : cellsR β b xs) : cellsRs β none b.parts xs := by
 unfold AV.parts
 split
 ·exact h
 ·exact cellsRs.one1 h
theorem fldW_ok {t : TypeId} {j : Nat} {x : Operand} {a : AV} {u : Value} {K : AV → Prop} (h : fldW P t j a K) (hx : opv ev env gs x = some u) (ha : valR0 β a u) : ∃ v c, valR β c v ∧ K c ∧ OpOK P β env gs ev (.fieldAddr t x j) v := by
 unfold fldW at h
 split at h
 ·rename_i b
  split at h
  ·rename_i off ft hf
   split at h
   ·rename_i n hn
    split at h
    ·rename_i ps hcut
     split at h
     ·rename_i c hun
      cases hkk : Nat.blt 0 n with
      | false => rw [hkk] at h; exact h.elim
      | true =>
      rw [hkk] at h
      have hn0 : 0 < n := by simpa using hkk
      have hK : K (.ref c) := h
      obtain ⟨g, o', xs, e, hc, hg, hxg, hj⟩ := ha.cell rfl
      obtain rfl : u = .pointer (some ⟨g, o', none⟩) := by simpa using e
      have hps := cutA_ok hcut (parts_ok hc)
      have hcc : cellsR β c ((xs.drop off).take n) := by
       unfold unparts at hun
       split at hun
       ·cases hun
        have := pack_ok hps
        have hag : (pack ps).isAgg = true := by
         unfold pack; split
         ·rename_i q; cases hq : q.isAgg
          ·rfl
          ·exact hq
         ·rfl
        obtain ⟨cs, e2, h3⟩ := this.agg hag
        have : cs = (xs.drop off).take n := by
         have := congrArg Value.cells e2
         simp [Value.cells] at this
         exact this.symm
        rw [← this]; exact h3
       ·split at hun
        ·cases hun; exact hps.snd
        ·cases hun
       ·cases hun
      refine ⟨.pointer (some ⟨g, o' + off, none⟩), .ref c, valR0.mk1 (a := .ref c) rfl ⟨g, o' + off, _, rfl, hcc, hg, hxg, fun i hi => ?_⟩, hK, fun op ac W ho he _ => ?_⟩
      ·rw [List.length_take, List.length_drop] at hi
       rw [Nat.add_assoc, hj (off + i) (by omega), List.getElem?_take, if_pos (by omega), List.getElem?_drop]
      ·unfold tyFld at hf
       split at hf
       ·rename_i fs hu
        obtain ⟨f, hf', hfe⟩ := Option.map_eq_some_iff.1 hf
        cases hfe
        clear hf
        have h0' : n ≠ 0 := by omega
        unfold execOp
        simp only [ho, opv_ok hx he, Instr.fieldAt, Sem.run_bind, run_underlying hu, Result.andThen_ok, hf', Instr.sureAddr, Sem.run_pure, fieldPlace, tyN_run hn, h0', if_false, addr_add]
       ·cases hf
     ·exact h.elim
    ·exact h.elim
   ·exact h.elim
  ·exact h.elim
 ·exact h.elim

theorem bndW_ok {d : Int} {x : Option Operand} {K : Int → Prop} (h : bndW ae ev d x K) (hv : valsR β ae env) : ∃ m : Int, K m ∧ ((x = none ∧ m = d) ∨ ∃ (y : Operand) (k : IntKind), x = some y ∧ opv ev env gs y = some (.int k m)) := by
 unfold bndW at h
 split at h
 ·exact ⟨d, h, .inl ⟨rfl, rfl⟩⟩
 ·rename_i y
  obtain ⟨v, a, h1, h2, h3⟩ := opA_ok (gs := gs) h hv
  split at h3
  ·rename_i k m
   obtain rfl := h2.int_inv
   exact ⟨m, h3, .inr ⟨y, k, rfl, h1⟩⟩
  ·exact h3.elim
theorem sliceBound_run {k : IntKind} {m : Int} {y : Nat} {code : BoundsCode} (h0 : 0 ≤ m) (h1 : m ≤ y) (W : World) : (Instr.sliceBound (.int k m) y code).run P W = .ok m.toNat W := by
 unfold Instr.sliceBound
 simp [asIntOf, Sem.run_bind, h0, h1]
theorem sliceW_ok {t : TypeId} {x : Operand} {lo hi mx : Option Operand} {a : AV} {u : Value} {K : AV → Prop} (h : sliceW P ae ev t a lo hi mx K) (hv : valsR β ae env) (hx : opv ev env gs x = some u) (ha : valR0 β a u) :
 ∃ v c, valR β c v ∧ K c ∧ OpOK P β env gs ev (.slice t x lo hi mx) v := by
 unfold sliceW at h
 split at h
 ·rename_i k l
  split at h
  ·rename_i hn
   obtain ⟨m, h, hm⟩ := bndW_ok (gs := gs) h hv
   obtain ⟨n, h, hh⟩ := bndW_ok (gs := gs) h hv
   obtain ⟨c, h, hc⟩ := bndW_ok (gs := gs) h hv
   obtain ⟨m0, mn, nc, cl, hmx, hK⟩ := h
   obtain ⟨el, hel, hn⟩ := Option.bind_eq_some_iff.1 hn
   obtain ⟨v, e, ad, cap, rfl, hle, hcl, hp⟩ := ha.cell rfl
   obtain rfl : u = .slice ad l.length cap := by simpa using e
   -- the capacity that is left
   obtain ⟨top, htop, ht1, ht2, hrun⟩ : ∃ top : Nat, n.toNat ≤ top ∧ top ≤ cap ∧ (n.toNat ≤ top) ∧ ∀ (ac : Act) (W : World), (∀ x ∈ ev, ac.eval (.tmp x.1) = x.2.den env gs) →
    (Instr.sliceBounds true l.length cap (lo.map ac.eval) (hi.map ac.eval) (mx.map ac.eval)).run P W = .ok (m.toNat, n.toNat, top) W := by
    have bR : ∀ (ac : Act) (W : World) (y : Operand) (k : IntKind) (i : Int) (top : Nat) (code : BoundsCode), (∀ x ∈ ev, ac.eval (.tmp x.1) = x.2.den env gs) → opv ev env gs y = some (.int k i) → 0 ≤ i → i ≤ (top : Int) → (Instr.sliceBound (ac.eval y) top code).run P W = .ok i.toNat W := by
     intro ac W y k i top code he hy h0 h1
     rw [opv_ok hy he]
     exact sliceBound_run h0 h1 W
    rcases hc with ⟨rfl, ec⟩ | ⟨y, k3, rfl, hy⟩
    ·refine ⟨cap, by omega, Nat.le_refl _, by omega, fun ac W he => ?_⟩
     rcases hh with ⟨rfl, e2⟩ | ⟨y2, k2, rfl, hy2⟩
     ·have q2 : l.length = n.toNat := by omega
      rcases hm with ⟨rfl, e1⟩ | ⟨y1, k1, rfl, hy1⟩
      ·have q1 : m.toNat = 0 := by omega
       simp only [Instr.sliceBounds, Option.map_some, Option.map_none, Sem.run_bind, Sem.run_pure, Result.andThen_ok, q1, q2]
      ·simp only [Instr.sliceBounds, Option.map_some, Option.map_none, Sem.run_bind, Sem.run_pure, Result.andThen_ok, q2, bR ac W y1 k1 m n.toNat _ he hy1 m0 (by omega)]
     ·rcases hm with ⟨rfl, e1⟩ | ⟨y1, k1, rfl, hy1⟩
      ·have q1 : m.toNat = 0 := by omega
       simp only [Instr.sliceBounds, Option.map_some, Option.map_none, Sem.run_bind, Sem.run_pure, Result.andThen_ok, q1, bR ac W y2 k2 n cap _ he hy2 (by omega) (by omega)]
      ·simp only [Instr.sliceBounds, Option.map_some, Option.map_none, Sem.run_bind, Sem.run_pure, Result.andThen_ok, bR ac W y2 k2 n cap _ he hy2 (by omega) (by omega), bR ac W y1 k1 m n.toNat _ he hy1 m0 (by omega)]
    ·have his := hmx rfl
     refine ⟨c.toNat, by omega, by omega, by omega, fun ac W he => ?_⟩
     rcases hh with ⟨rfl, e2⟩ | ⟨y2, k2, rfl, hy2⟩
     ·cases his
     ·rcases hm with ⟨rfl, e1⟩ | ⟨y1, k1, rfl, hy1⟩
      ·have q1 : m.toNat = 0 := by omega
       simp only [Instr.sliceBounds, Option.map_some, Option.map_none, Sem.run_bind, Sem.run_pure, Result.andThen_ok, q1, bR ac W y k3 c cap _ he hy (by omega) (by omega), bR ac W y2 k2 n c.toNat _ he hy2 (by omega) (by omega)]
      ·simp only [Instr.sliceBounds, Option.map_some, Option.map_none, Sem.run_bind, Sem.run_pure, Result.andThen_ok, bR ac W y k3 c cap _ he hy (by omega) (by omega), bR ac W y2 k2 n c.toNat _ he hy2 (by omega) (by omega), bR ac W y1 k1 m n.toNat _ he hy1 m0 (by omega)]
   have f1 : 0 < n.toNat - m.toNat → top ≠ m.toNat := by clear hm hh hc hrun; intro _; omega
   have f2 : ∀ j, j < n.toNat - m.toNat → m.toNat + j < l.length := by clear hm hh hc hrun; intro j _; omega
   have f3 : ∀ j, j < n.toNat - m.toNat → j < (n - m).toNat := by clear hm hh hc hrun; intro j _; omega
   have hlen : ((l.drop m.toNat).take (n - m).toNat).length = n.toNat - m.toNat := by rw [List.length_take, List.length_drop]; omega
   refine ⟨.slice (if top = m.toNat then ad else ad.map (·.add (m.toNat * 1))) (n.toNat - m.toNat) (top - m.toNat), .isl k ((l.drop m.toNat).take (n - m).toNat), valR0.mk1 (a := .isl k ((l.drop m.toNat).take (n - m).toNat)) rfl ⟨_, rfl, if top = m.toNat then ad else ad.map (·.add (m.toNat * 1)), top - m.toNat, by rw [hlen], by rw [hlen]; omega, by simp, fun h0 => ?_⟩, hK, fun op ac W ho he _ => ?_⟩
   ·clear hm hh hc hrun
    rw [List.length_map, hlen] at h0
    obtain ⟨g, off, rfl, hg, hxg, hj⟩ := hp (by rw [List.length_map]; exact Nat.lt_of_le_of_lt (Nat.zero_le _) (f2 0 h0))
    refine ⟨g, off + m.toNat, ?_, hg, hxg, fun j hjl => ?_⟩
    ·rw [if_neg (f1 h0), Option.map_some, addr_add, Nat.mul_one]
    ·rw [List.length_map, hlen] at hjl
     rw [Nat.add_assoc, hj (m.toNat + j) (by rw [List.length_map]; exact f2 j hjl)]
     rw [List.map_take, List.map_drop, List.getElem?_take, if_pos (f3 j hjl), List.getElem?_drop]
   ·unfold execOp
    simp only [ho, opv_ok hx he, Instr.sliceAt, Instr.slice, Sem.run_bind, run_underlying (tySlc_under hel), Result.andThen_ok, hrun ac W he, tyN_run hn, Sem.run_pure]
  ·exact h.elim
 ·exact h.elim

theorem opAs_ok : ∀ {l : List Operand} {K : List AV → Prop}, opAs ae ev l K → valsR β ae env → ∃ vs zs, (∀ ac : Act, (∀ x ∈ ev, ac.eval (.tmp x.1) = x.2.den env gs) → l.map ac.eval = vs) ∧ valsR β zs vs ∧ K zs
 | [], _, h, _ => ⟨[], [], fun _ _ => rfl, rfl, h⟩
 | x :: l, K, h, hv => by
  obtain ⟨u, a, h1, h2, h⟩ := opA_ok (gs := gs) (show opA ae ev x fun a => opAs ae ev l fun zs => K (a :: zs) from h) hv
  obtain ⟨vs, zs, q1, q2, q3⟩ := opAs_ok h hv
  exact ⟨u :: vs, a :: zs, fun ac he => by rw [List.map_cons, opv_ok h1 he, q1 ac he], ⟨u, vs, rfl, h2, q2⟩, q3⟩
theorem opW_ok {op : Op} {K : AV → Prop} (h : opW P ae ev op K) (hv : valsR β ae env) : ∃ v c, valR β c v ∧ K c ∧ OpOK P β env gs ev op v := by
 unfold opW at h
 split at h
 ·obtain ⟨u, a, h1, h2, h⟩ := opA_ok (gs := gs) h hv
  obtain ⟨w, b, h3, h4, h⟩ := opA_ok (gs := gs) h hv
  exact binW_ok h h1 h3 h2 h4
 ·obtain ⟨u, a, h1, h2, h⟩ := opA_ok (gs := gs) h hv
  exact unW_ok h h1 h2
 ·obtain ⟨u, a, h1, h2, h⟩ := opA_ok (gs := gs) h hv
  exact convW_ok h h1 h2
 ·rename_i args tys
  split at h
  ·rename_i x t ha ht
   obtain rfl : args = #[x] := by apply Array.ext'; simpa using ha
   obtain rfl : tys = #[t] := by apply Array.ext'; simpa using ht
   split at h
   ·rename_i n hn
    obtain ⟨u, h1, h2⟩ := slcLen_ok (β := β) (env := env) (gs := gs) hn
    exact lenW_ok h h1 h2
   ·obtain ⟨u, a, h1, h2, h⟩ := opA_ok (gs := gs) h hv
    exact lenW_ok h h1 h2
  ·exact h.elim
 ·rename_i args tys
  split at h
  ·rename_i x y ha
   obtain rfl : args = #[x, y] := by apply Array.ext'; simpa using ha
   obtain ⟨u, a, h1, h2, h⟩ := opA_ok (gs := gs) h hv
   obtain ⟨w, b, h3, h4, h⟩ := opA_ok (gs := gs) h hv
   split at h
   ·obtain rfl := h2.int_inv; obtain rfl := h4.int_inv
    refine ⟨_, _, valR0.int_mk _ _, h, fun o ac W ho he _ => ?_⟩
    unfold execOp
    simp only [ho, resolve, invoke, builtin, Sem.run_bind, Sem.run_pure, Result.andThen_ok, List.map_toArray, List.map_cons, List.map_nil, opv_ok h1 he, opv_ok h3 he, Builtin.max_, List.foldlM_cons, List.foldlM_nil, Builtin.max2]
   ·exact h.elim
  ·exact h.elim
 ·rename_i args tys
  split at h
  ·rename_i x y ha
   obtain rfl : args = #[x, y] := by apply Array.ext'; simpa using ha
   obtain ⟨u, a, h1, h2, h⟩ := opA_ok (gs := gs) h hv
   obtain ⟨w, b, h3, h4, h⟩ := opA_ok (gs := gs) h hv
   split at h
   ·obtain rfl := h2.int_inv; obtain rfl := h4.int_inv
    refine ⟨_, _, valR0.int_mk _ _, h, fun o ac W ho he _ => ?_⟩
    unfold execOp
    simp only [ho, resolve, invoke, builtin, Sem.run_bind, Sem.run_pure, Result.andThen_ok, List.map_toArray, List.map_cons, List.map_nil, opv_ok h1 he, opv_ok h3 he, Builtin.min_, List.foldlM_cons, List.foldlM_nil, Builtin.min2]
   ·exact h.elim
  ·exact h.elim
 ·rename_i f args tys
  obtain ⟨vs, zs, h1, h2, y, h3, h⟩ := opAs_ok (gs := gs) h hv
  obtain ⟨v, h4, h5⟩ := h3 β vs h2
  refine ⟨v, y, h4, h, fun o ac W ho he _ => ?_⟩
  have ea : args.map ac.eval = vs.toArray := by apply Array.ext'; simpa using h1 ac he
  have ef : ac.eval (.func f) = .func (.func f) #[] #[] := rfl
  unfold execOp
  simp only [ho, resolve, ea, ef, Deferred.ofValue, Sem.run_bind, Sem.run_pure, Result.andThen_ok, invoke]
  simpa using h5 W
 ·obtain ⟨u, a, h1, h2, h⟩ := opA_ok (gs := gs) h hv
  obtain ⟨w, b, h3, h4, h⟩ := opA_ok (gs := gs) h hv
  exact idxW_ok h h1 h3 h2 h4
 ·obtain ⟨u, a, h1, h2, h⟩ := opA_ok (gs := gs) h hv
  obtain ⟨w, b, h3, h4, h⟩ := opA_ok (gs := gs) h hv
  exact indW_ok h h1 h3 h2 h4
 ·obtain ⟨u, a, h1, h2, h⟩ := opA_ok (gs := gs) h hv
  exact loadW_ok h h1 h2
 ·obtain ⟨u, a, h1, h2, h⟩ := opA_ok (gs := gs) h hv
  exact fldW_ok h h1 h2
 ·obtain ⟨u, a, h1, h2, h⟩ := opA_ok (gs := gs) h hv
  exact sliceW_ok h hv h1 h2
 ·obtain ⟨u, a, h1, h2, h⟩ := opA_ok (gs := gs) h hv
  refine ⟨u, a, h2.notup, h, fun o ac W ho he _ => ?_⟩
  unfold execOp
  simp only [ho, opv_ok h1 he, Sem.run_pure]
 ·obtain ⟨u, a, h1, h2, h⟩ := opA_ok (gs := gs) h hv
  refine ⟨u, a, h2.notup, h, fun o ac W ho he _ => ?_⟩
  unfold execOp
  simp only [ho, opv_ok h1 he, Sem.run_pure]
 ·obtain ⟨u, a, h1, h2, h⟩ := opA_ok (gs := gs) h hv
  split at h
  ·rename_i b
   refine ⟨u, _, h2.notup, h, fun o ac W ho he _ => ?_⟩
   obtain ⟨g, off, xs, e, _⟩ := h2.cell rfl
   obtain rfl : u = .pointer (some ⟨g, off, none⟩) := by simpa using e
   unfold execOp
   simp only [ho, opv_ok h1 he, Sem.run_pure]
  ·exact h.elim
 ·exact h.elim
end
end Go.Proofs.Ytdpongijmmdnoaa
/- What is to be shown of a tree, in plain words; that it is enough. Over any program. -/
namespace Go.Proofs.Ytdpongijmmdnoaa
open Go.RowKit FdP FdP.Ch

def constB : Value → AV → Bool
 | .int k n, .int k' m => decide (k = k') && decide (m = n)
 | .bool true, .bool c => c
 | .bool false, .bool c => !c
 | .slice none 0 0, .val (.slice none 0 0) => true
 | .pointer none, .val (.pointer none) => true
 | _, _ => false
def litParts : List Seg → List Value → List AV
 | .whole _ n :: l, cs => .lit (cs.take n) :: litParts l (cs.drop n)
 | .one _ :: l, v :: cs => ofVal v :: litParts l cs
 | _, _ => []
def sizeW (p : AV) (n : Nat) (K : Prop) : Prop := match p with
 | .ints _ l => l.length = n ∧ K
 | a => bif Nat.beq a.size n then K else False
theorem sizeW_ok {p : AV} {n : Nat} {K : Prop} (h : sizeW p n K) : p.size = n ∧ K := by
 unfold sizeW at h
 split at h
 ·exact h
 ·rename_i a _
  cases hk : Nat.beq p.size n with
  | false => rw [hk] at h; exact h.elim
  | true => rw [hk] at h; exact ⟨by simpa using hk, h⟩
def bindP (m : Nat) : List Seg → List AV → (List AV → Prop) → Prop
 | [], [], K => K []
 | .whole k n :: l, p :: ps, K => bif Nat.beq k m && p.isAgg then sizeW p n (bindP (m + 1) l ps (fun r => K (p :: r))) else False
 | .one (.var k) :: l, p :: ps, K => bif Nat.beq k m && !p.isAgg then bindP (m + 1) l ps (fun r => K (p :: r)) else False
 | _, _, _ => False
def bindL (m : Nat) : Leaf → AV → (List AV → Prop) → Prop
 | .atom (.var k), a, K => bif Nat.beq k m && !a.isAgg then K [a] else False
 | .atom (.const v), a, K => bif constB v a then K [] else False
 | .agg [.whole k n], a, K => bif Nat.beq k m && a.isAgg then sizeW a n (K [a]) else False
 | .agg l, a, K => match a with
  | .lit cs => bif Nat.beq (AV.sizes (litParts l cs)) cs.length then bindP m l (litParts l cs) K else False
  | .agg ps => bindP m l ps K
  | a => bif a.isAgg then bindP m l [a] K else False
 | _, _, _ => False
def bindLs (m : Nat) : List Leaf → List AV → (List AV → Prop) → Prop
 | [], [], K => K []
 | x :: l, a :: zs, K => bindL m x a fun r => bindLs (m + r.length) l zs fun q => appK r q K
 | _, _, _ => False
def bindV (m : Nat) : SV → AV → (List AV → Prop) → Prop
 | .leaf _, .tup _, _ => False
 | .leaf x, a, K => bindL m x a K
 | .tup l, .tup zs, K => bindLs m l zs K
 | _, _, _ => False

def bindRs (q : RowS) (m : Nat) : List Leaf → List AV → (List AV → Prop) → Prop
 | x :: l, a :: zs, K => match a, x with
  | .own T sz c, .atom (.var k) => bif Nat.beq k m && (Nat.beq q.kv m && (Nat.beq q.kc (m + 1) && (Nat.beq q.T T && (Nat.beq q.sz sz && (Nat.blt 0 sz && c.isAgg))))) then bindLs (m + 2) l zs fun r => K (.row (c.size / sz) :: c :: r) else False
  | a, x => bindL m x a fun r => bindRs q (m + r.length) l zs fun p => appK r p K
 | _, _, _ => False
def bindR (q : RowS) (m : Nat) (r : SV) (a : AV) (K : List AV → Prop) : Prop := match r, a with
 | .leaf _, .tup _ => False
 | .leaf x, a => bindRs q m [x] [a] K
 | .tup l, .tup zs => bindRs q m l zs K
 | _, _ => False
section
variable {β : Base} {env : List Value} {gs : List Nat}
theorem getD_new (vs ws : List Value) (v : Value) : (env ++ (vs ++ v :: ws)).getD (env.length + vs.length) undef = v := by
 simp [List.getD]
theorem get_new (vs ws : List Value) (v : Value) : (env ++ (vs ++ v :: ws))[env.length + vs.length]? = some v := by
 simp
def Bound (β : Base) (env : List Value) (gs : List Nat) (vs : List Value) (x : Leaf) (v : Value) (us : List Value) : Prop :=
 ∀ ws, x.den (env ++ (vs ++ us ++ ws)) gs = v ∧ x.OK (env ++ (vs ++ us ++ ws)) gs
theorem constB_ok {c v : Value} {a : AV} (h : constB c a = true) (hv : valR0 β a v) : v = c ∧ c.oneCell' = true := by
 unfold constB at h
 split at h
 ·simp only [Bool.and_eq_true, decide_eq_true_eq] at h
  obtain ⟨rfl, rfl⟩ := h; exact ⟨hv.int_inv, rfl⟩
 ·subst h; exact ⟨hv.bool_inv, rfl⟩
 ·simp only [Bool.not_eq_true'] at h
  subst h; exact ⟨hv.bool_inv, rfl⟩
 ·exact ⟨hv.val_inv, rfl⟩
 ·exact ⟨hv.val_inv, rfl⟩
 ·cases h
theorem litParts_ok : ∀ {l : List Seg} {cs : List Value}, (∀ x ∈ cs, x.oneCell' = true) → AV.sizes (litParts l cs) = cs.length → cellsRs β none (litParts l cs) cs
 | [], cs, _, h => by
  simp only [litParts, AV.sizes] at h ⊢
  simp only [cellsRs]
  exact List.eq_nil_of_length_eq_zero h.symm
 | .whole k n :: l, cs, h1, h => by
  simp only [litParts, AV.sizes, AV.size] at h ⊢
  refine ⟨cs.take n, cs.drop n, (List.take_append_drop n cs).symm, (fun _ hh => by cases hh), ⟨rfl, fun x hx => h1 x (List.mem_of_mem_take hx)⟩, litParts_ok (fun x hx => h1 x (List.mem_of_mem_drop hx)) ?_⟩
  simp only [List.length_take, List.length_drop] at h ⊢
  omega
 | .one a :: l, v :: cs, h1, h => by
  simp only [litParts, AV.sizes] at h ⊢
  have hv := h1 v (by simp)
  have hs : (ofVal v).size = 1 := by unfold ofVal; split <;> rfl
  rw [hs, List.length_cons] at h
  exact ⟨[v], cs, rfl, (fun _ hh => by cases hh), (ofVal_ok hv).cell (ofVal_cell hv), litParts_ok (fun x hx => h1 x (List.mem_cons_of_mem _ hx)) (by omega)⟩
 | .one a :: l, [], _, h => by simp only [litParts, cellsRs]
 | .part _ _ _ :: l, cs, _, h => by
  simp only [litParts, AV.sizes] at h ⊢
  simp only [cellsRs]
  exact List.eq_nil_of_length_eq_zero h.symm
 | .lit _ :: l, cs, _, h => by
  simp only [litParts, AV.sizes] at h ⊢
  simp only [cellsRs]
  exact List.eq_nil_of_length_eq_zero h.symm
 | .rest _ :: l, cs, _, h => by
  simp only [litParts, AV.sizes] at h ⊢
  simp only [cellsRs]
  exact List.eq_nil_of_length_eq_zero h.symm
 | .junk _ :: l, cs, _, h => by
  simp only [litParts, AV.sizes] at h ⊢
  simp only [cellsRs]
  exact List.eq_nil_of_length_eq_zero h.symm

theorem bindP_ok : ∀ {l : List Seg} {ps : List AV} {m : Nat} {K : List AV → Prop} {cs vs : List Value}, bindP m l ps K → m = env.length + vs.length → cellsRs β none ps cs →
 ∃ us r, valsR β r us ∧ K r ∧ ∀ ws, flat (env ++ (vs ++ us ++ ws)) gs l = cs ∧ ∀ s ∈ l, s.OK (env ++ (vs ++ us ++ ws)) gs
 | [], [], m, K, cs, vs, h, hm, hc => by
  simp only [cellsRs] at hc; subst hc
  exact ⟨[], [], rfl, h, fun ws => ⟨by simp [flat], by simp⟩⟩
 | .whole k n :: l, p :: ps, m, K, cs, vs, h, hm, ⟨c, d, e, _, h1, h2⟩ => by
  subst e
  simp only [bindP] at h
  cases hk : (Nat.beq k m && p.isAgg) with
  | false => rw [hk] at h; exact h.elim
  | true =>
   rw [hk] at h
   simp only [Bool.and_eq_true, Nat.beq_eq] at hk
   obtain ⟨rfl, hag⟩ := hk
   simp only [cond_true] at h
   obtain ⟨hsz, h⟩ := sizeW_ok h
   obtain ⟨us, r, q1, q2, q3⟩ := bindP_ok (vs := vs ++ [.agg c.toArray]) h (by simp; omega) h2
   refine ⟨.agg c.toArray :: us, p :: r, ⟨_, _, rfl, valR0.mk hag h1, q1⟩, q2, fun ws => ?_⟩
   have e : vs ++ .agg c.toArray :: us ++ ws = vs ++ [.agg c.toArray] ++ us ++ ws := by simp
   have e2 : vs ++ [.agg c.toArray] ++ us ++ ws = vs ++ .agg c.toArray :: (us ++ ws) := by simp
   obtain ⟨w1, w2⟩ := q3 ws
   rw [e]
   refine ⟨?_, fun s hs => ?_⟩
   ·rw [flat_cons, w1, hm, e2]
    simp only [Seg.den, cellsAt, getD_new, Value.cells]
   ·rcases List.mem_cons.1 hs with rfl | hs
    ·refine ⟨c, ?_, by rw [cellsR.size p c h1, hsz], cellsR.one p c h1⟩
     rw [hm, e2, get_new]
    ·exact w2 s hs
 | .one (.var k) :: l, p :: ps, m, K, cs, vs, h, hm, ⟨c, d, e, _, h1, h2⟩ => by
  subst e
  simp only [bindP] at h
  cases hk : (Nat.beq k m && !p.isAgg) with
  | false => rw [hk] at h; exact h.elim
  | true =>
   rw [hk] at h
   simp only [Bool.and_eq_true, Nat.beq_eq, Bool.not_eq_true'] at hk
   obtain ⟨rfl, hag⟩ := hk
   simp only [cond_true] at h
   have hl : c.length = 1 := by
    rw [cellsR.size p c h1]
    cases p <;> first | rfl | cases hag | skip
    simp [cellsR] at h1
   obtain ⟨v, rfl⟩ : ∃ v, c = [v] := by
    match c, hl with
    | [v], _ => exact ⟨v, rfl⟩
   obtain ⟨us, r, q1, q2, q3⟩ := bindP_ok (vs := vs ++ [v]) h (by simp; omega) h2
   refine ⟨v :: us, p :: r, ⟨_, _, rfl, valR0.mk1 hag h1, q1⟩, q2, fun ws => ?_⟩
   have e : vs ++ v :: us ++ ws = vs ++ [v] ++ us ++ ws := by simp
   have e2 : vs ++ [v] ++ us ++ ws = vs ++ v :: (us ++ ws) := by simp
   obtain ⟨w1, w2⟩ := q3 ws
   rw [e]
   refine ⟨?_, fun s hs => ?_⟩
   ·rw [flat_cons, w1, hm, e2]
    simp only [Seg.den, Atom.den, getD_new]
   ·rcases List.mem_cons.1 hs with rfl | hs
    ·refine ⟨?_, ?_⟩
     ·rw [hm, e2]; simp
     ·rw [hm, e2, getD_new]; exact cellsR.one p _ h1 v (by simp)
    ·exact w2 s hs
 | [], _ :: _, m, K, cs, vs, h, hm, hc => by simp only [bindP] at h
 | .whole _ _ :: _, [], m, K, cs, vs, h, hm, hc => by simp only [bindP] at h
 | .one _ :: _, [], m, K, cs, vs, h, hm, hc => by simp only [bindP] at h
 | .one (.const _) :: _, _ :: _, m, K, cs, vs, h, hm, hc => by simp only [bindP] at h
 | .one (.cell _ _) :: _, _ :: _, m, K, cs, vs, h, hm, hc => by simp only [bindP] at h
 | .one (.ptr _ _) :: _, _ :: _, m, K, cs, vs, h, hm, hc => by simp only [bindP] at h
 | .one (.slc _ _ _ _) :: _, _ :: _, m, K, cs, vs, h, hm, hc => by simp only [bindP] at h
 | .one (.clo _ _) :: _, _ :: _, m, K, cs, vs, h, hm, hc => by simp only [bindP] at h
 | .one (.mth _ _) :: _, _ :: _, m, K, cs, vs, h, hm, hc => by simp only [bindP] at h
 | .one (.iptr _ _ _ _) :: _, _ :: _, m, K, cs, vs, h, hm, hc => by simp only [bindP] at h
 | .one (.slcx _ _ _) :: _, _ :: _, m, K, cs, vs, h, hm, hc => by simp only [bindP] at h
 | .one (.rptr _ _ _ _) :: _, _ :: _, m, K, cs, vs, h, hm, hc => by simp only [bindP] at h
 | .part _ _ _ :: _, _, m, K, cs, vs, h, hm, hc => by simp only [bindP] at h
 | .lit _ :: _, _, m, K, cs, vs, h, hm, hc => by simp only [bindP] at h
 | .rest _ :: _, _, m, K, cs, vs, h, hm, hc => by simp only [bindP] at h
 | .junk _ :: _, _, m, K, cs, vs, h, hm, hc => by simp only [bindP] at h

theorem bindL_ok {x : Leaf} {a : AV} {m : Nat} {K : List AV → Prop} {v : Value} {vs : List Value} (h : bindL m x a K) (hm : m = env.length + vs.length) (hv : valR0 β a v) :
 ∃ us r, valsR β r us ∧ K r ∧ Bound β env gs vs x v us := by
 unfold bindL at h
 split at h
 ·rename_i k
  cases hk : (Nat.beq k m && !a.isAgg) with
  | false => rw [hk] at h; exact h.elim
  | true =>
   rw [hk] at h
   simp only [Bool.and_eq_true, Nat.beq_eq, Bool.not_eq_true'] at hk
   obtain ⟨rfl, hag⟩ := hk
   refine ⟨[v], [a], valsR.one1 hv, h, fun ws => ?_⟩
   have e2 : vs ++ [v] ++ ws = vs ++ v :: ws := by simp
   rw [hm, e2]
   refine ⟨by simp only [Leaf.den, Atom.den, getD_new], ?_, ?_⟩
   ·simp
   ·rw [getD_new]; exact hv.one hag
 ·rename_i c
  cases hc : constB c a with
  | false => rw [hc] at h; exact h.elim
  | true =>
   rw [hc] at h
   obtain ⟨rfl, h1⟩ := constB_ok hc hv
   exact ⟨[], [], rfl, h, fun ws => ⟨rfl, h1⟩⟩
 ·rename_i k n
  cases hk : (Nat.beq k m && a.isAgg) with
  | false => rw [hk] at h; exact h.elim
  | true =>
   rw [hk] at h
   simp only [Bool.and_eq_true, Nat.beq_eq] at hk
   obtain ⟨rfl, hag⟩ := hk
   obtain ⟨hsz, h⟩ := sizeW_ok h
   obtain ⟨cs, rfl, hc⟩ := hv.agg hag
   refine ⟨[.agg cs.toArray], [a], valsR.one1 hv, h, fun ws => ?_⟩
   have e2 : vs ++ [.agg cs.toArray] ++ ws = vs ++ .agg cs.toArray :: ws := by simp
   rw [hm, e2]
   refine ⟨by simp only [Leaf.den, catS, Seg.den, cellsAt, getD_new, Value.cells], fun s hs => ?_⟩
   simp only [List.mem_singleton] at hs; subst hs
   exact ⟨cs, get_new _ _ _, by rw [cellsR.size a cs hc, hsz], cellsR.one a cs hc⟩
 ·rename_i l _
  have fin : ∀ (ps : List AV) (cs : List Value), v = .agg cs.toArray → cellsRs β none ps cs → bindP m l ps K → ∃ us r, valsR β r us ∧ K r ∧ Bound β env gs vs (.agg l) v us := by
   intro ps cs e hp h
   subst e
   obtain ⟨us, r, q1, q2, q3⟩ := bindP_ok (gs := gs) h hm hp
   exact ⟨us, r, q1, q2, fun ws => ⟨by simp only [Leaf.den, catS_flat, (q3 ws).1], (q3 ws).2⟩⟩
  split at h
  ·rename_i c
   cases hk : Nat.beq (AV.sizes (litParts l c)) c.length with
   | false => rw [hk] at h; exact h.elim
   | true =>
    rw [hk] at h
    obtain ⟨cs, e, rfl, h1⟩ := hv.agg rfl
    exact fin _ _ e (litParts_ok h1 (by simpa using hk)) h
  ·rename_i ps
   obtain ⟨cs, e, hc⟩ := hv.agg rfl
   exact fin _ _ e hc h
  ·cases hag : a.isAgg with
   | false => rw [hag] at h; exact h.elim
   | true =>
    rw [hag] at h
    obtain ⟨cs, e, hc⟩ := hv.agg hag
    exact fin _ _ e (cellsRs.one1 hc) h
 ·exact h.elim

theorem bindLs_ok : ∀ {l : List Leaf} {zs : List AV} {m : Nat} {K : List AV → Prop} {xs vs : List Value}, bindLs m l zs K → m = env.length + vs.length → valsR β zs xs →
 ∃ us r, valsR β r us ∧ K r ∧ ∀ ws, l.map (Leaf.den (env ++ (vs ++ us ++ ws)) gs) = xs ∧ ∀ x ∈ l, x.OK (env ++ (vs ++ us ++ ws)) gs
 | [], [], m, K, xs, vs, h, hm, hv => by
  simp only [valsR] at hv; subst hv
  exact ⟨[], [], rfl, h, fun ws => ⟨rfl, by simp⟩⟩
 | x :: l, a :: zs, m, K, xs, vs, h, hm, ⟨v, ys, e, h1, h2⟩ => by
  subst e
  simp only [bindLs] at h
  obtain ⟨us, r, q1, q2, q3⟩ := bindL_ok (gs := gs) h hm h1
  obtain ⟨us2, r2, p1, p2, p3⟩ := bindLs_ok (vs := vs ++ us) q2 (by rw [List.length_append, q1.len]; omega) h2
  rw [appK_eq] at p2
  refine ⟨us ++ us2, r ++ r2, q1.app p1, p2, fun ws => ?_⟩
  have e1 : vs ++ (us ++ us2) ++ ws = vs ++ us ++ (us2 ++ ws) := by simp
  have e2 : vs ++ (us ++ us2) ++ ws = vs ++ us ++ us2 ++ ws := by simp
  refine ⟨?_, fun y hy => ?_⟩
  ·rw [List.map_cons, e1, (q3 (us2 ++ ws)).1, ← List.append_assoc (vs ++ us) us2 ws, (p3 ws).1]
  ·rcases List.mem_cons.1 hy with rfl | hy
   ·rw [e1]; exact (q3 (us2 ++ ws)).2
   ·rw [e2]; exact (p3 ws).2 y hy
 | [], _ :: _, m, K, xs, vs, h, hm, hv => by simp only [bindLs] at h
 | _ :: _, [], m, K, xs, vs, h, hm, hv => by simp only [bindLs] at h
theorem bindV_ok {r : SV} {a : AV} {K : List AV → Prop} {v : Value} (h : bindV env.length r a K) (hv : valR β a v) :
 ∃ us zs, valsR β zs us ∧ K zs ∧ r.den (env ++ us) gs = v ∧ r.OK (env ++ us) gs := by
 unfold bindV at h
 split at h
 ·exact h.elim
 ·rename_i x hne
  have hv0 : valR0 β a v := by
   cases a with
   | tup l => exact absurd rfl (hne l)
   | _ => exact hv
  obtain ⟨us, zs, q1, q2, q3⟩ := bindL_ok (env := env) (gs := gs) (vs := []) h (by simp) hv0
  have := q3 []
  simp only [List.nil_append, List.append_nil] at this
  exact ⟨us, zs, q1, q2, this.1, this.2⟩
 ·rename_i l zs
  obtain ⟨xs, rfl, hx⟩ := hv
  obtain ⟨us, r, q1, q2, q3⟩ := bindLs_ok (env := env) (gs := gs) (vs := []) h (by simp) hx
  have := q3 []
  simp only [List.nil_append, List.append_nil] at this
  exact ⟨us, r, q1, q2, by simp only [SV.den, this.1], this.2⟩
 ·exact h.elim
end
end Go.Proofs.Ytdpongijmmdnoaa
