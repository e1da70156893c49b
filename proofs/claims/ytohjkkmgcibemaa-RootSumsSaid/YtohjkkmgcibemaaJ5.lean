/- joined: Rfa Rpl Nor -/
import Derived.Test.YtohjkkmgcibemaaJ4
set_option linter.unusedSimpArgs false
set_option linter.unusedVariables false
/- the document's answer: prime, less -/
namespace Go.Proofs.Ytohjkkmgcibemaa
open Go.RowKit FdP FdP.Ch

theorem St.drewN {w0 w : World} {bs : List (Nat × List Value × TypeId)} (h : St w0 w bs) (n : Nat) : St w0 (w.drewN n) bs :=
 ⟨Below.drewN h.below n, fun x hx => ⟨(h.own x hx).1, (h.own x hx).2.drewN n⟩, h.apart⟩

def primeD : List Int := [268435455, 268435455, 268435455, 268435455, 268435455, 268435455, 268435455, 268435455, 268435454, 268435455, 268435455, 268435455, 268435455, 268435455, 268435455, 268435455]
@[simp] theorem primeD_len : primeD.length = 16 := rfl
end Go.Proofs.Ytohjkkmgcibemaa
/- plain law of the document's answer's digits -/
namespace Go.Proofs.Ytohjkkmgcibemaa
open Go.RowKit FdP FdP.Ch

def v28 : List Int → Int
 | [] => 0
 | x :: l => x + 268435456 * v28 l
def digk : Nat → Int → List Int
 | 0, _ => []
 | k + 1, n => n % 268435456 :: digk k (n / 268435456)
@[simp] theorem digk_len (k : Nat) (n : Int) : (digk k n).length = k := by
 induction k generalizing n with
 | zero => rfl
 | succ k ih => simp [digk, ih]
theorem v28_digk (k : Nat) (n : Int) (h0 : 0 ≤ n) (h1 : n < 268435456 ^ k) : v28 (digk k n) = n := by
 induction k generalizing n with
 | zero => simp [digk, v28]; simp at h1; omega
 | succ k ih =>
  have : n / 268435456 < 268435456 ^ k := by
   rw [Int.pow_succ] at h1
   generalize (268435456 : Int) ^ k = q at *
   omega
  simp only [digk, v28, ih (n / 268435456) (by omega) this]
  omega
theorem v28_take (l : List Int) (k : Nat) : v28 (l.take (k + 1)) = v28 (l.take k) + l.getD k 0 * 268435456 ^ k := by
 induction l generalizing k with
 | nil => simp [v28]
 | cons x l ih =>
  cases k with
  | zero => simp [v28]
  | succ k =>
   have := ih k
   simp only [List.take_succ_cons, v28, List.getD_cons_succ, this, Int.mul_add, Int.pow_succ]
   generalize v28 (l.take k) = u
   generalize (268435456 : Int) ^ k = b
   grind
theorem v28_set (l : List Int) (i : Nat) (v : Int) (h : i < l.length) : v28 (l.set i (l.getD i 0 + v)) = v28 l + v * 268435456 ^ i := by
 induction l generalizing i with
 | nil => simp at h
 | cons x l ih =>
  cases i with
  | zero => simp [v28]; omega
  | succ i =>
   have := ih i (by simpa using h)
   simp only [List.set_cons_succ, List.getD_cons_succ, v28, this, Int.mul_add, Int.pow_succ]
   generalize v28 l = u
   generalize (268435456 : Int) ^ i = b
   grind
def passT (l : List Int) (o : Int) : Nat → List Int × Int
 | 0 => (l, o)
 | k + 1 => ((passT l o k).1.set k (((passT l o k).1.getD k 0 + (passT l o k).2) % 268435456), ((passT l o k).1.getD k 0 + (passT l o k).2) / 268435456)
@[simp] theorem passT_len (l : List Int) (o : Int) (k : Nat) : (passT l o k).1.length = l.length := by
 induction k with
 | zero => rfl
 | succ k ih => simp [passT, ih]
end Go.Proofs.Ytohjkkmgcibemaa
/- chicoryref04.Norm: norm_head.txt with the lines of gen_norm.py -/
namespace Go.Proofs.Ytohjkkmgcibemaa
open Go.RowKit FdP FdP.Ch

@[simp] theorem is_len' (l : List Int) : (is l).length = l.length := by simp [is]
def subT (l : List Int) : Nat → List Int
 | 0 => l
 | k + 1 => (subT l k).set k ((subT l k).getD k 0 - primeD.getD k 0)
@[simp] theorem subT_len (l : List Int) (k : Nat) : (subT l k).length = l.length := by
 induction k with
 | zero => rfl
 | succ k ih => simp [subT, ih]

end Go.Proofs.Ytohjkkmgcibemaa
