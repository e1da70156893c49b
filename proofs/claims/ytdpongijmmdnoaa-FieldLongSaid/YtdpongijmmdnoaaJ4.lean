/- joined: Awk Stab Ee Eqb Dec Pby -/
import Derived.Test.YtdpongijmmdnoaaJ3
set_option linter.unusedSimpArgs false
set_option linter.unusedVariables false
/- chicorylaw04.awake -/
namespace Go.Proofs.Ytdpongijmmdnoaa
open Go.RowKit FdP FdP.Ch

theorem one_E : E (intF 1) 1 := by have := int_E 1 (by omega) (by omega); rwa [z_one] at this
theorem minus_E : E (intF (-1)) (-1) := by have := int_E (-1) (by omega) (by omega); rwa [z_neg, z_one] at this
theorem minus_bytes : bytesF (intF (-1)) = rawF (dig (P - 1)) := by
 unfold bytesF
 rw [strong_E minus_E]
 congr 2
theorem minus_b0 : (rawF (dig (P - 1))).getD 0 0 = 254 ∧ (rawF (dig (P - 1))).getD 27 0 = 255 ∧ (rawF (dig (P - 1))).getD 28 0 = 254 := by decide +kernel
theorem awake_zero : isZF (addF (intF (-1)) (intF 1)) = true := by
 rw [zero_law (add_E minus_E one_E)]
 exact decide_eq_true (by grind)

set_option maxHeartbeats 1000000 in
theorem awake_any (w : World) : Calls Try.prog 20 #[] w fun e w' => e = .returned (.bool true) ∧ Below w.heap.size w w' := by
 go_enter Try.func20, Try.ntmps20
 have st := St.start w
 go_wp2_with fail
 refine (int_any (-1) _).mono ?_
 rintro e w2 ⟨rfl, hb⟩
 replace st := st.call hb; clear hb
 go_wp2_with fail
 refine (bytes_any (intF (-1)) (by simp) (intF_bd _) _).mono ?_
 rintro e w3 ⟨v3, rfl, ⟨g, cap, sp, rfl, hg, ho⟩, hb⟩
 replace st := st.add hb hg ho; clear hb hg ho
 rw [minus_bytes] at st ⊢
 have hl : (rawF (dig (P - 1))).length = 56 := rawF_len _
 have hrd := (st.get 0 rfl).rd
 have c0 := hrd 0 (by rw [hl]; omega)
 have c27 := hrd 27 (by rw [hl]; omega)
 have c28 := hrd 28 (by rw [hl]; omega)
 rw [minus_b0.1] at c0
 rw [minus_b0.2.1] at c27
 rw [minus_b0.2.2] at c28
 rw [hl]
 clear hrd hl
 replace st := st.tail
 go_wp2_with fail
 refine (int_any (-1) _).mono ?_
 rintro e w25 ⟨rfl, hb⟩
 replace st := st.call hb; clear hb
 go_wp2_with fail
 refine (int_any 1 _).mono ?_
 rintro e w26 ⟨rfl, hb⟩
 replace st := st.call hb; clear hb
 go_wp2_with fail
 refine (add_any (intF (-1)) (intF 1) (by simp) (by simp) _).mono ?_
 rintro e w27 ⟨rfl, hb⟩
 replace st := st.call hb; clear hb
 go_wp2_with fail
 refine (zero_any (addF (intF (-1)) (intF 1)) (by simp) (addF_bd _ _) _).mono ?_
 rintro e w28 ⟨rfl, hb⟩
 replace st := st.call hb; clear hb
 rw [awake_zero]
 go_wp2_with fail
 go_ret
 exact ⟨rfl, st.below⟩
end Go.Proofs.Ytdpongijmmdnoaa
/- A region that draws its order, of which every operation yields one value and keeps S, calls among them. Over any program. -/
namespace Go.Proofs.Ytdpongijmmdnoaa
open Go.RowKit

section
variable {P : Program} {ops : Array Oper} {Q : Exit → Act → World → Prop} {S : World → Prop}

def Stab (P : Program) (ops : Array Oper) (S : World → Prop) (o : Oper) (v : Value) (a : Act) : Prop :=
 (Region.wanted o (yielded ops a.tmps) = true ∧ ∀ w, S w → (∃ w', (execOp a.eval o).run P w = .ok (.value v) w' ∧ S w') ∨
   (∃ f args w', (execOp a.eval o).run P w = .ok (.enter f args) w' ∧ Calls P f args w' fun e w'' => e = .returned v ∧ S w'')) ∨
 (Region.wanted o (yielded ops a.tmps) = false ∧ v = undef)

theorem Stab.wpOp {i : Nat} {o : Oper} {v : Value} {a : Act} (hi : ops[i]? = some o) (hy : Stab P ops S o v a) {K : Act → World → Prop} {w : World} (hS : S w)
 (h : ∀ w', S w' → K (a.put o.dst v) w') : wpOp P ops Q i K a w := by
 unfold Go.wpOp
 simp only [hi]
 rcases hy with ⟨hw, hv⟩ | ⟨hw, rfl⟩
 ·simp only [hw, if_true, Oper.wp]
  refine .inl ?_
  rcases hv w hS with ⟨w', hr, hS'⟩ | ⟨f, args, w', hr, hc⟩
  ·rw [hr]; exact h w' hS'
  ·rw [hr]
   refine Calls.mono hc fun e w'' he => ?_
   obtain ⟨rfl, hS'⟩ := he
   exact h w'' hS'
 ·simp only [hw, Bool.false_eq_true, if_false]; exact h w hS

theorem wpOp_shape {j : Nat} {oj : Oper} (hj : ops[j]? = some oj) {K : Act → World → Prop} {a : Act} {w : World} (h : wpOp P ops Q j K a w) :
 wpOp P ops Q j (fun a' w' => K a' w' ∧ ∃ u ds, a' = { a.put oj.dst u with defers := ds }) a w := by
 have put : ∀ u, ∃ v ds, a.put oj.dst u = { a.put oj.dst v with defers := ds } := fun u => ⟨u, (a.put oj.dst u).defers, rfl⟩
 unfold Go.wpOp at *
 simp only [hj] at *
 split
 ·rename_i hw
  simp only [hw, if_true] at h
  rcases h with h | h
  case inr => exact .inr h
  refine .inl ?_
  unfold Oper.wp at *
  generalize (execOp a.eval oj).run P w = r at *
  cases r with
  | ok n w' =>
   cases n <;> simp only [Oper.upon] at h ⊢
   case value u => exact ⟨h, put u⟩
   case skip => exact ⟨h, put _⟩
   case defer d =>
    refine ⟨h, undef, d :: a.defers, ?_⟩
    cases oj.dst <;> rfl
   case enter f args =>
    refine Calls.mono h fun e w'' he => ?_
    cases e with
    | returned u => exact ⟨he, put u⟩
    | panicked c => exact he
    | outgrown => exact he
   case row row args => exact Rows.mono h fun u w'' he => ⟨he, put u⟩
  | halt x w' =>
   cases x <;> simp only [Oper.upon] at h ⊢
   case panic u => exact h
 ·rename_i hw
  simp only [hw, Bool.false_eq_true, if_false] at h
  exact ⟨h, put _⟩

theorem Stab.keep {oi oj : Oper} {v : Value} {a a' : Act} (hs : ∀ cs b, oi.op ≠ .select cs b) (h3 : ∀ d, oj.dst = some d → d ∉ oi.looksAt ops) (hy : Stab P ops S oi v a)
 (h : ∃ u ds, a' = { a.put oj.dst u with defers := ds }) : Stab P ops S oi v a' := by
 obtain ⟨u, ds, rfl⟩ := h
 have e1 : execOp ({ a.put oj.dst u with defers := ds } : Act).eval oi = execOp a.eval oi := execOp_put oi hs a oj.dst u h3
 have e2 : Region.wanted oi (yielded ops ({ a.put oj.dst u with defers := ds } : Act).tmps) = Region.wanted oi (yielded ops a.tmps) := wanted_put oi a oj.dst u h3
 unfold Stab at *
 rw [e1, e2]
 exact hy

theorem Stab.idle {o : Oper} {v : Value} {a : Act} (hy : Stab P ops S o v a) : YieldsIf P ops (fun _ => False) o v a :=
 hy.imp (fun h => ⟨h.1, fun _ hf => hf.elim⟩) id

def AnyS (P : Program) (ops : Array Oper) (Q : Exit → Act → World → Prop) (S : World → Prop) : Nat → Array Bool → Act → Prop
 | 0, listed, a => Region.ready .any ops listed = [] ∧ ∀ w, S w → Q .normal a w
 | fuel + 1, listed, a =>
  (Region.ready .any ops listed = [] → ∀ w, S w → Q .normal a w) ∧
  ∀ i ∈ Region.ready .any ops listed, ∀ w, S w → wpOp P ops Q i (fun a' w' => S w' ∧ AnyS P ops Q S fuel (listed.setIfInBounds i true) a') a w

theorem AnyS.any : ∀ (fuel : Nat) (listed : Array Bool) (a : Act) (w : World), S w → AnyS P ops Q S fuel listed a → wpAny P .any ops Q fuel listed a w
 | 0, _, _, w, hS, h => ⟨h.1, h.2 w hS⟩
 | fuel + 1, _, _, w, hS, h => ⟨fun hr => h.1 hr w hS, fun i hi => wpOp_mono (fun a' w' h' => AnyS.any fuel _ a' w' h'.1 h'.2) (h.2 i hi w hS)⟩

theorem AnyS.first {i : Nat} {oi : Oper} {v : Value} (hi : ops[i]? = some oi)
 (hsel : ∀ (j : Nat) (o : Oper) cs b, ops[j]? = some o → o.op ≠ .select cs b)
 (hQ : ∀ c a w, Q (.panic c) (a.put oi.dst v) w → Q (.panic c) a w) :
 ∀ (fuel : Nat) (listed : Array Bool) (a : Act),
  (∀ j oj, ops[j]? = some oj → j ≠ i → listed.getD j true = false → (∀ e ∈ oj.after, Region.binds .any e = true → e.on ≠ i) → oi.apart ops oj = true) →
  i ∈ Region.ready .any ops listed → Stab P ops S oi v a →
  AnyS P ops Q S fuel (listed.setIfInBounds i true) (a.put oi.dst v) → AnyS P ops Q S (fuel + 1) listed a := by
 intro fuel
 induction fuel with
 | zero =>
  intro listed a _ hr hy H
  refine ⟨fun h => (by rw [h] at hr; cases hr), fun j hj w hS => ?_⟩
  by_cases hji : j = i
  ·subst hji; exact hy.wpOp hi hS fun w' hS' => ⟨hS', H⟩
  ·have := ready_mono hj hji
   rw [H.1] at this; cases this
 | succ fuel ih =>
  intro listed a hfree hr hy H
  refine ⟨fun h => (by rw [h] at hr; cases hr), fun j hj w hS => ?_⟩
  by_cases hji : j = i
  ·subst hji; exact hy.wpOp hi hS fun w' hS' => ⟨hS', H⟩
  ·obtain ⟨hjn, oj, hoj, hall⟩ := mem_ready.1 hj
   have hin := (mem_ready.1 hr).1
   have hun : listed.getD i false = false := by
    cases h0 : listed[i]? with
    | none => simp [h0]
    | some b => simp [h0] at hin; simp [h0, hin]
   have hno : ∀ e ∈ oj.after, Region.binds .any e = true → e.on ≠ i := fun e he hb heq => by
    have h1 := hall e he hb
    rw [heq, hun] at h1; cases h1
   have hap := hfree j oj hoj hji hjn hno
   have h1 := H.2 j (ready_mono hj hji) w hS
   have h2 := wpOp_shape hoj (wpOp_putIf hoj hap (fun cs b => hsel i oi cs b hi) (fun cs b => hsel j oj cs b hoj) hQ hy.idle h1)
   refine wpOp_mono (fun a' w' h3 => ⟨h3.1.2.1, ih (listed.setIfInBounds j true) a' (fun k ok hk hki hkn hkno => ?_) (ready_mono hr (Ne.symm hji)) (hy.keep (fun cs b => hsel i oi cs b hi) (Oper.apart_spec hap).2.2 h3.2) ?_⟩) h2
   ·by_cases hjk : j = k
    ·subst hjk; exact hfree j ok hk hki hjn hkno
    ·rw [getD_set_ne true hjk] at hkn; exact hfree k ok hk hki hkn hkno
   ·rw [Array.setIfInBounds_comm _ _ hji]; exact h3.1.2.2

variable {i : Nat} {r : List Nat} {a : Act} {o : Oper}

end
end Go.Proofs.Ytdpongijmmdnoaa
/- contracts with the elements told; a load that a guard lets by -/
namespace Go.Proofs.Ytdpongijmmdnoaa
open Go.RowKit FdP FdP.Ch

section
variable {P : Program} {ops : Array Oper} {rest : List Oper} {o : Oper} {a : Act} {w w0 : World} {Q : Exit → Act → World → Prop} {bs : List (Nat × List Value × TypeId)}
end

theorem add_e {l m : List Int} {a b : F} (hl : E l a) (hm : E m b) (w : World) : Calls Try.prog 14 #[AG (us l), AG (us m)] w fun e w' => e = .returned (AG (us (addF l m))) ∧ Below w.heap.size w w' := add_any l m hl.len hm.len w
theorem sub_e {l m : List Int} {a b : F} (hl : E l a) (hm : E m b) (w : World) : Calls Try.prog 16 #[AG (us l), AG (us m)] w fun e w' => e = .returned (AG (us (subF l m))) ∧ Below w.heap.size w w' := sub_any l m hl.len hm.len w
theorem mul_e {l m : List Int} {a b : F} (hl : E l a) (hm : E m b) (w : World) : Calls Try.prog 34 #[AG (us l), AG (us m)] w fun e w' => e = .returned (AG (us (mulF l m))) ∧ Below w.heap.size w w' := mul_any l m hl.len hm.len hl.bd hm.bd w
theorem square_e {l : List Int} {a : F} (hl : E l a) (w : World) : Calls Try.prog 38 #[AG (us l)] w fun e w' => e = .returned (AG (us (mulF l l))) ∧ Below w.heap.size w w' := square_any l hl.len hl.bd w
theorem neg_e {l : List Int} {a : F} (hl : E l a) (w : World) : Calls Try.prog 18 #[AG (us l)] w fun e w' => e = .returned (AG (us (negF l))) ∧ Below w.heap.size w w' := neg_any l hl.len w
theorem times_e {l : List Int} {a : F} (hl : E l a) (n : Int) (w : World) : Calls Try.prog 39 #[AG (us l), .int .i64 n] w fun e w' => e = .returned (AG (us (mulF l (intF n)))) ∧ Below w.heap.size w w' := times_any l n hl.len hl.bd (intF_bd n) w
theorem times_E {l : List Int} {a : F} (hl : E l a) (n : Int) (h0 : -9223372036854775808 ≤ n) (h1 : n < 9223372036854775808) : E (mulF l (intF n)) (a * z n) := mul_E hl (int_E n h0 h1)
end Go.Proofs.Ytdpongijmmdnoaa
/- chicorylaw01.Bytes, slices.Equal: are two slices of bytes the same -/
namespace Go.Proofs.Ytdpongijmmdnoaa
open Go.RowKit FdP FdP.Ch

def Sv (w : World) (v : Value) (xs : List Int) : Prop :=
 ∃ (a : Option Addr) (cap : Nat), v = .slice a xs.length cap ∧ (0 < xs.length → ∃ g off, a = some ⟨g, off, none⟩ ∧ Rd w g off xs)
theorem Sv.below {w w' : World} {v : Value} {xs : List Int} (h : Sv w v xs) (hb : Below w.heap.size w w') : Sv w' v xs := by
 obtain ⟨a, cap, e, h⟩ := h
 exact ⟨a, cap, e, fun hx => by obtain ⟨g, off, ea, hr⟩ := h hx; exact ⟨g, off, ea, hr.below hb⟩⟩
theorem Sl.sv {w w' : World} {v : Value} {xs : List Int} (h : Sl w w' v xs) : Sv w' v xs := by
 obtain ⟨g, cap, sp, e, _, ho⟩ := h
 exact ⟨_, cap, e, fun _ => ⟨g, 0, rfl, ho.rd⟩⟩
theorem getD_ext {xs zs : List Int} (hl : xs.length = zs.length) (h : ∀ j, j < xs.length → xs.getD j 0 = zs.getD j 0) : xs = zs := by
 apply List.ext_getElem hl
 intro i h1 h2
 have := h i h1
 simpa [List.getD, h1, h2] using this

set_option maxHeartbeats 1000000 in
theorem lawEq_any (xs zs : List Int) (v u : Value) (w : World) (hv : Sv w v xs) (hu : Sv w u zs) (hlt : xs.length ≤ 1000000) :
 Calls Try.prog 28 #[v, u] w fun e w' => e = .returned (.bool (decide (xs = zs))) ∧ Below w.heap.size w w' := by
 obtain ⟨a, cap, rfl, ha⟩ := hv
 obtain ⟨b, cap', rfl, hb⟩ := hu
 by_cases hl : xs.length = zs.length
 ·by_cases h0 : xs.length = 0
  ·have e1 : xs = [] := List.eq_nil_of_length_eq_zero h0
   have e2 : zs = [] := List.eq_nil_of_length_eq_zero (by omega)
   subst e1; subst e2
   clear ha hb hl h0
   go_enter Try.func28, Try.ntmps28
   try simp only [List.length_nil]
   go_wp2_with fail
   go_loopw [5] (fun i wr => i = .int .i64 0 ∧ wr = w) (fun _ _ => 0)
   case atStart => exact ⟨rfl, rfl⟩
   case round =>
    obtain ⟨rfl, rfl⟩ := hrel
    go_wp2
    go_ret
    exact ⟨rfl, Below.refl _ _⟩
  ·obtain ⟨g, off, rfl, r1⟩ := ha (by omega)
   obtain ⟨g', off', rfl, r2⟩ := hb (by omega)
   clear ha hb
   rw [← hl]
   have R1 := hide r1; have R2 := hide r2
   clear r1 r2
   have Hl := hide hl; clear hl
   generalize hn : xs.length = n at *
   have Hn := hide hn; clear hn
   have hd : ((n : Int) != (n : Int)) = false := by simp
   go_enter Try.func28, Try.ntmps28
   go_wp2_with fail
   go_loopw [5] (fun i wr => ∃ k : Nat, k ≤ n ∧ i = .int .i64 k ∧ Hid (∀ j, j < k → xs.getD j 0 = zs.getD j 0) ∧ Below w.heap.size w wr) (fun i _ => n - (intOf i).toNat)
   case atStart => exact ⟨0, by omega, rfl, hide (fun j hj => by omega), Below.refl _ _⟩
   case round =>
    obtain ⟨k, hk, rfl, heq, hb⟩ := hrel
    by_cases hlt : k < n
    ·have hlt' : (k : Int) < (n : Int) := by omega
     have c1 := (R1.out.below hb) k (by rw [Hn.out]; exact hlt)
     have c2 := (R2.out.below hb) k (by rw [← Hl.out]; exact hlt)
     generalize hx : xs.getD k 0 = x at c1
     generalize hy : zs.getD k 0 = y at c2
     have Hx := hide hx; have Hy := hide hy; clear hx hy
     by_cases hxy : x = y
     ·have q : (x != y) = false := by simpa using hxy
      have Hxy := hide hxy; clear hxy
      go_wp2
      go_quiet (fail)
      go_wp2
      go_roundw
      case rel => exact ⟨k + 1, by omega, by go_num, hide (fun j hj => by
       by_cases hjk : j = k
       ·subst hjk; rw [Hx.out, Hy.out, Hxy.out]
       ·exact heq.out j (by omega)), Below.drewN hb _⟩
      case measure => simp [intOf]; omega
     ·have q : (x != y) = true := by simpa using hxy
      have Hxy := hide hxy; clear hxy
      have hne : decide (xs = zs) = false := decide_eq_false (fun e => Hxy.out (by rw [← Hx.out, ← Hy.out, e]))
      have Hne := hide hne; clear hne
      go_wp2
      go_quiet (fail)
      go_wp2
      go_ret
      exact ⟨by rw [Hne.out]; rfl, Below.drewN hb _⟩
    ·have : k = n := by omega
     subst this
     have he : decide (xs = zs) = true := decide_eq_true (getD_ext (by rw [Hn.out]; exact Hl.out) (fun j hj => heq.out j (by rw [Hn.out] at hj; exact hj)))
     have He := hide he; clear he
     go_wp2
     go_ret
     exact ⟨by rw [He.out]; rfl, hb⟩
 ·have hne : decide (xs = zs) = false := decide_eq_false (fun e => hl (by rw [e]))
  rw [hne]
  clear ha hb hne
  generalize xs.length = n at *
  generalize zs.length = m at *
  have q : ((n : Int) != (m : Int)) = true := by simp; omega
  go_enter Try.func28, Try.ntmps28
  go_wp2
  go_ret
  exact ⟨rfl, Below.refl _ _⟩
end Go.Proofs.Ytdpongijmmdnoaa
/- slices.Equal, field.Decode -/
namespace Go.Proofs.Ytdpongijmmdnoaa
open Go.RowKit FdP FdP.Ch

end Go.Proofs.Ytdpongijmmdnoaa
/- plain law: an element's bytes -/
namespace Go.Proofs.Ytdpongijmmdnoaa
open Go.RowKit FdP FdP.Ch

theorem mod_more (x q : Int) (hq : 0 < q) : x % (256 * q) = x % q + q * (x / q % 256) := by
 have h1 := Int.emod_add_mul_ediv x q
 have h2 := Int.emod_add_mul_ediv (x / q) 256
 have h3 := Int.emod_add_mul_ediv x (256 * q)
 have h4 : x / (256 * q) = x / q / 256 := by rw [Int.mul_comm 256 q, Int.ediv_ediv_of_nonneg (by omega)]
 rw [h4] at h3
 generalize x / q = u at *
 generalize u / 256 = v at *
 generalize u % 256 = t at *
 generalize x % q = r at *
 generalize x % (256 * q) = s at *
 grind

theorem rawX_law (x : Int) (k : Nat) : bval (rawX x k) = x % 2 ^ (8 * k) := by
 induction k with
 | zero => simp [rawX, bval]
 | succ k ih =>
  have hp : (2 : Int) ^ (8 * (k + 1)) = 256 * 2 ^ (8 * k) := by rw [show 8 * (k + 1) = 8 * k + 8 by omega, Int.pow_add]; generalize (2 : Int) ^ (8 * k) = q; omega
  have hpos : (0 : Int) < 2 ^ (8 * k) := Int.pow_pos (by omega)
  rw [rawX, bval_app, ih, rawX_len, hp, mod_more _ _ hpos]
  simp [bval]

theorem pow56 (i : Nat) : (2 : Int) ^ (8 * (7 * i)) = 72057594037927936 ^ i := by
 rw [show 8 * (7 * i) = 56 * i by omega, Int.pow_mul]; rfl

theorem rawO_law (l : List Int) (h : ∀ i, i < 8 → 0 ≤ l.getD i 0 ∧ l.getD i 0 < 72057594037927936) : ∀ i, i ≤ 8 → bval (rawO l i) = val (l.take i) := by
 intro i
 induction i with
 | zero => intro _; simp [rawO, bval, val]
 | succ i ih =>
  intro hi
  have hx := h i (by omega)
  rw [rawO, bval_app, ih (by omega), rawO_len, rawX_law, p56, Int.emod_eq_of_lt hx.1 hx.2, pow56, val_take l i, Int.mul_comm]

theorem rawF_law (l : List Int) (hl : l.length = 8) (h : ∀ x ∈ l, 0 ≤ x ∧ x < 72057594037927936) : bval (rawF l) = val l := by
 have := rawO_law l (fun i hi => by
  have hlt : i < l.length := by omega
  have e : l.getD i 0 = l[i] := by simp [List.getD, hlt]
  rw [e]; exact h _ (List.getElem_mem hlt)) 8 (by omega)
 rw [List.take_of_length_le (by omega)] at this
 exact this

theorem val_dig (n : Int) (h0 : 0 ≤ n) (h1 : n < 72057594037927936 ^ 8) : val (dig n) = n := by
 have d : ∀ k, n / 72057594037927936 ^ (k + 1) = n / 72057594037927936 ^ k / 72057594037927936 := by
  intro k; rw [Int.pow_succ, Int.ediv_ediv_of_nonneg (Int.pow_nonneg (by omega))]
 unfold dig
 have d1 := d 1; have d2 := d 2; have d3 := d 3; have d4 := d 4; have d5 := d 5; have d6 := d 6
 simp only [Int.pow_one] at d1
 simp only [val, d6, d5, d4, d3, d2, d1]
 omega
theorem val_lt (a : F) : (a.val : Int) < 72057594037927936 ^ 8 := by
 have : (a.val : Int) < P := by have := a.isLt; omega
 rw [P_eq] at this; omega

theorem bytes_eq {l : List Int} {a : F} (h : E l a) : bytesF l = rawF (dig a.val) := by unfold bytesF; rw [strong_E h]
end Go.Proofs.Ytdpongijmmdnoaa
