/- joined: Bit Ord Wide Row Mul Int Str -/
import Derived.Test.YtdpongijmmdnoaaJ0
set_option linter.unusedSimpArgs false
set_option linter.unusedVariables false
/- math/bits: Add64, Sub64 (the model's own entries), Mul64 (walked). -/
namespace Go.Proofs.Ytdpongijmmdnoaa
open Go.RowKit

section
variable {P : Program} {ops : Array Oper} {rest : List Oper} {o : Oper} {a : Act} {w : World} {Q : Exit → Act → World → Prop} {S : World → Prop}

theorem run_call_ext {ρ : Operand → Value} (f : FuncId) (xs : List Operand) (ts : Array TypeId) (ho : o.op = .call { callee := .value (.func f), args := xs.toArray, argTypes := ts })
 (hf : ρ (.func f) = .func (.func f) #[] #[]) (vs : List Value) (hvs : xs.map ρ = vs) (v : Value) (W : World) (hrun : (callFunc f vs.toArray).run P W = .ok (.value v) W) :
 (execOp ρ o).run P W = .ok (.value v) W := by
 unfold execOp
 simp only [ho, resolve, List.map_toArray, hvs, hf, Deferred.ofValue, Sem.run_bind, Sem.run_pure, Result.andThen_ok, invoke]
 simpa using hrun

theorem wpList_call_ext (hgd : o.guard = none) (f : FuncId) (xs : List Operand) (ts : Array TypeId) (ho : o.op = .call { callee := .value (.func f), args := xs.toArray, argTypes := ts })
 (vs : List Value) (hvs : xs.map a.eval = vs) (v : Value) (hrun : ∀ W, (callFunc f vs.toArray).run P W = .ok (.value v) W)
 (h : wpList P ops Q rest (a.put o.dst v) w) : wpList P ops Q (o :: rest) a w := by
 refine wpList_plain hgd fun _ hK => ?_
 unfold Oper.wp
 rw [run_call_ext (ρ := a.eval) f xs ts ho rfl vs hvs v w (hrun w)]
 exact hK _ _ h

end

def sub64Entry : Array Value → Sem Value := fun args => do
 let (x, y, b) ← Extern.MathBitsCarry.three "Sub64" args
 pure (Extern.MathBitsCarry.pair ((x + Extern.MathBitsCarry.m64 - y - b) % Extern.MathBitsCarry.m64) (if x < y + b then 1 else 0))

def adL (x y c : Int) : Int := (x + y + c) % 18446744073709551616
def adH (x y c : Int) : Int := (x + y + c) / 18446744073709551616

theorem add64_call (x y c : Int) (hx : 0 ≤ x) (hy : 0 ≤ y) (hc0 : 0 ≤ c) (hc : c ≤ 1) (W : World) :
 (callFunc 61 #[.int .u64 x, .int .u64 y, .int .u64 c]).run Try.prog W =
   .ok (.value (.tuple #[.int .u64 (adL x y c), .int .u64 (adH x y c)])) W := by
 rw [run_callFunc_extern Try.func61 (by kernel_rfl) (by kernel_rfl) (by kernel_rfl) (e := add64Entry) (by kernel_rfl), run_add64 x y c hx hy hc0 hc]
 rfl

def sbL (x y : Int) : Int := (x - y) % 18446744073709551616
def sbH (x y : Int) : Int := if x < y then 1 else 0

theorem sub64_call (x y : Int) (hx : 0 ≤ x) (hx' : x < 18446744073709551616) (hy : 0 ≤ y) (hy' : y < 18446744073709551616) (W : World) :
 (callFunc 59 #[.int .u64 x, .int .u64 y, .int .u64 0]).run Try.prog W =
   .ok (.value (.tuple #[.int .u64 (sbL x y), .int .u64 (sbH x y)])) W := by
 obtain ⟨m, rfl⟩ := Int.eq_ofNat_of_zero_le hx
 obtain ⟨n, rfl⟩ := Int.eq_ofNat_of_zero_le hy
 rw [run_callFunc_extern Try.func59 (by kernel_rfl) (by kernel_rfl) (by kernel_rfl) (e := sub64Entry) (by kernel_rfl)]
 have : (sub64Entry #[.int .u64 (m : Int), .int .u64 (n : Int), .int .u64 0]).run Try.prog W = .ok (Extern.MathBitsCarry.pair ((m + Extern.MathBitsCarry.m64 - n - 0) % Extern.MathBitsCarry.m64) (if m < n + 0 then 1 else 0)) W := rfl
 rw [this]
 have e1 : (((m + 18446744073709551616 - n - 0) % 18446744073709551616 : Nat) : Int) = ((m : Int) - n) % 18446744073709551616 := by omega
 have e2 : (((if m < n + 0 then 1 else 0 : Nat)) : Int) = if (m : Int) < n then 1 else 0 := by split <;> split <;> omega
 have e3 : Extern.MathBitsCarry.m64 = 18446744073709551616 := rfl
 simp only [Extern.MathBitsCarry.pair, Result.andThen, e3, Int.ofNat_eq_natCast, e1, e2, sbL, sbH]

theorem tup2 {a b c d : Int} (h : a = c) (h' : b = d) : Ending.returned (.tuple #[.int .u64 a, .int .u64 b]) = .returned (.tuple #[.int .u64 c, .int .u64 d]) := by rw [h, h']

set_option maxHeartbeats 1000000 in
theorem mul64_any (x y : Int) (hx0 : 0 ≤ x) (hx : x < 18446744073709551616) (hy0 : 0 ≤ y) (hy : y < 18446744073709551616) (w : World) :
 Calls Try.prog 60 #[.int .u64 x, .int .u64 y] w
  fun e w' => e = .returned (.tuple #[.int .u64 (x * y / 18446744073709551616), .int .u64 (x * y % 18446744073709551616)]) ∧ Below w.heap.size w w' := by
 go_enter Try.func60, Try.ntmps60
 go_wp2
 go_ret2
 refine ⟨tup2 ?_ ?_, Below.refl _ _⟩
 ·have ex : bits BinOp.and IntKind.u64 x 4294967295 = x % 4294967296 := by
   have := and_mask x 32 (by omega); rwa [Int.emod_eq_of_lt hx0 hx] at this
  have ey : bits BinOp.and IntKind.u64 y 4294967295 = y % 4294967296 := by
   have := and_mask y 32 (by omega); rwa [Int.emod_eq_of_lt hy0 hy] at this
  rw [← mul64_arith x y hx0 hx hy0 hy]
  simp only [ex, ey, IntKind.wrap_u64]
  have em : ∀ s : Int, bits BinOp.and IntKind.u64 (s % 18446744073709551616) 4294967295 = (s % 18446744073709551616) % 4294967296 := fun s => by
   have := and_mask (s % 18446744073709551616) 32 (by omega)
   rwa [Int.emod_emod_of_dvd _ (Int.dvd_refl _)] at this
  rw [em]
 ·rw [IntKind.wrap_u64]
end Go.Proofs.Ytdpongijmmdnoaa
/- A region that draws its order, of which some operations come up when nothing else is left (stores at its end): behind those S need not hold. Over any program. -/
namespace Go.Proofs.Ytdpongijmmdnoaa
open Go.RowKit

section
variable {P : Program} {ops : Array Oper} {Q : Exit → Act → World → Prop} {S : World → Prop} {fin : Nat → Bool}

def waits (ops : Array Oper) : Nat → Nat → Nat → Bool
 | 0, _, _ => false
 | n + 1, j, i => ((ops[j]?).map fun o => o.after.any fun e => Region.binds .any e && (e.on == i || waits ops n e.on i)).getD false

def Shutd (ops : Array Oper) (listed : Array Bool) : Prop :=
 ∀ k o, listed.getD k false = true → ops[k]? = some o → ∀ e ∈ o.after, Region.binds .any e = true → listed.getD e.on false = true

theorem waits_done {listed : Array Bool} (hc : Shutd ops listed) : ∀ n j i o, ops[j]? = some o → (∀ e ∈ o.after, Region.binds .any e = true → listed.getD e.on false = true) →
 waits ops n j i = true → listed.getD i false = true
 | 0, _, _, _, _, _, h => by simp [waits] at h
 | n + 1, j, i, o, ho, hd, h => by
  simp only [waits, ho, Option.map_some, Option.getD_some] at h
  obtain ⟨e, he, hb⟩ := Array.any_eq_true'.1 h
  simp only [Bool.and_eq_true, Bool.or_eq_true, beq_iff_eq] at hb
  have hl := hd e he hb.1
  rcases hb.2 with h1 | h1
  ·rw [← h1]; exact hl
  ·cases hk : ops[e.on]? with
   | none => cases n <;> simp [waits, hk] at h1
   | some o' => exact waits_done hc n e.on i o' hk (hc e.on o' hl hk) h1

theorem Shutd.set {listed : Array Bool} (hc : Shutd ops listed) {j : Nat} (hj : j ∈ Region.ready .any ops listed) : Shutd ops (listed.setIfInBounds j true) := by
 intro k o hk ho e he hb
 apply getD_set_true
 obtain ⟨hjn, oj, hoj, hall⟩ := mem_ready.1 hj
 by_cases hkj : k = j
 ·subst hkj; rw [ho] at hoj; cases hoj; exact hall e he hb
 ·rw [getD_set_ne false (Ne.symm hkj)] at hk; exact hc k o hk ho e he hb

def AnyX (P : Program) (ops : Array Oper) (Q : Exit → Act → World → Prop) (S : World → Prop) (fin : Nat → Bool) : Nat → Array Bool → Act → World → Prop
 | 0, listed, a, w => Region.ready .any ops listed = [] ∧ Q .normal a w
 | fuel + 1, listed, a, w =>
  (Region.ready .any ops listed = [] → Q .normal a w) ∧
  ∀ i ∈ Region.ready .any ops listed, wpOp P ops Q i (fun a' w' => (fin i = false → S w') ∧ AnyX P ops Q S fin fuel (listed.setIfInBounds i true) a' w') a w

theorem AnyX.any : ∀ (fuel : Nat) (listed : Array Bool) (a : Act) (w : World), AnyX P ops Q S fin fuel listed a w → wpAny P .any ops Q fuel listed a w
 | 0, _, _, _, h => h
 | fuel + 1, _, _, _, h => ⟨h.1, fun i hi => wpOp_mono (fun a' w' h' => AnyX.any fuel _ a' w' h'.2) (h.2 i hi)⟩

theorem AnyX.first {i : Nat} {oi : Oper} {v : Value} (hi : ops[i]? = some oi) (hfi : fin i = false) (hw : ∀ j, fin j = true → waits ops ops.size j i = true)
 (hsel : ∀ (j : Nat) (o : Oper) cs b, ops[j]? = some o → o.op ≠ .select cs b)
 (hQ : ∀ c a w, Q (.panic c) (a.put oi.dst v) w → Q (.panic c) a w) :
 ∀ (fuel : Nat) (listed : Array Bool) (a : Act) (w : World), Shutd ops listed →
  (∀ j oj, ops[j]? = some oj → j ≠ i → listed.getD j true = false → (∀ e ∈ oj.after, Region.binds .any e = true → e.on ≠ i) → oi.apart ops oj = true) →
  i ∈ Region.ready .any ops listed → YieldsIf P ops S oi v a → S w →
  AnyX P ops Q S fin fuel (listed.setIfInBounds i true) (a.put oi.dst v) w → AnyX P ops Q S fin (fuel + 1) listed a w := by
 intro fuel
 induction fuel with
 | zero =>
  intro listed a w _ _ hr hy hS H
  refine ⟨fun h => (by rw [h] at hr; cases hr), fun j hj => ?_⟩
  by_cases hji : j = i
  ·subst hji; exact hy.wpOp hi hS ⟨fun _ => hS, H⟩
  ·have := ready_mono hj hji
   rw [H.1] at this; cases this
 | succ fuel ih =>
  intro listed a w hc hfree hr hy hS H
  refine ⟨fun h => (by rw [h] at hr; cases hr), fun j hj => ?_⟩
  by_cases hji : j = i
  ·subst hji; exact hy.wpOp hi hS ⟨fun _ => hS, H⟩
  ·obtain ⟨hjn, oj, hoj, hall⟩ := mem_ready.1 hj
   have hin := (mem_ready.1 hr).1
   have hun : listed.getD i false = false := by
    cases h0 : listed[i]? with
    | none => simp [h0]
    | some b => simp [h0] at hin; simp [h0, hin]
   have hfj : fin j = false := by
    cases hfj : fin j with
    | false => rfl
    | true => have := waits_done hc _ j i oj hoj hall (hw j hfj); rw [hun] at this; cases this
   have hno : ∀ e ∈ oj.after, Region.binds .any e = true → e.on ≠ i := fun e he hb heq => by
    have h1 := hall e he hb
    rw [heq, hun] at h1; cases h1
   have h1 := H.2 j (ready_mono hj hji)
   have h2 := wpOp_putIf hoj (hfree j oj hoj hji hjn hno) (fun cs b => hsel i oi cs b hi) (fun cs b => hsel j oj cs b hoj) hQ hy h1
   refine wpOp_mono (fun a' w' h3 => ⟨fun _ => h3.2.1 hfj, ih (listed.setIfInBounds j true) a' w' (hc.set hj) (fun k ok hk hki hkn hkno => ?_) (ready_mono hr (Ne.symm hji)) h3.1 (h3.2.1 hfj) ?_⟩) h2
   ·by_cases hjk : j = k
    ·subst hjk; exact hfree j ok hk hki hjn hkno
    ·rw [getD_set_ne true hjk] at hkn; exact hfree k ok hk hki hkn hkno
   ·rw [Array.setIfInBounds_comm _ _ hji]; exact h3.2.2

def RunOrdX (P : Program) (ops : Array Oper) (Q : Exit → Act → World → Prop) (S : World → Prop) : List (Nat × Nat) → Act → World → Prop
 | [], a, w => Q .normal a w
 | (i, 0) :: r, a, w => ∃ o v, ops[i]? = some o ∧ YieldsIf P ops S o v a ∧ RunOrdX P ops Q S r (a.put o.dst v) w
 | (i, 1) :: r, a, w => wpOp P ops Q i (fun a' w' => S w' ∧ RunOrdX P ops Q S r a' w') a w
 | (i, 2) :: r, a, w => wpOp P ops Q i (fun a' w' => RunOrdX P ops Q S r a' w') a w
 | (i, 3) :: (j, 4) :: r, a, w => wpOp P ops Q i (fun a' w' => S w' ∧ wpOp P ops Q j (fun a' w' => S w' ∧ RunOrdX P ops Q S r a' w') a' w') a w ∧
     wpOp P ops Q j (fun a' w' => S w' ∧ wpOp P ops Q i (fun a' w' => S w' ∧ RunOrdX P ops Q S r a' w') a' w') a w
 | _ :: _, _, _ => False

def isFin (ord : List (Nat × Nat)) (i : Nat) : Bool := ord.any fun x => x.1 == i && x.2 == 2

def ordOkX (ops : Array Oper) (fin : Nat → Bool) : List (Nat × Nat) → Array Bool → Bool
 | [], listed => (Region.ready .any ops listed).isEmpty
 | (i, 0) :: r, listed => Region.free .any ops listed i && (Region.ready .any ops listed).contains i && !fin i && ((List.range ops.size).all fun j => !fin j || waits ops ops.size j i) && ordOkX ops fin r (listed.setIfInBounds i true)
 | (i, 1) :: r, listed => (Region.ready .any ops listed == [i]) && ordOkX ops fin r (listed.setIfInBounds i true)
 | (i, 2) :: r, listed => (Region.ready .any ops listed == [i]) && fin i && r.all (fun x => x.2 == 2) && ordOkX ops fin r (listed.setIfInBounds i true)
 | (i, 3) :: (j, 4) :: r, listed => (Region.ready .any ops listed == [i, j]) && (Region.ready .any ops (listed.setIfInBounds i true) == [j]) && (Region.ready .any ops (listed.setIfInBounds j true) == [i]) &&
     ordOkX ops fin r ((listed.setIfInBounds i true).setIfInBounds j true)
 | _ :: _, _ => false

theorem runOrdX_sound (hs : Region.noSelect ops = true) (hfs : ∀ j, fin j = true → j < ops.size) (hQ : ∀ c a (d : Option Tmp) v w, Q (.panic c) (a.put d v) w → Q (.panic c) a w) :
 ∀ (n : Nat) (ord : List (Nat × Nat)) (listed : Array Bool) (fuel : Nat) (a : Act) (w : World), ord.length ≤ n → Shutd ops listed → ordOkX ops fin ord listed = true → ord.length ≤ fuel →
  ((∃ x ∈ ord, x.2 = 0) → S w) → RunOrdX P ops Q S ord a w → AnyX P ops Q S fin fuel listed a w := by
 intro n
 induction n with
 | zero =>
  intro ord listed fuel a w hn _ hk _ _ h
  have : ord = [] := List.eq_nil_of_length_eq_zero (by omega)
  subst this
  have hr : Region.ready .any ops listed = [] := by simpa [ordOkX] using hk
  cases fuel with
  | zero => exact ⟨hr, h⟩
  | succ f => exact ⟨fun _ => h, by rw [hr]; simp⟩
 | succ n ih =>
  intro ord listed fuel a w hn hc hk hf hS h
  match ord, hn, hk, hf, hS, h with
  | [], _, hk, _, _, h =>
   have hr : Region.ready .any ops listed = [] := by simpa [ordOkX] using hk
   cases fuel with
   | zero => exact ⟨hr, h⟩
   | succ f => exact ⟨fun _ => h, by rw [hr]; simp⟩
  | (i, 0) :: r, hn, hk, hf, hS, h =>
   obtain ⟨fuel, rfl⟩ : ∃ f, fuel = f + 1 := ⟨fuel - 1, by simp at hf; omega⟩
   have hf' : r.length ≤ fuel := by simp at hf; omega
   have hn' : r.length ≤ n := by simp at hn; omega
   obtain ⟨o, v, ho, hy, h⟩ := h
   simp only [ordOkX, Bool.and_eq_true, Bool.not_eq_true', List.all_eq_true, List.mem_range, Bool.or_eq_true] at hk
   have hw := hS ⟨(i, 0), by simp, rfl⟩
   have hr : i ∈ Region.ready .any ops listed := by simpa using hk.1.1.1.2
   refine AnyX.first ho hk.1.1.2 (fun j hj => ?_) (Region.noSelect_spec hs) (fun c a w => hQ c a _ v w) fuel listed a w hc (Region.free_spec ho hk.1.1.1.1) hr hy hw
    (ih r _ fuel _ w hn' (hc.set hr) hk.2 hf' (fun _ => hw) h)
   rcases hk.1.2 j (hfs j hj) with h1 | h1
   ·rw [hj] at h1; cases h1
   ·exact h1
  | (i, 1) :: r, hn, hk, hf, hS, h =>
   obtain ⟨fuel, rfl⟩ : ∃ f, fuel = f + 1 := ⟨fuel - 1, by simp at hf; omega⟩
   have hf' : r.length ≤ fuel := by simp at hf; omega
   have hn' : r.length ≤ n := by simp at hn; omega
   simp only [ordOkX, Bool.and_eq_true, beq_iff_eq] at hk
   refine ⟨fun h0 => (by rw [hk.1] at h0; cases h0), ?_⟩
   rw [hk.1]
   intro j hj
   obtain rfl := List.mem_singleton.1 hj
   have hr : j ∈ Region.ready .any ops listed := by rw [hk.1]; simp
   exact wpOp_mono (fun a' w' hh => ⟨fun _ => hh.1, ih r _ fuel a' w' hn' (hc.set hr) hk.2 hf' (fun _ => hh.1) hh.2⟩) h
  | (i, 2) :: r, hn, hk, hf, hS, h =>
   obtain ⟨fuel, rfl⟩ : ∃ f, fuel = f + 1 := ⟨fuel - 1, by simp at hf; omega⟩
   have hf' : r.length ≤ fuel := by simp at hf; omega
   have hn' : r.length ≤ n := by simp at hn; omega
   simp only [ordOkX, Bool.and_eq_true, beq_iff_eq, List.all_eq_true] at hk
   refine ⟨fun h0 => (by rw [hk.1.1.1] at h0; cases h0), ?_⟩
   rw [hk.1.1.1]
   intro j hj
   obtain rfl := List.mem_singleton.1 hj
   have hr : j ∈ Region.ready .any ops listed := by rw [hk.1.1.1]; simp
   refine wpOp_mono (fun a' w' hh => ⟨fun h0 => (by rw [hk.1.1.2] at h0; cases h0), ih r _ fuel a' w' hn' (hc.set hr) hk.2 hf' (fun hx => ?_) hh⟩) h
   obtain ⟨x, hx, h0⟩ := hx
   have := hk.1.2 x hx
   rw [h0] at this; cases this
  | (i, 3) :: (j, 4) :: r, hn, hk, hf, hS, h =>
   obtain ⟨fuel, rfl⟩ : ∃ f, fuel = f + 2 := ⟨fuel - 2, by simp at hf; omega⟩
   have hf' : r.length ≤ fuel := by simp at hf; omega
   have hn' : r.length ≤ n := by simp at hn; omega
   simp only [ordOkX, Bool.and_eq_true, beq_iff_eq] at hk
   obtain ⟨⟨⟨k1, k2⟩, k3⟩, k4⟩ := hk
   have hri : i ∈ Region.ready .any ops listed := by rw [k1]; simp
   have hrj : j ∈ Region.ready .any ops listed := by rw [k1]; simp
   have hri' : i ∈ Region.ready .any ops (listed.setIfInBounds j true) := by rw [k3]; simp
   have hrj' : j ∈ Region.ready .any ops (listed.setIfInBounds i true) := by rw [k2]; simp
   refine ⟨fun h0 => (by rw [k1] at h0; cases h0), ?_⟩
   rw [k1]
   intro x hx
   rcases List.mem_cons.1 hx with rfl | hx
   ·refine wpOp_mono (fun a' w' hh => ⟨fun _ => hh.1, ⟨fun h0 => (by rw [k2] at h0; cases h0), ?_⟩⟩) h.1
    rw [k2]
    intro y hy
    obtain rfl := List.mem_singleton.1 hy
    exact wpOp_mono (fun a' w' hh => ⟨fun _ => hh.1, ih r _ fuel a' w' hn' ((hc.set hri).set hrj') k4 hf' (fun _ => hh.1) hh.2⟩) hh.2
   ·obtain rfl := List.mem_singleton.1 hx
    refine wpOp_mono (fun a' w' hh => ⟨fun _ => hh.1, ⟨fun h0 => (by rw [k3] at h0; cases h0), ?_⟩⟩) h.2
    rw [k3]
    intro y hy
    obtain rfl := List.mem_singleton.1 hy
    have hne : y ≠ x := fun e => by
     subst e
     have := (mem_ready.1 hri').1
     have hl := (mem_ready.1 hri).1
     rcases Nat.lt_or_ge y listed.size with h' | h'
     ·simp [h'] at this
     ·simp [Array.getElem?_eq_none h'] at hl
    exact wpOp_mono (fun a' w' hh => ⟨fun _ => hh.1, ih r _ fuel a' w' hn' ((hc.set hrj).set hri') (by rw [Array.setIfInBounds_comm _ _ (Ne.symm hne)]; exact k4) hf' (fun _ => hh.1) hh.2⟩) hh.2

theorem wp_region_ordx (ord : List (Nat × Nat)) (S : World → Prop) {id : Nat} {a : Act} {w : World} (hm : P.follows .mixedOrders = true) (hs : Region.noSelect ops = true)
 (hk : (ordOkX ops (isFin ord) ord (Array.replicate ops.size false) && decide (ord.length ≤ ops.size) && ord.all (fun x => x.2 != 2 || decide (x.1 < ops.size))) = true)
 (hQ : ∀ c a (d : Option Tmp) v w, Q (.panic c) (a.put d v) w → Q (.panic c) a w) (hS : S w.drew)
 (h : RunOrdX P ops Q S ord a w.drew) : (Code.region id ops true).wp P Q a w := by
 simp only [Bool.and_eq_true, decide_eq_true_eq, List.all_eq_true] at hk
 refine wp_region_any hm (AnyX.any _ _ _ _ (runOrdX_sound (S := S) (fin := isFin ord) hs ?_ hQ _ ord _ _ a w.drew (Nat.le_refl _) ?_ hk.1.1 hk.1.2 (fun _ => hS) h))
 ·intro j hj
  obtain ⟨x, hx, hb⟩ := List.any_eq_true.1 hj
  simp only [Bool.and_eq_true, beq_iff_eq] at hb
  have := hk.2 x hx
  simp only [hb.2, bne_self_eq_false, Bool.false_or, decide_eq_true_eq] at this
  omega
 ·intro k o hl
  by_cases hlt : k < ops.size
  ·simp [hlt] at hl
  ·simp [hlt] at hl

variable {i : Nat} {r : List (Nat × Nat)} {a : Act} {w : World} {o : Oper}

theorem ordx_nil (h : Q .normal a w) : RunOrdX P ops Q S [] a w := h

theorem ordx_quiet {v : Value} (ho : ops[i]? = some o)
 (hw : Region.wanted o (yielded ops a.tmps) = true) (hy : ∀ w, S w → (execOp a.eval o).run P w = .ok (.value v) w)
 (h : RunOrdX P ops Q S r (a.put o.dst v) w) : RunOrdX P ops Q S ((i, 0) :: r) a w := ⟨o, v, ho, .inl ⟨hw, hy⟩, h⟩

theorem ordx_load (ho : ops[i]? = some o)
 (hw : Region.wanted o (yielded ops a.tmps) = true) (ty : TypeId) (x : Operand) (hop : o.op = .load ty x) (g off : Nat)
 (hx : a.eval x = .pointer (some ⟨g, off, none⟩)) (n : Nat) (ha : AggSize P ty n) (cs : List Value) (t : TypeId) (v : Value) (hg : ∀ w, S w → Own w g cs t)
 (hle : off + n ≤ cs.length) (hv : v = .agg ((cs.drop off).take n).toArray)
 (h : RunOrdX P ops Q S r (a.put o.dst v) w) : RunOrdX P ops Q S ((i, 0) :: r) a w :=
 ordx_quiet ho hw (fun w' hS => by
  unfold execOp
  simp only [hop, hx, Instr.loadAt, Instr.sureAddr, Sem.run_bind, Sem.run_pure, Result.andThen_ok, run_loadVar_own w' g off t ty cs n (hg w' hS) ha hle]
  rw [← hv]) h

theorem ordx_load1 (ho : ops[i]? = some o)
 (hw : Region.wanted o (yielded ops a.tmps) = true) (ty : TypeId) (x : Operand) (hop : o.op = .load ty x) (g off : Nat)
 (hx : a.eval x = .pointer (some ⟨g, off, none⟩)) (hn : ∀ w, (isAgg ty).run P w = .ok false w) (cs : List Value) (t : TypeId) (v : Value) (hg : ∀ w, S w → Own w g cs t)
 (hv : cs[off]? = some v)
 (h : RunOrdX P ops Q S r (a.put o.dst v) w) : RunOrdX P ops Q S ((i, 0) :: r) a w :=
 ordx_quiet ho hw (fun w' hS => by
  have := (hg w' hS).cell_of off hv
  unfold execOp
  simp only [hop, hx, Instr.loadAt, Instr.sureAddr, Sem.run_bind, Sem.run_pure, Result.andThen_ok, loadVar, hn, Bool.false_eq_true, if_false, run_load, this]) h

theorem ordx_run (ho : ops[i]? = some o) (hw : Region.wanted o (yielded ops a.tmps) = true)
 (h : ∀ K : Act → World → Prop, Hid (∀ a w, S w → RunOrdX P ops Q S r a w → K a w) → o.wp P a w K Q) : RunOrdX P ops Q S ((i, 1) :: r) a w := by
 show wpOp P ops Q i _ a w
 unfold wpOp
 simp only [ho, hw, if_true]
 exact .inl (h _ (fun a w hS hr => ⟨hS, hr⟩))

theorem ordx_end (ho : ops[i]? = some o) (hw : Region.wanted o (yielded ops a.tmps) = true)
 (h : ∀ K : Act → World → Prop, Hid (∀ a w, RunOrdX P ops Q S r a w → K a w) → o.wp P a w K Q) : RunOrdX P ops Q S ((i, 2) :: r) a w := by
 show wpOp P ops Q i _ a w
 unfold wpOp
 simp only [ho, hw, if_true]
 exact .inl (h _ (fun a w hr => hr))

theorem ordx_store (ho : ops[i]? = some o)
 (hw : Region.wanted o (yielded ops a.tmps) = true) (ty : TypeId) (x y : Operand) (hop : o.op = .store ty x y) (g off : Nat)
 (hx : a.eval x = .pointer (some ⟨g, off, none⟩)) (vs : List Value) (hv : (a.eval y).cells = vs.toArray) (n : Nat) (hi : SizeIs P ty n) (hn : vs.length = n)
 {w0 : World} {bs : List (Nat × List Value × TypeId)} (st : St w0 w bs) (j : Nat) (cs : List Value) (t : TypeId) (hg : bs[j]? = some (g, cs, t))
 (hle : off + vs.length ≤ cs.length) (h1 : ∀ x ∈ vs, x.oneCell' = true) (cs' : List Value) (hcs : cs' = cs.take off ++ vs ++ cs.drop (off + vs.length))
 (h : ∀ w1, St w0 w1 (bs.set j (g, cs', t)) → RunOrdX P ops Q S r (a.put o.dst undef) w1) :
 RunOrdX P ops Q S ((i, 2) :: r) a w := by
 refine ordx_end ho hw fun K hK => ?_
 unfold Oper.wp execOp
 have hO := st.get j hg
 simp only [hop, hx, Instr.storeAt, Instr.sureAddr, Sem.run_bind, Sem.run_pure, Result.andThen_ok, run_storeVar_own w g off t ty cs _ vs hO hv (hn ▸ hi) hle h1]
 exact hK.out _ _ (h _ (st.wrote j hg ⟨rfl, rfl, rfl, by simp, fun k hk => Go.setRow_other w g k _ hk⟩ (hcs ▸ hO.setRow _)))

theorem ordx_fork {j : Nat} {o' : Oper} (ho : ops[i]? = some o) (hw : Region.wanted o (yielded ops a.tmps) = true)
 (ho' : ops[j]? = some o') (hw' : Region.wanted o' (yielded ops a.tmps) = true)
 (h1 : ∀ K : Act → World → Prop, Hid (∀ a w, S w → RunOrdX P ops Q S ((j, 1) :: r) a w → K a w) → o.wp P a w K Q)
 (h2 : ∀ K : Act → World → Prop, Hid (∀ a w, S w → RunOrdX P ops Q S ((i, 1) :: r) a w → K a w) → o'.wp P a w K Q) :
 RunOrdX P ops Q S ((i, 3) :: (j, 4) :: r) a w := by
 refine ⟨?_, ?_⟩
 ·show wpOp P ops Q i _ a w
  unfold wpOp
  simp only [ho, hw, if_true]
  exact .inl (h1 _ (fun a w hS hr => ⟨hS, hr⟩))
 ·show wpOp P ops Q j _ a w
  unfold wpOp
  simp only [ho', hw', if_true]
  exact .inl (h2 _ (fun a w hS hr => ⟨hS, hr⟩))

theorem wp_alloc_st {K : Act → World → Prop} (ty : TypeId) (hop : o.op = .alloc ty) (vs : List Value) (hz : ZeroIs P ty vs)
 {w0 : World} {bs : List (Nat × List Value × TypeId)} (st : St w0 w bs)
 (h : ∀ g w1, St w0 w1 ((g, vs, ty) :: bs) → K (a.put o.dst (.pointer (some ⟨g, 0, none⟩))) w1) : o.wp P a w K Q := by
 obtain ⟨zv, hzc, hz⟩ := hz
 unfold Oper.wp execOp
 simp only [hop, Instr.alloc, Sem.run_bind, hz, Result.andThen_ok, newVar, newRow, hzc]
 exact h _ (w.alloc (.cells vs.toArray ty (0, 0))) (st.newer (newer_alloc w _) (Own.new w vs ty))

theorem ordx_call_ext (ho : ops[i]? = some o)
 (hw : Region.wanted o (yielded ops a.tmps) = true) (f : FuncId) (xs : List Operand) (ts : Array TypeId) (hop : o.op = .call { callee := .value (.func f), args := xs.toArray, argTypes := ts })
 (vs : List Value) (hvs : xs.map a.eval = vs) (v : Value) (hrun : ∀ W, (callFunc f vs.toArray).run P W = .ok (.value v) W)
 (h : RunOrdX P ops Q S r (a.put o.dst v) w) : RunOrdX P ops Q S ((i, 0) :: r) a w :=
 ordx_quiet ho hw (fun W _ => run_call_ext f xs ts hop rfl vs hvs v W (hrun W)) h

theorem wpList_field {rest : List Oper} (hgd : o.guard = none) (ty : TypeId) (x : Operand) {k : Nat} (ho : o.op = .field ty x k) (u : Value) (hu : a.eval x = u) (v : Value)
 (hf : ∀ W : World, (Instr.field ty u k).run P W = .ok v W) (h : wpList P ops Q rest (a.put o.dst v) w) : wpList P ops Q (o :: rest) a w := by
 refine wpList_plain hgd fun _ hK => ?_
 unfold Oper.wp execOp
 simp only [ho, hu, Sem.run_bind, hf, Result.andThen_ok, Sem.run_pure]
 exact hK _ _ h

theorem exec_field {o : Oper} {a : Act} {ty : TypeId} {x : Operand} {k : Nat} (ho : o.op = .field ty x k) (u : Value) (hu : a.eval x = u) (v : Value) (W : World)
 (hf : (Instr.field ty u k).run P W = .ok v W) : (execOp a.eval o).run P W = .ok (.value v) W := by
 unfold execOp
 simp only [ho, hu, Sem.run_bind, hf, Result.andThen_ok, Sem.run_pure]

theorem run_field {ty : TypeId} {fields : Array Field} {f : Field} {k n off : Nat} {cs : List Value} (hu : P.underlying ty = some (.struct fields)) (hf : fields[k]? = some f) (ha : AggSize P f.type n)
 (hoff : f.offset = off) (v : Value) (hv : v = .agg ((cs.drop off).take n).toArray) (W : World) : (Instr.field ty (AG cs) k).run P W = .ok v W := by
 obtain ⟨d, hd, hd', hi⟩ := ha
 have hagg : (isAgg f.type).run P W = .ok true W := by
  unfold isAgg
  rw [Sem.run_bind, run_underlying hd W]
  cases d <;> simp_all
 have hsz : (sizeOf f.type).run P W = .ok n W := by
  unfold sizeOf
  cases hq : P.info? f.type with
  | none => simp [hq] at hi
  | some i => simp [hq] at hi; simp [typeInfo, Sem.run_bind, hq, hi]
 unfold Instr.field
 simp only [Sem.run_bind, run_underlying hu, Result.andThen_ok, hf, AG, asAgg, Sem.run_pure, part, hagg, if_true, hsz, hoff]
 rw [hv]
 congr 2
 apply Array.ext'
 simp [List.extract_eq_take_drop]

end
end Go.Proofs.Ytdpongijmmdnoaa
/- field.wide: numbers of 128 bits: WRITTEN BY gen_wide.py -/
namespace Go.Proofs.Ytdpongijmmdnoaa
open Go.RowKit

def WD (n : Int) : Value := AG (us [n / 18446744073709551616, n % 18446744073709551616])
theorem wd_eq {x y n : Int} (hx : x = n / 18446744073709551616) (hy : y = n % 18446744073709551616) : Ending.returned (AG (us [x, y])) = .returned (WD n) := by rw [hx, hy]; rfl

theorem aggW : AggSize Try.prog 76 2 := ⟨_, Try.underlying76, rfl, by kernel_rfl⟩
theorem zeroW (W : World) : (zeroValue 76).run Try.prog W = .ok (.agg (us [0, 0]).toArray) W := by kernel_rfl
theorem zisW : ZeroIs Try.prog 76 (us [0, 0]) := .agg zeroW
theorem na64 (W : World) : (isAgg 24).run Try.prog W = .ok false W := by kernel_rfl
theorem mul_lt (a b : Int) (ha : 0 ≤ a) (ha' : a < 18446744073709551616) (hb : 0 ≤ b) (hb' : b < 18446744073709551616) : 0 ≤ a * b ∧ a * b < 340282366920938463463374607431768211456 := by
 refine ⟨Int.mul_nonneg ha hb, ?_⟩
 have := Int.mul_le_mul (show a ≤ 18446744073709551615 by omega) (show b ≤ 18446744073709551615 by omega) hb (by omega)
 omega
theorem build_W (h l : Int) (W : World) : (Instr.build 76 [((0 : Nat), Value.int .u64 h), (1, .int .u64 l)].toArray).run Try.prog W = .ok (AG (us [h, l])) W := by
 refine run_build_struct zeroW Try.underlying76 (places := #[(0, 1), (1, 1)]) (fun _ => by kernel_rfl) ?_ W
 rw [fill_one (off := 0) (vs := [.int .u64 h]) rfl rfl (by simp), fill_one (off := 1) (vs := [.int .u64 l]) rfl rfl (by simp)]
 rfl

set_option maxHeartbeats 400000 in
theorem wadd_core (h l i k : Int) (hh : 0 ≤ h) (hl : 0 ≤ l) (hl' : l < 18446744073709551616) (hi : 0 ≤ i) (hk : 0 ≤ k) (hk' : k < 18446744073709551616) (w : World) :
 Calls Try.prog 56 #[(AG (us [h, l])), (AG (us [i, k]))] w fun e w' => e = .returned (AG (us [adL h i (adH l k 0), adL l k 0])) ∧ Below w.heap.size w w' := by
 have hc : 0 ≤ adH l k 0 ∧ adH l k 0 ≤ 1 := by unfold adH; omega
 go_enter Try.func56, Try.ntmps56
 have st := St.start w
 go_wp2_with (first
  | ((with_reducible show wpList _ _ _ (⟨some 2, _, _, _, _, _⟩ :: _) _ _); refine wpList_box_st (o := ⟨some 2, _, _, _, _, _⟩) rfl 76 (.tmp 0) rfl (us [h, l]) rfl st ?_; clear st; intro g2 w2 st)
  | ((with_reducible show wpList _ _ _ (⟨some 3, _, _, _, _, _⟩ :: _) _ _); refine wpList_box_st (o := ⟨some 3, _, _, _, _, _⟩) rfl 76 (.tmp 1) rfl (us [i, k]) rfl st ?_; clear st; intro g3 w3 st)
  | ((with_reducible show wpList _ _ _ (⟨some 4, _, _, _, _, _⟩ :: _) _ _); refine wpList_alloc_st (o := ⟨some 4, _, _, _, _, _⟩) rfl 76 rfl (us [0, 0]) zisW st ?_; clear st; intro g4 w4 st)
  | ((with_reducible show wpList _ _ _ (⟨some 11, _, _, _, _, _⟩ :: _) _ _); refine wpList_load1_st (o := ⟨some 11, _, _, _, _, _⟩) rfl 24 (.tmp 10) rfl g2 1 rfl na64 st 2 _ _ (.int .u64 l) rfl rfl ?_)
  | ((with_reducible show wpList _ _ _ (⟨some 13, _, _, _, _, _⟩ :: _) _ _); refine wpList_load1_st (o := ⟨some 13, _, _, _, _, _⟩) rfl 24 (.tmp 12) rfl g3 1 rfl na64 st 1 _ _ (.int .u64 k) rfl rfl ?_)
  | ((with_reducible show wpList _ _ _ (⟨some 14, _, _, _, _, _⟩ :: _) _ _); refine wpList_call_ext (o := ⟨some 14, _, _, _, _, _⟩) rfl 61 [(.tmp 11), (.tmp 13), (.const (.int .u64 0))] _ rfl [(.int .u64 l), (.int .u64 k), (.int .u64 0)] rfl (.tuple #[.int .u64 (adL l k 0), .int .u64 (adH l k 0)]) (add64_call _ _ _ (by omega) (by omega) (by omega) (by omega)) ?_)
  | ((with_reducible show wpList _ _ _ (⟨some 19, _, _, _, _, _⟩ :: _) _ _); refine wpList_load1_st (o := ⟨some 19, _, _, _, _, _⟩) rfl 24 (.tmp 18) rfl g2 0 rfl na64 st 2 _ _ (.int .u64 h) rfl rfl ?_)
  | ((with_reducible show wpList _ _ _ (⟨some 21, _, _, _, _, _⟩ :: _) _ _); refine wpList_load1_st (o := ⟨some 21, _, _, _, _, _⟩) rfl 24 (.tmp 20) rfl g3 0 rfl na64 st 1 _ _ (.int .u64 i) rfl rfl ?_)
  | ((with_reducible show wpList _ _ _ (⟨some 23, _, _, _, _, _⟩ :: _) _ _); refine wpList_call_ext (o := ⟨some 23, _, _, _, _, _⟩) rfl 61 [(.tmp 19), (.tmp 21), (.tmp 22)] _ rfl [(.int .u64 h), (.int .u64 i), (.int .u64 (adH l k 0))] rfl (.tuple #[.int .u64 (adL h i (adH l k 0)), .int .u64 (adH h i (adH l k 0))]) (add64_call _ _ _ (by omega) (by omega) hc.1 hc.2) ?_)
  | ((with_reducible show wpList _ _ _ (⟨some 28, _, _, _, _, _⟩ :: _) _ _); refine wpList_build (o := ⟨some 28, _, _, _, _, _⟩) rfl 76 [(0, (.tmp 26)), (1, (.tmp 27))] rfl [(0, (.int .u64 (adL h i (adH l k 0)))), (1, (.int .u64 (adL l k 0)))] rfl (AG (us [(adL h i (adH l k 0)), (adL l k 0)])) (build_W (adL h i (adH l k 0)) (adL l k 0)) ?_)
  | ((with_reducible show wpList _ _ _ (⟨none, .store 76 (.tmp 4) (.tmp 28), _, _, _, _⟩ :: _) _ _); refine wpList_store_st (o := ⟨none, _, _, _, _, _⟩) rfl 76 (.tmp 4) (.tmp 28) rfl g4 0 rfl (us [(adL h i (adH l k 0)), (adL l k 0)]) rfl 2 aggW.size (by first | omega | (simp; done) | (simp; omega)) st 0 _ _ rfl (by first | omega | (simp; done) | (simp; omega)) (us_one _) (us [(adL h i (adH l k 0)), (adL l k 0)]) (put_all _ _ 2 (by first | omega | (simp; done) | (simp; omega)) (by first | omega | (simp; done) | (simp; omega))) ?_; clear st; intro w_0 st))
 exact post_st rfl g4 rfl st 0 _ _ rfl 2 aggW (by first | omega | (simp; done) | (simp; omega)) rfl ⟨rfl, st.below⟩

theorem wadd_any (m n : Int) (hm : 0 ≤ m) (hn : 0 ≤ n) (w : World) :
 Calls Try.prog 56 #[WD m, WD n] w fun e w' => e = .returned (WD ((m + n) % 340282366920938463463374607431768211456)) ∧ Below w.heap.size w w' := by
 refine (wadd_core (m / 18446744073709551616) (m % 18446744073709551616) (n / 18446744073709551616) (n % 18446744073709551616) (by omega) (by omega) (by omega) (by omega) (by omega) (by omega) w).mono ?_
 rintro e w' ⟨rfl, hb⟩
 exact ⟨wd_eq (by unfold adL adH; omega) (by unfold adL; omega), hb⟩

set_option maxHeartbeats 400000 in
theorem wtimes_any (m a b : Int) (hm : 0 ≤ m) (ha : 0 ≤ a) (ha' : a < 18446744073709551616) (hb0 : 0 ≤ b) (hb' : b < 18446744073709551616) (w : World) :
 Calls Try.prog 55 #[(WD m), (.int .u64 a), (.int .u64 b)] w fun e w' => e = .returned (WD ((m + a * b) % 340282366920938463463374607431768211456)) ∧ Below w.heap.size w w' := by
 have hp := mul_lt a b ha ha' hb0 hb'
 go_enter Try.func55, Try.ntmps55
 have st := St.start w
 go_wp2_with (first
  | ((with_reducible show wpList _ _ _ (⟨some 3, _, _, _, _, _⟩ :: _) _ _); refine wpList_box_st (o := ⟨some 3, _, _, _, _, _⟩) rfl 76 (.tmp 0) rfl (us [m / 18446744073709551616, m % 18446744073709551616]) rfl st ?_; clear st; intro g3 w3 st)
  | ((with_reducible show wpList _ _ _ (⟨some 6, _, _, _, _, _⟩ :: _) _ _); refine wpList_alloc_st (o := ⟨some 6, _, _, _, _, _⟩) rfl 76 rfl (us [0, 0]) zisW st ?_; clear st; intro g6 w6 st))
 refine (mul64_any a b ha ha' hb0 hb' _).mono ?_
 rintro e w12 ⟨rfl, hb⟩
 replace st := st.call hb; clear hb
 go_wp2_with (first
  | ((with_reducible show wpList _ _ _ (⟨some 15, _, _, _, _, _⟩ :: _) _ _); refine wpList_load_st (o := ⟨some 15, _, _, _, _, _⟩) rfl 76 (.tmp 3) rfl g3 0 rfl 2 aggW st 1 _ _ (AG (us [m / 18446744073709551616, m % 18446744073709551616])) rfl (by first | omega | (simp; done) | (simp; omega)) (cut_all _ 2 (by first | omega | (simp; done) | (simp; omega))) ?_)
  | ((with_reducible show wpList _ _ _ (⟨some 18, _, _, _, _, _⟩ :: _) _ _); refine wpList_build (o := ⟨some 18, _, _, _, _, _⟩) rfl 76 [(0, (.tmp 16)), (1, (.tmp 17))] rfl [(0, (.int .u64 (a * b / 18446744073709551616))), (1, (.int .u64 (a * b % 18446744073709551616)))] rfl (AG (us [(a * b / 18446744073709551616), (a * b % 18446744073709551616)])) (build_W (a * b / 18446744073709551616) (a * b % 18446744073709551616)) ?_))
 refine (wadd_any m (a * b) hm hp.1 _).mono ?_
 rintro e w19 ⟨rfl, hb⟩
 replace st := st.call hb; clear hb
 go_wp2_with ((with_reducible show wpList _ _ _ (⟨none, .store 76 (.tmp 6) (.tmp 19), _, _, _, _⟩ :: _) _ _); refine wpList_store_st (o := ⟨none, _, _, _, _, _⟩) rfl 76 (.tmp 6) (.tmp 19) rfl g6 0 rfl (us [((m + a * b) % 340282366920938463463374607431768211456) / 18446744073709551616, ((m + a * b) % 340282366920938463463374607431768211456) % 18446744073709551616]) rfl 2 aggW.size (by first | omega | (simp; done) | (simp; omega)) st 0 _ _ rfl (by first | omega | (simp; done) | (simp; omega)) (us_one _) (us [((m + a * b) % 340282366920938463463374607431768211456) / 18446744073709551616, ((m + a * b) % 340282366920938463463374607431768211456) % 18446744073709551616]) (put_all _ _ 2 (by first | omega | (simp; done) | (simp; omega)) (by first | omega | (simp; done) | (simp; omega))) ?_; clear st; intro w_0 st)
 exact post_st rfl g6 rfl st 0 _ _ rfl 2 aggW (by first | omega | (simp; done) | (simp; omega)) rfl ⟨rfl, st.below⟩
set_option maxHeartbeats 400000 in
theorem wover_core (h l : Int) (hh : 0 ≤ h) (hl : 0 ≤ l) (w : World) :
 Calls Try.prog 57 #[(AG (us [h, l]))] w fun e w' => e = .returned (AG (us [h / 72057594037927936, bits .or .u64 (IntKind.u64.wrap (h * 256)) (l / 72057594037927936)])) ∧ Below w.heap.size w w' := by
 go_enter Try.func57, Try.ntmps57
 have st := St.start w
 go_wp2_with (first
  | ((with_reducible show wpList _ _ _ (⟨some 1, _, _, _, _, _⟩ :: _) _ _); refine wpList_box_st (o := ⟨some 1, _, _, _, _, _⟩) rfl 76 (.tmp 0) rfl (us [h, l]) rfl st ?_; clear st; intro g1 w1 st)
  | ((with_reducible show wpList _ _ _ (⟨some 2, _, _, _, _, _⟩ :: _) _ _); refine wpList_alloc_st (o := ⟨some 2, _, _, _, _, _⟩) rfl 76 rfl (us [0, 0]) zisW st ?_; clear st; intro g2 w2 st)
  | ((with_reducible show wpList _ _ _ (⟨some 4, _, _, _, _, _⟩ :: _) _ _); refine wpList_load1_st (o := ⟨some 4, _, _, _, _, _⟩) rfl 24 (.tmp 3) rfl g1 0 rfl na64 st 1 _ _ (.int .u64 h) rfl rfl ?_)
  | ((with_reducible show wpList _ _ _ (⟨some 7, _, _, _, _, _⟩ :: _) _ _); refine wpList_load1_st (o := ⟨some 7, _, _, _, _, _⟩) rfl 24 (.tmp 6) rfl g1 0 rfl na64 st 1 _ _ (.int .u64 h) rfl rfl ?_)
  | ((with_reducible show wpList _ _ _ (⟨some 10, _, _, _, _, _⟩ :: _) _ _); refine wpList_load1_st (o := ⟨some 10, _, _, _, _, _⟩) rfl 24 (.tmp 9) rfl g1 1 rfl na64 st 1 _ _ (.int .u64 l) rfl rfl ?_)
  | ((with_reducible show wpList _ _ _ (⟨some 13, _, _, _, _, _⟩ :: _) _ _); refine wpList_build (o := ⟨some 13, _, _, _, _, _⟩) rfl 76 [(0, (.tmp 5)), (1, (.tmp 12))] rfl [(0, (.int .u64 (h / 72057594037927936))), (1, (.int .u64 (bits .or .u64 (IntKind.u64.wrap (h * 256)) (l / 72057594037927936))))] rfl (AG (us [(h / 72057594037927936), (bits .or .u64 (IntKind.u64.wrap (h * 256)) (l / 72057594037927936))])) (build_W (h / 72057594037927936) (bits .or .u64 (IntKind.u64.wrap (h * 256)) (l / 72057594037927936))) ?_)
  | ((with_reducible show wpList _ _ _ (⟨none, .store 76 (.tmp 2) (.tmp 13), _, _, _, _⟩ :: _) _ _); refine wpList_store_st (o := ⟨none, _, _, _, _, _⟩) rfl 76 (.tmp 2) (.tmp 13) rfl g2 0 rfl (us [(h / 72057594037927936), (bits .or .u64 (IntKind.u64.wrap (h * 256)) (l / 72057594037927936))]) rfl 2 aggW.size (by first | omega | (simp; done) | (simp; omega)) st 0 _ _ rfl (by first | omega | (simp; done) | (simp; omega)) (us_one _) (us [(h / 72057594037927936), (bits .or .u64 (IntKind.u64.wrap (h * 256)) (l / 72057594037927936))]) (put_all _ _ 2 (by first | omega | (simp; done) | (simp; omega)) (by first | omega | (simp; done) | (simp; omega))) ?_; clear st; intro w_0 st))
 exact post_st rfl g2 rfl st 0 _ _ rfl 2 aggW (by first | omega | (simp; done) | (simp; omega)) rfl ⟨rfl, st.below⟩

end Go.Proofs.Ytdpongijmmdnoaa
/- Rows of numbers of 128 bits; an array's element. -/
namespace Go.Proofs.Ytdpongijmmdnoaa
open Go.RowKit

def wds (ns : List Int) : List Int := ns.flatMap fun n => [n / 18446744073709551616, n % 18446744073709551616]
theorem wds_cons (n : Int) (ns : List Int) : wds (n :: ns) = [n / 18446744073709551616, n % 18446744073709551616] ++ wds ns := rfl
@[simp] theorem wds_len (ns : List Int) : (wds ns).length = 2 * ns.length := by
 induction ns with
 | nil => rfl
 | cons n ns ih => rw [wds_cons]; simp [ih]; omega

theorem wds_get : ∀ (ns : List Int) (i : Nat), i < ns.length → ((wds ns).drop (i * 2)).take 2 = [ns.getD i 0 / 18446744073709551616, ns.getD i 0 % 18446744073709551616]
 | [], i, h => by simp at h
 | n :: ns, 0, _ => by rw [wds_cons]; rfl
 | n :: ns, i + 1, h => by
  have := wds_get ns i (by simpa using h)
  rw [wds_cons, show (i + 1) * 2 = i * 2 + 2 by omega]
  simpa [List.getD] using this

theorem wds_set : ∀ (ns : List Int) (i : Nat) (v : Int), i < ns.length →
 (wds ns).take (i * 2) ++ [v / 18446744073709551616, v % 18446744073709551616] ++ (wds ns).drop (i * 2 + 2) = wds (ns.set i v)
 | [], i, v, h => by simp at h
 | n :: ns, 0, v, _ => by simp [wds_cons]
 | n :: ns, i + 1, v, h => by
  have := wds_set ns i v (by simpa using h)
  rw [List.set_cons_succ, wds_cons, wds_cons, ← this, show (i + 1) * 2 = i * 2 + 2 by omega, show i * 2 + 2 + 2 = (i * 2 + 2) + 2 from rfl]
  simp

theorem us_app (a b : List Int) : us (a ++ b) = us a ++ us b := by simp [us]
theorem us_take (a : List Int) (n : Nat) : (us a).take n = us (a.take n) := by simp [us]
theorem us_drop (a : List Int) (n : Nat) : (us a).drop n = us (a.drop n) := by simp [us]

theorem cut_wd (ns : List Int) (i : Nat) (h : i < ns.length) : WD (ns.getD i 0) = .agg (((us (wds ns)).drop (i * 2)).take 2).toArray := by
 rw [us_drop, us_take, wds_get ns i h]; rfl
theorem put_wd (ns : List Int) (i : Nat) (v : Int) (h : i < ns.length) :
 us (wds (ns.set i v)) = (us (wds ns)).take (i * 2) ++ us [v / 18446744073709551616, v % 18446744073709551616] ++ (us (wds ns)).drop (i * 2 + (us [v / 18446744073709551616, v % 18446744073709551616]).length) := by
 rw [show (us [v / 18446744073709551616, v % 18446744073709551616]).length = 2 from rfl, us_take, us_drop, ← us_app, ← us_app, wds_set ns i v h]

theorem put_us (l : List Int) (i : Nat) (v : Int) (h : i < l.length) : us (l.set i v) = (us l).take i ++ [.int .u64 v] ++ (us l).drop (i + [Value.int .u64 v].length) := by
 rw [List.length_singleton, us_take, us_drop]
 have : us (l.set i v) = us (l.take i ++ [v] ++ l.drop (i + 1)) := by
  congr 1
  rw [List.set_eq_take_append_cons_drop, if_pos h]; simp
 rw [this, us_app, us_app]; rfl

theorem fieldW1 (n : Int) (W : World) : (Instr.field 76 (WD n) 1).run Try.prog W = .ok (.int .u64 (n % 18446744073709551616)) W := by
 have hna := na64 W
 have hu := run_underlying Try.underlying76 W
 unfold Instr.field
 simp only [Sem.run_bind, hu, Result.andThen_ok, WD, AG, asAgg, Sem.run_pure]
 simp [part, Sem.run_bind, hna, us]

theorem index8 (l : List Int) (hl : l.length = 8) (k : Nat) (hk : k < 8) (W : World) :
 (Instr.index 25 (AG (us l)) (.int .i64 k)).run Try.prog W = .ok (.int .u64 (l.getD k 0)) W := by
 have hna := na64 W
 have hsz : (sizeOf 24).run Try.prog W = .ok 1 W := by kernel_rfl
 have hu := run_underlying Try.underlying25 W
 unfold Instr.index
 simp only [asIntOf, Sem.run_bind, Sem.run_pure, Result.andThen_ok, hu, AG]
 have h0 : (0 : Int) ≤ (k : Int) ∧ (k : Int) < ((8 : Nat) : Int) := by omega
 rw [if_pos h0]
 have hg : (us l).toArray[k]? = some (.int .u64 (l.getD k 0)) := by simpa using us_get l k (by omega)
 simp only [Sem.run_bind, hsz, Result.andThen_ok, part, hna, Int.toNat_natCast, Nat.mul_one, hg, Bool.false_eq_true, if_false, Sem.run_pure]

theorem wover_any (n : Int) (hn : 0 ≤ n) (w : World) :
 Calls Try.prog 57 #[WD n] w fun e w' => e = .returned (WD (n / 72057594037927936)) ∧ Below w.heap.size w w' := by
 refine (wover_core (n / 18446744073709551616) (n % 18446744073709551616) (by omega) (by omega) w).mono ?_
 rintro e w' ⟨rfl, hb⟩
 refine ⟨wd_eq (by omega) ?_, hb⟩
 rw [IntKind.wrap_u64]
 have e1 : (n / 18446744073709551616 * 256) % 18446744073709551616 = ((((n / 18446744073709551616 * 256) % 18446744073709551616).toNat : Nat) : Int) := by omega
 have e2 : (n % 18446744073709551616) / 72057594037927936 = ((((n % 18446744073709551616) / 72057594037927936).toNat : Nat) : Int) := by omega
 rw [e1, e2, bits_or_u64_nat _ _ (by omega) (by omega), nat_join 8 _ _ (by omega) (by omega)]
 omega
end Go.Proofs.Ytdpongijmmdnoaa
/- field.Mul -/
namespace Go.Proofs.Ytdpongijmmdnoaa
open Go.RowKit

def z15 : List Int := [0, 0, 0, 0, 0, 0, 0, 0, 0, 0, 0, 0, 0, 0, 0]
@[simp] theorem z15_len : z15.length = 15 := rfl
theorem zis15 : ZeroIs Try.prog 77 (us (wds z15)) := .agg (fun W => by kernel_rfl)

def mulI (x : Int) (m : List Int) (i : Nat) (ns : List Int) : Nat → List Int
 | 0 => ns
 | k + 1 => (mulI x m i ns k).set (i + k) (((mulI x m i ns k).getD (i + k) 0 + x * m.getD k 0) % 340282366920938463463374607431768211456)
def mulO (l m : List Int) : Nat → List Int
 | 0 => z15
 | i + 1 => mulI (l.getD i 0) m i (mulO l m i) 8
@[simp] theorem mulI_len (x : Int) (m : List Int) (i : Nat) (ns : List Int) (k : Nat) : (mulI x m i ns k).length = ns.length := by
 induction k with
 | zero => rfl
 | succ k ih => simp [mulI, ih]
@[simp] theorem mulO_len (l m : List Int) (i : Nat) : (mulO l m i).length = 15 := by
 induction i with
 | zero => rfl
 | succ i ih => simp [mulO, ih]

theorem set_nn {l : List Int} {i : Nat} {v : Int} (h : ∀ x ∈ l, 0 ≤ x) (hv : 0 ≤ v) : ∀ x ∈ l.set i v, 0 ≤ x := by
 intro x hx
 rcases List.mem_or_eq_of_mem_set hx with h1 | h1
 ·exact h x h1
 ·rw [h1]; exact hv
theorem getD_nn {l : List Int} (h : ∀ x ∈ l, 0 ≤ x) (i : Nat) : 0 ≤ l.getD i 0 := by
 by_cases hi : i < l.length
 ·have : l.getD i 0 = l[i] := by simp [List.getD, hi]
  rw [this]; exact h _ (List.getElem_mem hi)
 ·have : l.getD i 0 = 0 := by simp [List.getD, List.getElem?_eq_none (Nat.le_of_not_lt hi)]
  omega
theorem mulI_all (x : Int) (m : List Int) (i : Nat) (ns : List Int) (hn : ∀ x ∈ ns, 0 ≤ x) (k : Nat) : ∀ y ∈ mulI x m i ns k, 0 ≤ y := by
 induction k with
 | zero => exact hn
 | succ k ih => exact set_nn ih (Int.emod_nonneg _ (by decide))
theorem mulI_nn (x : Int) (m : List Int) (i : Nat) (ns : List Int) (k : Nat) (hn : ∀ x ∈ ns, 0 ≤ x) (_hx : 0 ≤ x) (_hm : ∀ z ∈ m, 0 ≤ z) (j : Nat) : 0 ≤ (mulI x m i ns k).getD j 0 :=
 getD_nn (mulI_all x m i ns hn k) j
theorem mulO_nn (l m : List Int) (_hl : ∀ x ∈ l, 0 ≤ x ∧ x < 18446744073709551616) (_hm : ∀ x ∈ m, 0 ≤ x ∧ x < 18446744073709551616) (i : Nat) : ∀ x ∈ mulO l m i, 0 ≤ x := by
 induction i with
 | zero => intro x hx; simp [mulO, z15] at hx; omega
 | succ i ih => exact mulI_all _ _ _ _ ih 8

def foldT (ns : List Int) : Nat → List Int
 | 0 => ns
 | c + 1 =>
  let q := foldT ns c
  let q1 := q.set (14 - c - 8) ((q.getD (14 - c - 8) 0 + q.getD (14 - c) 0) % 340282366920938463463374607431768211456)
  q1.set (14 - c - 4) ((q1.getD (14 - c - 4) 0 + q1.getD (14 - c) 0) % 340282366920938463463374607431768211456)
theorem foldT_len (ns : List Int) (c : Nat) : (foldT ns c).length = ns.length := by
 induction c with
 | zero => rfl
 | succ c ih => simp [foldT, ih]
theorem foldT_nn (ns : List Int) (hn : ∀ x ∈ ns, 0 ≤ x) (c : Nat) : ∀ x ∈ foldT ns c, 0 ≤ x := by
 induction c with
 | zero => exact hn
 | succ c ih => exact set_nn (set_nn ih (Int.emod_nonneg _ (by decide))) (Int.emod_nonneg _ (by decide))

def limbT (ns : List Int) : Nat → List Int × Int
 | 0 => (zE, 0)
 | k + 1 => ((limbT ns k).1.set k ((ns.getD k 0 + (limbT ns k).2) % 340282366920938463463374607431768211456 % 72057594037927936), (ns.getD k 0 + (limbT ns k).2) % 340282366920938463463374607431768211456 / 72057594037927936)
theorem limbT_len (ns : List Int) (k : Nat) : (limbT ns k).1.length = 8 := by
 induction k with
 | zero => rfl
 | succ k ih => simp [limbT, ih]
theorem limbT_nn (ns : List Int) (_hn : ∀ k, 0 ≤ ns.getD k 0) (k : Nat) : 0 ≤ (limbT ns k).2 := by
 cases k with
 | zero => exact Int.le_refl _
 | succ k => simp only [limbT]; omega

def endL (p : List Int) (x : Int) : List Int :=
 let t := x % 72057594037927936
 let s := x / 72057594037927936 % 18446744073709551616
 [IntKind.u64.wrap (p.getD 0 0 + t), IntKind.u64.wrap (p.getD 1 0 + s), p.getD 2 0, p.getD 3 0, IntKind.u64.wrap (p.getD 4 0 + t), IntKind.u64.wrap (p.getD 5 0 + s), p.getD 6 0, p.getD 7 0]
def mulF (l m : List Int) : List Int :=
 carryF (endL (limbT (foldT (mulO l m 8) 7) 8).1 (limbT (foldT (mulO l m 8) 7) 8).2)
@[simp] theorem mulF_len (l m : List Int) : (mulF l m).length = 8 := by simp [mulF, endL]
theorem list8 {p : List Int} (h : p.length = 8) : ∃ p0 p1 p2 p3 p4 p5 p6 p7, p = [p0, p1, p2, p3, p4, p5, p6, p7] := by
 match p, h with
 | [p0, p1, p2, p3, p4, p5, p6, p7], _ => exact ⟨p0, p1, p2, p3, p4, p5, p6, p7, rfl⟩

set_option maxRecDepth 100000 in
set_option maxHeartbeats 2000000 in
theorem mul_any (l m : List Int) (ll : l.length = 8) (lm : m.length = 8) (bl : ∀ x ∈ l, 0 ≤ x ∧ x < 18446744073709551616) (bm : ∀ x ∈ m, 0 ≤ x ∧ x < 18446744073709551616) (w : World) :
 Calls Try.prog 34 #[AG (us l), AG (us m)] w fun e w' => e = .returned (AG (us (mulF l m))) ∧ Below w.heap.size w w' := by
 have Bl := hide bl; clear bl
 have Bm := hide bm; clear bm
 go_enter Try.func34, Try.ntmps34
 have st := St.start w
 go_wp2_with (first
  | ((with_reducible show wpList _ _ _ (⟨some 2, _, _, _, _, _⟩ :: _) _ _); refine wpList_box_st (o := ⟨some 2, _, _, _, _, _⟩) rfl 27 (.tmp 0) rfl (us l) rfl st ?_; clear st; intro g2 w2 st)
  | ((with_reducible show wpList _ _ _ (⟨some 3, _, _, _, _, _⟩ :: _) _ _); refine wpList_box_st (o := ⟨some 3, _, _, _, _, _⟩) rfl 27 (.tmp 1) rfl (us m) rfl st ?_; clear st; intro g3 w3 st)
  | ((with_reducible show wpList _ _ _ (⟨some 4, _, _, _, _, _⟩ :: _) _ _); refine wpList_alloc_st (o := ⟨some 4, _, _, _, _, _⟩) rfl 27 rfl (us zE) zisE st ?_; clear st; intro g4 w4 st))
 go_step3
 go_wp2_with (first
  | ((with_reducible show wpList _ _ _ (⟨some 5, _, _, _, _, _⟩ :: _) _ _); refine wpList_alloc_st (o := ⟨some 5, _, _, _, _, _⟩) rfl 77 rfl (us (wds z15)) zis15 st ?_; clear st; intro g5 w5 st)
  | ((with_reducible show wpList _ _ _ (⟨some 18, _, _, _, _, _⟩ :: _) _ _); refine wpList_load_st (o := ⟨some 18, _, _, _, _, _⟩) rfl 25 (.tmp 17) rfl g2 0 rfl 8 agg8 st 3 _ _ (AG (us l)) rfl (by simp; omega) (cut_all _ 8 (by simp; omega)) ?_))
 go_loopw [19] (fun t wr => ∃ i : Nat, i ≤ 8 ∧ t = .int .i64 i ∧ St w wr [(g5, us (wds (mulO l m i)), 77), (g4, us zE, 27), (g3, us m, 27), (g2, us l, 27)]) (fun t _ => 8 - (intOf t).toNat)
 case atStart => exact ⟨0, by omega, rfl, st⟩
 case round =>
  obtain ⟨i, hi, rfl, hs⟩ := hrel
  clear st
  obtain ⟨wo, rfl⟩ : ∃ wo : World, wo = wr := ⟨_, rfl⟩
  by_cases hlt : i < 8
  ·have hlt' : (i : Int) < 8 := by omega
   have ix := fun W => index8 l ll i hlt W
   generalize hx : l.getD i 0 = x at ix
   have bx : 0 ≤ x ∧ x < 18446744073709551616 := by rw [← hx]; exact Bl.out _ (by simp [List.getD, ll, hlt])
   have Hx := hide hx; clear hx
   go_wp2_with ((with_reducible show wpList _ _ _ (⟨some 24, _, _, _, _, _⟩ :: _) _ _); refine wpList_load_st (o := ⟨some 24, _, _, _, _, _⟩) rfl 25 (.tmp 23) rfl g3 0 rfl 8 agg8 hs 2 _ _ (AG (us m)) rfl (by simp; omega) (cut_all _ 8 (by simp; omega)) ?_)
   clear ix
   go_loopw [25] (fun t wr => ∃ k : Nat, k ≤ 8 ∧ t = .int .i64 k ∧ St w wr [(g5, us (wds (mulI x m i (mulO l m i) k)), 77), (g4, us zE, 27), (g3, us m, 27), (g2, us l, 27)]) (fun t _ => 8 - (intOf t).toNat)
   case atStart => exact ⟨0, by omega, rfl, hs⟩
   case round =>
    obtain ⟨k, hk, rfl, st⟩ := hrel
    clear hs
    by_cases hkt : k < 8
    ·have hkt' : (k : Int) < 8 := by omega
     have iy := fun W => index8 m lm k hkt W
     generalize hy : m.getD k 0 = y at iy
     have bY : 0 ≤ y ∧ y < 18446744073709551616 := by rw [← hy]; exact Bm.out _ (by simp [List.getD, lm, hkt])
     have Hy := hide hy; clear hy
     go_wp2_with ((with_reducible show wpList _ _ _ (⟨some 36, _, _, _, _, _⟩ :: _) _ _); go_must (refine wpList_load_st (o := ⟨some 36, _, _, _, _, _⟩) rfl 76 (.tmp 35) rfl g5 ((i + k) * 2) rfl 2 aggW st 0 _ _ (WD ((mulI x m i (mulO l m i) k).getD (i + k) 0)) rfl (by simp; omega) (cut_wd _ _ (by simp; omega)) ?_))
     refine (wtimes_any ((mulI x m i (mulO l m i) k).getD (i + k) 0) x y (mulI_nn _ _ _ _ _ (mulO_nn l m Bl.out Bm.out i) bx.1 (fun z hz => (Bm.out z hz).1) _) bx.1 bx.2 bY.1 bY.2 _).mono ?_
     rintro e w39 ⟨rfl, hb⟩
     replace st := st.call hb; clear hb
     go_wp2_with ((with_reducible show wpList _ _ _ (⟨none, .store 76 (.tmp 40) (.tmp 39), _, _, _, _⟩ :: _) _ _); refine wpList_store_st (o := ⟨none, _, _, _, _, _⟩) rfl 76 (.tmp 40) (.tmp 39) rfl g5 ((i + k) * 2) rfl (us [((mulI x m i (mulO l m i) k).getD (i + k) 0 + x * y) % 340282366920938463463374607431768211456 / 18446744073709551616, ((mulI x m i (mulO l m i) k).getD (i + k) 0 + x * y) % 340282366920938463463374607431768211456 % 18446744073709551616]) rfl 2 aggW.size rfl st 0 _ _ rfl (by simp; omega) (us_one _) (us (wds (mulI x m i (mulO l m i) (k + 1)))) (by rw [mulI, Hy.out]; exact put_wd _ _ _ (by simp; omega)) ?_; clear st; intro w40 st)
     go_roundw
     case rel => exact ⟨k + 1, by omega, by go_num, st⟩
     case measure => simp [intOf]; omega
    ·have : k = 8 := by omega
     subst this
     rw [← Hx.out] at st
     go_wp2_with fail
     go_roundw
     case rel => exact ⟨i + 1, by omega, by go_num, st⟩
     case measure => simp [intOf]; omega
  ·have : i = 8 := by omega
   subst this
   have Q0 := mulO_nn l m Bl.out Bm.out 8
   have L0 : (mulO l m 8).length = 15 := mulO_len l m 8
   generalize hns : mulO l m 8 = ns at hs Q0 L0
   have Hns := hide hns; clear hns
   have QN := hide Q0; clear Q0
   go_wp2_with fail
   rw [show ((8 : Nat) : Int) = 8 from rfl]
   go_loopw [10] (fun t wr => ∃ j : Nat, 7 ≤ j ∧ j ≤ 14 ∧ t = .int .i64 j ∧ St w wr [(g5, us (wds (foldT ns (14 - j))), 77), (g4, us zE, 27), (g3, us m, 27), (g2, us l, 27)]) (fun t _ => (intOf t).toNat)
   case atStart => exact ⟨14, by omega, by omega, rfl, hs⟩
   case round =>
    obtain ⟨j, hj7, hj14, rfl, st⟩ := hrel
    clear hs
    have QF := hide (foldT_nn ns QN.out (14 - j))
    have lq : (foldT ns (14 - j)).length = 15 := by rw [foldT_len]; exact L0
    generalize hq : foldT ns (14 - j) = q at st QF lq
    have Hq := hide hq; clear hq
    have Lq := hide lq; clear lq
    by_cases hjt : 8 ≤ j
    ·have b1 : (8 : Int) ≤ (j : Int) := by omega
     have b2 : (j : Int) ≤ 14 := by omega
     have e8 : ((j : Int) - 8).toNat = j - 8 := by omega
     have e4 : ((j : Int) - 4).toNat = j - 4 := by omega
     have w8 : IntKind.i64.wrap ((j : Int) - 8) = (j : Int) - 8 := IntWalk.i64_in _ (by omega)
     have w4' : IntKind.i64.wrap ((j : Int) - 4) = (j : Int) - 4 := IntWalk.i64_in _ (by omega)
     have b3 : 0 ≤ (j : Int) - 8 := by omega
     have b4 : (j : Int) - 8 < 15 := by omega
     have b5 : 0 ≤ (j : Int) - 4 := by omega
     have b6 : (j : Int) - 4 < 15 := by omega
     have b7 : (j : Int) < 15 := by omega
     have b8 : (4 : Int) ≤ (j : Int) := by omega
     have b9 : ¬ (j : Int) < 4 := by omega
     have nq := fun k => getD_nn QF.out k
     have NQ := hide nq; clear nq
     go_wp2_with fail
     go_wp2_with fail
     refine wp_region_ordx [(0, 0), (1, 0), (2, 0), (3, 0), (4, 0), (5, 0), (6, 0), (7, 0), (8, 0), (9, 1), (10, 0), (11, 2)] (fun W => St w W [(g5, us (wds q), 77), (g4, us zE, 27), (g3, us m, 27), (g2, us l, 27)]) (by kernel_rfl) (by kernel_rfl) (by kernel_rfl) (fun _ _ d _ _ h => by cases d <;> exact h) st.drew ?_
     replace st := st.drew
     refine ordx_quiet (o := ⟨some 47, _, _, _, _, _⟩) (v := (.int .i64 (↑j))) rfl rfl (fun _ _ => rfl) ?_
     try simp only [Act.put, List.setIfInBounds_toArray, List.set_cons_zero, List.set_cons_succ]
     refine ordx_quiet (o := ⟨some 48, _, _, _, _, _⟩) (v := (.int .i64 (↑j - 8))) rfl rfl (fun _ _ => by go_simp) ?_
     try simp only [Act.put, List.setIfInBounds_toArray, List.set_cons_zero, List.set_cons_succ]
     refine ordx_quiet (o := ⟨some 49, _, _, _, _, _⟩) (v := (.int .i64 (↑j))) rfl rfl (fun _ _ => rfl) ?_
     try simp only [Act.put, List.setIfInBounds_toArray, List.set_cons_zero, List.set_cons_succ]
     refine ordx_quiet (o := ⟨some 50, _, _, _, _, _⟩) (v := (.int .i64 (↑j - 8))) rfl rfl (fun _ _ => by go_simp) ?_
     try simp only [Act.put, List.setIfInBounds_toArray, List.set_cons_zero, List.set_cons_succ]
     refine ordx_quiet (o := ⟨some 51, _, _, _, _, _⟩) (v := (.pointer (some ⟨g5, (j - 8) * 2, none⟩))) rfl rfl (fun _ _ => by go_simp) ?_
     try simp only [Act.put, List.setIfInBounds_toArray, List.set_cons_zero, List.set_cons_succ]
     refine ordx_load (o := ⟨some 52, _, _, _, _, _⟩) rfl rfl 76 (.tmp 51) rfl g5 ((j - 8) * 2) rfl 2 aggW (us (wds q)) _ (WD (q.getD (j - 8) 0)) (fun W hS => hS.get 0 rfl) (by simp only [us_len, wds_len, Lq.out, List.length_cons, List.length_nil]; omega) (cut_wd _ _ (by simp only [Lq.out]; omega)) ?_
     try simp only [Act.put, List.setIfInBounds_toArray, List.set_cons_zero, List.set_cons_succ]
     refine ordx_quiet (o := ⟨some 53, _, _, _, _, _⟩) (v := (.int .i64 (↑j))) rfl rfl (fun _ _ => rfl) ?_
     try simp only [Act.put, List.setIfInBounds_toArray, List.set_cons_zero, List.set_cons_succ]
     refine ordx_quiet (o := ⟨some 54, _, _, _, _, _⟩) (v := (.pointer (some ⟨g5, j * 2, none⟩))) rfl rfl (fun _ _ => by go_simp) ?_
     try simp only [Act.put, List.setIfInBounds_toArray, List.set_cons_zero, List.set_cons_succ]
     refine ordx_load (o := ⟨some 55, _, _, _, _, _⟩) rfl rfl 76 (.tmp 54) rfl g5 (j * 2) rfl 2 aggW (us (wds q)) _ (WD (q.getD j 0)) (fun W hS => hS.get 0 rfl) (by simp only [us_len, wds_len, Lq.out, List.length_cons, List.length_nil]; omega) (cut_wd _ _ (by simp only [Lq.out]; omega)) ?_
     try simp only [Act.put, List.setIfInBounds_toArray, List.set_cons_zero, List.set_cons_succ]
     refine ordx_run (o := ⟨some 56, _, _, _, _, _⟩) rfl rfl (fun K hK => ?_)
     go_wp2_with fail
     refine (wadd_any _ _ (by first | exact NQ.out _ | exact Hov.out) (by first | exact NQ.out _ | exact Hov.out) _).mono ?_
     rintro e w56 ⟨rfl, hb⟩
     replace st := st.call hb; clear hb
     refine hK.out _ _ st ?_
     try simp only [Act.put, List.setIfInBounds_toArray, List.set_cons_zero, List.set_cons_succ]
     clear hK K
     refine ordx_quiet (o := ⟨some 57, _, _, _, _, _⟩) (v := (.pointer (some ⟨g5, (j - 8) * 2, none⟩))) rfl rfl (fun _ _ => by go_simp) ?_
     try simp only [Act.put, List.setIfInBounds_toArray, List.set_cons_zero, List.set_cons_succ]
     refine ordx_store (o := ⟨none, .store 76 (.tmp 57) (.tmp 56), _, _, _, _⟩) rfl rfl 76 (.tmp 57) (.tmp 56) rfl g5 ((j - 8) * 2) rfl (us [(((q.getD (j - 8) 0) + (q.getD j 0)) % 340282366920938463463374607431768211456) / 18446744073709551616, (((q.getD (j - 8) 0) + (q.getD j 0)) % 340282366920938463463374607431768211456) % 18446744073709551616]) rfl 2 aggW.size (by first | omega | (simp; done) | (simp; omega)) st 0 _ _ rfl (by simp only [us_len, wds_len, Lq.out, List.length_cons, List.length_nil]; omega) (us_one _) (us (wds (q.set (j - 8) (((q.getD (j - 8) 0) + (q.getD j 0)) % 340282366920938463463374607431768211456)))) (put_wd _ _ _ (by simp only [Lq.out]; omega)) ?_
     clear st; intro w_0 st
     try simp only [Act.put, List.setIfInBounds_toArray, List.set_cons_zero, List.set_cons_succ]
     refine ordx_nil ?_
     have lq1 : (q.set (j - 8) ((q.getD (j - 8) 0 + q.getD j 0) % 340282366920938463463374607431768211456)).length = 15 := by rw [List.length_set]; exact Lq.out
     have nq1 := fun k => getD_nn (set_nn (i := j - 8) (v := (q.getD (j - 8) 0 + q.getD j 0) % 340282366920938463463374607431768211456) QF.out (Int.emod_nonneg _ (by decide))) k
     generalize hq1 : q.set (j - 8) ((q.getD (j - 8) 0 + q.getD j 0) % 340282366920938463463374607431768211456) = q1 at st lq1 nq1
     have Hq1 := hide hq1; clear hq1
     clear Lq NQ
     have Lq := hide lq1; clear lq1
     have NQ := hide nq1; clear nq1
     go_wp2_with fail
     go_wp2_with fail
     refine wp_region_ordx [(0, 0), (1, 0), (2, 0), (3, 0), (4, 0), (5, 0), (6, 0), (7, 0), (8, 0), (9, 1), (10, 0), (11, 2)] (fun W => St w W [(g5, us (wds q1), 77), (g4, us zE, 27), (g3, us m, 27), (g2, us l, 27)]) (by kernel_rfl) (by kernel_rfl) (by kernel_rfl) (fun _ _ d _ _ h => by cases d <;> exact h) st.drew ?_
     replace st := st.drew
     refine ordx_quiet (o := ⟨some 58, _, _, _, _, _⟩) (v := (.int .i64 (↑j))) rfl rfl (fun _ _ => rfl) ?_
     try simp only [Act.put, List.setIfInBounds_toArray, List.set_cons_zero, List.set_cons_succ]
     refine ordx_quiet (o := ⟨some 59, _, _, _, _, _⟩) (v := (.int .i64 (↑j - 4))) rfl rfl (fun _ _ => by go_simp) ?_
     try simp only [Act.put, List.setIfInBounds_toArray, List.set_cons_zero, List.set_cons_succ]
     refine ordx_quiet (o := ⟨some 60, _, _, _, _, _⟩) (v := (.int .i64 (↑j))) rfl rfl (fun _ _ => rfl) ?_
     try simp only [Act.put, List.setIfInBounds_toArray, List.set_cons_zero, List.set_cons_succ]
     refine ordx_quiet (o := ⟨some 61, _, _, _, _, _⟩) (v := (.int .i64 (↑j - 4))) rfl rfl (fun _ _ => by go_simp) ?_
     try simp only [Act.put, List.setIfInBounds_toArray, List.set_cons_zero, List.set_cons_succ]
     refine ordx_quiet (o := ⟨some 62, _, _, _, _, _⟩) (v := (.pointer (some ⟨g5, (j - 4) * 2, none⟩))) rfl rfl (fun _ _ => by go_simp) ?_
     try simp only [Act.put, List.setIfInBounds_toArray, List.set_cons_zero, List.set_cons_succ]
     refine ordx_load (o := ⟨some 63, _, _, _, _, _⟩) rfl rfl 76 (.tmp 62) rfl g5 ((j - 4) * 2) rfl 2 aggW (us (wds q1)) _ (WD (q1.getD (j - 4) 0)) (fun W hS => hS.get 0 rfl) (by simp only [us_len, wds_len, Lq.out, List.length_cons, List.length_nil]; omega) (cut_wd _ _ (by simp only [Lq.out]; omega)) ?_
     try simp only [Act.put, List.setIfInBounds_toArray, List.set_cons_zero, List.set_cons_succ]
     refine ordx_quiet (o := ⟨some 64, _, _, _, _, _⟩) (v := (.int .i64 (↑j))) rfl rfl (fun _ _ => rfl) ?_
     try simp only [Act.put, List.setIfInBounds_toArray, List.set_cons_zero, List.set_cons_succ]
     refine ordx_quiet (o := ⟨some 65, _, _, _, _, _⟩) (v := (.pointer (some ⟨g5, j * 2, none⟩))) rfl rfl (fun _ _ => by go_simp) ?_
     try simp only [Act.put, List.setIfInBounds_toArray, List.set_cons_zero, List.set_cons_succ]
     refine ordx_load (o := ⟨some 66, _, _, _, _, _⟩) rfl rfl 76 (.tmp 65) rfl g5 (j * 2) rfl 2 aggW (us (wds q1)) _ (WD (q1.getD j 0)) (fun W hS => hS.get 0 rfl) (by simp only [us_len, wds_len, Lq.out, List.length_cons, List.length_nil]; omega) (cut_wd _ _ (by simp only [Lq.out]; omega)) ?_
     try simp only [Act.put, List.setIfInBounds_toArray, List.set_cons_zero, List.set_cons_succ]
     refine ordx_run (o := ⟨some 67, _, _, _, _, _⟩) rfl rfl (fun K hK => ?_)
     go_wp2_with fail
     refine (wadd_any _ _ (by first | exact NQ.out _ | exact Hov.out) (by first | exact NQ.out _ | exact Hov.out) _).mono ?_
     rintro e w67 ⟨rfl, hb⟩
     replace st := st.call hb; clear hb
     refine hK.out _ _ st ?_
     try simp only [Act.put, List.setIfInBounds_toArray, List.set_cons_zero, List.set_cons_succ]
     clear hK K
     refine ordx_quiet (o := ⟨some 68, _, _, _, _, _⟩) (v := (.pointer (some ⟨g5, (j - 4) * 2, none⟩))) rfl rfl (fun _ _ => by go_simp) ?_
     try simp only [Act.put, List.setIfInBounds_toArray, List.set_cons_zero, List.set_cons_succ]
     refine ordx_store (o := ⟨none, .store 76 (.tmp 68) (.tmp 67), _, _, _, _⟩) rfl rfl 76 (.tmp 68) (.tmp 67) rfl g5 ((j - 4) * 2) rfl (us [(((q1.getD (j - 4) 0) + (q1.getD j 0)) % 340282366920938463463374607431768211456) / 18446744073709551616, (((q1.getD (j - 4) 0) + (q1.getD j 0)) % 340282366920938463463374607431768211456) % 18446744073709551616]) rfl 2 aggW.size (by first | omega | (simp; done) | (simp; omega)) st 0 _ _ rfl (by simp only [us_len, wds_len, Lq.out, List.length_cons, List.length_nil]; omega) (us_one _) (us (wds (q1.set (j - 4) (((q1.getD (j - 4) 0) + (q1.getD j 0)) % 340282366920938463463374607431768211456)))) (put_wd _ _ _ (by simp only [Lq.out]; omega)) ?_
     clear st; intro w_0 st
     try simp only [Act.put, List.setIfInBounds_toArray, List.set_cons_zero, List.set_cons_succ]
     refine ordx_nil ?_
     go_wp2_with fail
     go_roundw
     case rel =>
      refine ⟨j - 1, by omega, by omega, by go_num, ?_⟩
      have e : 14 - (j - 1) = (14 - j) + 1 := by omega
      have e2 : 14 - (14 - j) = j := by omega
      rw [e, foldT, Hq.out]
      simp only [e2]
      rw [Hq1.out]
      exact st
     case measure => simp [intOf]; omega
    ·have : j = 7 := by omega
     subst this
     clear hj7 hj14 Lq QF
     rw [← Hq.out] at st
     rw [show ((7 : Nat) : Int) = 7 from rfl]
     go_wp2_with (first
      | ((with_reducible show wpList _ _ _ (⟨some 11, _, _, _, _, _⟩ :: _) _ _); refine wpList_alloc_st (o := ⟨some 11, _, _, _, _, _⟩) rfl 27 rfl (us zE) zisE st ?_; clear st; intro g11 w11 st)
      | ((with_reducible show wpList _ _ _ (⟨some 12, _, _, _, _, _⟩ :: _) _ _); refine wpList_alloc_st (o := ⟨some 12, _, _, _, _, _⟩) rfl 76 rfl (us [0, 0]) zisW st ?_; clear st; intro g12 w12 st))
     go_step3
     have QF7 := foldT_nn ns QN.out (14 - 7)
     have lq : (foldT ns (14 - 7)).length = 15 := by rw [foldT_len]; exact L0
     generalize hq : foldT ns (14 - 7) = q at st QF7 lq
     have Hq := hide hq; clear hq
     have Lq := hide lq; clear lq
     have nq := fun k => getD_nn QF7 k
     have NQ := hide nq; clear nq QF7
     go_wp2_with fail
     go_loopw [13] (fun t wr => ∃ k : Nat, k ≤ 7 ∧ t = .int .i64 k ∧ St w wr [(g12, us [(limbT q k).2 / 18446744073709551616, (limbT q k).2 % 18446744073709551616], 76), (g11, us (limbT q k).1, 27), (g5, us (wds q), 77), (g4, us zE, 27), (g3, us m, 27), (g2, us l, 27)]) (fun t _ => 8 - (intOf t).toNat)
     case atStart => exact ⟨0, by omega, rfl, st⟩
     case round =>
     obtain ⟨k, hk, rfl, st'⟩ := hrel
     clear st
     have st := st'; clear st'
     have hov : 0 ≤ (limbT q k).2 := limbT_nn q NQ.out k
     have lo : (limbT q k).1.length = 8 := limbT_len q k
     generalize hlb : limbT q k = lb at st hov lo
     obtain ⟨o, ov⟩ := lb
     have Hlb := hide hlb; clear hlb
     have Lo := hide lo; clear lo
     dsimp only at st hov
     have Hov := hide hov; clear hov
     have c1 : (k : Int) < 15 := by omega
     have c2 : (k : Int) < 8 := by omega
     go_wp2_with fail
     go_wp2_with fail
     refine wp_region_ordx [(0, 0), (1, 0), (2, 0), (3, 0), (4, 3), (5, 4), (6, 2)] (fun W => St w W [(g12, us [ov / 18446744073709551616, ov % 18446744073709551616], 76), (g11, us o, 27), (g5, us (wds q), 77), (g4, us zE, 27), (g3, us m, 27), (g2, us l, 27)]) (by kernel_rfl) (by kernel_rfl) (by kernel_rfl) (fun _ _ d _ _ h => by cases d <;> exact h) st.drew ?_
     replace st := st.drew
     refine ordx_quiet (o := ⟨some 71, _, _, _, _, _⟩) (v := (.int .i64 (↑k))) rfl rfl (fun _ _ => rfl) ?_
     try simp only [Act.put, List.setIfInBounds_toArray, List.set_cons_zero, List.set_cons_succ]
     refine ordx_quiet (o := ⟨some 72, _, _, _, _, _⟩) (v := (.pointer (some ⟨g5, k * 2, none⟩))) rfl rfl (fun _ _ => by go_simp) ?_
     try simp only [Act.put, List.setIfInBounds_toArray, List.set_cons_zero, List.set_cons_succ]
     refine ordx_load (o := ⟨some 73, _, _, _, _, _⟩) rfl rfl 76 (.tmp 72) rfl g5 (k * 2) rfl 2 aggW (us (wds q)) _ (WD (q.getD k 0)) (fun W hS => hS.get 2 rfl) (by simp only [us_len, wds_len, Lq.out, List.length_cons, List.length_nil]; omega) (cut_wd _ _ (by simp only [Lq.out]; omega)) ?_
     try simp only [Act.put, List.setIfInBounds_toArray, List.set_cons_zero, List.set_cons_succ]
     refine ordx_load (o := ⟨some 74, _, _, _, _, _⟩) rfl rfl 76 (.tmp 12) rfl g12 0 rfl 2 aggW (us [ov / 18446744073709551616, ov % 18446744073709551616]) _ (WD ov) (fun W hS => hS.get 0 rfl) (by first | omega | (simp; done) | (simp; omega)) (cut_all _ 2 rfl) ?_
     try simp only [Act.put, List.setIfInBounds_toArray, List.set_cons_zero, List.set_cons_succ]
     refine ordx_fork (o := ⟨some 75, _, _, _, _, _⟩) (o' := ⟨some 14, _, _, _, _, _⟩) rfl rfl rfl rfl (fun K hK => ?_) (fun K hK => ?_)
     case' refine_1 =>
      go_wp2_with fail
      refine (wadd_any _ _ (by first | exact NQ.out _ | exact Hov.out) (by first | exact NQ.out _ | exact Hov.out) _).mono ?_
      rintro e w75 ⟨rfl, hb⟩
      replace st := st.call hb; clear hb
      refine hK.out _ _ st ?_
      try simp only [Act.put, List.setIfInBounds_toArray, List.set_cons_zero, List.set_cons_succ]
      clear hK K
      refine ordx_run (o := ⟨some 14, _, _, _, _, _⟩) rfl rfl (fun K hK => ?_)
      refine wp_alloc_st 76 rfl (us [0, 0]) zisW st (fun g14 w14 st' => hK.out _ _ st'.tail ?_)
      clear hK K; replace st := st'; clear st'
      try simp only [Act.put, List.setIfInBounds_toArray, List.set_cons_zero, List.set_cons_succ]
     case' refine_2 =>
      refine wp_alloc_st 76 rfl (us [0, 0]) zisW st (fun g14 w14 st' => hK.out _ _ st'.tail ?_)
      clear hK K; replace st := st'; clear st'
      try simp only [Act.put, List.setIfInBounds_toArray, List.set_cons_zero, List.set_cons_succ]
      refine ordx_run (o := ⟨some 75, _, _, _, _, _⟩) rfl rfl (fun K hK => ?_)
      go_wp2_with fail
      refine (wadd_any _ _ (by first | exact NQ.out _ | exact Hov.out) (by first | exact NQ.out _ | exact Hov.out) _).mono ?_
      rintro e w75 ⟨rfl, hb⟩
      replace st := st.call hb; clear hb
      refine hK.out _ _ st.tail ?_
      try simp only [Act.put, List.setIfInBounds_toArray, List.set_cons_zero, List.set_cons_succ]
      clear hK K
     all_goals
      refine ordx_store (o := ⟨none, .store 76 (.tmp 14) (.tmp 75), _, _, _, _⟩) rfl rfl 76 (.tmp 14) (.tmp 75) rfl g14 0 rfl (us [(((q.getD k 0) + ov) % 340282366920938463463374607431768211456) / 18446744073709551616, (((q.getD k 0) + ov) % 340282366920938463463374607431768211456) % 18446744073709551616]) rfl 2 aggW.size (by first | omega | (simp; done) | (simp; omega)) st 0 _ _ rfl (by first | omega | (simp; done) | (simp; omega)) (us_one _) (us [(((q.getD k 0) + ov) % 340282366920938463463374607431768211456) / 18446744073709551616, (((q.getD k 0) + ov) % 340282366920938463463374607431768211456) % 18446744073709551616]) (put_all _ _ 2 (by first | omega | (simp; done) | (simp; omega)) (by first | omega | (simp; done) | (simp; omega))) ?_
      clear st; intro w_0 st
      try simp only [Act.put, List.setIfInBounds_toArray, List.set_cons_zero, List.set_cons_succ]
      refine ordx_nil ?_
     all_goals
      go_wp2_with fail
      generalize hn : (q.getD k 0 + ov) % 340282366920938463463374607431768211456 = n at st
      have hn0 : 0 ≤ n := by rw [← hn]; exact Int.emod_nonneg _ (by decide)
      have Hn := hide hn; clear hn
      go_wp2_with fail
      refine wp_region_ordx [(0, 0), (1, 0), (2, 0), (3, 0), (4, 0), (6, 0), (7, 0), (5, 1), (8, 2), (9, 2)] (fun W => St w W [(g14, us [n / 18446744073709551616, n % 18446744073709551616], 76), (g12, us [ov / 18446744073709551616, ov % 18446744073709551616], 76), (g11, us o, 27), (g5, us (wds q), 77), (g4, us zE, 27), (g3, us m, 27), (g2, us l, 27)]) (by kernel_rfl) (by kernel_rfl) (by kernel_rfl) (fun _ _ d _ _ h => by cases d <;> exact h) st.drew ?_
      replace st := st.drew
      refine ordx_quiet (o := ⟨some 76, _, _, _, _, _⟩) (v := (.int .i64 (↑k))) rfl rfl (fun _ _ => rfl) ?_
      try simp only [Act.put, List.setIfInBounds_toArray, List.set_cons_zero, List.set_cons_succ]
      refine ordx_quiet (o := ⟨some 77, _, _, _, _, _⟩) (v := (.pointer (some ⟨g14, 1, none⟩))) rfl rfl (fun _ _ => by go_simp) ?_
      try simp only [Act.put, List.setIfInBounds_toArray, List.set_cons_zero, List.set_cons_succ]
      refine ordx_load1 (o := ⟨some 78, _, _, _, _, _⟩) rfl rfl 24 (.tmp 77) rfl g14 1 rfl na64 _ _ (.int .u64 (n % 18446744073709551616)) (fun W hS => hS.get 0 rfl) rfl ?_
      try simp only [Act.put, List.setIfInBounds_toArray, List.set_cons_zero, List.set_cons_succ]
      refine ordx_quiet (o := ⟨some 79, _, _, _, _, _⟩) (v := (.int .u64 (bits .and .u64 (n % 18446744073709551616) 72057594037927935))) rfl rfl (fun _ _ => by go_simp) ?_
      try simp only [Act.put, List.setIfInBounds_toArray, List.set_cons_zero, List.set_cons_succ]
      refine ordx_load (o := ⟨some 80, _, _, _, _, _⟩) rfl rfl 76 (.tmp 14) rfl g14 0 rfl 2 aggW (us [n / 18446744073709551616, n % 18446744073709551616]) _ (WD n) (fun W hS => hS.get 0 rfl) (by first | omega | (simp; done) | (simp; omega)) (cut_all _ 2 rfl) ?_
      try simp only [Act.put, List.setIfInBounds_toArray, List.set_cons_zero, List.set_cons_succ]
      refine ordx_quiet (o := ⟨some 82, _, _, _, _, _⟩) (v := (.pointer (some ⟨g11, 0, none⟩))) rfl rfl (fun _ _ => by go_simp) ?_
      try simp only [Act.put, List.setIfInBounds_toArray, List.set_cons_zero, List.set_cons_succ]
      refine ordx_quiet (o := ⟨some 83, _, _, _, _, _⟩) (v := (.pointer (some ⟨g11, k, none⟩))) rfl rfl (fun _ _ => by go_simp) ?_
      try simp only [Act.put, List.setIfInBounds_toArray, List.set_cons_zero, List.set_cons_succ]
      refine ordx_run (o := ⟨some 81, _, _, _, _, _⟩) rfl rfl (fun K hK => ?_)
      go_wp2_with fail
      refine (wover_any _ hn0 _).mono ?_
      rintro e w81 ⟨rfl, hb⟩
      replace st := st.call hb; clear hb
      refine hK.out _ _ st ?_
      try simp only [Act.put, List.setIfInBounds_toArray, List.set_cons_zero, List.set_cons_succ]
      clear hK K
      refine ordx_store (o := ⟨none, .store 24 (.tmp 83) (.tmp 79), _, _, _, _⟩) rfl rfl 24 (.tmp 83) (.tmp 79) rfl g11 k rfl ([(.int .u64 (bits .and .u64 (n % 18446744073709551616) 72057594037927935))]) rfl 1 sz64 (by first | omega | (simp; done) | (simp; omega)) st 2 _ _ rfl (by simp only [us_len, Lo.out, List.length_cons, List.length_nil]; omega) (by intro x hx; simp at hx; subst hx; rfl) (us (o.set k (bits .and .u64 (n % 18446744073709551616) 72057594037927935))) (put_us _ _ _ (by rw [Lo.out]; omega)) ?_
      clear st; intro w_0 st
      try simp only [Act.put, List.setIfInBounds_toArray, List.set_cons_zero, List.set_cons_succ]
      refine ordx_store (o := ⟨none, .store 76 (.tmp 12) (.tmp 81), _, _, _, _⟩) rfl rfl 76 (.tmp 12) (.tmp 81) rfl g12 0 rfl (us [(n / 72057594037927936) / 18446744073709551616, (n / 72057594037927936) % 18446744073709551616]) rfl 2 aggW.size (by first | omega | (simp; done) | (simp; omega)) st 1 _ _ rfl (by first | omega | (simp; done) | (simp; omega)) (us_one _) (us [(n / 72057594037927936) / 18446744073709551616, (n / 72057594037927936) % 18446744073709551616]) (put_all _ _ 2 (by first | omega | (simp; done) | (simp; omega)) (by first | omega | (simp; done) | (simp; omega))) ?_
      clear st; intro w_1 st
      try simp only [Act.put, List.setIfInBounds_toArray, List.set_cons_zero, List.set_cons_succ]
      refine ordx_nil ?_
      generalize hz : bits .and .u64 (n % 18446744073709551616) 72057594037927935 = z at st ⊢
      have Hz := hide hz; clear hz
      replace st := st.tail
      simp only [Exit.then]
      by_cases hk7 : k = 7
      ·have e7 : ((k : Int) == 7) = true := by simp [hk7]
       have hz7 : n % 72057594037927936 = z := by rw [← Hz.out]; exact (and_mask n 56 (by omega)).symm
       obtain ⟨p, x, h8, hp, hx⟩ : ∃ p x, limbT q 8 = (p, x) ∧ o.set k z = p ∧ n / 72057594037927936 = x :=
        ⟨_, _, by rw [show limbT q 8 = ((limbT q k).1.set k ((q.getD k 0 + (limbT q k).2) % 340282366920938463463374607431768211456 % 72057594037927936), (q.getD k 0 + (limbT q k).2) % 340282366920938463463374607431768211456 / 72057594037927936) by rw [hk7]; rfl, Hlb.out]; simp only [Hn.out, hz7], rfl, rfl⟩
       have hx0 : 0 ≤ x := by rw [← hx]; omega
       have lp : p.length = 8 := by rw [← hp, List.length_set]; exact Lo.out
       simp only [List.set_cons_zero, List.set_cons_succ] at st
       rw [hp, hx] at st
       have H8 := hide h8; clear h8
       clear hp hx hz7 Hz
       obtain ⟨p0, p1, p2, p3, p4, p5, p6, p7, rfl⟩ : ∃ p0 p1 p2 p3 p4 p5 p6 p7, p = [p0, p1, p2, p3, p4, p5, p6, p7] := list8 lp
       clear lp
       go_wp2_with fail
       go_wp2_with fail
       refine wp_region_ordx [(0, 0), (1, 0), (2, 0), (3, 0), (4, 1), (5, 0), (6, 0), (7, 0)] (fun W => St w W [(g12, us [x / 18446744073709551616, x % 18446744073709551616], 76), (g11, us [p0, p1, p2, p3, p4, p5, p6, p7], 27), (g5, us (wds q), 77), (g4, us zE, 27), (g3, us m, 27), (g2, us l, 27)]) (by kernel_rfl) (by kernel_rfl) (by kernel_rfl) (fun _ _ d _ _ h => by cases d <;> exact h) st.drew ?_
       replace st := st.drew
       refine ordx_quiet (o := ⟨some 86, _, _, _, _, _⟩) (v := (.pointer (some ⟨g12, 1, none⟩))) rfl rfl (fun _ _ => by go_simp) ?_
       try simp only [Act.put, List.setIfInBounds_toArray, List.set_cons_zero, List.set_cons_succ]
       refine ordx_load1 (o := ⟨some 87, _, _, _, _, _⟩) rfl rfl 24 (.tmp 86) rfl g12 1 rfl na64 _ _ (.int .u64 (x % 18446744073709551616)) (fun W hS => hS.get 0 rfl) rfl ?_
       try simp only [Act.put, List.setIfInBounds_toArray, List.set_cons_zero, List.set_cons_succ]
       refine ordx_quiet (o := ⟨some 88, _, _, _, _, _⟩) (v := (.int .u64 (bits .and .u64 (x % 18446744073709551616) 72057594037927935))) rfl rfl (fun _ _ => by go_simp) ?_
       try simp only [Act.put, List.setIfInBounds_toArray, List.set_cons_zero, List.set_cons_succ]
       refine ordx_load (o := ⟨some 89, _, _, _, _, _⟩) rfl rfl 76 (.tmp 12) rfl g12 0 rfl 2 aggW (us [x / 18446744073709551616, x % 18446744073709551616]) _ (WD x) (fun W hS => hS.get 0 rfl) (by first | omega | (simp; done) | (simp; omega)) (cut_all _ 2 rfl) ?_
       try simp only [Act.put, List.setIfInBounds_toArray, List.set_cons_zero, List.set_cons_succ]
       refine ordx_run (o := ⟨some 90, _, _, _, _, _⟩) rfl rfl (fun K hK => ?_)
       go_wp2_with fail
       refine (wover_any _ hx0 _).mono ?_
       rintro e w90 ⟨rfl, hb⟩
       replace st := st.call hb; clear hb
       refine hK.out _ _ st ?_
       try simp only [Act.put, List.setIfInBounds_toArray, List.set_cons_zero, List.set_cons_succ]
       clear hK K
       refine ordx_quiet (o := ⟨some 91, _, _, _, _, _⟩) (v := (.int .u64 (((x / 72057594037927936)) % 18446744073709551616))) rfl rfl (fun W _ => exec_field rfl _ rfl _ W (fieldW1 _ W)) ?_
       try simp only [Act.put, List.setIfInBounds_toArray, List.set_cons_zero, List.set_cons_succ]
       refine ordx_quiet (o := ⟨some 15, _, _, _, _, _⟩) (v := (.int .u64 (bits .and .u64 (x % 18446744073709551616) 72057594037927935))) rfl rfl (fun _ _ => rfl) ?_
       try simp only [Act.put, List.setIfInBounds_toArray, List.set_cons_zero, List.set_cons_succ]
       refine ordx_quiet (o := ⟨some 16, _, _, _, _, _⟩) (v := (.int .u64 (((x / 72057594037927936)) % 18446744073709551616))) rfl rfl (fun _ _ => rfl) ?_
       try simp only [Act.put, List.setIfInBounds_toArray, List.set_cons_zero, List.set_cons_succ]
       refine ordx_nil ?_
       generalize ht : bits .and .u64 (x % 18446744073709551616) 72057594037927935 = t at st ⊢
       have Ht := hide ht; clear ht
       generalize hs : x / 72057594037927936 % 18446744073709551616 = s at st ⊢
       have Hs := hide hs; clear hs
       simp only [Exit.then]
       go_wp2_with (first
        | ((with_reducible show wpList _ _ _ (⟨some 94, _, _, _, _, _⟩ :: _) _ _); refine wpList_load1_st (o := ⟨some 94, _, _, _, _, _⟩) rfl 24 (.tmp 93) rfl g11 0 rfl na64 st 1 _ _ (.int .u64 p0) rfl rfl ?_)
        | ((with_reducible show wpList _ _ _ (⟨none, .store 24 (.tmp 98) (.tmp 96), _, _, _, _⟩ :: _) _ _); refine wpList_store_st (o := ⟨none, _, _, _, _, _⟩) rfl 24 (.tmp 98) (.tmp 96) rfl g11 0 rfl ([(.int .u64 (IntKind.u64.wrap (p0 + t)))]) rfl 1 sz64 (by first | omega | (simp; done) | (simp; omega)) st 1 _ _ rfl (by first | omega | (simp; done) | (simp; omega)) (by intro x hx; simp at hx; subst hx; rfl) (us [(IntKind.u64.wrap (p0 + t)), p1, p2, p3, p4, p5, p6, p7]) rfl ?_; clear st; intro w_0 st)
        | ((with_reducible show wpList _ _ _ (⟨some 101, _, _, _, _, _⟩ :: _) _ _); refine wpList_load1_st (o := ⟨some 101, _, _, _, _, _⟩) rfl 24 (.tmp 100) rfl g11 4 rfl na64 st 1 _ _ (.int .u64 p4) rfl rfl ?_)
        | ((with_reducible show wpList _ _ _ (⟨none, .store 24 (.tmp 105) (.tmp 103), _, _, _, _⟩ :: _) _ _); refine wpList_store_st (o := ⟨none, _, _, _, _, _⟩) rfl 24 (.tmp 105) (.tmp 103) rfl g11 4 rfl ([(.int .u64 (IntKind.u64.wrap (p4 + t)))]) rfl 1 sz64 (by first | omega | (simp; done) | (simp; omega)) st 1 _ _ rfl (by first | omega | (simp; done) | (simp; omega)) (by intro x hx; simp at hx; subst hx; rfl) (us [(IntKind.u64.wrap (p0 + t)), p1, p2, p3, (IntKind.u64.wrap (p4 + t)), p5, p6, p7]) rfl ?_; clear st; intro w_1 st)
        | ((with_reducible show wpList _ _ _ (⟨some 108, _, _, _, _, _⟩ :: _) _ _); refine wpList_load1_st (o := ⟨some 108, _, _, _, _, _⟩) rfl 24 (.tmp 107) rfl g11 1 rfl na64 st 1 _ _ (.int .u64 p1) rfl rfl ?_)
        | ((with_reducible show wpList _ _ _ (⟨none, .store 24 (.tmp 112) (.tmp 110), _, _, _, _⟩ :: _) _ _); refine wpList_store_st (o := ⟨none, _, _, _, _, _⟩) rfl 24 (.tmp 112) (.tmp 110) rfl g11 1 rfl ([(.int .u64 (IntKind.u64.wrap (p1 + s)))]) rfl 1 sz64 (by first | omega | (simp; done) | (simp; omega)) st 1 _ _ rfl (by first | omega | (simp; done) | (simp; omega)) (by intro x hx; simp at hx; subst hx; rfl) (us [(IntKind.u64.wrap (p0 + t)), (IntKind.u64.wrap (p1 + s)), p2, p3, (IntKind.u64.wrap (p4 + t)), p5, p6, p7]) rfl ?_; clear st; intro w_2 st)
        | ((with_reducible show wpList _ _ _ (⟨some 115, _, _, _, _, _⟩ :: _) _ _); refine wpList_load1_st (o := ⟨some 115, _, _, _, _, _⟩) rfl 24 (.tmp 114) rfl g11 5 rfl na64 st 1 _ _ (.int .u64 p5) rfl rfl ?_)
        | ((with_reducible show wpList _ _ _ (⟨none, .store 24 (.tmp 119) (.tmp 117), _, _, _, _⟩ :: _) _ _); refine wpList_store_st (o := ⟨none, _, _, _, _, _⟩) rfl 24 (.tmp 119) (.tmp 117) rfl g11 5 rfl ([(.int .u64 (IntKind.u64.wrap (p5 + s)))]) rfl 1 sz64 (by first | omega | (simp; done) | (simp; omega)) st 1 _ _ rfl (by first | omega | (simp; done) | (simp; omega)) (by intro x hx; simp at hx; subst hx; rfl) (us [(IntKind.u64.wrap (p0 + t)), (IntKind.u64.wrap (p1 + s)), p2, p3, (IntKind.u64.wrap (p4 + t)), (IntKind.u64.wrap (p5 + s)), p6, p7]) rfl ?_; clear st; intro w_3 st)
        | ((with_reducible show wpList _ _ _ (⟨some 120, _, _, _, _, _⟩ :: _) _ _); refine wpList_load_st (o := ⟨some 120, _, _, _, _, _⟩) rfl 27 (.tmp 11) rfl g11 0 rfl 8 aggE st 1 _ _ (AG (us [(IntKind.u64.wrap (p0 + t)), (IntKind.u64.wrap (p1 + s)), p2, p3, (IntKind.u64.wrap (p4 + t)), (IntKind.u64.wrap (p5 + s)), p6, p7])) rfl (by first | omega | (simp; done) | (simp; omega)) (cut_all _ 8 (by first | omega | (simp; done) | (simp; omega))) ?_))
       refine (carry_any _ rfl _).mono ?_
       rintro e w121 ⟨rfl, hb⟩
       replace st := st.call hb; clear hb
       go_wp2_with ((with_reducible show wpList _ _ _ (⟨none, .store 27 (.tmp 4) (.tmp 121), _, _, _, _⟩ :: _) _ _); refine wpList_store_st (o := ⟨none, _, _, _, _, _⟩) rfl 27 (.tmp 4) (.tmp 121) rfl g4 0 rfl (us (carryF [(IntKind.u64.wrap (p0 + t)), (IntKind.u64.wrap (p1 + s)), p2, p3, (IntKind.u64.wrap (p4 + t)), (IntKind.u64.wrap (p5 + s)), p6, p7])) rfl 8 aggE.size (by first | omega | (simp; done) | (simp; omega)) st 3 _ _ rfl (by first | omega | (simp; done) | (simp; omega)) (us_one _) (us (carryF [(IntKind.u64.wrap (p0 + t)), (IntKind.u64.wrap (p1 + s)), p2, p3, (IntKind.u64.wrap (p4 + t)), (IntKind.u64.wrap (p5 + s)), p6, p7])) (put_all _ _ 8 (by first | omega | (simp; done) | (simp; omega)) (by first | omega | (simp; done) | (simp; omega))) ?_; clear st; intro w_4 st)
       rw [Exit.noGoto_ret]
       refine post_st rfl g4 rfl st 3 _ _ rfl 8 aggE (by simp) rfl ⟨?_, st.below⟩
       have ht : x % 72057594037927936 = t := by rw [← Ht.out]; exact (and_mask x 56 (by omega)).symm
       rw [mulF, Hns.out, show (7 : Nat) = 14 - 7 from rfl, Hq.out, H8.out]
       simp only [endL, ht, Hs.out]
       rfl
      ·have e7 : ((k : Int) == 7) = false := by simp; omega
       go_wp2_with fail
       go_roundw
       case rel =>
        refine ⟨k + 1, by omega, by go_num, ?_⟩
        rw [limbT, Hlb.out]
        simp only
        rw [Hn.out, show n % 72057594037927936 = z from by rw [← Hz.out]; exact (and_mask n 56 (by omega)).symm]
        exact st
       case measure => simp [intOf]; omega
end Go.Proofs.Ytdpongijmmdnoaa
/- field.Int, Square, Times: WRITTEN BY gen_int.py -/
namespace Go.Proofs.Ytdpongijmmdnoaa
open Go.RowKit

def intL (m : Int) : List Int := [bits .and .u64 m 72057594037927935, m / 72057594037927936, 0, 0, 0, 0, 0, 0]
@[simp] theorem intL_len (m : Int) : (intL m).length = 8 := rfl
def intF (n : Int) : List Int := if n < 0 then negF (intL (IntKind.u64.wrap (wrap64 (-n)))) else intL (IntKind.u64.wrap n)
@[simp] theorem intF_len (n : Int) : (intF n).length = 8 := by unfold intF; split <;> simp
theorem build_8 (x y : Int) (W : World) : (Instr.build 25 [((0 : Nat), Value.int .u64 x), (1, Value.int .u64 y)].toArray).run Try.prog W = .ok (AG (us [x, y, 0, 0, 0, 0, 0, 0])) W := by kernel_rfl

set_option maxHeartbeats 400000 in
theorem int_any (n : Int) (w : World) : Calls Try.prog 35 #[.int .i64 n] w fun e w' => e = .returned (AG (us (intF n))) ∧ Below w.heap.size w w' := by
 by_cases hn : n < 0
 ·have e : intF n = negF (intL (IntKind.u64.wrap (wrap64 (-n)))) := if_pos hn
  rw [e]
  go_enter Try.func35, Try.ntmps35
  have st := St.start w
  go_wp2_with (first
   | ((with_reducible show wpList _ _ _ (⟨some 2, _, _, _, _, _⟩ :: _) _ _); refine wpList_alloc_st (o := ⟨some 2, _, _, _, _, _⟩) rfl 27 rfl (us zE) zisE st ?_; clear st; intro g2 w2 st)
   | ((with_reducible show wpList _ _ _ (⟨some 13, _, _, _, _, _⟩ :: _) _ _); refine wpList_build (o := ⟨some 13, _, _, _, _, _⟩) rfl 25 [(0, (.tmp 8)), (1, (.tmp 12))] rfl [(0, (.int .u64 (bits .and .u64 (IntKind.u64.wrap (wrap64 (-n))) 72057594037927935))), (1, (.int .u64 ((IntKind.u64.wrap (wrap64 (-n))) / 72057594037927936)))] rfl (AG (us (intL (IntKind.u64.wrap (wrap64 (-n)))))) (fun W => build_8 _ _ W) ?_)
   | ((with_reducible show wpList _ _ _ (⟨some 14, _, _, _, _, _⟩ :: _) _ _); refine wpList_build (o := ⟨some 14, _, _, _, _, _⟩) rfl 27 [(0, (.tmp 13))] rfl [(0, (AG (us (intL (IntKind.u64.wrap (wrap64 (-n)))))))] rfl (AG (us (intL (IntKind.u64.wrap (wrap64 (-n)))))) (build_E (intL (IntKind.u64.wrap (wrap64 (-n)))) (by first | omega | (simp; done) | (simp; omega))) ?_))
  refine (neg_any (intL (IntKind.u64.wrap (wrap64 (-n)))) (by first | omega | (simp; done) | (simp; omega)) _).mono ?_
  rintro e w15 ⟨rfl, hb⟩
  replace st := st.call hb; clear hb
  go_wp2_with ((with_reducible show wpList _ _ _ (⟨none, .store 27 (.tmp 2) (.tmp 15), _, _, _, _⟩ :: _) _ _); refine wpList_store_st (o := ⟨none, _, _, _, _, _⟩) rfl 27 (.tmp 2) (.tmp 15) rfl g2 0 rfl (us (negF (intL (IntKind.u64.wrap (wrap64 (-n)))))) rfl 8 aggE.size (by first | omega | (simp; done) | (simp; omega)) st 0 _ _ rfl (by first | omega | (simp; done) | (simp; omega)) (us_one _) (us (negF (intL (IntKind.u64.wrap (wrap64 (-n)))))) (put_all _ _ 8 (by first | omega | (simp; done) | (simp; omega)) (by first | omega | (simp; done) | (simp; omega))) ?_; clear st; intro w_0 st)
  exact post_st rfl g2 rfl st 0 _ _ rfl 8 aggE (by simp) rfl ⟨rfl, st.below⟩
 ·have e : intF n = intL (IntKind.u64.wrap n) := if_neg hn
  rw [e]
  go_enter Try.func35, Try.ntmps35
  have st := St.start w
  go_wp2_with (first
   | ((with_reducible show wpList _ _ _ (⟨some 2, _, _, _, _, _⟩ :: _) _ _); refine wpList_alloc_st (o := ⟨some 2, _, _, _, _, _⟩) rfl 27 rfl (us zE) zisE st ?_; clear st; intro g2 w2 st)
   | ((with_reducible show wpList _ _ _ (⟨some 22, _, _, _, _, _⟩ :: _) _ _); refine wpList_build (o := ⟨some 22, _, _, _, _, _⟩) rfl 25 [(0, (.tmp 18)), (1, (.tmp 21))] rfl [(0, (.int .u64 (bits .and .u64 (IntKind.u64.wrap n) 72057594037927935))), (1, (.int .u64 ((IntKind.u64.wrap n) / 72057594037927936)))] rfl (AG (us (intL (IntKind.u64.wrap n)))) (fun W => build_8 _ _ W) ?_)
   | ((with_reducible show wpList _ _ _ (⟨some 23, _, _, _, _, _⟩ :: _) _ _); refine wpList_build (o := ⟨some 23, _, _, _, _, _⟩) rfl 27 [(0, (.tmp 22))] rfl [(0, (AG (us (intL (IntKind.u64.wrap n)))))] rfl (AG (us (intL (IntKind.u64.wrap n)))) (build_E (intL (IntKind.u64.wrap n)) (by first | omega | (simp; done) | (simp; omega))) ?_)
   | ((with_reducible show wpList _ _ _ (⟨none, .store 27 (.tmp 2) (.tmp 23), _, _, _, _⟩ :: _) _ _); refine wpList_store_st (o := ⟨none, _, _, _, _, _⟩) rfl 27 (.tmp 2) (.tmp 23) rfl g2 0 rfl (us (intL (IntKind.u64.wrap n))) rfl 8 aggE.size (by first | omega | (simp; done) | (simp; omega)) st 0 _ _ rfl (by first | omega | (simp; done) | (simp; omega)) (us_one _) (us (intL (IntKind.u64.wrap n))) (put_all _ _ 8 (by first | omega | (simp; done) | (simp; omega)) (by first | omega | (simp; done) | (simp; omega))) ?_; clear st; intro w_0 st))
  exact post_st rfl g2 rfl st 0 _ _ rfl 8 aggE (by simp) rfl ⟨rfl, st.below⟩

def Bd (l : List Int) : Prop := ∀ x ∈ l, 0 ≤ x ∧ x < 18446744073709551616
set_option maxHeartbeats 400000 in
theorem square_any (l : List Int) (ll : l.length = 8) (bl : Bd l) (w : World) :
 Calls Try.prog 38 #[(AG (us l))] w fun e w' => e = .returned (AG (us (mulF l l))) ∧ Below w.heap.size w w' := by
 go_enter Try.func38, Try.ntmps38
 have st := St.start w
 go_wp2_with (first
  | ((with_reducible show wpList _ _ _ (⟨some 1, _, _, _, _, _⟩ :: _) _ _); refine wpList_box_st (o := ⟨some 1, _, _, _, _, _⟩) rfl 27 (.tmp 0) rfl (us l) rfl st ?_; clear st; intro g1 w1 st)
  | ((with_reducible show wpList _ _ _ (⟨some 2, _, _, _, _, _⟩ :: _) _ _); refine wpList_alloc_st (o := ⟨some 2, _, _, _, _, _⟩) rfl 27 rfl (us zE) zisE st ?_; clear st; intro g2 w2 st)
  | ((with_reducible show wpList _ _ _ (⟨some 3, _, _, _, _, _⟩ :: _) _ _); refine wpList_load_st (o := ⟨some 3, _, _, _, _, _⟩) rfl 27 (.tmp 1) rfl g1 0 rfl 8 aggE st 1 _ _ (AG (us l)) rfl (by first | omega | (simp; done) | (simp; omega)) (cut_all _ 8 (by first | omega | (simp; done) | (simp; omega))) ?_)
  | ((with_reducible show wpList _ _ _ (⟨some 4, _, _, _, _, _⟩ :: _) _ _); refine wpList_load_st (o := ⟨some 4, _, _, _, _, _⟩) rfl 27 (.tmp 1) rfl g1 0 rfl 8 aggE st 1 _ _ (AG (us l)) rfl (by first | omega | (simp; done) | (simp; omega)) (cut_all _ 8 (by first | omega | (simp; done) | (simp; omega))) ?_))
 refine (mul_any l l (by first | omega | (simp; done) | (simp; omega)) (by first | omega | (simp; done) | (simp; omega)) bl bl _).mono ?_
 rintro e w5 ⟨rfl, hb⟩
 replace st := st.call hb; clear hb
 go_wp2_with ((with_reducible show wpList _ _ _ (⟨none, .store 27 (.tmp 2) (.tmp 5), _, _, _, _⟩ :: _) _ _); refine wpList_store_st (o := ⟨none, _, _, _, _, _⟩) rfl 27 (.tmp 2) (.tmp 5) rfl g2 0 rfl (us (mulF l l)) rfl 8 aggE.size (by first | omega | (simp; done) | (simp; omega)) st 0 _ _ rfl (by first | omega | (simp; done) | (simp; omega)) (us_one _) (us (mulF l l)) (put_all _ _ 8 (by first | omega | (simp; done) | (simp; omega)) (by first | omega | (simp; done) | (simp; omega))) ?_; clear st; intro w_0 st)
 exact post_st rfl g2 rfl st 0 _ _ rfl 8 aggE (by first | omega | (simp; done) | (simp; omega)) rfl ⟨rfl, st.below⟩
set_option maxHeartbeats 400000 in
theorem times_any (l : List Int) (n : Int) (ll : l.length = 8) (bl : Bd l) (bn : Bd (intF n)) (w : World) :
 Calls Try.prog 39 #[(AG (us l)), (.int .i64 n)] w fun e w' => e = .returned (AG (us (mulF l (intF n)))) ∧ Below w.heap.size w w' := by
 go_enter Try.func39, Try.ntmps39
 have st := St.start w
 go_wp2_with (first
  | ((with_reducible show wpList _ _ _ (⟨some 2, _, _, _, _, _⟩ :: _) _ _); refine wpList_box_st (o := ⟨some 2, _, _, _, _, _⟩) rfl 27 (.tmp 0) rfl (us l) rfl st ?_; clear st; intro g2 w2 st)
  | ((with_reducible show wpList _ _ _ (⟨some 4, _, _, _, _, _⟩ :: _) _ _); refine wpList_alloc_st (o := ⟨some 4, _, _, _, _, _⟩) rfl 27 rfl (us zE) zisE st ?_; clear st; intro g4 w4 st))
 refine wp_region_ordx [(0, 0), (1, 0), (2, 1), (3, 1), (4, 2)] (fun W => St w W [(g4, us zE, 27), (g2, us l, 27)]) (by kernel_rfl) (by kernel_rfl) (by kernel_rfl) (fun _ _ d _ _ h => by cases d <;> exact h) st.drew ?_
 replace st := st.drew
 refine ordx_load (o := ⟨some 5, _, _, _, _, _⟩) rfl rfl 27 (.tmp 2) rfl g2 0 rfl 8 aggE (us l) _ (AG (us l)) (fun W hS => hS.get 1 rfl) (by first | omega | (simp; done) | (simp; omega)) (cut_all _ 8 (by first | omega | (simp; done) | (simp; omega))) ?_
 try simp only [Act.put, List.setIfInBounds_toArray, List.set_cons_zero, List.set_cons_succ]
 refine ordx_quiet (o := ⟨some 6, _, _, _, _, _⟩) (v := (.int .i64 n)) rfl rfl (fun _ _ => rfl) ?_
 try simp only [Act.put, List.setIfInBounds_toArray, List.set_cons_zero, List.set_cons_succ]
 refine ordx_run (o := ⟨some 7, _, _, _, _, _⟩) rfl rfl (fun K hK => ?_)
 go_wp2_with fail
 refine (int_any n _).mono ?_
 rintro e w7 ⟨rfl, hb⟩
 replace st := st.call hb; clear hb
 refine hK.out _ _ st ?_
 try simp only [Act.put, List.setIfInBounds_toArray, List.set_cons_zero, List.set_cons_succ]
 clear hK K
 refine ordx_run (o := ⟨some 8, _, _, _, _, _⟩) rfl rfl (fun K hK => ?_)
 go_wp2_with fail
 refine (mul_any l (intF n) (by first | omega | (simp; done) | (simp; omega)) (by first | omega | (simp; done) | (simp; omega)) bl bn _).mono ?_
 rintro e w8 ⟨rfl, hb⟩
 replace st := st.call hb; clear hb
 refine hK.out _ _ st ?_
 try simp only [Act.put, List.setIfInBounds_toArray, List.set_cons_zero, List.set_cons_succ]
 clear hK K
 refine ordx_store (o := ⟨none, .store 27 (.tmp 4) (.tmp 8), _, _, _, _⟩) rfl rfl 27 (.tmp 4) (.tmp 8) rfl g4 0 rfl (us (mulF l (intF n))) rfl 8 aggE.size (by first | omega | (simp; done) | (simp; omega)) st 0 _ _ rfl (by first | omega | (simp; done) | (simp; omega)) (us_one _) (us (mulF l (intF n))) (put_all _ _ 8 (by first | omega | (simp; done) | (simp; omega)) (by first | omega | (simp; done) | (simp; omega))) ?_
 clear st; intro w_0 st
 try simp only [Act.put, List.setIfInBounds_toArray, List.set_cons_zero, List.set_cons_succ]
 refine ordx_nil ?_
 go_wp2_with fail
 exact post_st rfl g4 rfl st 0 _ _ rfl 8 aggE (by first | omega | (simp; done) | (simp; omega)) rfl ⟨rfl, st.below⟩

end Go.Proofs.Ytdpongijmmdnoaa
/- (field.Element).strong: strong_head.txt with the lines of gen_strong.py -/
namespace Go.Proofs.Ytdpongijmmdnoaa
open Go.RowKit

theorem wrap_bd (x : Int) : 0 ≤ IntKind.u64.wrap x ∧ IntKind.u64.wrap x < 18446744073709551616 := by rw [IntKind.wrap_u64]; omega

theorem bd_set {l : List Int} (h : Bd l) (i : Nat) (v : Int) (hv : 0 ≤ v ∧ v < 18446744073709551616) : Bd (l.set i v) := by
 intro x hx
 rcases List.mem_or_eq_of_mem_set hx with h1 | h1
 ·exact h x h1
 ·rw [h1]; exact hv
theorem bd_get {l : List Int} (h : Bd l) (i : Nat) (hi : i < l.length) : 0 ≤ l.getD i 0 ∧ l.getD i 0 < 18446744073709551616 := by
 have : l.getD i 0 = l[i] := by simp [List.getD, hi]
 rw [this]; exact h _ (List.getElem_mem hi)
theorem carryTo_bd (l : List Int) (h : Bd l) (k : Nat) : Bd (carryTo l k).1 := by
 induction k with
 | zero => exact h
 | succ k ih => exact bd_set ih _ _ (by omega)
theorem carryF_bd (l : List Int) (h : Bd l) : Bd (carryF l) :=
 bd_set (bd_set (carryTo_bd l h 8) _ _ (by omega)) _ _ (by omega)

def strT (c : List Int) : Nat → List Int × Int
 | 0 => (c, 0)
 | k + 1 => ((strT c k).1.set k ((c.getD k 0 - IntKind.u64.wrap (primeL.getD k 0 + (strT c k).2)) % 72057594037927936), sbH (c.getD k 0) (IntKind.u64.wrap (primeL.getD k 0 + (strT c k).2)))
theorem strT_len (c : List Int) (k : Nat) : (strT c k).1.length = c.length := by
 induction k with
 | zero => rfl
 | succ k ih => simp [strT, ih]
def strongF (l : List Int) : List Int :=
 let c := carryF (carryF l)
 selF (wrap64 (IntKind.u64.wrap (1 - (strT c 8).2))) c (strT c 8).1
@[simp] theorem strongF_len (l : List Int) : (strongF l).length = 8 := by simp [strongF]

set_option maxRecDepth 100000 in
set_option maxHeartbeats 1000000 in
theorem strong_any (l : List Int) (ll : l.length = 8) (bl : Bd l) (w : World) :
 Calls Try.prog 50 #[AG (us l)] w fun e w' => e = .returned (AG (us (strongF l))) ∧ Below w.heap.size w w' := by
 go_enter Try.func50, Try.ntmps50
 have st := St.start w
 go_wp2_with (first
  | ((with_reducible show wpList _ _ _ (⟨some 1, _, _, _, _, _⟩ :: _) _ _); refine wpList_box_st (o := ⟨some 1, _, _, _, _, _⟩) rfl 27 (.tmp 0) rfl (us l) rfl st ?_; clear st; intro g1 w1 st)
  | ((with_reducible show wpList _ _ _ (⟨some 2, _, _, _, _, _⟩ :: _) _ _); refine wpList_alloc_st (o := ⟨some 2, _, _, _, _, _⟩) rfl 27 rfl (us zE) zisE st ?_; clear st; intro g2 w2 st)
  | ((with_reducible show wpList _ _ _ (⟨some 8, _, _, _, _, _⟩ :: _) _ _); refine wpList_load_st (o := ⟨some 8, _, _, _, _, _⟩) rfl 27 (.tmp 1) rfl g1 0 rfl 8 aggE st 1 _ _ (AG (us l)) rfl (by first | omega | (simp; done) | (simp; omega)) (cut_all _ 8 (by first | omega | (simp; done) | (simp; omega))) ?_))
 refine (carry_any l (by first | omega | (simp; done) | (simp; omega)) _).mono ?_
 rintro e w9 ⟨rfl, hb⟩
 replace st := st.call hb; clear hb
 go_wp2_with fail
 refine (carry_any (carryF l) (by first | omega | (simp; done) | (simp; omega)) _).mono ?_
 rintro e w10 ⟨rfl, hb⟩
 replace st := st.call hb; clear hb
 go_wp2_with ((with_reducible show wpList _ _ _ (⟨none, .store 27 (.tmp 1) (.tmp 10), _, _, _, _⟩ :: _) _ _); refine wpList_store_st (o := ⟨none, _, _, _, _, _⟩) rfl 27 (.tmp 1) (.tmp 10) rfl g1 0 rfl (us (carryF (carryF l))) rfl 8 aggE.size (by first | omega | (simp; done) | (simp; omega)) st 1 _ _ rfl (by first | omega | (simp; done) | (simp; omega)) (us_one _) (us (carryF (carryF l))) (put_all _ _ 8 (by first | omega | (simp; done) | (simp; omega)) (by first | omega | (simp; done) | (simp; omega))) ?_; clear st; intro w_0 st)
 refine (prime_any _).mono ?_
 rintro e w11 ⟨rfl, hb⟩
 replace st := st.call hb; clear hb
 go_wp2_with (first
  | ((with_reducible show wpList _ _ _ (⟨some 3, _, _, _, _, _⟩ :: _) _ _); refine wpList_alloc_st (o := ⟨some 3, _, _, _, _, _⟩) rfl 25 rfl (us zE) zis8 st ?_; clear st; intro g3 w3 st)
  | ((with_reducible show wpList _ _ _ (⟨none, .store 25 (.tmp 3) (.tmp 11), _, _, _, _⟩ :: _) _ _); refine wpList_store_st (o := ⟨none, _, _, _, _, _⟩) rfl 25 (.tmp 3) (.tmp 11) rfl g3 0 rfl (us primeL) rfl 8 agg8.size (by first | omega | (simp; done) | (simp; omega)) st 0 _ _ rfl (by first | omega | (simp; done) | (simp; omega)) (us_one _) (us primeL) (put_all _ _ 8 (by first | omega | (simp; done) | (simp; omega)) (by first | omega | (simp; done) | (simp; omega))) ?_; clear st; intro w_1 st)
  | ((with_reducible show wpList _ _ _ (⟨some 12, _, _, _, _, _⟩ :: _) _ _); refine wpList_load_st (o := ⟨some 12, _, _, _, _, _⟩) rfl 27 (.tmp 1) rfl g1 0 rfl 8 aggE st 2 _ _ (AG (us (carryF (carryF l)))) rfl (by first | omega | (simp; done) | (simp; omega)) (cut_all _ 8 (by first | omega | (simp; done) | (simp; omega))) ?_)
  | ((with_reducible show wpList _ _ _ (⟨some 5, _, _, _, _, _⟩ :: _) _ _); refine wpList_alloc_st (o := ⟨some 5, _, _, _, _, _⟩) rfl 27 rfl (us zE) zisE st ?_; clear st; intro g5 w5 st)
  | ((with_reducible show wpList _ _ _ (⟨none, .store 27 (.tmp 5) (.tmp 12), _, _, _, _⟩ :: _) _ _); refine wpList_store_st (o := ⟨none, _, _, _, _, _⟩) rfl 27 (.tmp 5) (.tmp 12) rfl g5 0 rfl (us (carryF (carryF l))) rfl 8 aggE.size (by first | omega | (simp; done) | (simp; omega)) st 0 _ _ rfl (by first | omega | (simp; done) | (simp; omega)) (us_one _) (us (carryF (carryF l))) (put_all _ _ 8 (by first | omega | (simp; done) | (simp; omega)) (by first | omega | (simp; done) | (simp; omega))) ?_; clear st; intro w_2 st))
 have lc : (carryF (carryF l)).length = 8 := by simp [ll]
 have bc := hide (fun i (hi : i < 8) => bd_get (carryF_bd _ (carryF_bd _ bl)) i (by rw [lc]; exact hi))
 generalize hc : carryF (carryF l) = c at st lc bc
 have Hc := hide hc; clear hc
 go_loopw [4, 13] (fun t i wr => ∃ k : Nat, k ≤ 8 ∧ i = .int .i64 k ∧ t = .int .u64 (strT c k).2 ∧ St w wr [(g5, us (strT c k).1, 27), (g3, us primeL, 25), (g2, us zE, 27), (g1, us c, 27)]) (fun _ i _ => 8 - (intOf i).toNat)
 case atStart => exact ⟨0, by omega, rfl, rfl, st⟩
 case round =>
  obtain ⟨k, hk, rfl, rfl, st'⟩ := hrel
  clear st
  have st := st'; clear st'
  have lb : (strT c k).1.length = 8 := by rw [strT_len]; exact lc
  generalize hq : strT c k = q at st lb
  obtain ⟨b, o⟩ := q
  have Hq := hide hq; clear hq
  dsimp only at st lb
  by_cases kl : k < 8
  ·have kl' : (k : Int) < 8 := by omega
   have Lb := hide lb; clear lb
   go_wp2_with fail
   go_wp2_with fail
   refine wp_region_ordx [(0, 0), (1, 0), (2, 0), (3, 0), (4, 0), (5, 0), (6, 0), (7, 0), (8, 0), (9, 0), (10, 0), (11, 0), (12, 0), (13, 0), (14, 0)] (fun W => St w W [(g5, us b, 27), (g3, us primeL, 25), (g2, us zE, 27), (g1, us c, 27)]) (by kernel_rfl) (by kernel_rfl) (by kernel_rfl) (fun _ _ d _ _ h => by cases d <;> exact h) st.drew ?_
   replace st := st.drew
   refine ordx_quiet (o := ⟨some 17, _, _, _, _, _⟩) (v := (.int .i64 (↑k))) rfl rfl (fun _ _ => rfl) ?_
   try simp only [Act.put, List.setIfInBounds_toArray, List.set_cons_zero, List.set_cons_succ]
   refine ordx_quiet (o := ⟨some 18, _, _, _, _, _⟩) (v := (.pointer (some ⟨g1, 0, none⟩))) rfl rfl (fun _ _ => by go_simp) ?_
   try simp only [Act.put, List.setIfInBounds_toArray, List.set_cons_zero, List.set_cons_succ]
   refine ordx_quiet (o := ⟨some 19, _, _, _, _, _⟩) (v := (.pointer (some ⟨g1, k, none⟩))) rfl rfl (fun _ _ => by go_simp) ?_
   try simp only [Act.put, List.setIfInBounds_toArray, List.set_cons_zero, List.set_cons_succ]
   refine ordx_load1 (o := ⟨some 20, _, _, _, _, _⟩) rfl rfl 24 (.tmp 19) rfl g1 k rfl na64 _ _ (.int .u64 (c.getD k 0)) (fun W hS => hS.get 3 rfl) (us_get _ _ (by rw [lc]; omega)) ?_
   try simp only [Act.put, List.setIfInBounds_toArray, List.set_cons_zero, List.set_cons_succ]
   refine ordx_quiet (o := ⟨some 21, _, _, _, _, _⟩) (v := (.int .i64 (↑k))) rfl rfl (fun _ _ => rfl) ?_
   try simp only [Act.put, List.setIfInBounds_toArray, List.set_cons_zero, List.set_cons_succ]
   refine ordx_quiet (o := ⟨some 22, _, _, _, _, _⟩) (v := (.pointer (some ⟨g3, k, none⟩))) rfl rfl (fun _ _ => by go_simp) ?_
   try simp only [Act.put, List.setIfInBounds_toArray, List.set_cons_zero, List.set_cons_succ]
   refine ordx_load1 (o := ⟨some 23, _, _, _, _, _⟩) rfl rfl 24 (.tmp 22) rfl g3 k rfl na64 _ _ (.int .u64 (primeL.getD k 0)) (fun W hS => hS.get 1 rfl) (us_get _ _ (by rw [primeL_len]; omega)) ?_
   try simp only [Act.put, List.setIfInBounds_toArray, List.set_cons_zero, List.set_cons_succ]
   refine ordx_quiet (o := ⟨some 24, _, _, _, _, _⟩) (v := (.int .u64 o)) rfl rfl (fun _ _ => rfl) ?_
   try simp only [Act.put, List.setIfInBounds_toArray, List.set_cons_zero, List.set_cons_succ]
   refine ordx_quiet (o := ⟨some 25, _, _, _, _, _⟩) (v := (.int .u64 (IntKind.u64.wrap (primeL.getD k 0 + o)))) rfl rfl (fun _ _ => by go_simp) ?_
   try simp only [Act.put, List.setIfInBounds_toArray, List.set_cons_zero, List.set_cons_succ]
   refine ordx_call_ext (o := ⟨some 26, _, _, _, _, _⟩) rfl rfl 59 [(.tmp 20), (.tmp 25), (.const (.int .u64 0))] _ rfl [(.int .u64 (c.getD k 0)), (.int .u64 (IntKind.u64.wrap (primeL.getD k 0 + o))), (.int .u64 0)] rfl (.tuple #[.int .u64 (sbL (c.getD k 0) (IntKind.u64.wrap (primeL.getD k 0 + o))), .int .u64 (sbH (c.getD k 0) (IntKind.u64.wrap (primeL.getD k 0 + o)))]) (sub64_call _ _ (bc.out _ kl).1 (bc.out _ kl).2 (wrap_bd _).1 (wrap_bd _).2) ?_
   try simp only [Act.put, List.setIfInBounds_toArray, List.set_cons_zero, List.set_cons_succ]
   refine ordx_quiet (o := ⟨some 16, _, _, _, _, _⟩) (v := (.tuple #[.int .u64 (sbL (c.getD k 0) (IntKind.u64.wrap (primeL.getD k 0 + o))), .int .u64 (sbH (c.getD k 0) (IntKind.u64.wrap (primeL.getD k 0 + o)))])) rfl rfl (fun _ _ => rfl) ?_
   try simp only [Act.put, List.setIfInBounds_toArray, List.set_cons_zero, List.set_cons_succ]
   refine ordx_quiet (o := ⟨some 27, _, _, _, _, _⟩) (v := (.int .u64 (sbL (c.getD k 0) (IntKind.u64.wrap (primeL.getD k 0 + o))))) rfl rfl (fun _ _ => by go_simp) ?_
   try simp only [Act.put, List.setIfInBounds_toArray, List.set_cons_zero, List.set_cons_succ]
   refine ordx_quiet (o := ⟨some 28, _, _, _, _, _⟩) (v := (.int .u64 (sbH (c.getD k 0) (IntKind.u64.wrap (primeL.getD k 0 + o))))) rfl rfl (fun _ _ => by go_simp) ?_
   try simp only [Act.put, List.setIfInBounds_toArray, List.set_cons_zero, List.set_cons_succ]
   refine ordx_quiet (o := ⟨some 7, _, _, _, _, _⟩) (v := (.int .u64 (sbL (c.getD k 0) (IntKind.u64.wrap (primeL.getD k 0 + o))))) rfl rfl (fun _ _ => rfl) ?_
   try simp only [Act.put, List.setIfInBounds_toArray, List.set_cons_zero, List.set_cons_succ]
   refine ordx_quiet (o := ⟨some 4, _, _, _, _, _⟩) (v := (.int .u64 (sbH (c.getD k 0) (IntKind.u64.wrap (primeL.getD k 0 + o))))) rfl rfl (fun _ _ => rfl) ?_
   try simp only [Act.put, List.setIfInBounds_toArray, List.set_cons_zero, List.set_cons_succ]
   refine ordx_nil ?_
   generalize hd : sbL (c.getD k 0) (IntKind.u64.wrap (primeL.getD k 0 + o)) = d
   generalize hs : sbH (c.getD k 0) (IntKind.u64.wrap (primeL.getD k 0 + o)) = s
   have Hd := hide hd; clear hd
   have Hs := hide hs; clear hs
   simp only [Exit.then]
   go_wp2_with ((with_reducible show wpList _ _ _ (⟨none, .store 24 (.tmp 33) (.tmp 31), _, _, _, _⟩ :: _) _ _); refine wpList_store_st (o := ⟨none, _, _, _, _, _⟩) rfl 24 (.tmp 33) (.tmp 31) rfl g5 k rfl ([(.int .u64 (bits .and .u64 d 72057594037927935))]) rfl 1 sz64 (by first | omega | (simp; done) | (simp; omega)) st 0 _ _ rfl (by simp only [us_len, Lb.out, List.length_cons, List.length_nil]; omega) (by intro x hx; simp at hx; subst hx; rfl) (us (b.set k (bits .and .u64 d 72057594037927935))) (put_us _ _ _ (by rw [Lb.out]; omega)) ?_; clear st; intro w_0 st)
   go_wp2_with fail
   go_roundw
   case rel =>
    refine ⟨k + 1, by omega, by go_num, ?_, ?_⟩
    ·rw [strT, Hq.out]; simp only [Hs.out]
    ·rw [strT, Hq.out]
     simp only
     have e := and_mask (c.getD k 0 - IntKind.u64.wrap (primeL.getD k 0 + o)) 56 (by omega)
     rw [show (c.getD k 0 - IntKind.u64.wrap (primeL.getD k 0 + o)) % 18446744073709551616 = d from Hd.out] at e
     rw [show (c.getD k 0 - IntKind.u64.wrap (primeL.getD k 0 + o)) % 72057594037927936 = bits .and .u64 d 72057594037927935 from e.symm]
     exact st
   case measure => simp [intOf]; omega
  ·have : k = 8 := by omega
   subst this
   rw [show ((8 : Nat) : Int) = 8 from rfl]
   go_wp2_with (first
    | ((with_reducible show wpList _ _ _ (⟨some 38, _, _, _, _, _⟩ :: _) _ _); refine wpList_load_st (o := ⟨some 38, _, _, _, _, _⟩) rfl 27 (.tmp 1) rfl g1 0 rfl 8 aggE st 3 _ _ (AG (us c)) rfl (by first | omega | (simp; done) | (simp; omega)) (cut_all _ 8 (by first | omega | (simp; done) | (simp; omega))) ?_)
    | ((with_reducible show wpList _ _ _ (⟨some 39, _, _, _, _, _⟩ :: _) _ _); refine wpList_load_st (o := ⟨some 39, _, _, _, _, _⟩) rfl 27 (.tmp 5) rfl g5 0 rfl 8 aggE st 0 _ _ (AG (us b)) rfl (by first | omega | (simp; done) | (simp; omega)) (cut_all _ 8 (by first | omega | (simp; done) | (simp; omega))) ?_))
   refine (select_any (wrap64 (IntKind.u64.wrap (1 - o))) c b (by first | omega | (simp; done) | (simp; omega)) lb _).mono ?_
   rintro e w40 ⟨rfl, hb⟩
   replace st := st.call hb; clear hb
   go_wp2_with ((with_reducible show wpList _ _ _ (⟨none, .store 27 (.tmp 2) (.tmp 40), _, _, _, _⟩ :: _) _ _); refine wpList_store_st (o := ⟨none, _, _, _, _, _⟩) rfl 27 (.tmp 2) (.tmp 40) rfl g2 0 rfl (us (selF (wrap64 (IntKind.u64.wrap (1 - o))) c b)) rfl 8 aggE.size (by first | omega | (simp; done) | (simp; omega)) st 2 _ _ rfl (by first | omega | (simp; done) | (simp; omega)) (us_one _) (us (selF (wrap64 (IntKind.u64.wrap (1 - o))) c b)) (put_all _ _ 8 (by first | omega | (simp; done) | (simp; omega)) (by first | omega | (simp; done) | (simp; omega))) ?_; clear st; intro w_0 st)
   exact post_st rfl g2 rfl st 2 _ _ rfl 8 aggE (by simp) rfl ⟨by rw [strongF, Hc.out]; simp only [Hq.out]; rfl, st.below⟩
end Go.Proofs.Ytdpongijmmdnoaa
