/- math/bits: Add64, Sub64 (the model's own entries), Mul64 (walked). -/
import Derived.Test.YtdpongijmmdnoaaTyp
import Derived.Test.YtdpongijmmdnoaaNum
namespace Go.Proofs.Ytdpongijmmdnoaa
open Go.RowKit

section
variable {P : Program} {ops : Array Oper} {rest : List Oper} {o : Oper} {a : Act} {w : World} {Q : Exit → Act → World → Prop} {S : World → Prop}

theorem run_call_ext {ρ : Operand → Value} (f : FuncId) (xs : List Operand) (ts : Array TypeId) (ho : o.op = .call { callee := .value (.func f), args := xs.toArray, argTypes := ts })
    (hf : ρ (.func f) = .func (.func f) #[] #[]) (vs : List Value) (hvs : xs.map ρ = vs) (v : Value) (W : World) (hrun : (callFunc f vs.toArray).run P W = .ok (.value v) W) :
    (execOp ρ o).run P W = .ok (.value v) W := by
  unfold execOp
  simp only [ho, resolve, List.map_toArray, hvs, hf, Deferred.ofValue, Sem.run_bind, Sem.run_pure, Result.andThen_ok, invoke]
  simpa using hrun

/-- a call that the model answers at once -/
theorem wpList_call_ext (hgd : o.guard = none) (f : FuncId) (xs : List Operand) (ts : Array TypeId) (ho : o.op = .call { callee := .value (.func f), args := xs.toArray, argTypes := ts })
    (vs : List Value) (hvs : xs.map a.eval = vs) (v : Value) (hrun : ∀ W, (callFunc f vs.toArray).run P W = .ok (.value v) W)
    (h : wpList P ops Q rest (a.put o.dst v) w) : wpList P ops Q (o :: rest) a w := by
  refine wpList_plain hgd fun _ hK => ?_
  unfold Oper.wp
  rw [run_call_ext (ρ := a.eval) f xs ts ho rfl vs hvs v w (hrun w)]
  exact hK _ _ h

theorem runOrd_call_ext {i : Nat} {r : List (Nat × Bool)} (ho : ops[i]? = some o)
    (hw : Region.wanted o (yielded ops a.tmps) = true) (f : FuncId) (xs : List Operand) (ts : Array TypeId) (hop : o.op = .call { callee := .value (.func f), args := xs.toArray, argTypes := ts })
    (vs : List Value) (hvs : xs.map a.eval = vs) (v : Value) (hrun : ∀ W, (callFunc f vs.toArray).run P W = .ok (.value v) W)
    (h : RunOrd P ops Q S r (a.put o.dst v) w) : RunOrd P ops Q S ((i, true) :: r) a w :=
  runOrd_quiet ho hw (fun W _ => run_call_ext f xs ts hop rfl vs hvs v W (hrun W)) h
end

/-- the model's entry for math/bits.Sub64 -/
def sub64Entry : Array Value → Sem Value := fun args => do
  let (x, y, b) ← Extern.MathBitsCarry.three "Sub64" args
  pure (Extern.MathBitsCarry.pair ((x + Extern.MathBitsCarry.m64 - y - b) % Extern.MathBitsCarry.m64) (if x < y + b then 1 else 0))

/-- the sum's low word -/
def adL (x y c : Int) : Int := (x + y + c) % 18446744073709551616
/-- what goes over -/
def adH (x y c : Int) : Int := (x + y + c) / 18446744073709551616

theorem add64_call (x y c : Int) (hx : 0 ≤ x) (hy : 0 ≤ y) (hc0 : 0 ≤ c) (hc : c ≤ 1) (W : World) :
    (callFunc 61 #[.int .u64 x, .int .u64 y, .int .u64 c]).run Try.prog W =
      .ok (.value (.tuple #[.int .u64 (adL x y c), .int .u64 (adH x y c)])) W := by
  rw [run_callFunc_extern Try.func61 (by kernel_rfl) (by kernel_rfl) (by kernel_rfl) (e := add64Entry) (by kernel_rfl), run_add64 x y c hx hy hc0 hc]
  rfl

/-- the difference's low word, and what is lent -/
def sbL (x y : Int) : Int := (x - y) % 18446744073709551616
def sbH (x y : Int) : Int := if x < y then 1 else 0

theorem sub64_call (x y : Int) (hx : 0 ≤ x) (hx' : x < 18446744073709551616) (hy : 0 ≤ y) (hy' : y < 18446744073709551616) (W : World) :
    (callFunc 59 #[.int .u64 x, .int .u64 y, .int .u64 0]).run Try.prog W =
      .ok (.value (.tuple #[.int .u64 (sbL x y), .int .u64 (sbH x y)])) W := by
  obtain ⟨m, rfl⟩ := Int.eq_ofNat_of_zero_le hx
  obtain ⟨n, rfl⟩ := Int.eq_ofNat_of_zero_le hy
  rw [run_callFunc_extern Try.func59 (by kernel_rfl) (by kernel_rfl) (by kernel_rfl) (e := sub64Entry) (by kernel_rfl)]
  have : (sub64Entry #[.int .u64 (m : Int), .int .u64 (n : Int), .int .u64 0]).run Try.prog W = .ok (Extern.MathBitsCarry.pair ((m + Extern.MathBitsCarry.m64 - n - 0) % Extern.MathBitsCarry.m64) (if m < n + 0 then 1 else 0)) W := rfl
  rw [this]
  have e1 : (((m + 18446744073709551616 - n - 0) % 18446744073709551616 : Nat) : Int) = ((m : Int) - n) % 18446744073709551616 := by omega
  have e2 : (((if m < n + 0 then 1 else 0 : Nat)) : Int) = if (m : Int) < n then 1 else 0 := by split <;> split <;> omega
  have e3 : Extern.MathBitsCarry.m64 = 18446744073709551616 := rfl
  simp only [Extern.MathBitsCarry.pair, Result.andThen, e3, Int.ofNat_eq_natCast, e1, e2, sbL, sbH]

theorem tup2 {a b c d : Int} (h : a = c) (h' : b = d) : Ending.returned (.tuple #[.int .u64 a, .int .u64 b]) = .returned (.tuple #[.int .u64 c, .int .u64 d]) := by rw [h, h']

set_option maxHeartbeats 1000000 in
theorem mul64_any (x y : Int) (hx0 : 0 ≤ x) (hx : x < 18446744073709551616) (hy0 : 0 ≤ y) (hy : y < 18446744073709551616) (w : World) :
    Calls Try.prog 60 #[.int .u64 x, .int .u64 y] w
      fun e w' => e = .returned (.tuple #[.int .u64 (x * y / 18446744073709551616), .int .u64 (x * y % 18446744073709551616)]) ∧ Below w.heap.size w w' := by
  go_enter Try.func60, Try.ntmps60
  go_wp2
  go_ret2
  refine ⟨tup2 ?_ ?_, Below.refl _ _⟩
  · have ex : bits BinOp.and IntKind.u64 x 4294967295 = x % 4294967296 := by
      have := and_mask x 32 (by omega); rwa [Int.emod_eq_of_lt hx0 hx] at this
    have ey : bits BinOp.and IntKind.u64 y 4294967295 = y % 4294967296 := by
      have := and_mask y 32 (by omega); rwa [Int.emod_eq_of_lt hy0 hy] at this
    rw [← mul64_arith x y hx0 hx hy0 hy]
    simp only [ex, ey, IntKind.wrap_u64]
    have em : ∀ s : Int, bits BinOp.and IntKind.u64 (s % 18446744073709551616) 4294967295 = (s % 18446744073709551616) % 4294967296 := fun s => by
      have := and_mask (s % 18446744073709551616) 32 (by omega)
      rwa [Int.emod_emod_of_dvd _ (Int.dvd_refl _)] at this
    rw [em]
  · rw [IntKind.wrap_u64]
end Go.Proofs.Ytdpongijmmdnoaa
