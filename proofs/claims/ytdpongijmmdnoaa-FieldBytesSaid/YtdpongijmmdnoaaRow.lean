/- Rows of numbers of 128 bits; an array's element. -/
import Derived.Test.YtdpongijmmdnoaaWide
import Derived.Test.YtdpongijmmdnoaaOrd
namespace Go.Proofs.Ytdpongijmmdnoaa
open Go.RowKit

/-- the words of numbers of 128 bits -/
def wds (ns : List Int) : List Int := ns.flatMap fun n => [n / 18446744073709551616, n % 18446744073709551616]
theorem wds_cons (n : Int) (ns : List Int) : wds (n :: ns) = [n / 18446744073709551616, n % 18446744073709551616] ++ wds ns := rfl
@[simp] theorem wds_len (ns : List Int) : (wds ns).length = 2 * ns.length := by
  induction ns with
  | nil => rfl
  | cons n ns ih => rw [wds_cons]; simp [ih]; omega

theorem wds_get : ∀ (ns : List Int) (i : Nat), i < ns.length → ((wds ns).drop (i * 2)).take 2 = [ns.getD i 0 / 18446744073709551616, ns.getD i 0 % 18446744073709551616]
  | [], i, h => by simp at h
  | n :: ns, 0, _ => by rw [wds_cons]; rfl
  | n :: ns, i + 1, h => by
    have := wds_get ns i (by simpa using h)
    rw [wds_cons, show (i + 1) * 2 = i * 2 + 2 by omega]
    simpa [List.getD] using this

theorem wds_set : ∀ (ns : List Int) (i : Nat) (v : Int), i < ns.length →
    (wds ns).take (i * 2) ++ [v / 18446744073709551616, v % 18446744073709551616] ++ (wds ns).drop (i * 2 + 2) = wds (ns.set i v)
  | [], i, v, h => by simp at h
  | n :: ns, 0, v, _ => by simp [wds_cons]
  | n :: ns, i + 1, v, h => by
    have := wds_set ns i v (by simpa using h)
    rw [List.set_cons_succ, wds_cons, wds_cons, ← this, show (i + 1) * 2 = i * 2 + 2 by omega, show i * 2 + 2 + 2 = (i * 2 + 2) + 2 from rfl]
    simp

theorem us_app (a b : List Int) : us (a ++ b) = us a ++ us b := by simp [us]
theorem us_take (a : List Int) (n : Nat) : (us a).take n = us (a.take n) := by simp [us]
theorem us_drop (a : List Int) (n : Nat) : (us a).drop n = us (a.drop n) := by simp [us]

/-- a wide out of a row -/
theorem cut_wd (ns : List Int) (i : Nat) (h : i < ns.length) : WD (ns.getD i 0) = .agg (((us (wds ns)).drop (i * 2)).take 2).toArray := by
  rw [us_drop, us_take, wds_get ns i h]; rfl
/-- a wide into a row -/
theorem put_wd (ns : List Int) (i : Nat) (v : Int) (h : i < ns.length) :
    us (wds (ns.set i v)) = (us (wds ns)).take (i * 2) ++ us [v / 18446744073709551616, v % 18446744073709551616] ++ (us (wds ns)).drop (i * 2 + (us [v / 18446744073709551616, v % 18446744073709551616]).length) := by
  rw [show (us [v / 18446744073709551616, v % 18446744073709551616]).length = 2 from rfl, us_take, us_drop, ← us_app, ← us_app, wds_set ns i v h]

theorem put_us (l : List Int) (i : Nat) (v : Int) (h : i < l.length) : us (l.set i v) = (us l).take i ++ [.int .u64 v] ++ (us l).drop (i + [Value.int .u64 v].length) := by
  rw [List.length_singleton, us_take, us_drop]
  have : us (l.set i v) = us (l.take i ++ [v] ++ l.drop (i + 1)) := by
    congr 1
    rw [List.set_eq_take_append_cons_drop, if_pos h]; simp
  rw [this, us_app, us_app]; rfl

theorem fieldW1 (n : Int) (W : World) : (Instr.field 76 (WD n) 1).run Try.prog W = .ok (.int .u64 (n % 18446744073709551616)) W := by
  have hna := na64 W
  have hu := run_underlying Try.underlying76 W
  unfold Instr.field
  simp only [Sem.run_bind, hu, Result.andThen_ok, WD, AG, asAgg, Sem.run_pure]
  simp [part, Sem.run_bind, hna, us]

/-- an element of an array of words -/
theorem index8 (l : List Int) (hl : l.length = 8) (k : Nat) (hk : k < 8) (W : World) :
    (Instr.index 25 (AG (us l)) (.int .i64 k)).run Try.prog W = .ok (.int .u64 (l.getD k 0)) W := by
  have hna := na64 W
  have hsz : (sizeOf 24).run Try.prog W = .ok 1 W := by kernel_rfl
  have hu := run_underlying Try.underlying25 W
  unfold Instr.index
  simp only [asIntOf, Sem.run_bind, Sem.run_pure, Result.andThen_ok, hu, AG]
  have h0 : (0 : Int) ≤ (k : Int) ∧ (k : Int) < ((8 : Nat) : Int) := by omega
  rw [if_pos h0]
  have hg : (us l).toArray[k]? = some (.int .u64 (l.getD k 0)) := by simpa using us_get l k (by omega)
  simp only [Sem.run_bind, hsz, Result.andThen_ok, part, hna, Int.toNat_natCast, Nat.mul_one, hg, Bool.false_eq_true, if_false, Sem.run_pure]

theorem wover_any (n : Int) (hn : 0 ≤ n) (w : World) :
    Calls Try.prog 57 #[WD n] w fun e w' => e = .returned (WD (n / 72057594037927936)) ∧ Below w.heap.size w w' := by
  refine (wover_core (n / 18446744073709551616) (n % 18446744073709551616) (by omega) (by omega) w).mono ?_
  rintro e w' ⟨rfl, hb⟩
  refine ⟨wd_eq (by omega) ?_, hb⟩
  rw [IntKind.wrap_u64]
  have e1 : (n / 18446744073709551616 * 256) % 18446744073709551616 = ((((n / 18446744073709551616 * 256) % 18446744073709551616).toNat : Nat) : Int) := by omega
  have e2 : (n % 18446744073709551616) / 72057594037927936 = ((((n % 18446744073709551616) / 72057594037927936).toNat : Nat) : Int) := by omega
  rw [e1, e2, bits_or_u64_nat _ _ (by omega) (by omega), nat_join 8 _ _ (by omega) (by omega)]
  omega
end Go.Proofs.Ytdpongijmmdnoaa
