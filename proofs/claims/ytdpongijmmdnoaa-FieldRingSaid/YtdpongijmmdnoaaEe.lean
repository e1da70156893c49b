/- contracts with the elements told -/
import Derived.Test.YtdpongijmmdnoaaAwk
import Derived.Test.YtdpongijmmdnoaaStab
namespace Go.Proofs.Ytdpongijmmdnoaa
open Go.RowKit FdP FdP.Ch

theorem add_e {l m : List Int} {a b : F} (hl : E l a) (hm : E m b) (w : World) : Calls Try.prog 14 #[AG (us l), AG (us m)] w fun e w' => e = .returned (AG (us (addF l m))) ∧ Below w.heap.size w w' := add_any l m hl.len hm.len w
theorem sub_e {l m : List Int} {a b : F} (hl : E l a) (hm : E m b) (w : World) : Calls Try.prog 16 #[AG (us l), AG (us m)] w fun e w' => e = .returned (AG (us (subF l m))) ∧ Below w.heap.size w w' := sub_any l m hl.len hm.len w
theorem mul_e {l m : List Int} {a b : F} (hl : E l a) (hm : E m b) (w : World) : Calls Try.prog 34 #[AG (us l), AG (us m)] w fun e w' => e = .returned (AG (us (mulF l m))) ∧ Below w.heap.size w w' := mul_any l m hl.len hm.len hl.bd hm.bd w
theorem square_e {l : List Int} {a : F} (hl : E l a) (w : World) : Calls Try.prog 38 #[AG (us l)] w fun e w' => e = .returned (AG (us (mulF l l))) ∧ Below w.heap.size w w' := square_any l hl.len hl.bd w
theorem neg_e {l : List Int} {a : F} (hl : E l a) (w : World) : Calls Try.prog 18 #[AG (us l)] w fun e w' => e = .returned (AG (us (negF l))) ∧ Below w.heap.size w w' := neg_any l hl.len w
theorem times_e {l : List Int} {a : F} (hl : E l a) (n : Int) (w : World) : Calls Try.prog 39 #[AG (us l), .int .i64 n] w fun e w' => e = .returned (AG (us (mulF l (intF n)))) ∧ Below w.heap.size w w' := times_any l n hl.len hl.bd (intF_bd n) w
theorem equal_e {l m : List Int} {a b : F} (hl : E l a) (hm : E m b) (v : Bool) (hv : decide (a = b) = v) (w : World) : Calls Try.prog 22 #[AG (us l), AG (us m)] w fun e w' => e = .returned (.bool v) ∧ Below w.heap.size w w' := by
  have := equal_any l m hl.len hm.len w
  rwa [eq_law hl hm, hv] at this
theorem zero_e {l : List Int} {a : F} (hl : E l a) (v : Bool) (hv : decide (a = 0) = v) (w : World) : Calls Try.prog 24 #[AG (us l)] w fun e w' => e = .returned (.bool v) ∧ Below w.heap.size w w' := by
  have := zero_any l hl.len hl.bd w
  rwa [zero_law hl, hv] at this
theorem times_E {l : List Int} {a : F} (hl : E l a) (n : Int) (h0 : -9223372036854775808 ≤ n) (h1 : n < 9223372036854775808) : E (mulF l (intF n)) (a * z n) := mul_E hl (int_E n h0 h1)
end Go.Proofs.Ytdpongijmmdnoaa
