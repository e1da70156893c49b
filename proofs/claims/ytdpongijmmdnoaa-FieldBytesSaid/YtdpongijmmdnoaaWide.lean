/- field.wide: numbers of 128 bits: WRITTEN BY gen_wide.py -/
import Derived.Test.YtdpongijmmdnoaaBit
import Derived.Test.YtdpongijmmdnoaaFb
namespace Go.Proofs.Ytdpongijmmdnoaa
open Go.RowKit

/-- a number of 128 bits, in two words -/
def WD (n : Int) : Value := AG (us [n / 18446744073709551616, n % 18446744073709551616])
theorem wd_eq {x y n : Int} (hx : x = n / 18446744073709551616) (hy : y = n % 18446744073709551616) : Ending.returned (AG (us [x, y])) = .returned (WD n) := by rw [hx, hy]; rfl

theorem aggW : AggSize Try.prog 76 2 := ⟨_, Try.underlying76, rfl, by kernel_rfl⟩
theorem zeroW (W : World) : (zeroValue 76).run Try.prog W = .ok (.agg (us [0, 0]).toArray) W := by kernel_rfl
theorem zisW : ZeroIs Try.prog 76 (us [0, 0]) := .agg zeroW
theorem na64 (W : World) : (isAgg 24).run Try.prog W = .ok false W := by kernel_rfl
theorem mul_lt (a b : Int) (ha : 0 ≤ a) (ha' : a < 18446744073709551616) (hb : 0 ≤ b) (hb' : b < 18446744073709551616) : 0 ≤ a * b ∧ a * b < 340282366920938463463374607431768211456 := by
  refine ⟨Int.mul_nonneg ha hb, ?_⟩
  have := Int.mul_le_mul (show a ≤ 18446744073709551615 by omega) (show b ≤ 18446744073709551615 by omega) hb (by omega)
  omega
theorem build_W (h l : Int) (W : World) : (Instr.build 76 [((0 : Nat), Value.int .u64 h), (1, .int .u64 l)].toArray).run Try.prog W = .ok (AG (us [h, l])) W := by
  refine run_build_struct zeroW Try.underlying76 (places := #[(0, 1), (1, 1)]) (fun _ => by kernel_rfl) ?_ W
  rw [fill_one (off := 0) (vs := [.int .u64 h]) rfl rfl (by simp), fill_one (off := 1) (vs := [.int .u64 l]) rfl rfl (by simp)]
  rfl

set_option maxHeartbeats 400000 in
theorem wadd_core (h l i k : Int) (hh : 0 ≤ h) (hl : 0 ≤ l) (hl' : l < 18446744073709551616) (hi : 0 ≤ i) (hk : 0 ≤ k) (hk' : k < 18446744073709551616) (w : World) :
    Calls Try.prog 56 #[(AG (us [h, l])), (AG (us [i, k]))] w fun e w' => e = .returned (AG (us [adL h i (adH l k 0), adL l k 0])) ∧ Below w.heap.size w w' := by
  have hc : 0 ≤ adH l k 0 ∧ adH l k 0 ≤ 1 := by unfold adH; omega
  go_enter Try.func56, Try.ntmps56
  have st := St.start w
  go_wp2_with (first
    | ((with_reducible show wpList _ _ _ (⟨some 2, _, _, _, _, _⟩ :: _) _ _); refine wpList_box_st (o := ⟨some 2, _, _, _, _, _⟩) rfl 76 (.tmp 0) rfl (us [h, l]) rfl st ?_; clear st; intro g2 w2 st)
    | ((with_reducible show wpList _ _ _ (⟨some 3, _, _, _, _, _⟩ :: _) _ _); refine wpList_box_st (o := ⟨some 3, _, _, _, _, _⟩) rfl 76 (.tmp 1) rfl (us [i, k]) rfl st ?_; clear st; intro g3 w3 st)
    | ((with_reducible show wpList _ _ _ (⟨some 4, _, _, _, _, _⟩ :: _) _ _); refine wpList_alloc_st (o := ⟨some 4, _, _, _, _, _⟩) rfl 76 rfl (us [0, 0]) zisW st ?_; clear st; intro g4 w4 st)
    | ((with_reducible show wpList _ _ _ (⟨some 11, _, _, _, _, _⟩ :: _) _ _); refine wpList_load1_st (o := ⟨some 11, _, _, _, _, _⟩) rfl 24 (.tmp 10) rfl g2 1 rfl na64 st 2 _ _ (.int .u64 l) rfl rfl ?_)
    | ((with_reducible show wpList _ _ _ (⟨some 13, _, _, _, _, _⟩ :: _) _ _); refine wpList_load1_st (o := ⟨some 13, _, _, _, _, _⟩) rfl 24 (.tmp 12) rfl g3 1 rfl na64 st 1 _ _ (.int .u64 k) rfl rfl ?_)
    | ((with_reducible show wpList _ _ _ (⟨some 14, _, _, _, _, _⟩ :: _) _ _); refine wpList_call_ext (o := ⟨some 14, _, _, _, _, _⟩) rfl 61 [(.tmp 11), (.tmp 13), (.const (.int .u64 0))] _ rfl [(.int .u64 l), (.int .u64 k), (.int .u64 0)] rfl (.tuple #[.int .u64 (adL l k 0), .int .u64 (adH l k 0)]) (add64_call _ _ _ (by omega) (by omega) (by omega) (by omega)) ?_)
    | ((with_reducible show wpList _ _ _ (⟨some 19, _, _, _, _, _⟩ :: _) _ _); refine wpList_load1_st (o := ⟨some 19, _, _, _, _, _⟩) rfl 24 (.tmp 18) rfl g2 0 rfl na64 st 2 _ _ (.int .u64 h) rfl rfl ?_)
    | ((with_reducible show wpList _ _ _ (⟨some 21, _, _, _, _, _⟩ :: _) _ _); refine wpList_load1_st (o := ⟨some 21, _, _, _, _, _⟩) rfl 24 (.tmp 20) rfl g3 0 rfl na64 st 1 _ _ (.int .u64 i) rfl rfl ?_)
    | ((with_reducible show wpList _ _ _ (⟨some 23, _, _, _, _, _⟩ :: _) _ _); refine wpList_call_ext (o := ⟨some 23, _, _, _, _, _⟩) rfl 61 [(.tmp 19), (.tmp 21), (.tmp 22)] _ rfl [(.int .u64 h), (.int .u64 i), (.int .u64 (adH l k 0))] rfl (.tuple #[.int .u64 (adL h i (adH l k 0)), .int .u64 (adH h i (adH l k 0))]) (add64_call _ _ _ (by omega) (by omega) hc.1 hc.2) ?_)
    | ((with_reducible show wpList _ _ _ (⟨some 28, _, _, _, _, _⟩ :: _) _ _); refine wpList_build (o := ⟨some 28, _, _, _, _, _⟩) rfl 76 [(0, (.tmp 26)), (1, (.tmp 27))] rfl [(0, (.int .u64 (adL h i (adH l k 0)))), (1, (.int .u64 (adL l k 0)))] rfl (AG (us [(adL h i (adH l k 0)), (adL l k 0)])) (build_W (adL h i (adH l k 0)) (adL l k 0)) ?_)
    | ((with_reducible show wpList _ _ _ (⟨none, .store 76 (.tmp 4) (.tmp 28), _, _, _, _⟩ :: _) _ _); refine wpList_store_st (o := ⟨none, _, _, _, _, _⟩) rfl 76 (.tmp 4) (.tmp 28) rfl g4 0 rfl (us [(adL h i (adH l k 0)), (adL l k 0)]) rfl 2 aggW.size (by first | omega | (simp; done) | (simp; omega)) st 0 _ _ rfl (by first | omega | (simp; done) | (simp; omega)) (us_one _) (us [(adL h i (adH l k 0)), (adL l k 0)]) (put_all _ _ 2 (by first | omega | (simp; done) | (simp; omega)) (by first | omega | (simp; done) | (simp; omega))) ?_; clear st; intro w_0 st))
  exact post_st rfl g4 rfl st 0 _ _ rfl 2 aggW (by first | omega | (simp; done) | (simp; omega)) rfl ⟨rfl, st.below⟩

theorem wadd_any (m n : Int) (hm : 0 ≤ m) (hn : 0 ≤ n) (w : World) :
    Calls Try.prog 56 #[WD m, WD n] w fun e w' => e = .returned (WD ((m + n) % 340282366920938463463374607431768211456)) ∧ Below w.heap.size w w' := by
  refine (wadd_core (m / 18446744073709551616) (m % 18446744073709551616) (n / 18446744073709551616) (n % 18446744073709551616) (by omega) (by omega) (by omega) (by omega) (by omega) (by omega) w).mono ?_
  rintro e w' ⟨rfl, hb⟩
  exact ⟨wd_eq (by unfold adL adH; omega) (by unfold adL; omega), hb⟩

set_option maxHeartbeats 400000 in
theorem wtimes_any (m a b : Int) (hm : 0 ≤ m) (ha : 0 ≤ a) (ha' : a < 18446744073709551616) (hb0 : 0 ≤ b) (hb' : b < 18446744073709551616) (w : World) :
    Calls Try.prog 55 #[(WD m), (.int .u64 a), (.int .u64 b)] w fun e w' => e = .returned (WD ((m + a * b) % 340282366920938463463374607431768211456)) ∧ Below w.heap.size w w' := by
  have hp := mul_lt a b ha ha' hb0 hb'
  go_enter Try.func55, Try.ntmps55
  have st := St.start w
  go_wp2_with (first
    | ((with_reducible show wpList _ _ _ (⟨some 3, _, _, _, _, _⟩ :: _) _ _); refine wpList_box_st (o := ⟨some 3, _, _, _, _, _⟩) rfl 76 (.tmp 0) rfl (us [m / 18446744073709551616, m % 18446744073709551616]) rfl st ?_; clear st; intro g3 w3 st)
    | ((with_reducible show wpList _ _ _ (⟨some 6, _, _, _, _, _⟩ :: _) _ _); refine wpList_alloc_st (o := ⟨some 6, _, _, _, _, _⟩) rfl 76 rfl (us [0, 0]) zisW st ?_; clear st; intro g6 w6 st))
  refine (mul64_any a b ha ha' hb0 hb' _).mono ?_
  rintro e w12 ⟨rfl, hb⟩
  replace st := st.call hb; clear hb
  go_wp2_with (first
    | ((with_reducible show wpList _ _ _ (⟨some 15, _, _, _, _, _⟩ :: _) _ _); refine wpList_load_st (o := ⟨some 15, _, _, _, _, _⟩) rfl 76 (.tmp 3) rfl g3 0 rfl 2 aggW st 1 _ _ (AG (us [m / 18446744073709551616, m % 18446744073709551616])) rfl (by first | omega | (simp; done) | (simp; omega)) (cut_all _ 2 (by first | omega | (simp; done) | (simp; omega))) ?_)
    | ((with_reducible show wpList _ _ _ (⟨some 18, _, _, _, _, _⟩ :: _) _ _); refine wpList_build (o := ⟨some 18, _, _, _, _, _⟩) rfl 76 [(0, (.tmp 16)), (1, (.tmp 17))] rfl [(0, (.int .u64 (a * b / 18446744073709551616))), (1, (.int .u64 (a * b % 18446744073709551616)))] rfl (AG (us [(a * b / 18446744073709551616), (a * b % 18446744073709551616)])) (build_W (a * b / 18446744073709551616) (a * b % 18446744073709551616)) ?_))
  refine (wadd_any m (a * b) hm hp.1 _).mono ?_
  rintro e w19 ⟨rfl, hb⟩
  replace st := st.call hb; clear hb
  go_wp2_with ((with_reducible show wpList _ _ _ (⟨none, .store 76 (.tmp 6) (.tmp 19), _, _, _, _⟩ :: _) _ _); refine wpList_store_st (o := ⟨none, _, _, _, _, _⟩) rfl 76 (.tmp 6) (.tmp 19) rfl g6 0 rfl (us [((m + a * b) % 340282366920938463463374607431768211456) / 18446744073709551616, ((m + a * b) % 340282366920938463463374607431768211456) % 18446744073709551616]) rfl 2 aggW.size (by first | omega | (simp; done) | (simp; omega)) st 0 _ _ rfl (by first | omega | (simp; done) | (simp; omega)) (us_one _) (us [((m + a * b) % 340282366920938463463374607431768211456) / 18446744073709551616, ((m + a * b) % 340282366920938463463374607431768211456) % 18446744073709551616]) (put_all _ _ 2 (by first | omega | (simp; done) | (simp; omega)) (by first | omega | (simp; done) | (simp; omega))) ?_; clear st; intro w_0 st)
  exact post_st rfl g6 rfl st 0 _ _ rfl 2 aggW (by first | omega | (simp; done) | (simp; omega)) rfl ⟨rfl, st.below⟩
set_option maxHeartbeats 400000 in
theorem wover_core (h l : Int) (hh : 0 ≤ h) (hl : 0 ≤ l) (w : World) :
    Calls Try.prog 57 #[(AG (us [h, l]))] w fun e w' => e = .returned (AG (us [h / 72057594037927936, bits .or .u64 (IntKind.u64.wrap (h * 256)) (l / 72057594037927936)])) ∧ Below w.heap.size w w' := by
  go_enter Try.func57, Try.ntmps57
  have st := St.start w
  go_wp2_with (first
    | ((with_reducible show wpList _ _ _ (⟨some 1, _, _, _, _, _⟩ :: _) _ _); refine wpList_box_st (o := ⟨some 1, _, _, _, _, _⟩) rfl 76 (.tmp 0) rfl (us [h, l]) rfl st ?_; clear st; intro g1 w1 st)
    | ((with_reducible show wpList _ _ _ (⟨some 2, _, _, _, _, _⟩ :: _) _ _); refine wpList_alloc_st (o := ⟨some 2, _, _, _, _, _⟩) rfl 76 rfl (us [0, 0]) zisW st ?_; clear st; intro g2 w2 st)
    | ((with_reducible show wpList _ _ _ (⟨some 4, _, _, _, _, _⟩ :: _) _ _); refine wpList_load1_st (o := ⟨some 4, _, _, _, _, _⟩) rfl 24 (.tmp 3) rfl g1 0 rfl na64 st 1 _ _ (.int .u64 h) rfl rfl ?_)
    | ((with_reducible show wpList _ _ _ (⟨some 7, _, _, _, _, _⟩ :: _) _ _); refine wpList_load1_st (o := ⟨some 7, _, _, _, _, _⟩) rfl 24 (.tmp 6) rfl g1 0 rfl na64 st 1 _ _ (.int .u64 h) rfl rfl ?_)
    | ((with_reducible show wpList _ _ _ (⟨some 10, _, _, _, _, _⟩ :: _) _ _); refine wpList_load1_st (o := ⟨some 10, _, _, _, _, _⟩) rfl 24 (.tmp 9) rfl g1 1 rfl na64 st 1 _ _ (.int .u64 l) rfl rfl ?_)
    | ((with_reducible show wpList _ _ _ (⟨some 13, _, _, _, _, _⟩ :: _) _ _); refine wpList_build (o := ⟨some 13, _, _, _, _, _⟩) rfl 76 [(0, (.tmp 5)), (1, (.tmp 12))] rfl [(0, (.int .u64 (h / 72057594037927936))), (1, (.int .u64 (bits .or .u64 (IntKind.u64.wrap (h * 256)) (l / 72057594037927936))))] rfl (AG (us [(h / 72057594037927936), (bits .or .u64 (IntKind.u64.wrap (h * 256)) (l / 72057594037927936))])) (build_W (h / 72057594037927936) (bits .or .u64 (IntKind.u64.wrap (h * 256)) (l / 72057594037927936))) ?_)
    | ((with_reducible show wpList _ _ _ (⟨none, .store 76 (.tmp 2) (.tmp 13), _, _, _, _⟩ :: _) _ _); refine wpList_store_st (o := ⟨none, _, _, _, _, _⟩) rfl 76 (.tmp 2) (.tmp 13) rfl g2 0 rfl (us [(h / 72057594037927936), (bits .or .u64 (IntKind.u64.wrap (h * 256)) (l / 72057594037927936))]) rfl 2 aggW.size (by first | omega | (simp; done) | (simp; omega)) st 0 _ _ rfl (by first | omega | (simp; done) | (simp; omega)) (us_one _) (us [(h / 72057594037927936), (bits .or .u64 (IntKind.u64.wrap (h * 256)) (l / 72057594037927936))]) (put_all _ _ 2 (by first | omega | (simp; done) | (simp; omega)) (by first | omega | (simp; done) | (simp; omega))) ?_; clear st; intro w_0 st))
  exact post_st rfl g2 rfl st 0 _ _ rfl 2 aggW (by first | omega | (simp; done) | (simp; omega)) rfl ⟨rfl, st.below⟩

end Go.Proofs.Ytdpongijmmdnoaa
