/- field.Mul -/
import Derived.Test.YtdpongijmmdnoaaRow
import Derived.Test.YtdpongijmmdnoaaOrd
namespace Go.Proofs.Ytdpongijmmdnoaa
open Go.RowKit

def z15 : List Int := [0, 0, 0, 0, 0, 0, 0, 0, 0, 0, 0, 0, 0, 0, 0]
@[simp] theorem z15_len : z15.length = 15 := rfl
theorem agg15 : AggSize Try.prog 77 30 := ⟨_, Try.underlying77, rfl, by kernel_rfl⟩
theorem zis15 : ZeroIs Try.prog 77 (us (wds z15)) := .agg (fun W => by kernel_rfl)

/-- products of x with the limbs of m, the first k of them, put at i on -/
def mulI (x : Int) (m : List Int) (i : Nat) (ns : List Int) : Nat → List Int
  | 0 => ns
  | k + 1 => (mulI x m i ns k).set (i + k) (((mulI x m i ns k).getD (i + k) 0 + x * m.getD k 0) % 340282366920938463463374607431768211456)
def mulO (l m : List Int) : Nat → List Int
  | 0 => z15
  | i + 1 => mulI (l.getD i 0) m i (mulO l m i) 8
@[simp] theorem mulI_len (x : Int) (m : List Int) (i : Nat) (ns : List Int) (k : Nat) : (mulI x m i ns k).length = ns.length := by
  induction k with
  | zero => rfl
  | succ k ih => simp [mulI, ih]
@[simp] theorem mulO_len (l m : List Int) (i : Nat) : (mulO l m i).length = 15 := by
  induction i with
  | zero => rfl
  | succ i ih => simp [mulO, ih]

theorem set_nn {l : List Int} {i : Nat} {v : Int} (h : ∀ x ∈ l, 0 ≤ x) (hv : 0 ≤ v) : ∀ x ∈ l.set i v, 0 ≤ x := by
  intro x hx
  rcases List.mem_or_eq_of_mem_set hx with h1 | h1
  · exact h x h1
  · rw [h1]; exact hv
theorem getD_nn {l : List Int} (h : ∀ x ∈ l, 0 ≤ x) (i : Nat) : 0 ≤ l.getD i 0 := by
  by_cases hi : i < l.length
  · have : l.getD i 0 = l[i] := by simp [List.getD, hi]
    rw [this]; exact h _ (List.getElem_mem hi)
  · have : l.getD i 0 = 0 := by simp [List.getD, List.getElem?_eq_none (Nat.le_of_not_lt hi)]
    omega
theorem mulI_all (x : Int) (m : List Int) (i : Nat) (ns : List Int) (hn : ∀ x ∈ ns, 0 ≤ x) (k : Nat) : ∀ y ∈ mulI x m i ns k, 0 ≤ y := by
  induction k with
  | zero => exact hn
  | succ k ih => exact set_nn ih (Int.emod_nonneg _ (by decide))
theorem mulI_nn (x : Int) (m : List Int) (i : Nat) (ns : List Int) (k : Nat) (hn : ∀ x ∈ ns, 0 ≤ x) (_hx : 0 ≤ x) (_hm : ∀ z ∈ m, 0 ≤ z) (j : Nat) : 0 ≤ (mulI x m i ns k).getD j 0 :=
  getD_nn (mulI_all x m i ns hn k) j
theorem mulO_nn (l m : List Int) (_hl : ∀ x ∈ l, 0 ≤ x ∧ x < 18446744073709551616) (_hm : ∀ x ∈ m, 0 ≤ x ∧ x < 18446744073709551616) (i : Nat) : ∀ x ∈ mulO l m i, 0 ≤ x := by
  induction i with
  | zero => intro x hx; simp [mulO, z15] at hx; omega
  | succ i ih => exact mulI_all _ _ _ _ ih 8

/-- what stands from 2^448 on comes in again, from the highest on: c of these numbers done -/
def foldT (ns : List Int) : Nat → List Int
  | 0 => ns
  | c + 1 =>
    let q := foldT ns c
    let q1 := q.set (14 - c - 8) ((q.getD (14 - c - 8) 0 + q.getD (14 - c) 0) % 340282366920938463463374607431768211456)
    q1.set (14 - c - 4) ((q1.getD (14 - c - 4) 0 + q1.getD (14 - c) 0) % 340282366920938463463374607431768211456)
theorem foldT_len (ns : List Int) (c : Nat) : (foldT ns c).length = ns.length := by
  induction c with
  | zero => rfl
  | succ c ih => simp [foldT, ih]
theorem foldT_nn (ns : List Int) (hn : ∀ x ∈ ns, 0 ≤ x) (c : Nat) : ∀ x ∈ foldT ns c, 0 ≤ x := by
  induction c with
  | zero => exact hn
  | succ c ih => exact set_nn (set_nn ih (Int.emod_nonneg _ (by decide))) (Int.emod_nonneg _ (by decide))

/-- the limbs, and what goes over, behind k of them -/
def limbT (ns : List Int) : Nat → List Int × Int
  | 0 => (zE, 0)
  | k + 1 => ((limbT ns k).1.set k ((ns.getD k 0 + (limbT ns k).2) % 340282366920938463463374607431768211456 % 72057594037927936), (ns.getD k 0 + (limbT ns k).2) % 340282366920938463463374607431768211456 / 72057594037927936)
theorem limbT_len (ns : List Int) (k : Nat) : (limbT ns k).1.length = 8 := by
  induction k with
  | zero => rfl
  | succ k ih => simp [limbT, ih]
theorem limbT_nn (ns : List Int) (_hn : ∀ k, 0 ≤ ns.getD k 0) (k : Nat) : 0 ≤ (limbT ns k).2 := by
  cases k with
  | zero => exact Int.le_refl _
  | succ k => simp only [limbT]; omega

/-- what stands from 2^448 on behind the limbs p: x -/
def endL (p : List Int) (x : Int) : List Int :=
  let t := x % 72057594037927936
  let s := x / 72057594037927936 % 18446744073709551616
  [IntKind.u64.wrap (p.getD 0 0 + t), IntKind.u64.wrap (p.getD 1 0 + s), p.getD 2 0, p.getD 3 0, IntKind.u64.wrap (p.getD 4 0 + t), IntKind.u64.wrap (p.getD 5 0 + s), p.getD 6 0, p.getD 7 0]
def mulF (l m : List Int) : List Int :=
  carryF (endL (limbT (foldT (mulO l m 8) 7) 8).1 (limbT (foldT (mulO l m 8) 7) 8).2)
@[simp] theorem mulF_len (l m : List Int) : (mulF l m).length = 8 := by simp [mulF, endL]
theorem list8 {p : List Int} (h : p.length = 8) : ∃ p0 p1 p2 p3 p4 p5 p6 p7, p = [p0, p1, p2, p3, p4, p5, p6, p7] := by
  match p, h with
  | [p0, p1, p2, p3, p4, p5, p6, p7], _ => exact ⟨p0, p1, p2, p3, p4, p5, p6, p7, rfl⟩

set_option maxRecDepth 100000 in
set_option maxHeartbeats 2000000 in
theorem mul_any (l m : List Int) (ll : l.length = 8) (lm : m.length = 8) (bl : ∀ x ∈ l, 0 ≤ x ∧ x < 18446744073709551616) (bm : ∀ x ∈ m, 0 ≤ x ∧ x < 18446744073709551616) (w : World) :
    Calls Try.prog 34 #[AG (us l), AG (us m)] w fun e w' => e = .returned (AG (us (mulF l m))) ∧ Below w.heap.size w w' := by
  have Bl := hide bl; clear bl
  have Bm := hide bm; clear bm
  go_enter Try.func34, Try.ntmps34
  have st := St.start w
  go_wp2_with (first
    | ((with_reducible show wpList _ _ _ (⟨some 2, _, _, _, _, _⟩ :: _) _ _); refine wpList_box_st (o := ⟨some 2, _, _, _, _, _⟩) rfl 27 (.tmp 0) rfl (us l) rfl st ?_; clear st; intro g2 w2 st)
    | ((with_reducible show wpList _ _ _ (⟨some 3, _, _, _, _, _⟩ :: _) _ _); refine wpList_box_st (o := ⟨some 3, _, _, _, _, _⟩) rfl 27 (.tmp 1) rfl (us m) rfl st ?_; clear st; intro g3 w3 st)
    | ((with_reducible show wpList _ _ _ (⟨some 4, _, _, _, _, _⟩ :: _) _ _); refine wpList_alloc_st (o := ⟨some 4, _, _, _, _, _⟩) rfl 27 rfl (us zE) zisE st ?_; clear st; intro g4 w4 st))
  go_step3
  go_wp2_with (first
    | ((with_reducible show wpList _ _ _ (⟨some 5, _, _, _, _, _⟩ :: _) _ _); refine wpList_alloc_st (o := ⟨some 5, _, _, _, _, _⟩) rfl 77 rfl (us (wds z15)) zis15 st ?_; clear st; intro g5 w5 st)
    | ((with_reducible show wpList _ _ _ (⟨some 18, _, _, _, _, _⟩ :: _) _ _); refine wpList_load_st (o := ⟨some 18, _, _, _, _, _⟩) rfl 25 (.tmp 17) rfl g2 0 rfl 8 agg8 st 3 _ _ (AG (us l)) rfl (by simp; omega) (cut_all _ 8 (by simp; omega)) ?_))
  go_loopw [19] (fun t wr => ∃ i : Nat, i ≤ 8 ∧ t = .int .i64 i ∧ St w wr [(g5, us (wds (mulO l m i)), 77), (g4, us zE, 27), (g3, us m, 27), (g2, us l, 27)]) (fun t _ => 8 - (intOf t).toNat)
  case atStart => exact ⟨0, by omega, rfl, st⟩
  case round =>
    obtain ⟨i, hi, rfl, hs⟩ := hrel
    clear st
    obtain ⟨wo, rfl⟩ : ∃ wo : World, wo = wr := ⟨_, rfl⟩
    by_cases hlt : i < 8
    · have hlt' : (i : Int) < 8 := by omega
      have ix := fun W => index8 l ll i hlt W
      generalize hx : l.getD i 0 = x at ix
      have bx : 0 ≤ x ∧ x < 18446744073709551616 := by rw [← hx]; exact Bl.out _ (by simp [List.getD, ll, hlt])
      have Hx := hide hx; clear hx
      go_wp2_with ((with_reducible show wpList _ _ _ (⟨some 24, _, _, _, _, _⟩ :: _) _ _); refine wpList_load_st (o := ⟨some 24, _, _, _, _, _⟩) rfl 25 (.tmp 23) rfl g3 0 rfl 8 agg8 hs 2 _ _ (AG (us m)) rfl (by simp; omega) (cut_all _ 8 (by simp; omega)) ?_)
      clear ix
      go_loopw [25] (fun t wr => ∃ k : Nat, k ≤ 8 ∧ t = .int .i64 k ∧ St w wr [(g5, us (wds (mulI x m i (mulO l m i) k)), 77), (g4, us zE, 27), (g3, us m, 27), (g2, us l, 27)]) (fun t _ => 8 - (intOf t).toNat)
      case atStart => exact ⟨0, by omega, rfl, hs⟩
      case round =>
        obtain ⟨k, hk, rfl, st⟩ := hrel
        clear hs
        by_cases hkt : k < 8
        · have hkt' : (k : Int) < 8 := by omega
          have iy := fun W => index8 m lm k hkt W
          generalize hy : m.getD k 0 = y at iy
          have bY : 0 ≤ y ∧ y < 18446744073709551616 := by rw [← hy]; exact Bm.out _ (by simp [List.getD, lm, hkt])
          have Hy := hide hy; clear hy
          go_wp2_with ((with_reducible show wpList _ _ _ (⟨some 36, _, _, _, _, _⟩ :: _) _ _); go_must (refine wpList_load_st (o := ⟨some 36, _, _, _, _, _⟩) rfl 76 (.tmp 35) rfl g5 ((i + k) * 2) rfl 2 aggW st 0 _ _ (WD ((mulI x m i (mulO l m i) k).getD (i + k) 0)) rfl (by simp; omega) (cut_wd _ _ (by simp; omega)) ?_))
          refine (wtimes_any ((mulI x m i (mulO l m i) k).getD (i + k) 0) x y (mulI_nn _ _ _ _ _ (mulO_nn l m Bl.out Bm.out i) bx.1 (fun z hz => (Bm.out z hz).1) _) bx.1 bx.2 bY.1 bY.2 _).mono ?_
          rintro e w39 ⟨rfl, hb⟩
          replace st := st.call hb; clear hb
          go_wp2_with ((with_reducible show wpList _ _ _ (⟨none, .store 76 (.tmp 40) (.tmp 39), _, _, _, _⟩ :: _) _ _); refine wpList_store_st (o := ⟨none, _, _, _, _, _⟩) rfl 76 (.tmp 40) (.tmp 39) rfl g5 ((i + k) * 2) rfl (us [((mulI x m i (mulO l m i) k).getD (i + k) 0 + x * y) % 340282366920938463463374607431768211456 / 18446744073709551616, ((mulI x m i (mulO l m i) k).getD (i + k) 0 + x * y) % 340282366920938463463374607431768211456 % 18446744073709551616]) rfl 2 aggW.size rfl st 0 _ _ rfl (by simp; omega) (us_one _) (us (wds (mulI x m i (mulO l m i) (k + 1)))) (by rw [mulI, Hy.out]; exact put_wd _ _ _ (by simp; omega)) ?_; clear st; intro w40 st)
          go_roundw
          case rel => exact ⟨k + 1, by omega, by go_num, st⟩
          case measure => simp [intOf]; omega
        · have : k = 8 := by omega
          subst this
          rw [← Hx.out] at st
          go_wp2_with fail
          go_roundw
          case rel => exact ⟨i + 1, by omega, by go_num, st⟩
          case measure => simp [intOf]; omega
    · have : i = 8 := by omega
      subst this
      have Q0 := mulO_nn l m Bl.out Bm.out 8
      have L0 : (mulO l m 8).length = 15 := mulO_len l m 8
      generalize hns : mulO l m 8 = ns at hs Q0 L0
      have Hns := hide hns; clear hns
      have QN := hide Q0; clear Q0
      go_wp2_with fail
      rw [show ((8 : Nat) : Int) = 8 from rfl]
      go_loopw [10] (fun t wr => ∃ j : Nat, 7 ≤ j ∧ j ≤ 14 ∧ t = .int .i64 j ∧ St w wr [(g5, us (wds (foldT ns (14 - j))), 77), (g4, us zE, 27), (g3, us m, 27), (g2, us l, 27)]) (fun t _ => (intOf t).toNat)
      case atStart => exact ⟨14, by omega, by omega, rfl, hs⟩
      case round =>
        obtain ⟨j, hj7, hj14, rfl, st⟩ := hrel
        clear hs
        have QF := hide (foldT_nn ns QN.out (14 - j))
        have lq : (foldT ns (14 - j)).length = 15 := by rw [foldT_len]; exact L0
        generalize hq : foldT ns (14 - j) = q at st QF lq
        have Hq := hide hq; clear hq
        have Lq := hide lq; clear lq
        by_cases hjt : 8 ≤ j
        · have b1 : (8 : Int) ≤ (j : Int) := by omega
          have b2 : (j : Int) ≤ 14 := by omega
          have e8 : ((j : Int) - 8).toNat = j - 8 := by omega
          have e4 : ((j : Int) - 4).toNat = j - 4 := by omega
          have w8 : IntKind.i64.wrap ((j : Int) - 8) = (j : Int) - 8 := IntWalk.i64_in _ (by omega)
          have w4' : IntKind.i64.wrap ((j : Int) - 4) = (j : Int) - 4 := IntWalk.i64_in _ (by omega)
          have b3 : 0 ≤ (j : Int) - 8 := by omega
          have b4 : (j : Int) - 8 < 15 := by omega
          have b5 : 0 ≤ (j : Int) - 4 := by omega
          have b6 : (j : Int) - 4 < 15 := by omega
          have b7 : (j : Int) < 15 := by omega
          have b8 : (4 : Int) ≤ (j : Int) := by omega
          have b9 : ¬ (j : Int) < 4 := by omega
          have nq := fun k => getD_nn QF.out k
          have NQ := hide nq; clear nq
          go_wp2_with fail
          go_wp2_with fail
          refine wp_region_ordx [(0, 0), (1, 0), (2, 0), (3, 0), (4, 0), (5, 0), (6, 0), (7, 0), (8, 0), (9, 1), (10, 0), (11, 2)] (fun W => St w W [(g5, us (wds q), 77), (g4, us zE, 27), (g3, us m, 27), (g2, us l, 27)]) (by kernel_rfl) (by kernel_rfl) (by kernel_rfl) (fun _ _ d _ _ h => by cases d <;> exact h) st.drew ?_
          replace st := st.drew
          refine ordx_quiet (o := ⟨some 47, _, _, _, _, _⟩) (v := (.int .i64 (↑j))) rfl rfl (fun _ _ => rfl) ?_
          try simp only [Act.put, List.setIfInBounds_toArray, List.set_cons_zero, List.set_cons_succ]
          refine ordx_quiet (o := ⟨some 48, _, _, _, _, _⟩) (v := (.int .i64 (↑j - 8))) rfl rfl (fun _ _ => by go_simp) ?_
          try simp only [Act.put, List.setIfInBounds_toArray, List.set_cons_zero, List.set_cons_succ]
          refine ordx_quiet (o := ⟨some 49, _, _, _, _, _⟩) (v := (.int .i64 (↑j))) rfl rfl (fun _ _ => rfl) ?_
          try simp only [Act.put, List.setIfInBounds_toArray, List.set_cons_zero, List.set_cons_succ]
          refine ordx_quiet (o := ⟨some 50, _, _, _, _, _⟩) (v := (.int .i64 (↑j - 8))) rfl rfl (fun _ _ => by go_simp) ?_
          try simp only [Act.put, List.setIfInBounds_toArray, List.set_cons_zero, List.set_cons_succ]
          refine ordx_quiet (o := ⟨some 51, _, _, _, _, _⟩) (v := (.pointer (some ⟨g5, (j - 8) * 2, none⟩))) rfl rfl (fun _ _ => by go_simp) ?_
          try simp only [Act.put, List.setIfInBounds_toArray, List.set_cons_zero, List.set_cons_succ]
          refine ordx_load (o := ⟨some 52, _, _, _, _, _⟩) rfl rfl 76 (.tmp 51) rfl g5 ((j - 8) * 2) rfl 2 aggW (us (wds q)) _ (WD (q.getD (j - 8) 0)) (fun W hS => hS.get 0 rfl) (by simp only [us_len, wds_len, Lq.out, List.length_cons, List.length_nil]; omega) (cut_wd _ _ (by simp only [Lq.out]; omega)) ?_
          try simp only [Act.put, List.setIfInBounds_toArray, List.set_cons_zero, List.set_cons_succ]
          refine ordx_quiet (o := ⟨some 53, _, _, _, _, _⟩) (v := (.int .i64 (↑j))) rfl rfl (fun _ _ => rfl) ?_
          try simp only [Act.put, List.setIfInBounds_toArray, List.set_cons_zero, List.set_cons_succ]
          refine ordx_quiet (o := ⟨some 54, _, _, _, _, _⟩) (v := (.pointer (some ⟨g5, j * 2, none⟩))) rfl rfl (fun _ _ => by go_simp) ?_
          try simp only [Act.put, List.setIfInBounds_toArray, List.set_cons_zero, List.set_cons_succ]
          refine ordx_load (o := ⟨some 55, _, _, _, _, _⟩) rfl rfl 76 (.tmp 54) rfl g5 (j * 2) rfl 2 aggW (us (wds q)) _ (WD (q.getD j 0)) (fun W hS => hS.get 0 rfl) (by simp only [us_len, wds_len, Lq.out, List.length_cons, List.length_nil]; omega) (cut_wd _ _ (by simp only [Lq.out]; omega)) ?_
          try simp only [Act.put, List.setIfInBounds_toArray, List.set_cons_zero, List.set_cons_succ]
          refine ordx_run (o := ⟨some 56, _, _, _, _, _⟩) rfl rfl (fun K hK => ?_)
          go_wp2_with fail
          refine (wadd_any _ _ (by first | exact NQ.out _ | exact Hov.out) (by first | exact NQ.out _ | exact Hov.out) _).mono ?_
          rintro e w56 ⟨rfl, hb⟩
          replace st := st.call hb; clear hb
          refine hK.out _ _ st ?_
          try simp only [Act.put, List.setIfInBounds_toArray, List.set_cons_zero, List.set_cons_succ]
          clear hK K
          refine ordx_quiet (o := ⟨some 57, _, _, _, _, _⟩) (v := (.pointer (some ⟨g5, (j - 8) * 2, none⟩))) rfl rfl (fun _ _ => by go_simp) ?_
          try simp only [Act.put, List.setIfInBounds_toArray, List.set_cons_zero, List.set_cons_succ]
          refine ordx_store (o := ⟨none, .store 76 (.tmp 57) (.tmp 56), _, _, _, _⟩) rfl rfl 76 (.tmp 57) (.tmp 56) rfl g5 ((j - 8) * 2) rfl (us [(((q.getD (j - 8) 0) + (q.getD j 0)) % 340282366920938463463374607431768211456) / 18446744073709551616, (((q.getD (j - 8) 0) + (q.getD j 0)) % 340282366920938463463374607431768211456) % 18446744073709551616]) rfl 2 aggW.size (by first | omega | (simp; done) | (simp; omega)) st 0 _ _ rfl (by simp only [us_len, wds_len, Lq.out, List.length_cons, List.length_nil]; omega) (us_one _) (us (wds (q.set (j - 8) (((q.getD (j - 8) 0) + (q.getD j 0)) % 340282366920938463463374607431768211456)))) (put_wd _ _ _ (by simp only [Lq.out]; omega)) ?_
          clear st; intro w_0 st
          try simp only [Act.put, List.setIfInBounds_toArray, List.set_cons_zero, List.set_cons_succ]
          refine ordx_nil ?_
          have lq1 : (q.set (j - 8) ((q.getD (j - 8) 0 + q.getD j 0) % 340282366920938463463374607431768211456)).length = 15 := by rw [List.length_set]; exact Lq.out
          have nq1 := fun k => getD_nn (set_nn (i := j - 8) (v := (q.getD (j - 8) 0 + q.getD j 0) % 340282366920938463463374607431768211456) QF.out (Int.emod_nonneg _ (by decide))) k
          generalize hq1 : q.set (j - 8) ((q.getD (j - 8) 0 + q.getD j 0) % 340282366920938463463374607431768211456) = q1 at st lq1 nq1
          have Hq1 := hide hq1; clear hq1
          clear Lq NQ
          have Lq := hide lq1; clear lq1
          have NQ := hide nq1; clear nq1
          go_wp2_with fail
          go_wp2_with fail
          refine wp_region_ordx [(0, 0), (1, 0), (2, 0), (3, 0), (4, 0), (5, 0), (6, 0), (7, 0), (8, 0), (9, 1), (10, 0), (11, 2)] (fun W => St w W [(g5, us (wds q1), 77), (g4, us zE, 27), (g3, us m, 27), (g2, us l, 27)]) (by kernel_rfl) (by kernel_rfl) (by kernel_rfl) (fun _ _ d _ _ h => by cases d <;> exact h) st.drew ?_
          replace st := st.drew
          refine ordx_quiet (o := ⟨some 58, _, _, _, _, _⟩) (v := (.int .i64 (↑j))) rfl rfl (fun _ _ => rfl) ?_
          try simp only [Act.put, List.setIfInBounds_toArray, List.set_cons_zero, List.set_cons_succ]
          refine ordx_quiet (o := ⟨some 59, _, _, _, _, _⟩) (v := (.int .i64 (↑j - 4))) rfl rfl (fun _ _ => by go_simp) ?_
          try simp only [Act.put, List.setIfInBounds_toArray, List.set_cons_zero, List.set_cons_succ]
          refine ordx_quiet (o := ⟨some 60, _, _, _, _, _⟩) (v := (.int .i64 (↑j))) rfl rfl (fun _ _ => rfl) ?_
          try simp only [Act.put, List.setIfInBounds_toArray, List.set_cons_zero, List.set_cons_succ]
          refine ordx_quiet (o := ⟨some 61, _, _, _, _, _⟩) (v := (.int .i64 (↑j - 4))) rfl rfl (fun _ _ => by go_simp) ?_
          try simp only [Act.put, List.setIfInBounds_toArray, List.set_cons_zero, List.set_cons_succ]
          refine ordx_quiet (o := ⟨some 62, _, _, _, _, _⟩) (v := (.pointer (some ⟨g5, (j - 4) * 2, none⟩))) rfl rfl (fun _ _ => by go_simp) ?_
          try simp only [Act.put, List.setIfInBounds_toArray, List.set_cons_zero, List.set_cons_succ]
          refine ordx_load (o := ⟨some 63, _, _, _, _, _⟩) rfl rfl 76 (.tmp 62) rfl g5 ((j - 4) * 2) rfl 2 aggW (us (wds q1)) _ (WD (q1.getD (j - 4) 0)) (fun W hS => hS.get 0 rfl) (by simp only [us_len, wds_len, Lq.out, List.length_cons, List.length_nil]; omega) (cut_wd _ _ (by simp only [Lq.out]; omega)) ?_
          try simp only [Act.put, List.setIfInBounds_toArray, List.set_cons_zero, List.set_cons_succ]
          refine ordx_quiet (o := ⟨some 64, _, _, _, _, _⟩) (v := (.int .i64 (↑j))) rfl rfl (fun _ _ => rfl) ?_
          try simp only [Act.put, List.setIfInBounds_toArray, List.set_cons_zero, List.set_cons_succ]
          refine ordx_quiet (o := ⟨some 65, _, _, _, _, _⟩) (v := (.pointer (some ⟨g5, j * 2, none⟩))) rfl rfl (fun _ _ => by go_simp) ?_
          try simp only [Act.put, List.setIfInBounds_toArray, List.set_cons_zero, List.set_cons_succ]
          refine ordx_load (o := ⟨some 66, _, _, _, _, _⟩) rfl rfl 76 (.tmp 65) rfl g5 (j * 2) rfl 2 aggW (us (wds q1)) _ (WD (q1.getD j 0)) (fun W hS => hS.get 0 rfl) (by simp only [us_len, wds_len, Lq.out, List.length_cons, List.length_nil]; omega) (cut_wd _ _ (by simp only [Lq.out]; omega)) ?_
          try simp only [Act.put, List.setIfInBounds_toArray, List.set_cons_zero, List.set_cons_succ]
          refine ordx_run (o := ⟨some 67, _, _, _, _, _⟩) rfl rfl (fun K hK => ?_)
          go_wp2_with fail
          refine (wadd_any _ _ (by first | exact NQ.out _ | exact Hov.out) (by first | exact NQ.out _ | exact Hov.out) _).mono ?_
          rintro e w67 ⟨rfl, hb⟩
          replace st := st.call hb; clear hb
          refine hK.out _ _ st ?_
          try simp only [Act.put, List.setIfInBounds_toArray, List.set_cons_zero, List.set_cons_succ]
          clear hK K
          refine ordx_quiet (o := ⟨some 68, _, _, _, _, _⟩) (v := (.pointer (some ⟨g5, (j - 4) * 2, none⟩))) rfl rfl (fun _ _ => by go_simp) ?_
          try simp only [Act.put, List.setIfInBounds_toArray, List.set_cons_zero, List.set_cons_succ]
          refine ordx_store (o := ⟨none, .store 76 (.tmp 68) (.tmp 67), _, _, _, _⟩) rfl rfl 76 (.tmp 68) (.tmp 67) rfl g5 ((j - 4) * 2) rfl (us [(((q1.getD (j - 4) 0) + (q1.getD j 0)) % 340282366920938463463374607431768211456) / 18446744073709551616, (((q1.getD (j - 4) 0) + (q1.getD j 0)) % 340282366920938463463374607431768211456) % 18446744073709551616]) rfl 2 aggW.size (by first | omega | (simp; done) | (simp; omega)) st 0 _ _ rfl (by simp only [us_len, wds_len, Lq.out, List.length_cons, List.length_nil]; omega) (us_one _) (us (wds (q1.set (j - 4) (((q1.getD (j - 4) 0) + (q1.getD j 0)) % 340282366920938463463374607431768211456)))) (put_wd _ _ _ (by simp only [Lq.out]; omega)) ?_
          clear st; intro w_0 st
          try simp only [Act.put, List.setIfInBounds_toArray, List.set_cons_zero, List.set_cons_succ]
          refine ordx_nil ?_
          go_wp2_with fail
          go_roundw
          case rel =>
            refine ⟨j - 1, by omega, by omega, by go_num, ?_⟩
            have e : 14 - (j - 1) = (14 - j) + 1 := by omega
            have e2 : 14 - (14 - j) = j := by omega
            rw [e, foldT, Hq.out]
            simp only [e2]
            rw [Hq1.out]
            exact st
          case measure => simp [intOf]; omega
        · have : j = 7 := by omega
          subst this
          clear hj7 hj14 Lq QF
          rw [← Hq.out] at st
          rw [show ((7 : Nat) : Int) = 7 from rfl]
          go_wp2_with (first
            | ((with_reducible show wpList _ _ _ (⟨some 11, _, _, _, _, _⟩ :: _) _ _); refine wpList_alloc_st (o := ⟨some 11, _, _, _, _, _⟩) rfl 27 rfl (us zE) zisE st ?_; clear st; intro g11 w11 st)
            | ((with_reducible show wpList _ _ _ (⟨some 12, _, _, _, _, _⟩ :: _) _ _); refine wpList_alloc_st (o := ⟨some 12, _, _, _, _, _⟩) rfl 76 rfl (us [0, 0]) zisW st ?_; clear st; intro g12 w12 st))
          go_step3
          have QF7 := foldT_nn ns QN.out (14 - 7)
          have lq : (foldT ns (14 - 7)).length = 15 := by rw [foldT_len]; exact L0
          generalize hq : foldT ns (14 - 7) = q at st QF7 lq
          have Hq := hide hq; clear hq
          have Lq := hide lq; clear lq
          have nq := fun k => getD_nn QF7 k
          have NQ := hide nq; clear nq QF7
          go_wp2_with fail
          go_loopw [13] (fun t wr => ∃ k : Nat, k ≤ 7 ∧ t = .int .i64 k ∧ St w wr [(g12, us [(limbT q k).2 / 18446744073709551616, (limbT q k).2 % 18446744073709551616], 76), (g11, us (limbT q k).1, 27), (g5, us (wds q), 77), (g4, us zE, 27), (g3, us m, 27), (g2, us l, 27)]) (fun t _ => 8 - (intOf t).toNat)
          case atStart => exact ⟨0, by omega, rfl, st⟩
          case round =>
          obtain ⟨k, hk, rfl, st'⟩ := hrel
          clear st
          have st := st'; clear st'
          have hov : 0 ≤ (limbT q k).2 := limbT_nn q NQ.out k
          have lo : (limbT q k).1.length = 8 := limbT_len q k
          generalize hlb : limbT q k = lb at st hov lo
          obtain ⟨o, ov⟩ := lb
          have Hlb := hide hlb; clear hlb
          have Lo := hide lo; clear lo
          dsimp only at st hov
          have Hov := hide hov; clear hov
          have c1 : (k : Int) < 15 := by omega
          have c2 : (k : Int) < 8 := by omega
          go_wp2_with fail
          go_wp2_with fail
          refine wp_region_ordx [(0, 0), (1, 0), (2, 0), (3, 0), (4, 3), (5, 4), (6, 2)] (fun W => St w W [(g12, us [ov / 18446744073709551616, ov % 18446744073709551616], 76), (g11, us o, 27), (g5, us (wds q), 77), (g4, us zE, 27), (g3, us m, 27), (g2, us l, 27)]) (by kernel_rfl) (by kernel_rfl) (by kernel_rfl) (fun _ _ d _ _ h => by cases d <;> exact h) st.drew ?_
          replace st := st.drew
          refine ordx_quiet (o := ⟨some 71, _, _, _, _, _⟩) (v := (.int .i64 (↑k))) rfl rfl (fun _ _ => rfl) ?_
          try simp only [Act.put, List.setIfInBounds_toArray, List.set_cons_zero, List.set_cons_succ]
          refine ordx_quiet (o := ⟨some 72, _, _, _, _, _⟩) (v := (.pointer (some ⟨g5, k * 2, none⟩))) rfl rfl (fun _ _ => by go_simp) ?_
          try simp only [Act.put, List.setIfInBounds_toArray, List.set_cons_zero, List.set_cons_succ]
          refine ordx_load (o := ⟨some 73, _, _, _, _, _⟩) rfl rfl 76 (.tmp 72) rfl g5 (k * 2) rfl 2 aggW (us (wds q)) _ (WD (q.getD k 0)) (fun W hS => hS.get 2 rfl) (by simp only [us_len, wds_len, Lq.out, List.length_cons, List.length_nil]; omega) (cut_wd _ _ (by simp only [Lq.out]; omega)) ?_
          try simp only [Act.put, List.setIfInBounds_toArray, List.set_cons_zero, List.set_cons_succ]
          refine ordx_load (o := ⟨some 74, _, _, _, _, _⟩) rfl rfl 76 (.tmp 12) rfl g12 0 rfl 2 aggW (us [ov / 18446744073709551616, ov % 18446744073709551616]) _ (WD ov) (fun W hS => hS.get 0 rfl) (by first | omega | (simp; done) | (simp; omega)) (cut_all _ 2 rfl) ?_
          try simp only [Act.put, List.setIfInBounds_toArray, List.set_cons_zero, List.set_cons_succ]
          refine ordx_fork (o := ⟨some 75, _, _, _, _, _⟩) (o' := ⟨some 14, _, _, _, _, _⟩) rfl rfl rfl rfl (fun K hK => ?_) (fun K hK => ?_)
          case' refine_1 =>
            go_wp2_with fail
            refine (wadd_any _ _ (by first | exact NQ.out _ | exact Hov.out) (by first | exact NQ.out _ | exact Hov.out) _).mono ?_
            rintro e w75 ⟨rfl, hb⟩
            replace st := st.call hb; clear hb
            refine hK.out _ _ st ?_
            try simp only [Act.put, List.setIfInBounds_toArray, List.set_cons_zero, List.set_cons_succ]
            clear hK K
            refine ordx_run (o := ⟨some 14, _, _, _, _, _⟩) rfl rfl (fun K hK => ?_)
            refine wp_alloc_st 76 rfl (us [0, 0]) zisW st (fun g14 w14 st' => hK.out _ _ st'.tail ?_)
            clear hK K; replace st := st'; clear st'
            try simp only [Act.put, List.setIfInBounds_toArray, List.set_cons_zero, List.set_cons_succ]
          case' refine_2 =>
            refine wp_alloc_st 76 rfl (us [0, 0]) zisW st (fun g14 w14 st' => hK.out _ _ st'.tail ?_)
            clear hK K; replace st := st'; clear st'
            try simp only [Act.put, List.setIfInBounds_toArray, List.set_cons_zero, List.set_cons_succ]
            refine ordx_run (o := ⟨some 75, _, _, _, _, _⟩) rfl rfl (fun K hK => ?_)
            go_wp2_with fail
            refine (wadd_any _ _ (by first | exact NQ.out _ | exact Hov.out) (by first | exact NQ.out _ | exact Hov.out) _).mono ?_
            rintro e w75 ⟨rfl, hb⟩
            replace st := st.call hb; clear hb
            refine hK.out _ _ st.tail ?_
            try simp only [Act.put, List.setIfInBounds_toArray, List.set_cons_zero, List.set_cons_succ]
            clear hK K
          all_goals
            refine ordx_store (o := ⟨none, .store 76 (.tmp 14) (.tmp 75), _, _, _, _⟩) rfl rfl 76 (.tmp 14) (.tmp 75) rfl g14 0 rfl (us [(((q.getD k 0) + ov) % 340282366920938463463374607431768211456) / 18446744073709551616, (((q.getD k 0) + ov) % 340282366920938463463374607431768211456) % 18446744073709551616]) rfl 2 aggW.size (by first | omega | (simp; done) | (simp; omega)) st 0 _ _ rfl (by first | omega | (simp; done) | (simp; omega)) (us_one _) (us [(((q.getD k 0) + ov) % 340282366920938463463374607431768211456) / 18446744073709551616, (((q.getD k 0) + ov) % 340282366920938463463374607431768211456) % 18446744073709551616]) (put_all _ _ 2 (by first | omega | (simp; done) | (simp; omega)) (by first | omega | (simp; done) | (simp; omega))) ?_
            clear st; intro w_0 st
            try simp only [Act.put, List.setIfInBounds_toArray, List.set_cons_zero, List.set_cons_succ]
            refine ordx_nil ?_
          all_goals
            go_wp2_with fail
            generalize hn : (q.getD k 0 + ov) % 340282366920938463463374607431768211456 = n at st
            have hn0 : 0 ≤ n := by rw [← hn]; exact Int.emod_nonneg _ (by decide)
            have Hn := hide hn; clear hn
            go_wp2_with fail
            refine wp_region_ordx [(0, 0), (1, 0), (2, 0), (3, 0), (4, 0), (6, 0), (7, 0), (5, 1), (8, 2), (9, 2)] (fun W => St w W [(g14, us [n / 18446744073709551616, n % 18446744073709551616], 76), (g12, us [ov / 18446744073709551616, ov % 18446744073709551616], 76), (g11, us o, 27), (g5, us (wds q), 77), (g4, us zE, 27), (g3, us m, 27), (g2, us l, 27)]) (by kernel_rfl) (by kernel_rfl) (by kernel_rfl) (fun _ _ d _ _ h => by cases d <;> exact h) st.drew ?_
            replace st := st.drew
            refine ordx_quiet (o := ⟨some 76, _, _, _, _, _⟩) (v := (.int .i64 (↑k))) rfl rfl (fun _ _ => rfl) ?_
            try simp only [Act.put, List.setIfInBounds_toArray, List.set_cons_zero, List.set_cons_succ]
            refine ordx_quiet (o := ⟨some 77, _, _, _, _, _⟩) (v := (.pointer (some ⟨g14, 1, none⟩))) rfl rfl (fun _ _ => by go_simp) ?_
            try simp only [Act.put, List.setIfInBounds_toArray, List.set_cons_zero, List.set_cons_succ]
            refine ordx_load1 (o := ⟨some 78, _, _, _, _, _⟩) rfl rfl 24 (.tmp 77) rfl g14 1 rfl na64 _ _ (.int .u64 (n % 18446744073709551616)) (fun W hS => hS.get 0 rfl) rfl ?_
            try simp only [Act.put, List.setIfInBounds_toArray, List.set_cons_zero, List.set_cons_succ]
            refine ordx_quiet (o := ⟨some 79, _, _, _, _, _⟩) (v := (.int .u64 (bits .and .u64 (n % 18446744073709551616) 72057594037927935))) rfl rfl (fun _ _ => by go_simp) ?_
            try simp only [Act.put, List.setIfInBounds_toArray, List.set_cons_zero, List.set_cons_succ]
            refine ordx_load (o := ⟨some 80, _, _, _, _, _⟩) rfl rfl 76 (.tmp 14) rfl g14 0 rfl 2 aggW (us [n / 18446744073709551616, n % 18446744073709551616]) _ (WD n) (fun W hS => hS.get 0 rfl) (by first | omega | (simp; done) | (simp; omega)) (cut_all _ 2 rfl) ?_
            try simp only [Act.put, List.setIfInBounds_toArray, List.set_cons_zero, List.set_cons_succ]
            refine ordx_quiet (o := ⟨some 82, _, _, _, _, _⟩) (v := (.pointer (some ⟨g11, 0, none⟩))) rfl rfl (fun _ _ => by go_simp) ?_
            try simp only [Act.put, List.setIfInBounds_toArray, List.set_cons_zero, List.set_cons_succ]
            refine ordx_quiet (o := ⟨some 83, _, _, _, _, _⟩) (v := (.pointer (some ⟨g11, k, none⟩))) rfl rfl (fun _ _ => by go_simp) ?_
            try simp only [Act.put, List.setIfInBounds_toArray, List.set_cons_zero, List.set_cons_succ]
            refine ordx_run (o := ⟨some 81, _, _, _, _, _⟩) rfl rfl (fun K hK => ?_)
            go_wp2_with fail
            refine (wover_any _ hn0 _).mono ?_
            rintro e w81 ⟨rfl, hb⟩
            replace st := st.call hb; clear hb
            refine hK.out _ _ st ?_
            try simp only [Act.put, List.setIfInBounds_toArray, List.set_cons_zero, List.set_cons_succ]
            clear hK K
            refine ordx_store (o := ⟨none, .store 24 (.tmp 83) (.tmp 79), _, _, _, _⟩) rfl rfl 24 (.tmp 83) (.tmp 79) rfl g11 k rfl ([(.int .u64 (bits .and .u64 (n % 18446744073709551616) 72057594037927935))]) rfl 1 sz64 (by first | omega | (simp; done) | (simp; omega)) st 2 _ _ rfl (by simp only [us_len, Lo.out, List.length_cons, List.length_nil]; omega) (by intro x hx; simp at hx; subst hx; rfl) (us (o.set k (bits .and .u64 (n % 18446744073709551616) 72057594037927935))) (put_us _ _ _ (by rw [Lo.out]; omega)) ?_
            clear st; intro w_0 st
            try simp only [Act.put, List.setIfInBounds_toArray, List.set_cons_zero, List.set_cons_succ]
            refine ordx_store (o := ⟨none, .store 76 (.tmp 12) (.tmp 81), _, _, _, _⟩) rfl rfl 76 (.tmp 12) (.tmp 81) rfl g12 0 rfl (us [(n / 72057594037927936) / 18446744073709551616, (n / 72057594037927936) % 18446744073709551616]) rfl 2 aggW.size (by first | omega | (simp; done) | (simp; omega)) st 1 _ _ rfl (by first | omega | (simp; done) | (simp; omega)) (us_one _) (us [(n / 72057594037927936) / 18446744073709551616, (n / 72057594037927936) % 18446744073709551616]) (put_all _ _ 2 (by first | omega | (simp; done) | (simp; omega)) (by first | omega | (simp; done) | (simp; omega))) ?_
            clear st; intro w_1 st
            try simp only [Act.put, List.setIfInBounds_toArray, List.set_cons_zero, List.set_cons_succ]
            refine ordx_nil ?_
            generalize hz : bits .and .u64 (n % 18446744073709551616) 72057594037927935 = z at st ⊢
            have Hz := hide hz; clear hz
            replace st := st.tail
            simp only [Exit.then]
            by_cases hk7 : k = 7
            · have e7 : ((k : Int) == 7) = true := by simp [hk7]
              have hz7 : n % 72057594037927936 = z := by rw [← Hz.out]; exact (and_mask n 56 (by omega)).symm
              obtain ⟨p, x, h8, hp, hx⟩ : ∃ p x, limbT q 8 = (p, x) ∧ o.set k z = p ∧ n / 72057594037927936 = x :=
                ⟨_, _, by rw [show limbT q 8 = ((limbT q k).1.set k ((q.getD k 0 + (limbT q k).2) % 340282366920938463463374607431768211456 % 72057594037927936), (q.getD k 0 + (limbT q k).2) % 340282366920938463463374607431768211456 / 72057594037927936) by rw [hk7]; rfl, Hlb.out]; simp only [Hn.out, hz7], rfl, rfl⟩
              have hx0 : 0 ≤ x := by rw [← hx]; omega
              have lp : p.length = 8 := by rw [← hp, List.length_set]; exact Lo.out
              simp only [List.set_cons_zero, List.set_cons_succ] at st
              rw [hp, hx] at st
              have H8 := hide h8; clear h8
              clear hp hx hz7 Hz
              obtain ⟨p0, p1, p2, p3, p4, p5, p6, p7, rfl⟩ : ∃ p0 p1 p2 p3 p4 p5 p6 p7, p = [p0, p1, p2, p3, p4, p5, p6, p7] := list8 lp
              clear lp
              go_wp2_with fail
              go_wp2_with fail
              refine wp_region_ordx [(0, 0), (1, 0), (2, 0), (3, 0), (4, 1), (5, 0), (6, 0), (7, 0)] (fun W => St w W [(g12, us [x / 18446744073709551616, x % 18446744073709551616], 76), (g11, us [p0, p1, p2, p3, p4, p5, p6, p7], 27), (g5, us (wds q), 77), (g4, us zE, 27), (g3, us m, 27), (g2, us l, 27)]) (by kernel_rfl) (by kernel_rfl) (by kernel_rfl) (fun _ _ d _ _ h => by cases d <;> exact h) st.drew ?_
              replace st := st.drew
              refine ordx_quiet (o := ⟨some 86, _, _, _, _, _⟩) (v := (.pointer (some ⟨g12, 1, none⟩))) rfl rfl (fun _ _ => by go_simp) ?_
              try simp only [Act.put, List.setIfInBounds_toArray, List.set_cons_zero, List.set_cons_succ]
              refine ordx_load1 (o := ⟨some 87, _, _, _, _, _⟩) rfl rfl 24 (.tmp 86) rfl g12 1 rfl na64 _ _ (.int .u64 (x % 18446744073709551616)) (fun W hS => hS.get 0 rfl) rfl ?_
              try simp only [Act.put, List.setIfInBounds_toArray, List.set_cons_zero, List.set_cons_succ]
              refine ordx_quiet (o := ⟨some 88, _, _, _, _, _⟩) (v := (.int .u64 (bits .and .u64 (x % 18446744073709551616) 72057594037927935))) rfl rfl (fun _ _ => by go_simp) ?_
              try simp only [Act.put, List.setIfInBounds_toArray, List.set_cons_zero, List.set_cons_succ]
              refine ordx_load (o := ⟨some 89, _, _, _, _, _⟩) rfl rfl 76 (.tmp 12) rfl g12 0 rfl 2 aggW (us [x / 18446744073709551616, x % 18446744073709551616]) _ (WD x) (fun W hS => hS.get 0 rfl) (by first | omega | (simp; done) | (simp; omega)) (cut_all _ 2 rfl) ?_
              try simp only [Act.put, List.setIfInBounds_toArray, List.set_cons_zero, List.set_cons_succ]
              refine ordx_run (o := ⟨some 90, _, _, _, _, _⟩) rfl rfl (fun K hK => ?_)
              go_wp2_with fail
              refine (wover_any _ hx0 _).mono ?_
              rintro e w90 ⟨rfl, hb⟩
              replace st := st.call hb; clear hb
              refine hK.out _ _ st ?_
              try simp only [Act.put, List.setIfInBounds_toArray, List.set_cons_zero, List.set_cons_succ]
              clear hK K
              refine ordx_quiet (o := ⟨some 91, _, _, _, _, _⟩) (v := (.int .u64 (((x / 72057594037927936)) % 18446744073709551616))) rfl rfl (fun W _ => exec_field rfl _ rfl _ W (fieldW1 _ W)) ?_
              try simp only [Act.put, List.setIfInBounds_toArray, List.set_cons_zero, List.set_cons_succ]
              refine ordx_quiet (o := ⟨some 15, _, _, _, _, _⟩) (v := (.int .u64 (bits .and .u64 (x % 18446744073709551616) 72057594037927935))) rfl rfl (fun _ _ => rfl) ?_
              try simp only [Act.put, List.setIfInBounds_toArray, List.set_cons_zero, List.set_cons_succ]
              refine ordx_quiet (o := ⟨some 16, _, _, _, _, _⟩) (v := (.int .u64 (((x / 72057594037927936)) % 18446744073709551616))) rfl rfl (fun _ _ => rfl) ?_
              try simp only [Act.put, List.setIfInBounds_toArray, List.set_cons_zero, List.set_cons_succ]
              refine ordx_nil ?_
              generalize ht : bits .and .u64 (x % 18446744073709551616) 72057594037927935 = t at st ⊢
              have Ht := hide ht; clear ht
              generalize hs : x / 72057594037927936 % 18446744073709551616 = s at st ⊢
              have Hs := hide hs; clear hs
              simp only [Exit.then]
              go_wp2_with (first
                | ((with_reducible show wpList _ _ _ (⟨some 94, _, _, _, _, _⟩ :: _) _ _); refine wpList_load1_st (o := ⟨some 94, _, _, _, _, _⟩) rfl 24 (.tmp 93) rfl g11 0 rfl na64 st 1 _ _ (.int .u64 p0) rfl rfl ?_)
                | ((with_reducible show wpList _ _ _ (⟨none, .store 24 (.tmp 98) (.tmp 96), _, _, _, _⟩ :: _) _ _); refine wpList_store_st (o := ⟨none, _, _, _, _, _⟩) rfl 24 (.tmp 98) (.tmp 96) rfl g11 0 rfl ([(.int .u64 (IntKind.u64.wrap (p0 + t)))]) rfl 1 sz64 (by first | omega | (simp; done) | (simp; omega)) st 1 _ _ rfl (by first | omega | (simp; done) | (simp; omega)) (by intro x hx; simp at hx; subst hx; rfl) (us [(IntKind.u64.wrap (p0 + t)), p1, p2, p3, p4, p5, p6, p7]) rfl ?_; clear st; intro w_0 st)
                | ((with_reducible show wpList _ _ _ (⟨some 101, _, _, _, _, _⟩ :: _) _ _); refine wpList_load1_st (o := ⟨some 101, _, _, _, _, _⟩) rfl 24 (.tmp 100) rfl g11 4 rfl na64 st 1 _ _ (.int .u64 p4) rfl rfl ?_)
                | ((with_reducible show wpList _ _ _ (⟨none, .store 24 (.tmp 105) (.tmp 103), _, _, _, _⟩ :: _) _ _); refine wpList_store_st (o := ⟨none, _, _, _, _, _⟩) rfl 24 (.tmp 105) (.tmp 103) rfl g11 4 rfl ([(.int .u64 (IntKind.u64.wrap (p4 + t)))]) rfl 1 sz64 (by first | omega | (simp; done) | (simp; omega)) st 1 _ _ rfl (by first | omega | (simp; done) | (simp; omega)) (by intro x hx; simp at hx; subst hx; rfl) (us [(IntKind.u64.wrap (p0 + t)), p1, p2, p3, (IntKind.u64.wrap (p4 + t)), p5, p6, p7]) rfl ?_; clear st; intro w_1 st)
                | ((with_reducible show wpList _ _ _ (⟨some 108, _, _, _, _, _⟩ :: _) _ _); refine wpList_load1_st (o := ⟨some 108, _, _, _, _, _⟩) rfl 24 (.tmp 107) rfl g11 1 rfl na64 st 1 _ _ (.int .u64 p1) rfl rfl ?_)
                | ((with_reducible show wpList _ _ _ (⟨none, .store 24 (.tmp 112) (.tmp 110), _, _, _, _⟩ :: _) _ _); refine wpList_store_st (o := ⟨none, _, _, _, _, _⟩) rfl 24 (.tmp 112) (.tmp 110) rfl g11 1 rfl ([(.int .u64 (IntKind.u64.wrap (p1 + s)))]) rfl 1 sz64 (by first | omega | (simp; done) | (simp; omega)) st 1 _ _ rfl (by first | omega | (simp; done) | (simp; omega)) (by intro x hx; simp at hx; subst hx; rfl) (us [(IntKind.u64.wrap (p0 + t)), (IntKind.u64.wrap (p1 + s)), p2, p3, (IntKind.u64.wrap (p4 + t)), p5, p6, p7]) rfl ?_; clear st; intro w_2 st)
                | ((with_reducible show wpList _ _ _ (⟨some 115, _, _, _, _, _⟩ :: _) _ _); refine wpList_load1_st (o := ⟨some 115, _, _, _, _, _⟩) rfl 24 (.tmp 114) rfl g11 5 rfl na64 st 1 _ _ (.int .u64 p5) rfl rfl ?_)
                | ((with_reducible show wpList _ _ _ (⟨none, .store 24 (.tmp 119) (.tmp 117), _, _, _, _⟩ :: _) _ _); refine wpList_store_st (o := ⟨none, _, _, _, _, _⟩) rfl 24 (.tmp 119) (.tmp 117) rfl g11 5 rfl ([(.int .u64 (IntKind.u64.wrap (p5 + s)))]) rfl 1 sz64 (by first | omega | (simp; done) | (simp; omega)) st 1 _ _ rfl (by first | omega | (simp; done) | (simp; omega)) (by intro x hx; simp at hx; subst hx; rfl) (us [(IntKind.u64.wrap (p0 + t)), (IntKind.u64.wrap (p1 + s)), p2, p3, (IntKind.u64.wrap (p4 + t)), (IntKind.u64.wrap (p5 + s)), p6, p7]) rfl ?_; clear st; intro w_3 st)
                | ((with_reducible show wpList _ _ _ (⟨some 120, _, _, _, _, _⟩ :: _) _ _); refine wpList_load_st (o := ⟨some 120, _, _, _, _, _⟩) rfl 27 (.tmp 11) rfl g11 0 rfl 8 aggE st 1 _ _ (AG (us [(IntKind.u64.wrap (p0 + t)), (IntKind.u64.wrap (p1 + s)), p2, p3, (IntKind.u64.wrap (p4 + t)), (IntKind.u64.wrap (p5 + s)), p6, p7])) rfl (by first | omega | (simp; done) | (simp; omega)) (cut_all _ 8 (by first | omega | (simp; done) | (simp; omega))) ?_))
              refine (carry_any _ rfl _).mono ?_
              rintro e w121 ⟨rfl, hb⟩
              replace st := st.call hb; clear hb
              go_wp2_with ((with_reducible show wpList _ _ _ (⟨none, .store 27 (.tmp 4) (.tmp 121), _, _, _, _⟩ :: _) _ _); refine wpList_store_st (o := ⟨none, _, _, _, _, _⟩) rfl 27 (.tmp 4) (.tmp 121) rfl g4 0 rfl (us (carryF [(IntKind.u64.wrap (p0 + t)), (IntKind.u64.wrap (p1 + s)), p2, p3, (IntKind.u64.wrap (p4 + t)), (IntKind.u64.wrap (p5 + s)), p6, p7])) rfl 8 aggE.size (by first | omega | (simp; done) | (simp; omega)) st 3 _ _ rfl (by first | omega | (simp; done) | (simp; omega)) (us_one _) (us (carryF [(IntKind.u64.wrap (p0 + t)), (IntKind.u64.wrap (p1 + s)), p2, p3, (IntKind.u64.wrap (p4 + t)), (IntKind.u64.wrap (p5 + s)), p6, p7])) (put_all _ _ 8 (by first | omega | (simp; done) | (simp; omega)) (by first | omega | (simp; done) | (simp; omega))) ?_; clear st; intro w_4 st)
              rw [Exit.noGoto_ret]
              refine post_st rfl g4 rfl st 3 _ _ rfl 8 aggE (by simp) rfl ⟨?_, st.below⟩
              have ht : x % 72057594037927936 = t := by rw [← Ht.out]; exact (and_mask x 56 (by omega)).symm
              rw [mulF, Hns.out, show (7 : Nat) = 14 - 7 from rfl, Hq.out, H8.out]
              simp only [endL, ht, Hs.out]
              rfl
            · have e7 : ((k : Int) == 7) = false := by simp; omega
              go_wp2_with fail
              go_roundw
              case rel =>
                refine ⟨k + 1, by omega, by go_num, ?_⟩
                rw [limbT, Hlb.out]
                simp only
                rw [Hn.out, show n % 72057594037927936 = z from by rw [← Hz.out]; exact (and_mask n 56 (by omega)).symm]
                exact st
              case measure => simp [intOf]; omega
end Go.Proofs.Ytdpongijmmdnoaa
