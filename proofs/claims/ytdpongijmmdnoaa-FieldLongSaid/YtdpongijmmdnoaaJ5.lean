/- joined: Rfa Rpl Nor -/
import Derived.Test.YtdpongijmmdnoaaJ4
set_option linter.unusedSimpArgs false
set_option linter.unusedVariables false
/- the document's answer: prime, less -/
namespace Go.Proofs.Ytdpongijmmdnoaa
open Go.RowKit FdP FdP.Ch

theorem St.drewN {w0 w : World} {bs : List (Nat × List Value × TypeId)} (h : St w0 w bs) (n : Nat) : St w0 (w.drewN n) bs :=
 ⟨Below.drewN h.below n, fun x hx => ⟨(h.own x hx).1, (h.own x hx).2.drewN n⟩, h.apart⟩

def primeD : List Int := [268435455, 268435455, 268435455, 268435455, 268435455, 268435455, 268435455, 268435455, 268435454, 268435455, 268435455, 268435455, 268435455, 268435455, 268435455, 268435455]
@[simp] theorem primeD_len : primeD.length = 16 := rfl
theorem naInt (W : World) : (isAgg 3).run Try.prog W = .ok false W := by kernel_rfl

set_option maxHeartbeats 1000000 in
theorem rprime_any (w : World) :
 Calls Try.prog 49 #[] w fun e w' => e = .returned (AG (is primeD)) ∧ Below w.heap.size w w' := by
 go_enter Try.func49, Try.ntmps49
 have st := St.start w
 go_wp2_with (first
  | ((with_reducible show wpList _ _ _ (⟨some 0, _, _, _, _, _⟩ :: _) _ _); refine wpList_alloc_st (o := ⟨some 0, _, _, _, _, _⟩) rfl 31 rfl (is zF) zisF st ?_; clear st; intro g0 w0 st)
  | ((with_reducible show wpList _ _ _ (⟨some 1, _, _, _, _, _⟩ :: _) _ _); refine wpList_alloc_st (o := ⟨some 1, _, _, _, _, _⟩) rfl 31 rfl (is zF) zisF st ?_; clear st; intro g1 w1 st))
 go_loopw [2] (fun i wr => ∃ k : Nat, k ≤ 16 ∧ i = .int .i64 k ∧ St w wr [(g1, fillTo 16 (fun _ => .int .i64 268435455) (.int .i64 0) k, 31), (g0, is zF, 31)]) (fun i _ => 16 - (intOf i).toNat)
 case atStart => exact ⟨0, by omega, rfl, st⟩
 case round =>
  obtain ⟨k, hk, rfl, hs⟩ := hrel
  clear st
  have o1 := hs.get 0 rfl
  by_cases hlt : k < 16
  ·have hlt' : (k : Int) < 16 := by omega
   have c1 := o1.cell k (by rw [fillTo_len]; exact hlt)
   have f1 := o1.free k
   have S := hide (hs.wrote 0 rfl (cs' := fillTo 16 (fun _ => .int .i64 268435455) (.int .i64 0) (k + 1)) (w1 := wr.setCell ⟨g1, k, none⟩ (.int .i64 268435455)) ⟨rfl, rfl, rfl, by simp, fun j hj => heap_setCell_other wr _ j _ hj⟩ ((fillTo_set 16 (fun _ => .int .i64 268435455) (.int .i64 0) k) ▸ o1.set k (.int .i64 268435455)))
   clear o1 hs
   go_wp2
   go_roundw
   case rel => exact ⟨k + 1, by omega, by go_num, S.out⟩
   case measure => simp [intOf]; omega
  ·have : k = 16 := by omega
   subst this
   rw [fillTo_all, fill_rep] at hs
   clear o1
   rw [show ((16 : Nat) : Int) = 16 from rfl]
   go_wp2_with (first
    | ((with_reducible show wpList _ _ _ (⟨none, .store 3 (.tmp 9) _, _, _, _, _⟩ :: _) _ _); refine wpList_store_st (o := ⟨none, _, _, _, _, _⟩) rfl 3 _ _ rfl g1 8 rfl [.int .i64 268435454] rfl 1 szI rfl hs 0 _ _ rfl (by simp) (by intro x hx; simp at hx; subst hx; rfl) (is primeD) rfl ?_; clear hs; intro w2 st)
    | ((with_reducible show wpList _ _ _ (⟨some 10, _, _, _, _, _⟩ :: _) _ _); refine wpList_load_st (o := ⟨some 10, _, _, _, _, _⟩) rfl 31 (.tmp 1) rfl g1 0 rfl 16 aggF st 0 _ _ (AG (is primeD)) rfl (by simp) (cut_all _ 16 (by simp)) ?_)
    | ((with_reducible show wpList _ _ _ (⟨none, .store 31 (.tmp 0) (.tmp 10), _, _, _, _⟩ :: _) _ _); refine wpList_store_st (o := ⟨none, _, _, _, _, _⟩) rfl 31 _ _ rfl g0 0 rfl (is primeD) rfl 16 aggF.size (by simp) st 1 _ _ rfl (by simp) (is_one _) (is primeD) (put_all _ _ 16 (by simp) (by simp)) ?_; clear st; intro w3 st))
   exact post_st rfl g0 rfl st 1 _ _ rfl 16 aggF (by simp) rfl ⟨rfl, st.below⟩

def lessT (d p : List Int) : Nat → Bool
 | 0 => false
 | k + 1 => if d.getD k 0 = p.getD k 0 then lessT d p k else decide (d.getD k 0 < p.getD k 0)

set_option maxHeartbeats 1000000 in
theorem less_any (d : List Int) (ld : d.length = 16) (w : World) :
 Calls Try.prog 58 #[AG (is d)] w fun e w' => e = .returned (.bool (lessT d primeD 16)) ∧ Below w.heap.size w w' := by
 go_enter Try.func58, Try.ntmps58
 have st := St.start w
 go_wp2_with ((with_reducible show wpList _ _ _ (⟨some 1, _, _, _, _, _⟩ :: _) _ _); refine wpList_box_st (o := ⟨some 1, _, _, _, _, _⟩) rfl 31 (.tmp 0) rfl (is d) rfl st ?_; clear st; intro g1 w1 st)
 refine (rprime_any _).mono ?_
 rintro e w5 ⟨rfl, hb⟩
 replace st := st.call hb; clear hb
 go_wp2_with (first
  | ((with_reducible show wpList _ _ _ (⟨some 3, _, _, _, _, _⟩ :: _) _ _); refine wpList_alloc_st (o := ⟨some 3, _, _, _, _, _⟩) rfl 31 rfl (is zF) zisF st ?_; clear st; intro g3 w3 st)
  | ((with_reducible show wpList _ _ _ (⟨none, .store 31 (.tmp 3) (.tmp 5), _, _, _, _⟩ :: _) _ _); refine wpList_store_st (o := ⟨none, _, _, _, _, _⟩) rfl 31 _ _ rfl g3 0 rfl (is primeD) rfl 16 aggF.size (by simp) st 0 _ _ rfl (by simp) (is_one _) (is primeD) (put_all _ _ 16 (by simp) (by simp)) ?_; clear st; intro w_0 st))
 go_loopw [4] (fun i wr => ∃ k : Nat, k ≤ 16 ∧ i = .int .i64 ((k : Int) - 1) ∧ Hid (lessT d primeD 16 = lessT d primeD k) ∧ St w wr [(g3, is primeD, 31), (g1, is d, 31)]) (fun i _ => (intOf i + 1).toNat)
 case atStart => exact ⟨16, by omega, rfl, hide rfl, st⟩
 case round =>
  obtain ⟨k, hk, rfl, hq, st'⟩ := hrel
  clear st
  have st := st'; clear st'
  by_cases h0 : k = 0
  ·subst h0
   rw [show ((0 : Nat) : Int) - 1 = -1 from rfl]
   have Hq : Hid (lessT d primeD 16 = false) := hide hq.out
   clear hq
   go_wp2
   go_ret
   exact ⟨by rw [Hq.out]; rfl, st.below⟩
  ·obtain ⟨j, rfl⟩ : ∃ j, k = j + 1 := ⟨k - 1, by omega⟩
   rw [show ((j + 1 : Nat) : Int) - 1 = (j : Int) by omega]
   have hj0 : (0 : Int) ≤ (j : Int) := by omega
   have hj1 : (j : Int) < 16 := by omega
   have c1 := (st.get 1 rfl).cell_of j (is_get d j (by omega))
   have c2 := (st.get 0 rfl).cell_of j (is_get primeD j (by rw [primeD_len]; omega))
   have hq' := hq.out
   rw [show lessT d primeD (j + 1) = (if d.getD j 0 = primeD.getD j 0 then lessT d primeD j else decide (d.getD j 0 < primeD.getD j 0)) from rfl] at hq'
   generalize hx : d.getD j 0 = x at c1 hq'
   generalize hy : primeD.getD j 0 = y at c2 hq'
   have St' := hide st; clear st
   have Hx := hide hx; have Hy := hide hy; clear hx hy
   by_cases hxy : x = y
   ·have q : (x != y) = false := by simpa using hxy
    rw [if_pos hxy] at hq'
    have Hq := hide hq'; clear hq' hq hxy
    go_wp2
    go_quiet (fail)
    go_wp2
    go_roundw
    case rel => exact ⟨j, by omega, by go_num, Hq, St'.out.drewN _⟩
    case measure => simp [intOf]
   ·have q : (x != y) = true := by simpa using hxy
    rw [if_neg hxy] at hq'
    have Hq := hide hq'; clear hq' hq hxy
    go_wp2
    go_quiet (fail)
    go_wp2
    go_quiet (fail)
    go_wp2
    go_ret
    exact ⟨by rw [Hq.out]; rfl, ((St'.out.drewN _).drewN _).below⟩
end Go.Proofs.Ytdpongijmmdnoaa
/- plain law of the document's answer's digits -/
namespace Go.Proofs.Ytdpongijmmdnoaa
open Go.RowKit FdP FdP.Ch

def v28 : List Int → Int
 | [] => 0
 | x :: l => x + 268435456 * v28 l
def digk : Nat → Int → List Int
 | 0, _ => []
 | k + 1, n => n % 268435456 :: digk k (n / 268435456)
def Dg (l : List Int) : Prop := ∀ x ∈ l, 0 ≤ x ∧ x < 268435456

@[simp] theorem digk_len (k : Nat) (n : Int) : (digk k n).length = k := by
 induction k generalizing n with
 | zero => rfl
 | succ k ih => simp [digk, ih]
theorem digk_dg (k : Nat) (n : Int) : Dg (digk k n) := by
 induction k generalizing n with
 | zero => intro x hx; simp [digk] at hx
 | succ k ih =>
  intro x hx
  rcases List.mem_cons.1 hx with rfl | h
  ·omega
  ·exact ih _ x h
theorem digk_v28 (l : List Int) (h : Dg l) : digk l.length (v28 l) = l := by
 induction l with
 | nil => rfl
 | cons x l ih =>
  have hx := h x (by simp)
  have hl := ih (fun y hy => h y (by simp [hy]))
  simp only [List.length_cons, digk, v28]
  rw [show (x + 268435456 * v28 l) % 268435456 = x by omega, show (x + 268435456 * v28 l) / 268435456 = v28 l by omega, hl]
theorem v28_digk (k : Nat) (n : Int) (h0 : 0 ≤ n) (h1 : n < 268435456 ^ k) : v28 (digk k n) = n := by
 induction k generalizing n with
 | zero => simp [digk, v28]; simp at h1; omega
 | succ k ih =>
  have : n / 268435456 < 268435456 ^ k := by
   rw [Int.pow_succ] at h1
   generalize (268435456 : Int) ^ k = q at *
   omega
  simp only [digk, v28, ih (n / 268435456) (by omega) this]
  omega
theorem v28_bd (l : List Int) (h : Dg l) : 0 ≤ v28 l ∧ v28 l < 268435456 ^ l.length := by
 induction l with
 | nil => simp [v28]
 | cons x l ih =>
  have hx := h x (by simp)
  have hl := ih (fun y hy => h y (by simp [hy]))
  simp only [List.length_cons, v28, Int.pow_succ]
  generalize (268435456 : Int) ^ l.length = q at *
  generalize v28 l = u at *
  omega
theorem v28_take (l : List Int) (k : Nat) : v28 (l.take (k + 1)) = v28 (l.take k) + l.getD k 0 * 268435456 ^ k := by
 induction l generalizing k with
 | nil => simp [v28]
 | cons x l ih =>
  cases k with
  | zero => simp [v28]
  | succ k =>
   have := ih k
   simp only [List.take_succ_cons, v28, List.getD_cons_succ, this, Int.mul_add, Int.pow_succ]
   generalize v28 (l.take k) = u
   generalize (268435456 : Int) ^ k = b
   grind
theorem v28_set (l : List Int) (i : Nat) (v : Int) (h : i < l.length) : v28 (l.set i (l.getD i 0 + v)) = v28 l + v * 268435456 ^ i := by
 induction l generalizing i with
 | nil => simp at h
 | cons x l ih =>
  cases i with
  | zero => simp [v28]; omega
  | succ i =>
   have := ih i (by simpa using h)
   simp only [List.set_cons_succ, List.getD_cons_succ, v28, this, Int.mul_add, Int.pow_succ]
   generalize v28 l = u
   generalize (268435456 : Int) ^ i = b
   grind
theorem dg_take {l : List Int} (h : Dg l) (k : Nat) : Dg (l.take k) := fun x hx => h x (List.mem_of_mem_take hx)
theorem dg_get {l : List Int} (h : Dg l) (i : Nat) (hi : i < l.length) : 0 ≤ l.getD i 0 ∧ l.getD i 0 < 268435456 := by
 have : l.getD i 0 = l[i] := by simp [List.getD, hi]
 rw [this]; exact h _ (List.getElem_mem hi)

theorem lessT_law (d p : List Int) (hl : d.length = p.length) (hd : Dg d) (hp : Dg p) : ∀ k, k ≤ d.length → lessT d p k = decide (v28 (d.take k) < v28 (p.take k)) := by
 intro k
 induction k with
 | zero => intro _; simp [lessT, v28]
 | succ k ih =>
  intro hk
  have := ih (by omega)
  have bd := v28_bd _ (dg_take hd k)
  have bp := v28_bd _ (dg_take hp k)
  rw [List.length_take, Nat.min_eq_left (by omega)] at bd bp
  have gd := dg_get hd k (by omega)
  have gp := dg_get hp k (by omega)
  rw [lessT, this, v28_take d k, v28_take p k]
  generalize v28 (d.take k) = u at *
  generalize v28 (p.take k) = t at *
  generalize d.getD k 0 = x at *
  generalize p.getD k 0 = y at *
  generalize (268435456 : Int) ^ k = q at *
  by_cases h : x = y
  ·subst h
   rw [if_pos rfl]
   exact decide_eq_decide.2 (by omega)
  ·rw [if_neg h]
   refine decide_eq_decide.2 ?_
   rcases Int.lt_or_gt_of_ne h with hlt | hgt
   ·have : (x + 1) * q ≤ y * q := Int.mul_le_mul_of_nonneg_right (by omega) (by omega)
    rw [Int.add_mul] at this
    omega
   ·have : (y + 1) * q ≤ x * q := Int.mul_le_mul_of_nonneg_right (by omega) (by omega)
    rw [Int.add_mul] at this
    omega

theorem v28_prime : v28 primeD = P := by decide +kernel
theorem less_law28 (d : List Int) (ld : d.length = 16) (hd : Dg d) : lessT d primeD 16 = decide (v28 d < P) := by
 have := lessT_law d primeD (by rw [ld]; rfl) hd (by intro x hx; simp [primeD] at hx; omega) 16 (by omega)
 rw [this, List.take_of_length_le (by omega), List.take_of_length_le (by rw [primeD_len]; omega), v28_prime]

def passT (l : List Int) (o : Int) : Nat → List Int × Int
 | 0 => (l, o)
 | k + 1 => ((passT l o k).1.set k (((passT l o k).1.getD k 0 + (passT l o k).2) % 268435456), ((passT l o k).1.getD k 0 + (passT l o k).2) / 268435456)
@[simp] theorem passT_len (l : List Int) (o : Int) (k : Nat) : (passT l o k).1.length = l.length := by
 induction k with
 | zero => rfl
 | succ k ih => simp [passT, ih]
theorem passT_far (l : List Int) (o : Int) (k j : Nat) (h : k ≤ j) : (passT l o k).1.getD j 0 = l.getD j 0 := by
 induction k with
 | zero => rfl
 | succ k ih => rw [passT, getD_set_ne' _ _ _ _ (by omega)]; exact ih (by omega)
theorem take_set_self {α : Type} (l : List α) (k : Nat) (v : α) : (l.set k v).take k = l.take k := by
 apply List.ext_getElem?
 intro i
 by_cases h : i < k
 ·simp [List.getElem?_take, List.getElem?_set, h, show ¬ k = i by omega]
 ·simp [List.getElem?_take, h]
theorem pass_law (l : List Int) (k : Nat) (hk : k ≤ l.length) : (∀ j, j < k → 0 ≤ (passT l 0 k).1.getD j 0 ∧ (passT l 0 k).1.getD j 0 < 268435456) ∧ v28 ((passT l 0 k).1.take k) + 268435456 ^ k * (passT l 0 k).2 = v28 (l.take k) := by
 induction k with
 | zero => simp [passT, v28]
 | succ k ih =>
  obtain ⟨h1, h2⟩ := ih (by omega)
  have hf := passT_far l 0 k k (by omega)
  have hlen := passT_len l 0 k
  rw [passT]
  generalize passT l 0 k = q at *
  obtain ⟨m, o⟩ := q
  dsimp only at *
  rw [hf]
  refine ⟨fun j hj => ?_, ?_⟩
  ·by_cases hjk : k = j
   ·subst hjk; rw [getD_set_eq' _ _ _ (by omega)]; omega
   ·rw [getD_set_ne' _ _ _ _ hjk]; exact h1 j (by omega)
  ·rw [v28_take, v28_take l k, take_set_self, getD_set_eq' _ _ _ (by omega), ← h2, Int.pow_succ]
   have e := Int.emod_add_mul_ediv (l.getD k 0 + o) 268435456
   generalize (l.getD k 0 + o) % 268435456 = r at *
   generalize (l.getD k 0 + o) / 268435456 = s at *
   generalize (268435456 : Int) ^ k = b at *
   generalize v28 (m.take k) = u at *
   generalize l.getD k 0 = x at *
   grind
theorem pass_bd (l : List Int) (k : Nat) (hk : k ≤ l.length) (h : ∀ x ∈ l, -4611685468671574016 ≤ x ∧ x ≤ 4611685468671574016) : -17179869184 ≤ (passT l 0 k).2 ∧ (passT l 0 k).2 ≤ 17179869184 := by
 induction k with
 | zero => simp [passT]
 | succ k ih =>
  have := ih (by omega)
  have hf := passT_far l 0 k k (by omega)
  have hx : -4611685468671574016 ≤ l.getD k 0 ∧ l.getD k 0 ≤ 4611685468671574016 := by
   have : l.getD k 0 = l[k] := by simp [List.getD, show k < l.length by omega]
   rw [this]; exact h _ (List.getElem_mem (by omega))
  rw [passT, hf]
  generalize (passT l 0 k).2 = o at *
  generalize l.getD k 0 = x at *
  dsimp only
  omega
end Go.Proofs.Ytdpongijmmdnoaa
/- chicoryref04.Norm: norm_head.txt with the lines of gen_norm.py -/
namespace Go.Proofs.Ytdpongijmmdnoaa
open Go.RowKit FdP FdP.Ch

@[simp] theorem is_len' (l : List Int) : (is l).length = l.length := by simp [is]
theorem is_set_get (m : List Int) (k : Nat) (v : Int) (h : k < (m.set k v).length) : (is (m.set k v))[k]? = some (.int .i64 v) := by
 rw [is_get _ _ h, getD_set_eq' _ _ _ (by simpa using h)]
theorem put_is (l : List Int) (i : Nat) (v : Int) (h : i < l.length) : is (l.set i v) = (is l).take i ++ [.int .i64 v] ++ (is l).drop (i + [Value.int .i64 v].length) := by
 have e : l.set i v = l.take i ++ [v] ++ l.drop (i + 1) := by rw [List.set_eq_take_append_cons_drop, if_pos h]; simp
 rw [e]; simp [is]

theorem tmod_nn (n : Int) (h : 0 ≤ n ∨ n % 268435456 = 0) : Int.tmod n 268435456 = n % 268435456 := by
 rcases h with h | h
 ·exact Int.tmod_eq_emod_of_nonneg h
 ·rw [h]; exact Int.tmod_eq_zero_of_dvd (Int.dvd_of_emod_eq_zero h)
theorem tmod_neg (n : Int) (h : n < 0) (h' : ¬ n % 268435456 = 0) : Int.tmod n 268435456 = n % 268435456 - 268435456 := by
 have := Int.tmod_eq_emod (a := n) (b := 268435456)
 have hn : ¬ (0 ≤ n ∨ (268435456 : Int) ∣ n) := by
  intro hh
  rcases hh with hh | hh
  ·omega
  ·exact h' (Int.emod_eq_zero_of_dvd hh)
 rw [this, if_neg hn]
 rfl
theorem tdiv_ex (n : Int) : Int.tdiv (n - n % 268435456) 268435456 = n / 268435456 := by
 have e : n - n % 268435456 = 268435456 * (n / 268435456) := by omega
 rw [e, Int.mul_tdiv_cancel_left _ (by omega)]

theorem dg_of {m : List Int} {n : Nat} (hl : m.length = n) (h : ∀ j, j < n → 0 ≤ m.getD j 0 ∧ m.getD j 0 < 268435456) : Dg m := by
 intro x hx
 obtain ⟨i, hi, rfl⟩ := List.mem_iff_getElem.1 hx
 have := h i (by omega)
 simpa [List.getD, hi] using this

def memV (w : World) (g : Nat) : Nat :=
 match w.heap[g]? with
 | some (.cells cs _ _) => (v28 (cs.toList.map intOf)).toNat
 | _ => 0
theorem memV_own {w : World} {g : Nat} {l : List Int} {T : TypeId} (h : Own w g (is l) T) : memV w g = (v28 l).toNat := by
 unfold memV
 unfold Own at h
 rw [h]
 simp only [is, List.map_map]
 rw [show intOf ∘ Value.int IntKind.i64 = id from rfl, List.map_id]

theorem fold28 (vm vm1 vm2 vl o : Int) (e0 : vm1 = vm + o * 268435456 ^ 0) (e8 : vm2 = vm1 + o * 268435456 ^ 8) (vb : 0 ≤ vm ∧ vm < 268435456 ^ 16) (pl : vm + 268435456 ^ 16 * o = vl) (h : 0 ≤ vl) :
 vm2 = vl - P * o ∧ 0 ≤ o ∧ 0 ≤ vm2 := by
 have P' : (P : Int) = 268435456 ^ 16 - 268435456 ^ 8 - 1 := by decide +kernel
 rw [P']
 refine ⟨by omega, by omega, by omega⟩
theorem fold_dg {m m1 m2 : List Int} {y0 y8 o : Int} (h1 : m.set 0 (y0 + o) = m1) (h2 : m1.set 8 (y8 + o) = m2) (dm : Dg m) (a : 0 ≤ y0 ∧ y0 < 268435456) (b : 0 ≤ y8 + o - o ∧ y8 ≤ 4611685000000000000) (ob : -17179869184 ≤ o ∧ o ≤ 17179869184) :
 (∀ x ∈ m2, -4611685468671574016 ≤ x ∧ x ≤ 4611685468671574016) := by
 intro x hx
 rw [← h2] at hx
 rcases List.mem_or_eq_of_mem_set hx with h | h
 ·rw [← h1] at h
  rcases List.mem_or_eq_of_mem_set h with h | h
  ·have := dm x h; omega
  ·omega
 ·omega
theorem fold_dg0 {m m1 m2 : List Int} {y0 y8 : Int} (h1 : m.set 0 (y0 + 0) = m1) (h2 : m1.set 8 (y8 + 0) = m2) (dm : Dg m) (a : 0 ≤ y0 ∧ y0 < 268435456) (b : 0 ≤ y8 ∧ y8 < 268435456) : Dg m2 := by
 intro x hx
 rw [← h2] at hx
 rcases List.mem_or_eq_of_mem_set hx with h | h
 ·rw [← h1] at h
  rcases List.mem_or_eq_of_mem_set h with h | h
  ·exact dm x h
  ·omega
 ·omega

def subT (l : List Int) : Nat → List Int
 | 0 => l
 | k + 1 => (subT l k).set k ((subT l k).getD k 0 - primeD.getD k 0)
@[simp] theorem subT_len (l : List Int) (k : Nat) : (subT l k).length = l.length := by
 induction k with
 | zero => rfl
 | succ k ih => simp [subT, ih]

theorem subT_far (l : List Int) (k j : Nat) (h : k ≤ j) : (subT l k).getD j 0 = l.getD j 0 := by
 induction k with
 | zero => rfl
 | succ k ih => rw [subT, getD_set_ne' _ _ _ _ (by omega)]; exact ih (by omega)
theorem primeD_dg : Dg primeD := by intro x hx; simp [primeD] at hx; omega

theorem sub_law (l : List Int) (ll : l.length = 16) (_ : Dg l) (k : Nat) (hk : k ≤ 16) : v28 (subT l k) = v28 l - v28 (primeD.take k) := by
 induction k with
 | zero => simp [subT, v28]
 | succ k ih =>
  have := ih (by omega)
  rw [subT, show (subT l k).getD k 0 - primeD.getD k 0 = (subT l k).getD k 0 + (- primeD.getD k 0) by omega, v28_set _ _ _ (by rw [subT_len]; omega), this, v28_take primeD k, Int.neg_mul]
  omega
theorem sub_bd (l : List Int) (ll : l.length = 16) (dl : Dg l) (k : Nat) (hk : k ≤ 16) : ∀ x ∈ subT l k, -4611685468671574016 ≤ x ∧ x ≤ 4611685468671574016 := by
 induction k with
 | zero => intro x hx; have := dl x hx; omega
 | succ k ih =>
  intro x hx
  rw [subT] at hx
  rcases List.mem_or_eq_of_mem_set hx with h | h
  ·exact ih (by omega) x h
  ·have a := dg_get dl k (by omega)
   have b := dg_get primeD_dg k (by rw [primeD_len]; omega)
   rw [subT_far l k k (by omega)] at h
   omega

def meas (t : Value) (w : World) (g : Nat) : Nat := 2 * memV w g + min 1 (intOf t).natAbs

set_option maxRecDepth 100000 in
set_option maxHeartbeats 4000000 in
theorem norm_step (N : Nat) (ih : ∀ (l : List Int), l.length = 16 → (∀ x ∈ l, -4611685468671574016 ≤ x ∧ x ≤ 4611685468671574016) → 0 ≤ v28 l → v28 l < N → ∀ w, Calls Try.prog 46 #[AG (is l)] w fun e w' => e = .returned (AG (is (digk 16 (v28 l % P)))) ∧ Below w.heap.size w w')
 (l : List Int) (ll : l.length = 16) (bl : ∀ x ∈ l, -4611685468671574016 ≤ x ∧ x ≤ 4611685468671574016) (h0 : 0 ≤ v28 l) (h1 : v28 l < (N + 1 : Nat)) (w : World) :
 Calls Try.prog 46 #[AG (is l)] w fun e w' => e = .returned (AG (is (digk 16 (v28 l % P)))) ∧ Below w.heap.size w w' := by
 have Ih := hide ih; clear ih
 have Bl := hide bl; clear bl
 go_enter Try.func46, Try.ntmps46
 have st := St.start w
 go_wp2_with (first
  | ((with_reducible show wpList _ _ _ (⟨some 1, _, _, _, _, _⟩ :: _) _ _); refine wpList_box_st (o := ⟨some 1, _, _, _, _, _⟩) rfl 31 (.tmp 0) rfl (is l) rfl st ?_; clear st; intro g1 w1 st)
  | ((with_reducible show wpList _ _ _ (⟨some 2, _, _, _, _, _⟩ :: _) _ _); refine wpList_alloc_st (o := ⟨some 2, _, _, _, _, _⟩) rfl 31 rfl (is zF) zisF st ?_; clear st; intro g2 w2 st))
 go_loopw [3] (fun t wr => ∃ (o : Int) (l' : List Int), t = .int .i64 o ∧ Hid (l'.length = 16 ∧ (∀ x ∈ l', -4611685468671574016 ≤ x ∧ x ≤ 4611685468671574016) ∧ 0 ≤ v28 l' ∧ v28 l' ≤ v28 l ∧ v28 l' % P = v28 l % P ∧ (o = 0 → Dg l')) ∧ St w wr [(g2, is zF, 31), (g1, is l', 31)]) (fun t wr => meas t wr g1)
 case atStart => exact ⟨1, l, rfl, hide ⟨ll, Bl.out, h0, Int.le_refl _, rfl, fun h => by omega⟩, st⟩
 case round =>
  obtain ⟨o, l', rfl, inv, st'⟩ := hrel
  clear st
  have st := st'; clear st'
  by_cases ho : o = 0
  ·subst ho
   obtain ⟨i1, i2, i3, i4, i5, i6⟩ := inv.out
   have dl := i6 rfl
   have Dl := hide dl
   have hless := less_law28 l' i1 dl
   clear i2 i6 dl
   go_wp2_with ((with_reducible show wpList _ _ _ (⟨some 49, _, _, _, _, _⟩ :: _) _ _); refine wpList_load_st (o := ⟨some 49, _, _, _, _, _⟩) rfl 31 (.tmp 1) rfl g1 0 rfl 16 aggF st 1 _ _ (AG (is l')) rfl (by simp only [is_len, i1]; omega) (cut_all _ 16 (by simp only [is_len, i1])) ?_)
   refine (less_any l' i1 _).mono ?_
   rintro e w50 ⟨rfl, hb⟩
   replace st := st.call hb; clear hb
   rw [hless]
   clear hless
   by_cases hp : v28 l' < P
   ·rw [decide_eq_true hp]
    have Hp := hide hp; clear hp
    go_wp2_with (first
     | ((with_reducible show wpList _ _ _ (⟨some 51, _, _, _, _, _⟩ :: _) _ _); refine wpList_load_st (o := ⟨some 51, _, _, _, _, _⟩) rfl 31 (.tmp 1) rfl g1 0 rfl 16 aggF st 1 _ _ (AG (is l')) rfl (by simp only [is_len, i1]; omega) (cut_all _ 16 (by simp only [is_len, i1])) ?_)
     | ((with_reducible show wpList _ _ _ (⟨none, .store 31 (.tmp 2) (.tmp 51), _, _, _, _⟩ :: _) _ _); refine wpList_store_st (o := ⟨none, _, _, _, _, _⟩) rfl 31 _ _ rfl g2 0 rfl (is l') rfl 16 aggF.size (by simp only [is_len, i1]) st 0 _ _ rfl (by simp only [is_len, i1, zF_len]; omega) (is_one _) (is l') (put_all _ _ 16 (by simp only [is_len, i1]) (by simp)) ?_; clear st; intro w_0 st))
    refine post_st rfl g2 rfl st 0 _ _ rfl 16 aggF (by simp only [is_len, i1]) rfl ⟨?_, st.below⟩
    rw [← i5, Int.emod_eq_of_lt i3 Hp.out]
    have := digk_v28 l' Dl.out
    rw [i1] at this
    rw [this]; rfl
   ·rw [decide_eq_false hp]
    have Hp := hide hp; clear hp
    go_wp2_with fail
    refine (rprime_any _).mono ?_
    rintro e w52 ⟨rfl, hb⟩
    replace st := st.call hb; clear hb
    go_wp2_with (first
     | ((with_reducible show wpList _ _ _ (⟨some 6, _, _, _, _, _⟩ :: _) _ _); refine wpList_alloc_st (o := ⟨some 6, _, _, _, _, _⟩) rfl 31 rfl (is zF) zisF st ?_; clear st; intro g6 w6 st)
     | ((with_reducible show wpList _ _ _ (⟨none, .store 31 (.tmp 6) (.tmp 52), _, _, _, _⟩ :: _) _ _); refine wpList_store_st (o := ⟨none, _, _, _, _, _⟩) rfl 31 _ _ rfl g6 0 rfl (is primeD) rfl 16 aggF.size (by simp) st 0 _ _ rfl (by simp) (is_one _) (is primeD) (put_all _ _ 16 (by simp) (by simp)) ?_; clear st; intro w_0 st))
    go_loopw [7] (fun t wr => ∃ k : Nat, k ≤ 16 ∧ t = .int .i64 k ∧ St w wr [(g6, is primeD, 31), (g2, is zF, 31), (g1, is (subT l' k), 31)]) (fun i _ => 16 - (intOf i).toNat)
    case atStart => exact ⟨0, by omega, rfl, st⟩
    case round =>
     obtain ⟨k, hk, rfl, st'⟩ := hrel
     clear st
     have st := st'; clear st'
     have Lb := hide ((subT_len l' k).trans i1)
     generalize hb : subT l' k = b at *
     have Hb := hide hb; clear hb
     by_cases hlt : k < 16
     ·have hlt' : (k : Int) < 16 := by omega
      have bb : 0 ≤ b.getD k 0 ∧ b.getD k 0 < 268435456 := by
       rw [← Hb.out, subT_far l' k k (by omega)]; exact dg_get Dl.out k (by omega)
      have pb : 0 ≤ primeD.getD k 0 ∧ primeD.getD k 0 < 268435456 := dg_get primeD_dg k (by rw [primeD_len]; omega)
      have Bk := hide (is_get b k (by rw [Lb.out]; exact hlt))
      have Pk := hide (is_get primeD k (by rw [primeD_len]; exact hlt))
      generalize hx : b.getD k 0 = x at Bk bb
      generalize hy : primeD.getD k 0 = y at Pk pb
      have Hx := hide hx; have Hy := hide hy; clear hx hy
      have wxy : IntKind.i64.wrap (x - y) = x - y := IntWalk.i64_in _ (by omega)
      go_wp2_with fail
      refine wp_region_ordx [(0, 0), (1, 0), (2, 0), (3, 0), (4, 0), (5, 0), (6, 0), (7, 0), (8, 0), (9, 2)] (fun W => St w W [(g6, is primeD, 31), (g2, is zF, 31), (g1, is b, 31)]) (by kernel_rfl) (by kernel_rfl) (by kernel_rfl) (fun _ _ d _ _ h => by cases d <;> exact h) st.drew ?_
      replace st := st.drew
      refine ordx_quiet (o := ⟨some 57, _, _, _, _, _⟩) (v := (.int .i64 (↑k))) rfl rfl (fun _ _ => rfl) ?_
      try simp only [Act.put, List.setIfInBounds_toArray, List.set_cons_zero, List.set_cons_succ]
      refine ordx_quiet (o := ⟨some 58, _, _, _, _, _⟩) (v := (.int .i64 (↑k))) rfl rfl (fun _ _ => rfl) ?_
      try simp only [Act.put, List.setIfInBounds_toArray, List.set_cons_zero, List.set_cons_succ]
      refine ordx_quiet (o := ⟨some 59, _, _, _, _, _⟩) (v := (.pointer (some ⟨g1, k, none⟩))) rfl rfl (fun _ _ => by go_simp) ?_
      try simp only [Act.put, List.setIfInBounds_toArray, List.set_cons_zero, List.set_cons_succ]
      refine ordx_load1 (o := ⟨some 60, _, _, _, _, _⟩) rfl rfl 3 (.tmp 59) rfl g1 k rfl naInt _ _ (.int .i64 x) (fun W hS => hS.get 2 rfl) (Bk.out) ?_
      try simp only [Act.put, List.setIfInBounds_toArray, List.set_cons_zero, List.set_cons_succ]
      refine ordx_quiet (o := ⟨some 61, _, _, _, _, _⟩) (v := (.int .i64 (↑k))) rfl rfl (fun _ _ => rfl) ?_
      try simp only [Act.put, List.setIfInBounds_toArray, List.set_cons_zero, List.set_cons_succ]
      refine ordx_quiet (o := ⟨some 62, _, _, _, _, _⟩) (v := (.pointer (some ⟨g6, k, none⟩))) rfl rfl (fun _ _ => by go_simp) ?_
      try simp only [Act.put, List.setIfInBounds_toArray, List.set_cons_zero, List.set_cons_succ]
      refine ordx_load1 (o := ⟨some 63, _, _, _, _, _⟩) rfl rfl 3 (.tmp 62) rfl g6 k rfl naInt _ _ (.int .i64 y) (fun W hS => hS.get 0 rfl) (Pk.out) ?_
      try simp only [Act.put, List.setIfInBounds_toArray, List.set_cons_zero, List.set_cons_succ]
      refine ordx_quiet (o := ⟨some 64, _, _, _, _, _⟩) (v := (.int .i64 (x - y))) rfl rfl (fun _ _ => by go_simp) ?_
      try simp only [Act.put, List.setIfInBounds_toArray, List.set_cons_zero, List.set_cons_succ]
      refine ordx_quiet (o := ⟨some 65, _, _, _, _, _⟩) (v := (.pointer (some ⟨g1, k, none⟩))) rfl rfl (fun _ _ => by go_simp) ?_
      try simp only [Act.put, List.setIfInBounds_toArray, List.set_cons_zero, List.set_cons_succ]
      refine ordx_store (o := ⟨none, .store 3 (.tmp 65) (.tmp 64), _, _, _, _⟩) rfl rfl 3 (.tmp 65) (.tmp 64) rfl g1 k rfl ([(.int .i64 (x - y))]) rfl 1 szI (by first | omega | (simp; done) | (simp; omega)) st 2 _ _ rfl (by simp only [is_len, Lb.out, List.length_cons, List.length_nil]; omega) (by intro x hx; simp at hx; subst hx; rfl) (is (b.set k (x - y))) (put_is _ _ _ (by rw [Lb.out]; omega)) ?_
      clear st; intro w_0 st
      try simp only [Act.put, List.setIfInBounds_toArray, List.set_cons_zero, List.set_cons_succ]
      refine ordx_nil ?_
      go_wp2_with fail
      go_roundw
      case rel => exact ⟨k + 1, by omega, by go_num, by rw [subT, Hb.out, Hx.out, Hy.out]; exact st⟩
      case measure => simp [intOf]; omega
     ·have : k = 16 := by omega
      subst this
      have vs := sub_law l' i1 Dl.out 16 (by omega)
      have bs := sub_bd l' i1 Dl.out 16 (by omega)
      rw [Hb.out] at vs bs
      rw [List.take_of_length_le (by rw [primeD_len]; omega), v28_prime] at vs
      rw [show ((16 : Nat) : Int) = 16 from rfl]
      have pp := P_pos
      have Hs := hide vs; have HB := hide bs; clear vs bs
      have lb := Lb.out
      go_wp2_with ((with_reducible show wpList _ _ _ (⟨some 66, _, _, _, _, _⟩ :: _) _ _); refine wpList_load_st (o := ⟨some 66, _, _, _, _, _⟩) rfl 31 (.tmp 1) rfl g1 0 rfl 16 aggF st 2 _ _ (AG (is b)) rfl (by simp only [is_len, lb]; omega) (cut_all _ 16 (by simp only [is_len, lb])) ?_)
      refine (Ih.out b lb HB.out (by have := Hs.out; have := Hp.out; omega) (by have := Hs.out; omega) _).mono ?_
      rintro e w67 ⟨rfl, hb⟩
      replace st := st.call hb; clear hb
      have ev : v28 b % P = v28 l % P := by rw [← i5, Hs.out]; simp [Int.sub_emod]
      rw [ev]
      clear ev
      go_wp2_with ((with_reducible show wpList _ _ _ (⟨none, .store 31 (.tmp 2) (.tmp 67), _, _, _, _⟩ :: _) _ _); refine wpList_store_st (o := ⟨none, _, _, _, _, _⟩) rfl 31 _ _ rfl g2 0 rfl (is (digk 16 (v28 l % P))) rfl 16 aggF.size (by simp) st 1 _ _ rfl (by simp) (is_one _) (is (digk 16 (v28 l % P))) (put_all _ _ 16 (by simp) (by simp)) ?_; clear st; intro w_1 st)
      exact post_st rfl g2 rfl st 1 _ _ rfl 16 aggF (by simp) rfl ⟨rfl, st.below⟩
  ·have hob : (o != 0) = true := by simpa using ho
   obtain ⟨i1, i2, i3, i4, i5, i6⟩ := inv.out
   have I2 := hide i2; clear i2 i6
   have M0 := hide (memV_own (st.get 1 rfl))
   go_wp2_with fail
   go_loopw [3, 4] (fun t i wr => ∃ k : Nat, k ≤ 16 ∧ i = .int .i64 k ∧ t = .int .i64 (passT l' 0 k).2 ∧ St w wr [(g2, is zF, 31), (g1, is (passT l' 0 k).1, 31)]) (fun _ i _ => 16 - (intOf i).toNat)
   case atStart => exact ⟨0, by omega, rfl, rfl, st⟩
   case round =>
    obtain ⟨k, hk, rfl, rfl, st'⟩ := hrel
    clear st
    have st := st'; clear st'
    have Lm := hide ((passT_len l' 0 k).trans i1)
    have ob := pass_bd l' k (by omega) I2.out
    have hf := passT_far l' 0 k k (by omega)
    generalize hq : passT l' 0 k = q at *
    obtain ⟨m, o⟩ := q
    have Hq := hide hq; clear hq
    dsimp only at *
    by_cases hlt : k < 16
    ·have hlt' : (k : Int) < 16 := by omega
     have xb : -4611685468671574016 ≤ m.getD k 0 ∧ m.getD k 0 ≤ 4611685468671574016 := by
      rw [hf]
      have hl : k < l'.length := by omega
      have : l'.getD k 0 = l'[k] := by simp [List.getD, hl]
      rw [this]; exact I2.out _ (List.getElem_mem hl)
     have Mk := hide (is_get m k (by rw [Lm.out]; exact hlt))
     generalize hx : m.getD k 0 = x at xb Mk
     have Hx := hide hx; clear hx hf
     have wn : IntKind.i64.wrap (x + o) = x + o := IntWalk.i64_in _ (by omega)
     have td := tdiv_ex (x + o)
     have w64 : wrap64 ((x + o) / 268435456) = (x + o) / 268435456 := by unfold wrap64; omega
     have rb : 0 ≤ (x + o) % 268435456 ∧ (x + o) % 268435456 < 268435456 := by omega
     by_cases hc : 0 ≤ x + o ∨ (x + o) % 268435456 = 0
     ·have tm := tmod_nn _ hc
      generalize hr : (x + o) % 268435456 = r at *
      generalize hs : (x + o) / 268435456 = s at *
      have Hr := hide hr; have Hs := hide hs; clear hr hs hc
      have wr' : IntKind.i64.wrap (x + o - r) = x + o - r := IntWalk.i64_in _ (by omega)
      have hr0 : ¬ r < 0 := by omega
      go_wp2_with (first
       | ((with_reducible show wpList _ _ _ (⟨some 16, _, _, _, _, _⟩ :: _) _ _); refine wpList_load1_st (o := ⟨some 16, _, _, _, _, _⟩) rfl 3 (.tmp 15) rfl g1 k rfl naInt st 1 _ _ (.int .i64 x) rfl (Mk.out) ?_)
       | ((with_reducible show wpList _ _ _ (⟨none, .store 3 (.tmp 22) (.tmp 21), _, _, _, _⟩ :: _) _ _); refine wpList_store_st (o := ⟨none, _, _, _, _, _⟩) rfl 3 (.tmp 22) (.tmp 21) rfl g1 k rfl ([(.int .i64 r)]) rfl 1 szI (by first | omega | (simp; done) | (simp; omega)) st 1 _ _ rfl (by simp only [is_len, List.length_set, Lm.out, List.length_cons, List.length_nil]; omega) (by intro x hx; simp at hx; subst hx; rfl) (is (m.set k r)) (put_is _ _ _ (by simp only [List.length_set, Lm.out]; omega)) ?_; clear st; intro w_0 st)
       | ((with_reducible show wpList _ _ _ (⟨some 25, _, _, _, _, _⟩ :: _) _ _); refine wpList_load1_st (o := ⟨some 25, _, _, _, _, _⟩) rfl 3 (.tmp 24) rfl g1 k rfl naInt st 1 _ _ (.int .i64 r) rfl (is_set_get _ _ _ (by simp only [List.length_set, Lm.out]; omega)) ?_)
       | ((with_reducible show wpList _ _ _ (⟨some 36, _, _, _, _, _⟩ :: _) _ _); refine wpList_load1_st (o := ⟨some 36, _, _, _, _, _⟩) rfl 3 (.tmp 35) rfl g1 k rfl naInt st 1 _ _ (.int .i64 r) rfl (is_set_get _ _ _ (by simp only [List.length_set, Lm.out]; omega)) ?_))
      go_roundw
      case rel => exact ⟨k + 1, by omega, by go_num, by rw [passT, Hq.out]; simp only [Hx.out, Hs.out, w64], by rw [passT, Hq.out]; simp only [Hx.out, Hr.out]; exact st⟩
      case measure => simp [intOf]; omega
     ·have tm := tmod_neg (x + o) (by omega) (by omega)
      generalize hr : (x + o) % 268435456 = r at *
      generalize hs : (x + o) / 268435456 = s at *
      have Hr := hide hr; have Hs := hide hs; clear hr hs hc
      have wr' : IntKind.i64.wrap (x + o - r) = x + o - r := IntWalk.i64_in _ (by omega)
      have wr2 : IntKind.i64.wrap (r - 268435456 + 268435456) = r := by rw [show r - 268435456 + 268435456 = r by omega]; exact IntWalk.i64_in _ (by omega)
      have hr0 : r - 268435456 < 0 := by omega
      go_wp2_with (first
       | ((with_reducible show wpList _ _ _ (⟨some 16, _, _, _, _, _⟩ :: _) _ _); refine wpList_load1_st (o := ⟨some 16, _, _, _, _, _⟩) rfl 3 (.tmp 15) rfl g1 k rfl naInt st 1 _ _ (.int .i64 x) rfl (Mk.out) ?_)
       | ((with_reducible show wpList _ _ _ (⟨none, .store 3 (.tmp 22) (.tmp 21), _, _, _, _⟩ :: _) _ _); refine wpList_store_st (o := ⟨none, _, _, _, _, _⟩) rfl 3 (.tmp 22) (.tmp 21) rfl g1 k rfl ([(.int .i64 (r - 268435456))]) rfl 1 szI (by first | omega | (simp; done) | (simp; omega)) st 1 _ _ rfl (by simp only [is_len, List.length_set, Lm.out, List.length_cons, List.length_nil]; omega) (by intro x hx; simp at hx; subst hx; rfl) (is (m.set k (r - 268435456))) (put_is _ _ _ (by simp only [List.length_set, Lm.out]; omega)) ?_; clear st; intro w_0 st)
       | ((with_reducible show wpList _ _ _ (⟨some 25, _, _, _, _, _⟩ :: _) _ _); refine wpList_load1_st (o := ⟨some 25, _, _, _, _, _⟩) rfl 3 (.tmp 24) rfl g1 k rfl naInt st 1 _ _ (.int .i64 (r - 268435456)) rfl (is_set_get _ _ _ (by simp only [List.length_set, Lm.out]; omega)) ?_)
       | ((with_reducible show wpList _ _ _ (⟨some 30, _, _, _, _, _⟩ :: _) _ _); refine wpList_load1_st (o := ⟨some 30, _, _, _, _, _⟩) rfl 3 (.tmp 29) rfl g1 k rfl naInt st 1 _ _ (.int .i64 (r - 268435456)) rfl (is_set_get _ _ _ (by simp only [List.length_set, Lm.out]; omega)) ?_)
       | ((with_reducible show wpList _ _ _ (⟨none, .store 3 (.tmp 32) (.tmp 31), _, _, _, _⟩ :: _) _ _); refine wpList_store_st (o := ⟨none, _, _, _, _, _⟩) rfl 3 (.tmp 32) (.tmp 31) rfl g1 k rfl ([(.int .i64 r)]) rfl 1 szI (by first | omega | (simp; done) | (simp; omega)) st 1 _ _ rfl (by simp only [is_len, List.length_set, Lm.out, List.length_cons, List.length_nil]; omega) (by intro x hx; simp at hx; subst hx; rfl) (is ((m.set k (r - 268435456)).set k r)) (put_is _ _ _ (by simp only [List.length_set, Lm.out]; omega)) ?_; clear st; intro w_1 st)
       | ((with_reducible show wpList _ _ _ (⟨some 36, _, _, _, _, _⟩ :: _) _ _); refine wpList_load1_st (o := ⟨some 36, _, _, _, _, _⟩) rfl 3 (.tmp 35) rfl g1 k rfl naInt st 1 _ _ (.int .i64 r) rfl (is_set_get _ _ _ (by simp only [List.length_set, Lm.out]; omega)) ?_))
      go_roundw
      case rel => exact ⟨k + 1, by omega, by go_num, by rw [passT, Hq.out]; simp only [Hx.out, Hs.out, w64], by rw [passT, Hq.out]; simp only [Hx.out, Hr.out]; simp only [List.set_set] at st; exact st⟩
      case measure => simp [intOf]; omega
    ·have : k = 16 := by omega
     subst this
     have pl := pass_law l' 16 (by omega)
     rw [Hq.out] at pl
     dsimp only at pl
     rw [List.take_of_length_le (by rw [Lm.out]; omega), List.take_of_length_le (by omega)] at pl
     have dm : Dg m := dg_of Lm.out pl.1
     have vb := v28_bd m dm
     rw [Lm.out] at vb
     have pl2 := pl.2
     have y0b := dg_get dm 0 (by rw [Lm.out]; omega)
     have e0 := v28_set m 0 o (by rw [Lm.out]; omega)
     have Y0 := hide (is_get m 0 (by rw [Lm.out]; omega))
     have l1 : (m.set 0 (m.getD 0 0 + o)).length = 16 := by rw [List.length_set]; exact Lm.out
     have y8e : (m.set 0 (m.getD 0 0 + o)).getD 8 0 = m.getD 8 0 := getD_set_ne' _ _ _ _ (by omega)
     have y8b := dg_get dm 8 (by rw [Lm.out]; omega)
     rw [← y8e] at y8b
     generalize hm1 : m.set 0 (m.getD 0 0 + o) = m1 at e0 l1 y8b
     clear y8e
     have Y8 := hide (is_get m1 8 (by rw [l1]; omega))
     have e8 := v28_set m1 8 o (by rw [l1]; omega)
     have l2 : (m1.set 8 (m1.getD 8 0 + o)).length = 16 := by rw [List.length_set]; exact l1
     generalize hm2 : m1.set 8 (m1.getD 8 0 + o) = m2 at e8 l2
     generalize hy0 : m.getD 0 0 = y0 at hm1 Y0 y0b
     generalize hy8 : m1.getD 8 0 = y8 at hm2 Y8 y8b
     have Lm1 := hide l1
     have Hm1 := hide hm1; have Hm2 := hide hm2; clear hm1 hm2 hy0 hy8
     have wy0 : IntKind.i64.wrap (y0 + o) = y0 + o := IntWalk.i64_in _ (by omega)
     have wy8 : IntKind.i64.wrap (y8 + o) = y8 + o := IntWalk.i64_in _ (by omega)
     rw [show ((16 : Nat) : Int) = 16 from rfl]
     have KK := hide (And.intro e0 (And.intro e8 (And.intro vb pl2))); clear e0 e8 vb pl pl2
     go_wp2_with (first
      | ((with_reducible show wpList _ _ _ (⟨some 40, _, _, _, _, _⟩ :: _) _ _); refine wpList_load1_st (o := ⟨some 40, _, _, _, _, _⟩) rfl 3 (.tmp 39) rfl g1 0 rfl naInt st 1 _ _ (.int .i64 y0) rfl (Y0.out) ?_)
      | ((with_reducible show wpList _ _ _ (⟨none, .store 3 (.tmp 43) (.tmp 42), _, _, _, _⟩ :: _) _ _); refine wpList_store_st (o := ⟨none, _, _, _, _, _⟩) rfl 3 (.tmp 43) (.tmp 42) rfl g1 0 rfl ([(.int .i64 (y0 + o))]) rfl 1 szI (by first | omega | (simp; done) | (simp; omega)) st 1 _ _ rfl (by simp only [is_len, Lm.out, List.length_cons, List.length_nil]; omega) (by intro x hx; simp at hx; subst hx; rfl) (is m1) (by rw [← Hm1.out]; exact put_is _ _ _ (by rw [Lm.out]; omega)) ?_; clear st; intro w_0 st)
      | ((with_reducible show wpList _ _ _ (⟨some 45, _, _, _, _, _⟩ :: _) _ _); refine wpList_load1_st (o := ⟨some 45, _, _, _, _, _⟩) rfl 3 (.tmp 44) rfl g1 8 rfl naInt st 1 _ _ (.int .i64 y8) rfl (Y8.out) ?_)
      | ((with_reducible show wpList _ _ _ (⟨none, .store 3 (.tmp 48) (.tmp 47), _, _, _, _⟩ :: _) _ _); refine wpList_store_st (o := ⟨none, _, _, _, _, _⟩) rfl 3 (.tmp 48) (.tmp 47) rfl g1 8 rfl ([(.int .i64 (y8 + o))]) rfl 1 szI (by first | omega | (simp; done) | (simp; omega)) st 1 _ _ rfl (by simp only [is_len, Lm1.out, List.length_cons, List.length_nil]; omega) (by intro x hx; simp at hx; subst hx; rfl) (is m2) (by rw [← Hm2.out]; exact put_is _ _ _ (by rw [Lm1.out]; omega)) ?_; clear st; intro w_1 st))
     simp only [Act.put]
     go_roundw
     case rel =>
      obtain ⟨f1, f2, f3⟩ := fold28 _ _ _ _ _ KK.out.1 KK.out.2.1 KK.out.2.2.1 KK.out.2.2.2 i3
      have pn : 0 ≤ (P : Int) * o := Int.mul_nonneg (by omega) f2
      refine ⟨o, m2, rfl, hide ⟨l2, fold_dg Hm1.out Hm2.out dm y0b (by omega) ob, f3, by omega, ?_, ?_⟩, st⟩
      ·rw [f1, Int.sub_mul_emod_self_left]; exact i5
      ·intro hz
       have q1 := Hm1.out; have q2 := Hm2.out
       rw [hz] at q1 q2
       exact fold_dg0 q1 q2 dm y0b y8b
     case measure =>
      obtain ⟨f1, f2, f3⟩ := fold28 _ _ _ _ _ KK.out.1 KK.out.2.1 KK.out.2.2.1 KK.out.2.2.2 i3
      have pp : (1 : Int) ≤ P := by have := P_pos; omega
      have pn : o ≤ (P : Int) * o := by
       have := Int.mul_le_mul_of_nonneg_right pp f2
       omega
      have q := memV_own (st.get 1 rfl)
      have q0 := M0.out
      unfold meas
      rw [q, q0]
      simp only [intOf]
      omega

theorem norm_any (l : List Int) (ll : l.length = 16) (bl : ∀ x ∈ l, -4611685468671574016 ≤ x ∧ x ≤ 4611685468671574016) (h0 : 0 ≤ v28 l) (w : World) :
 Calls Try.prog 46 #[AG (is l)] w fun e w' => e = .returned (AG (is (digk 16 (v28 l % P)))) ∧ Below w.heap.size w w' := by
 have key : ∀ (N : Nat) (l : List Int), l.length = 16 → (∀ x ∈ l, -4611685468671574016 ≤ x ∧ x ≤ 4611685468671574016) → 0 ≤ v28 l → v28 l < N → ∀ w, Calls Try.prog 46 #[AG (is l)] w fun e w' => e = .returned (AG (is (digk 16 (v28 l % P)))) ∧ Below w.heap.size w w' := by
  intro N
  induction N with
  | zero => intro l _ _ h0 h1; omega
  | succ N ih => intro l ll bl h0 h1 w; exact norm_step N ih l ll bl h0 h1 w
 exact key ((v28 l).toNat + 1) l ll bl h0 (by omega) w
end Go.Proofs.Ytdpongijmmdnoaa
