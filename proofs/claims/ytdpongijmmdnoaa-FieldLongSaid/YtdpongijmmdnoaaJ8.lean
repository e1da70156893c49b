/- joined: Refa Refb -/
import Derived.Test.YtdpongijmmdnoaaJ7
set_option linter.unusedSimpArgs false
set_option linter.unusedVariables false
/- the document's answer: sums, what is less than 0, numbers, over trees. WRITTEN BY gen_refa.py -/
namespace Go.Proofs.Ytdpongijmmdnoaa
open Go.RowKit FdP FdP.Ch
def dgs (a : F) : List Int := digk 16 a.val
def FG (a : F) : Value := AG (is (dgs a))
theorem dgs_len (a : F) : (dgs a).length = 16 := digk_len 16 _
theorem dgs_dg (a : F) : Dg (dgs a) := digk_dg _ _
theorem val_28 (a : F) : (a.val : Int) < 268435456 ^ 16 := by
 have h : (P : Int) < 268435456 ^ 16 := by decide +kernel
 exact Int.lt_trans (Int.ofNat_lt.2 a.isLt) h
theorem v28_dgs (a : F) : v28 (dgs a) = a.val := v28_digk 16 _ (by omega) (val_28 a)
theorem dgs_inj {a b : F} (h : dgs a = dgs b) : a = b := by
 have h1 := v28_dgs a
 rw [h, v28_dgs] at h1
 exact Fin.ext (by omega)
theorem FG_ok (env : List Value) (k : Nat) (a : F) (h : env[k]? = some (FG a)) : AggN env k 16 := ⟨_, h, by rw [is_len, dgs_len], is_one _⟩
theorem dgs_bd (a : F) (j : Nat) : -268435456 ≤ (dgs a).getD j 0 ∧ (dgs a).getD j 0 ≤ 268435456 := by
 have la := dgs_len a
 by_cases hj : j < 16
 ·have := dg_get (dgs_dg a) j (by omega); omega
 ·rw [List.getD_eq_getElem?_getD, List.getElem?_eq_none (by omega)]; simp
theorem norm_z (l : List Int) (ll : l.length = 16) (bl : ∀ j, -4611685468671574016 ≤ l.getD j 0 ∧ l.getD j 0 ≤ 4611685468671574016) (h0 : 0 ≤ v28 l) (w : World) :
 Calls Try.prog 46 #[AG (is l)] w (OutV (FG (z (v28 l))) w) := by
 have := norm_any l ll (fun x hx => ?_) h0 w
 ·rwa [← z_val] at this
 ·obtain ⟨j, hj, rfl⟩ := List.mem_iff_getElem.1 hx
  have := bl j
  rw [List.getD_eq_getElem?_getD, List.getElem?_eq_getElem hj] at this
  simpa using this
theorem tw_F {w0 : World} {R : Ending → World → Prop} {L : List (List Value → Prop)} {env : List Value} {gs : List Nat} {f : FuncId} {args : List Leaf} {bl : Mem} {k : Tree} {m : Nat} (a : F)
 (hc : ∀ W, Mm w0 W env gs bl → Calls Try.prog f (args.map (Leaf.den env gs)).toArray W (OutV (FG a) W))
 (hm : env.length = m) (hk : TWp Try.prog w0 R k L (env ++ [FG a]) gs) :
 TWp Try.prog w0 R (.call f args bl (.leaf (.agg [.whole m 16])) 1 [] k) L env gs :=
 tw_agg (cs := is (dgs a)) hc hm (by rw [is_len, dgs_len]) (is_one _) hk
def addK (a b : List Int) : Nat → List Int
 | 0 => a
 | k + 1 => (addK a b k).set k ((addK a b k).getD k 0 + b.getD k 0)
theorem addK_len (a b : List Int) (k : Nat) : (addK a b k).length = a.length := by induction k with | zero => rfl | succ k ih => simp [addK, ih]
theorem addK_far (a b : List Int) (k j : Nat) (h : k ≤ j) : (addK a b k).getD j 0 = a.getD j 0 := by
 induction k with
 | zero => rfl
 | succ k ih =>
  have : k ≠ j := by omega
  simp only [addK, List.getD, List.getElem?_set, if_neg this]
  have := ih (by omega)
  simpa [List.getD] using this
theorem addK_v28 (a b : List Int) (hl : a.length = b.length) (k : Nat) (hk : k ≤ a.length) : v28 (addK a b k) = v28 a + v28 (b.take k) := by
 induction k with
 | zero => simp [addK, v28]
 | succ k ih =>
  rw [addK, v28_set _ _ _ (by rw [addK_len]; omega), ih (by omega), v28_take]
  omega
theorem addK_bd (a b : List Int) (B C : Int) (h0 : 0 ≤ B) (hC : 0 ≤ C) (ha : ∀ j, -B ≤ a.getD j 0 ∧ a.getD j 0 ≤ B) (hb : ∀ j, -C ≤ b.getD j 0 ∧ b.getD j 0 ≤ C) (k j : Nat) : -(B + C) ≤ (addK a b k).getD j 0 ∧ (addK a b k).getD j 0 ≤ B + C := by
 induction k with
 | zero => have := ha j; simp only [addK]; omega
 | succ k ih =>
  by_cases hj : k = j
  ·subst hj
   have h1 := addK_far a b k k (Nat.le_refl _)
   have h2 := ha k; have h3 := hb k
   simp only [addK]
   by_cases hl : k < (addK a b k).length
   ·have : ((addK a b k).set k ((addK a b k).getD k 0 + b.getD k 0)).getD k 0 = (addK a b k).getD k 0 + b.getD k 0 := by
     generalize (addK a b k).getD k 0 + b.getD k 0 = q
     simp [List.getD, hl]
    rw [this, h1]; omega
   ·rw [List.set_eq_of_length_le (by omega), h1]; omega
  ·have : ((addK a b (k + 1)).getD j 0) = (addK a b k).getD j 0 := by simp [addK, List.getD, List.getElem?_set, hj]
   rw [this]; exact ih
def o_radd : Orc := { ans := [(7, oB), (12, oV), (13, oV), (15, oV), (16, oV), (17, oV), (18, oV), (9, oV), (19, oV), (20, oA 16)], lps := [(0, [.slot 5 [.one], .blk 0 [.agg 16]])] }
def t_radd : Tree :=
 .new <|
 .new <|
 .new <|
 .loop [.atom (.const (.int .i64 0)), .agg [.whole 0 16]] [.one, .agg 16] <|
 .calc2 (.binOp .lss 3 (.tmp 6) (.const (.int .i64 16)) 3) 4 [(6, qv 2)] ([], []) qT 0 (
 .bound 2 16 <|
 .ldi [.whole 3 16] 0 2 1 1 false <|
 .bound 2 16 <|
 .ldi [.whole 1 16] 0 2 1 1 false <|
 .calc (.binOp .add 3 (.tmp 13) (.tmp 16) 3) 3 [(13, qv 4), (16, qv 5)] ([], []) (qv 6) 1 <|
 .bound 2 16 <|
 .sti [.whole 3 16] 0 2 1 1 [.one (.var 6)] <|
 .calc (.binOp .add 3 (.tmp 8) (.const (.int .i64 1)) 3) 3 [(8, qv 2)] ([], []) (qv 8) 1 <|
 .again 0 [.atom (.var 8), .agg [.whole 7 16]]) qF 0 <|
 .call 46 [.agg [.whole 3 16]] ([], []) (.leaf (.agg [.whole 4 16])) 1 [] <|
 .ret ([], []) (.leaf (.agg [.whole 4 16]))
theorem c_radd : compF Try.prog Try.f15 o_radd (Try.f15.body.getD .skip) (symIn [.agg [.whole 0 16], .agg [.whole 1 16]] Try.f15.ntmps 2) = some t_radd := by kernel_rfl

theorem radd_c (a b : F) (w : World) : Calls Try.prog 15 #[FG a, FG b] w (OutV (FG (a + b)) w) := by
 refine calls_tree o_radd [.agg [.whole 0 16], .agg [.whole 1 16]] [FG a, FG b] Try.func15 rfl c_radd rfl (by intro x hx; simp at hx; rcases hx with rfl | rfl <;> intro s hs <;> simp at hs <;> subst hs <;> first | exact FG_ok _ 0 a rfl | exact FG_ok _ 1 b rfl) ?_
 refine tw_new fun _ => tw_new fun _ => tw_new fun _ => ?_
 have la := dgs_len a
 have lb := dgs_len b
 have bk := fun k j => addK_bd (dgs a) (dgs b) 268435456 268435456 (by omega) (by omega) (dgs_bd a) (dgs_bd b) k j
 refine tw_count 16 (fun k => [.int .i64 (k : Int), AG (is (addK (dgs a) (dgs b) k))]) rfl fun k p hk _ hp => ?_
 have lk := addK_len (dgs a) (dgs b) k
 refine tw_cmp _ rfl rfl (bin_lss _ _ _ _) (fun ht => ?_) (fun hf => ?_)
 ·have hk' : k < 16 := by have := of_decide_eq_true ht; omega
  have hx := bk k k
  have hy := dgs_bd b k
  refine tw_bound rfl (by omega) (by omega) ?_
  refine tw_ldi k (by show 0 + intN (.int .i64 (k : Int)) * 1 = k; rw [intN_nat]; omega) (get_is (by omega)) ?_
  refine tw_bound rfl (by omega) (by omega) ?_
  refine tw_ldi k (by show 0 + intN (.int .i64 (k : Int)) * 1 = k; rw [intN_nat]; omega) (get_is (by omega)) ?_
  refine tw_bin rfl rfl (bin_add_in _ rfl (by omega)) rfl rfl ?_
  refine tw_bound rfl (by omega) (by omega) ?_
  refine tw_sti k (by show 0 + intN (.int .i64 (k : Int)) * 1 = k; rw [intN_nat]; omega) (by show k + 1 ≤ (is _).length; simp; omega) (set_is (by omega)) ?_
  refine tw_bin rfl rfl (bin_add_in _ rfl (by omega)) rfl rfl ?_
  exact tw_again rfl rfl (hp (k + 1) (by omega) (by omega))
 ·have hk' : k = 16 := by have := of_decide_eq_false hf; omega
  subst hk'
  have hv := addK_v28 (dgs a) (dgs b) (by omega) 16 (by omega)
  have ht : (dgs b).take 16 = dgs b := List.take_of_length_le (by omega)
  rw [ht, v28_dgs, v28_dgs] at hv
  have e : z (v28 (addK (dgs a) (dgs b) 16)) = a + b := by rw [hv, z_add, z_of_val, z_of_val]
  have h0 : 0 ≤ v28 (addK (dgs a) (dgs b) 16) := by rw [hv]; omega
  have bk' := bk 16
  generalize addK (dgs a) (dgs b) 16 = s at *
  generalize a + b = c at *
  refine tw_F c (fun W _ => ?_) rfl ?_
  ·have := norm_z s (by omega) (fun j => by have := bk' j; omega) h0 W
   rw [e] at this; exact this
  exact tw_retV rfl rfl

def negR (a : F) : List Int := List.zipWith (fun p x => p - 2 * x) primeD (dgs a)
theorem negR_len (a : F) : (negR a).length = 16 := by simp [negR, dgs_len]
theorem v28_zip2 : ∀ (p a : List Int), p.length = a.length → v28 (List.zipWith (fun p x => p - 2 * x) p a) = v28 p - 2 * v28 a
 | [], [], _ => rfl
 | x :: p, y :: a, h => by
  have := v28_zip2 p a (by simpa using h)
  simp only [List.zipWith_cons_cons, v28, this]; omega
theorem primeD_bd (j : Nat) : 0 ≤ primeD.getD j 0 ∧ primeD.getD j 0 ≤ 268435455 := by
 by_cases hj : j < 16
 ·have := dg_get primeD_dg j (by simpa using hj); omega
 ·rw [List.getD_eq_getElem?_getD, List.getElem?_eq_none (by simp; omega)]; simp
theorem negR_get (a : F) (j : Nat) (hj : j < 16) : (negR a).getD j 0 = primeD.getD j 0 - 2 * (dgs a).getD j 0 := by
 have h1 : j < primeD.length := by simpa using hj
 have h2 : j < (dgs a).length := by rw [dgs_len]; exact hj
 simp [negR, List.getD, List.getElem?_zipWith, List.getElem?_eq_getElem h1, h2]
theorem negR_bd (a : F) (j : Nat) : -1073741824 ≤ (negR a).getD j 0 ∧ (negR a).getD j 0 ≤ 1073741824 := by
 by_cases hj : j < 16
 ·have h1 := negR_get a j hj
  have := primeD_bd j; have := dgs_bd a j; omega
 ·rw [List.getD_eq_getElem?_getD, List.getElem?_eq_none (by rw [negR_len]; omega)]; simp
def o_rneg : Orc := { ans := [(5, oA 16), (7, oB), (12, oV), (13, oV), (15, oV), (16, oV), (17, oV), (18, oV), (9, oV), (19, oV), (20, oA 16)], lps := [(0, [.slot 4 [.one], .blk 0 [.agg 16]])] }
def t_rneg : Tree :=
 .new <|
 .new <|
 .call 49 [] ([], []) (.leaf (.agg [.whole 1 16])) 1 [] <|
 .new <|
 .loop [.atom (.const (.int .i64 0)), .agg [.whole 0 16]] [.one, .agg 16] <|
 .calc2 (.binOp .lss 3 (.tmp 6) (.const (.int .i64 16)) 3) 4 [(6, qv 2)] ([], []) qT 0 (
 .bound 2 16 <|
 .ldi [.whole 1 16] 0 2 1 1 false <|
 .bound 2 16 <|
 .ldi [.whole 3 16] 0 2 1 1 false <|
 .calc (.binOp .sub 3 (.tmp 13) (.tmp 16) 3) 3 [(13, qv 4), (16, qv 5)] ([], []) (qv 6) 1 <|
 .bound 2 16 <|
 .sti [.whole 3 16] 0 2 1 1 [.one (.var 6)] <|
 .calc (.binOp .add 3 (.tmp 8) (.const (.int .i64 1)) 3) 3 [(8, qv 2)] ([], []) (qv 8) 1 <|
 .again 0 [.atom (.var 8), .agg [.whole 7 16]]) qF 0 <|
 .call 46 [.agg [.whole 3 16]] ([], []) (.leaf (.agg [.whole 4 16])) 1 [] <|
 .ret ([], []) (.leaf (.agg [.whole 4 16]))
theorem c_rneg : compF Try.prog Try.f19 o_rneg (Try.f19.body.getD .skip) (symIn [.agg [.whole 0 16]] Try.f19.ntmps 1) = some t_rneg := by kernel_rfl

theorem rneg_c (a : F) (w : World) : Calls Try.prog 19 #[FG a] w (OutV (FG (-a)) w) := by
 refine calls_tree o_rneg [.agg [.whole 0 16]] [FG a] Try.func19 rfl c_rneg rfl (by intro x hx; simp at hx; subst hx; intro s hs; simp at hs; subst hs; exact FG_ok _ 0 a rfl) ?_
 refine tw_new fun _ => tw_new fun _ => ?_
 refine tw_agg (cs := is primeD) (fun W _ => rprime_any W) rfl (by simp) (is_one _) ?_
 refine tw_new fun _ => ?_
 have la := dgs_len a
 have lb := negR_len a
 have bk := fun k j => addK_bd (dgs a) (negR a) 268435456 1073741824 (by omega) (by omega) (dgs_bd a) (negR_bd a) k j
 refine tw_count 16 (fun k => [.int .i64 (k : Int), AG (is (addK (dgs a) (negR a) k))]) rfl fun k p hk _ hp => ?_
 have lk := addK_len (dgs a) (negR a) k
 have lp : primeD.length = 16 := rfl
 refine tw_cmp _ rfl rfl (bin_lss _ _ _ _) (fun ht => ?_) (fun hf => ?_)
 ·have hk' : k < 16 := by have := of_decide_eq_true ht; omega
  have hx := bk k k
  have hy := primeD_bd k
  have e0 := addK_far (dgs a) (negR a) k k (Nat.le_refl _)
  have e1 := negR_get a k hk'
  refine tw_bound rfl (by omega) (by omega) ?_
  refine tw_ldi k (by show 0 + intN (.int .i64 (k : Int)) * 1 = k; rw [intN_nat]; omega) (get_is (by omega)) ?_
  refine tw_bound rfl (by omega) (by omega) ?_
  refine tw_ldi k (by show 0 + intN (.int .i64 (k : Int)) * 1 = k; rw [intN_nat]; omega) (get_is (by omega)) ?_
  refine tw_bin rfl rfl (bin_sub_in _ (r := (addK (dgs a) (negR a) k).getD k 0 + (negR a).getD k 0) (by omega) (by omega)) rfl rfl ?_
  refine tw_bound rfl (by omega) (by omega) ?_
  refine tw_sti k (by show 0 + intN (.int .i64 (k : Int)) * 1 = k; rw [intN_nat]; omega) (by show k + 1 ≤ (is _).length; simp; omega) (set_is (by omega)) ?_
  refine tw_bin rfl rfl (bin_add_in _ rfl (by omega)) rfl rfl ?_
  exact tw_again rfl rfl (hp (k + 1) (by omega) (by omega))
 ·have hk' : k = 16 := by have := of_decide_eq_false hf; omega
  subst hk'
  have hv := addK_v28 (dgs a) (negR a) (by omega) 16 (by omega)
  have ht : (negR a).take 16 = negR a := List.take_of_length_le (by omega)
  have hz : v28 (negR a) = v28 primeD - 2 * v28 (dgs a) := v28_zip2 _ _ (by omega)
  rw [ht, hz, v28_dgs, v28_prime] at hv
  have hlt : (a.val : Int) < P := Int.ofNat_lt.2 a.isLt
  have e : z (v28 (addK (dgs a) (negR a) 16)) = -a := by
   rw [hv, show (a.val : Int) + ((P : Int) - 2 * a.val) = P - a.val from by omega, z_sub, z_P, z_of_val]; grind
  have h0 : 0 ≤ v28 (addK (dgs a) (negR a) 16) := by rw [hv]; omega
  have bk' := bk 16
  generalize addK (dgs a) (negR a) 16 = s at *
  generalize -a = c at *
  refine tw_F c (fun W _ => ?_) rfl ?_
  ·have := norm_z s (by omega) (fun j => by have := bk' j; omega) h0 W
   rw [e] at this; exact this
  exact tw_retV rfl rfl
def o_rsub : Orc := { ans := [(5, oV), (6, oV), (7, oA 16), (8, oA 16)], lps := [] }
def t_rsub : Tree :=
 .new <|
 .new <|
 .new <|
 .call 19 [.agg [.whole 1 16]] ([], []) (.leaf (.agg [.whole 2 16])) 1 [] <|
 .call 15 [.agg [.whole 0 16], .agg [.whole 2 16]] ([], []) (.leaf (.agg [.whole 3 16])) 1 [] <|
 .ret ([], []) (.leaf (.agg [.whole 3 16]))
theorem c_rsub : compF Try.prog Try.f17 o_rsub (Try.f17.body.getD .skip) (symIn [.agg [.whole 0 16], .agg [.whole 1 16]] Try.f17.ntmps 2) = some t_rsub := by kernel_rfl

theorem rsub_c (a b : F) (w : World) : Calls Try.prog 17 #[FG a, FG b] w (OutV (FG (a - b)) w) := by
 refine calls_tree o_rsub [.agg [.whole 0 16], .agg [.whole 1 16]] [FG a, FG b] Try.func17 rfl c_rsub rfl (by intro x hx; simp at hx; rcases hx with rfl | rfl <;> intro s hs <;> simp at hs <;> subst hs <;> first | exact FG_ok _ 0 a rfl | exact FG_ok _ 1 b rfl) ?_
 refine tw_new fun _ => tw_new fun _ => tw_new fun _ => ?_
 refine tw_F (-b) (fun W _ => rneg_c b W) rfl ?_
 refine tw_F (a + -b) (fun W _ => radd_c a (-b) W) rfl ?_
 exact tw_retV (x := FG (a + -b)) (by rw [show a - b = a + -b from by grind]) rfl
theorem norm_two (x y : Int) (hx : 0 ≤ x ∧ x ≤ 268435456) (hy : 0 ≤ y ∧ y ≤ 34359738368) (w : World) :
 Calls Try.prog 46 #[AG ([.int .i64 x] ++ ([.int .i64 y] ++ is [0, 0, 0, 0, 0, 0, 0, 0, 0, 0, 0, 0, 0, 0]))] w (OutV (FG (z (x + y * 268435456))) w) := by
 have hv : v28 [x, y, 0, 0, 0, 0, 0, 0, 0, 0, 0, 0, 0, 0, 0, 0] = x + y * 268435456 := by simp [v28]; omega
 have := norm_z [x, y, 0, 0, 0, 0, 0, 0, 0, 0, 0, 0, 0, 0, 0, 0] rfl (fun j => ?_) (by rw [hv]; omega) w
 ·rw [hv] at this; exact this
 ·match j with
  | 0 => simp; omega
  | 1 => simp; omega
  | j + 2 =>
   have : ([x, y, 0, 0, 0, 0, 0, 0, 0, 0, 0, 0, 0, 0, 0, 0] : List Int).getD (j + 2) 0 = 0 := by
    rcases Nat.lt_or_ge j 14 with h | h
    ·have : ∀ i : Fin 14, ([0, 0, 0, 0, 0, 0, 0, 0, 0, 0, 0, 0, 0, 0] : List Int).getD i.val 0 = 0 := by decide
     simpa using this ⟨j, h⟩
    ·rw [List.getD_eq_getElem?_getD, List.getElem?_eq_none (by simp; omega)]; rfl
   rw [this]; omega
def o_rint : Orc := { ans := [(5, oB), (7, oV), (8, oV), (9, oV), (11, oV), (12, oV), (13, oV), (14, oV), (15, oA 16), (16, oA 16), (18, oV), (19, oV), (21, oV), (22, oV), (23, oV), (24, oA 16)], lps := [] }
def t_rint : Tree :=
 .new <|
 .new <|
 .calc2 (.binOp .lss 3 (.tmp 4) (.const (.int .i64 0)) 3) 4 [(4, qv 0)] ([], []) qT 0 (
 .calc (.binOp .rem 3 (.tmp 6) (.const (.int .i64 268435456)) 3) 3 [(6, qv 0)] ([], []) (qv 1) 1 <|
 .calc (.unOp .neg 3 (.tmp 7)) 3 [(7, qv 1)] ([], []) (qv 2) 1 <|
 .calc (.binOp .quo 3 (.tmp 10) (.const (.int .i64 268435456)) 3) 3 [(10, qv 0)] ([], []) (qv 3) 1 <|
 .calc (.unOp .neg 3 (.tmp 11)) 3 [(11, qv 3)] ([], []) (qv 4) 1 <|
 .call 46 [.agg [.one (.var 2), .one (.var 4), .lit [.int .i64 0, .int .i64 0, .int .i64 0, .int .i64 0, .int .i64 0, .int .i64 0, .int .i64 0, .int .i64 0, .int .i64 0, .int .i64 0, .int .i64 0, .int .i64 0, .int .i64 0, .int .i64 0]]] ([], []) (.leaf (.agg [.whole 5 16])) 1 [] <|
 .call 19 [.agg [.whole 5 16]] ([], []) (.leaf (.agg [.whole 6 16])) 1 [] <|
 .ret ([], []) (.leaf (.agg [.whole 6 16]))) qF 0 <|
 .calc (.binOp .rem 3 (.tmp 17) (.const (.int .i64 268435456)) 3) 3 [(17, qv 0)] ([], []) (qv 1) 1 <|
 .calc (.binOp .quo 3 (.tmp 20) (.const (.int .i64 268435456)) 3) 3 [(20, qv 0)] ([], []) (qv 2) 1 <|
 .call 46 [.agg [.one (.var 1), .one (.var 2), .lit [.int .i64 0, .int .i64 0, .int .i64 0, .int .i64 0, .int .i64 0, .int .i64 0, .int .i64 0, .int .i64 0, .int .i64 0, .int .i64 0, .int .i64 0, .int .i64 0, .int .i64 0, .int .i64 0]]] ([], []) (.leaf (.agg [.whole 3 16])) 1 [] <|
 .ret ([], []) (.leaf (.agg [.whole 3 16]))
theorem c_rint : compF Try.prog Try.f36 o_rint (Try.f36.body.getD .skip) (symIn [.atom (.var 0)] Try.f36.ntmps 1) = some t_rint := by kernel_rfl

theorem rint_c (n : Int) (h0 : -9223372036854775808 ≤ n) (h1 : n < 9223372036854775808) (w : World) : Calls Try.prog 36 #[.int .i64 n] w (OutV (FG (z n)) w) := by
 refine calls_tree o_rint [.atom (.var 0)] [.int .i64 n] Try.func36 rfl c_rint rfl (by intro x hx; simp at hx; subst hx; exact ⟨by simp, rfl⟩) ?_
 refine tw_new fun _ => tw_new fun _ => ?_
 refine tw_cmp _ rfl rfl (bin_lss _ _ _ _) (fun ht => ?_) (fun hf => ?_)
 ·have hn : n < 0 := by have := of_decide_eq_true ht; omega
  have e1 : Int.tmod n 268435456 = -((-n) % 268435456) := by
   rw [← Int.tmod_eq_emod_of_nonneg (by omega : 0 ≤ -n), Int.neg_tmod]; omega
  have e2 : Int.tdiv n 268435456 = -((-n) / 268435456) := by
   rw [← Int.tdiv_eq_ediv_of_nonneg (by omega : 0 ≤ -n), Int.neg_tdiv]; omega
  refine tw_bin (v := .int .i64 (-((-n) % 268435456))) rfl rfl (fun W => by rw [bin_rem _ _ _ _ (by omega), e1]) rfl rfl ?_
  refine tw_neg (r := (-n) % 268435456) rfl (by rw [i64_in _ (by omega)]; omega) rfl ?_
  refine tw_bin (v := .int .i64 (-((-n) / 268435456))) rfl rfl (fun W => by rw [bin_quo _ _ _ _ (by omega), e2, i64_in _ (by omega)]) rfl rfl ?_
  refine tw_neg (r := (-n) / 268435456) rfl (by rw [i64_in _ (by omega)]; omega) rfl ?_
  have e3 : (-n) % 268435456 + (-n) / 268435456 * 268435456 = -n := by omega
  refine tw_F (z (-n)) (fun W _ => ?_) rfl ?_
  ·have := norm_two ((-n) % 268435456) ((-n) / 268435456) (by omega) (by omega) W
   rw [e3] at this; exact this
  refine tw_F (-(z (-n))) (fun W _ => rneg_c _ W) rfl ?_
  exact tw_retV (x := FG (-(z (-n)))) (by rw [z_neg]; congr 2; grind) rfl
 ·have hn : 0 ≤ n := by have := of_decide_eq_false hf; omega
  refine tw_bin rfl rfl (bin_rem_in _ hn (by omega)) rfl rfl ?_
  refine tw_bin rfl rfl (bin_quo_in _ hn (by omega) (by omega)) rfl rfl ?_
  have e3 : n % 268435456 + n / 268435456 * 268435456 = n := by omega
  refine tw_F (z n) (fun W _ => ?_) rfl ?_
  ·have := norm_two (n % 268435456) (n / 268435456) (by omega) (by omega) W
   rw [e3] at this; exact this
  exact tw_retV rfl rfl
end Go.Proofs.Ytdpongijmmdnoaa
/- the document's answer: products, over a tree. WRITTEN BY gen_refb.py -/
namespace Go.Proofs.Ytdpongijmmdnoaa
open Go.RowKit FdP FdP.Ch

structure Ml (a b : List Int) (i k : Nat) (l : List Int) : Prop where
 len : l.length = 31
 val : v28 l = v28 (a.take i) * v28 b + a.getD i 0 * 268435456 ^ i * v28 (b.take k)
 bd : ∀ j : Nat, 0 ≤ l.getD j 0 ∧ l.getD j 0 ≤ 72057594037927936 * (((if j < 16 then i else i - 1) + (if i ≤ j ∧ j < i + k then 1 else 0) : Nat) : Int)

theorem getD_set_eq {l : List Int} {j : Nat} (h : j < l.length) (v : Int) : (l.set j v).getD j 0 = v := by simp [List.getD, h]
theorem getD_set_nee {l : List Int} {i j : Nat} (h : i ≠ j) (v : Int) : (l.set i v).getD j 0 = l.getD j 0 := by simp [List.getD, List.getElem?_set, h]

theorem Ml.start (a b : List Int) : Ml a b 0 0 (List.replicate 31 0) := by
 refine ⟨rfl, ?_, fun j => ?_⟩
 ·have : v28 (List.replicate 31 0) = 0 := by decide
  rw [this]; simp [v28]
 ·have : (List.replicate 31 (0 : Int)).getD j 0 = 0 := by
   simp only [List.getD, List.getElem?_replicate]
   split <;> rfl
  rw [this]; omega

theorem Ml.step {a b l : List Int} {i k : Nat} (h : Ml a b i k l) (hi : i < 16) (hk : k < 16) (x : Int) (hx : 0 ≤ x ∧ x ≤ 72057594037927936) (hxe : x = a.getD i 0 * b.getD k 0) :
 Ml a b i (k + 1) (l.set (i + k) (l.getD (i + k) 0 + x)) := by
 have hl := h.len
 refine ⟨by rw [List.length_set]; exact hl, ?_, fun j => ?_⟩
 ·rw [v28_set _ _ _ (by omega), h.val, v28_take, hxe, Int.pow_add]
  generalize v28 (a.take i) * v28 b = q
  generalize v28 (b.take k) = r
  generalize (268435456 : Int) ^ i = s
  generalize (268435456 : Int) ^ k = t
  generalize a.getD i 0 = u
  generalize b.getD k 0 = v
  grind
 ·by_cases hj : i + k = j
  ·subst hj
   rw [getD_set_eq (by omega)]
   have := h.bd (i + k)
   have e1 : (if i ≤ i + k ∧ i + k < i + k then 1 else 0) = 0 := by rw [if_neg (by omega)]
   have e2 : (if i ≤ i + k ∧ i + k < i + (k + 1) then 1 else 0) = 1 := by rw [if_pos (by omega)]
   rw [e1] at this; rw [e2]
   omega
  ·rw [getD_set_nee hj]
   have := h.bd j
   have e : (if i ≤ j ∧ j < i + (k + 1) then 1 else 0) = (if i ≤ j ∧ j < i + k then 1 else 0) := by
    by_cases h1 : i ≤ j ∧ j < i + k
    ·rw [if_pos h1, if_pos (by omega)]
    ·rw [if_neg h1, if_neg (by omega)]
   rw [e]; exact this

theorem Ml.row {a b l : List Int} {i : Nat} (h : Ml a b i 16 l) (lb : b.length = 16) : Ml a b (i + 1) 0 l := by
 refine ⟨h.len, ?_, fun j => ?_⟩
 ·have tb : b.take 16 = b := List.take_of_length_le (by omega)
  rw [h.val, tb, v28_take a i]
  simp only [List.take_zero, v28]
  generalize v28 (a.take i) = q
  generalize v28 b = r
  generalize (268435456 : Int) ^ i = s
  generalize a.getD i 0 = u
  grind
 ·have := h.bd j
  refine ⟨this.1, Int.le_trans this.2 ?_⟩
  refine Int.mul_le_mul_of_nonneg_left ?_ (by omega)
  have : ((if j < 16 then i else i - 1) + (if i ≤ j ∧ j < i + 16 then 1 else 0) : Nat) ≤ ((if j < 16 then i + 1 else i + 1 - 1) + (if i + 1 ≤ j ∧ j < i + 1 + 0 then 1 else 0) : Nat) := by
   split <;> split <;> split <;> omega
  omega

def bigI (i : Nat) : Nat := if 23 ≤ i then 15 else 30
def capC (c j : Nat) : Nat := (if j < 16 then 16 else 15) + (if 31 ≤ j + 16 + c ∧ j + 16 ≤ 30 then bigI (j + 16) else 0) + (if 31 ≤ j + 8 + c ∧ 16 ≤ j + 8 ∧ j + 8 ≤ 30 then bigI (j + 8) else 0)
structure Mf (x : F) (c : Nat) (l : List Int) : Prop where
 len : l.length = 31
 val : z (v28 (l.take (31 - c))) = x
 bd : ∀ j : Nat, 0 ≤ l.getD j 0 ∧ l.getD j 0 ≤ 72057594037927936 * (capC c j : Int)

theorem Mf.start {a b l : List Int} (h : Ml a b 16 0 l) (la : a.length = 16) : Mf (z (v28 a) * z (v28 b)) 0 l := by
 refine ⟨h.len, ?_, fun j => ?_⟩
 ·rw [List.take_of_length_le (by rw [h.len]; omega), h.val, List.take_of_length_le (by omega)]
  simp only [List.take_zero, v28, Int.mul_zero, Int.add_zero]
  exact z_mul _ _
 ·have := h.bd j
  refine ⟨this.1, Int.le_trans this.2 ?_⟩
  refine Int.mul_le_mul_of_nonneg_left ?_ (by omega)
  have : ((if j < 16 then 16 else 16 - 1) + (if 16 ≤ j ∧ j < 16 + 0 then 1 else 0) : Nat) ≤ capC 0 j := by
   unfold capC
   split <;> split <;> omega
  omega

theorem capC_i {c i : Nat} (hi : i + c = 30) (h16 : 16 ≤ i) : capC c i ≤ bigI i := by
 unfold capC bigI
 rw [if_neg (c := i < 16) (by omega), if_neg (c := 31 ≤ i + 16 + c ∧ i + 16 ≤ 30) (by omega)]
 by_cases h : i ≤ 22
 ·rw [if_pos (c := 31 ≤ i + 8 + c ∧ 16 ≤ i + 8 ∧ i + 8 ≤ 30) (by omega), if_pos (c := 23 ≤ i + 8) (by omega), if_neg (c := 23 ≤ i) (by omega)]; omega
 ·rw [if_neg (c := 31 ≤ i + 8 + c ∧ 16 ≤ i + 8 ∧ i + 8 ≤ 30) (by omega), if_pos (c := 23 ≤ i) (by omega)]; omega
theorem capC_le {c j : Nat} : capC c j ≤ 76 := by
 unfold capC bigI
 split <;> split <;> split <;> (try split) <;> (try split) <;> omega

theorem cap_next {c i j : Nat} (hi : i + c = 30) (h16 : 16 ≤ i) : capC c j + (if j = i - 16 then bigI i else 0) + (if j = i - 8 then bigI i else 0) ≤ capC (c + 1) j := by
 unfold capC
 have e1 : (if 31 ≤ j + 16 + c ∧ j + 16 ≤ 30 then bigI (j + 16) else 0) + (if j = i - 16 then bigI i else 0) ≤ (if 31 ≤ j + 16 + (c + 1) ∧ j + 16 ≤ 30 then bigI (j + 16) else 0) := by
  by_cases h : j = i - 16
  ·have : j + 16 = i := by omega
   rw [this]
   rw [if_neg (by omega), if_pos h, if_pos (by omega)]; omega
  ·rw [if_neg h]
   by_cases h2 : 31 ≤ j + 16 + c ∧ j + 16 ≤ 30
   ·rw [if_pos h2, if_pos (by omega)]; omega
   ·rw [if_neg h2]; omega
 have e2 : (if 31 ≤ j + 8 + c ∧ 16 ≤ j + 8 ∧ j + 8 ≤ 30 then bigI (j + 8) else 0) + (if j = i - 8 then bigI i else 0) ≤ (if 31 ≤ j + 8 + (c + 1) ∧ 16 ≤ j + 8 ∧ j + 8 ≤ 30 then bigI (j + 8) else 0) := by
  by_cases h : j = i - 8
  ·have : j + 8 = i := by omega
   rw [this]
   rw [if_neg (by omega), if_pos h, if_pos (by omega)]; omega
  ·rw [if_neg h]
   by_cases h2 : 31 ≤ j + 8 + c ∧ 16 ≤ j + 8 ∧ j + 8 ≤ 30
   ·rw [if_pos h2, if_pos (by omega)]; omega
   ·rw [if_neg h2]; omega
 omega

theorem P28 : (268435456 : Int) ^ 16 = P + 268435456 ^ 8 + 1 := by decide +kernel
theorem Mf.step {x : F} {c i : Nat} {l : List Int} (h : Mf x c l) (hi : i + c = 30) (h16 : 16 ≤ i) {m : List Int} (hm : m = l.set (i - 16) (l.getD (i - 16) 0 + l.getD i 0)) :
 Mf x (c + 1) (m.set (i - 8) (m.getD (i - 8) 0 + m.getD i 0)) := by
 have hl := h.len
 have hml : m.length = 31 := by rw [hm, List.length_set]; exact hl
 have e8 : m.getD (i - 8) 0 = l.getD (i - 8) 0 := by rw [hm, getD_set_nee (by omega)]
 have ei : m.getD i 0 = l.getD i 0 := by rw [hm, getD_set_nee (by omega)]
 refine ⟨by rw [List.length_set]; exact hml, ?_, fun j => ?_⟩
 ·have t1 : (m.set (i - 8) (m.getD (i - 8) 0 + m.getD i 0)).take (31 - (c + 1)) = (m.take i).set (i - 8) ((m.take i).getD (i - 8) 0 + l.getD i 0) := by
   rw [List.take_set, show 31 - (c + 1) = i from by omega]
   congr 1
   rw [ei]
   congr 1
   simp only [List.getD, List.getElem?_take]
   rw [if_pos (by omega)]
  have t2 : m.take i = (l.take i).set (i - 16) ((l.take i).getD (i - 16) 0 + l.getD i 0) := by
   rw [hm, List.take_set]
   congr 1
   congr 1
   simp only [List.getD, List.getElem?_take]
   rw [if_pos (by omega)]
  rw [t1, v28_set _ _ _ (by rw [List.length_take]; omega), t2, v28_set _ _ _ (by rw [List.length_take]; omega)]
  have hv := h.val
  rw [show 31 - c = i + 1 from by omega, v28_take] at hv
  rw [← hv]
  generalize v28 (l.take i) = q
  generalize l.getD i 0 = u
  obtain ⟨d, rfl⟩ : ∃ d, i = d + 16 := ⟨i - 16, by omega⟩
  rw [show d + 16 - 16 = d from by omega, show d + 16 - 8 = d + 8 from by omega, Int.pow_add, Int.pow_add, P28]
  generalize (268435456 : Int) ^ d = s
  rw [← z_minus (q + u * (s * (P + 268435456 ^ 8 + 1))) (u * s)]
  congr 1
  grind
 ·have hb := h.bd j
  have hc := cap_next (j := j) hi h16
  have hbi := h.bd i
  have hci := capC_i hi h16
  have e : (m.set (i - 8) (m.getD (i - 8) 0 + m.getD i 0)).getD j 0 = l.getD j 0 + (if j = i - 16 then l.getD i 0 else 0) + (if j = i - 8 then l.getD i 0 else 0) := by
   by_cases h8 : j = i - 8
   ·rw [if_neg (c := j = i - 16) (by omega), if_pos (c := j = i - 8) h8, h8, getD_set_eq (by omega), e8, ei]; omega
   ·rw [getD_set_nee (fun e => h8 e.symm), hm, if_neg (c := j = i - 8) h8]
    by_cases h6 : j = i - 16
    ·rw [if_pos (c := j = i - 16) h6, h6, getD_set_eq (by omega)]; omega
    ·rw [getD_set_nee (fun e => h6 e.symm), if_neg (c := j = i - 16) h6]; omega
  rw [e]
  have hci' : (capC c i : Int) ≤ (bigI i : Int) := by omega
  generalize l.getD i 0 = u at *
  generalize l.getD j 0 = v at *
  generalize capC c i = ci at *
  generalize bigI i = bi at *
  generalize capC c j = cj at *
  generalize capC (c + 1) j = cn at *
  split at hc <;> split at hc <;> simp_all <;> omega

theorem Mf.end {x : F} {l : List Int} (h : Mf x 15 l) : (l.take 16).length = 16 ∧ z (v28 (l.take 16)) = x ∧ 0 ≤ v28 (l.take 16) ∧ ∀ j, -4611685468671574016 ≤ (l.take 16).getD j 0 ∧ (l.take 16).getD j 0 ≤ 4611685468671574016 := by
 have hb : ∀ j, 0 ≤ (l.take 16).getD j 0 ∧ (l.take 16).getD j 0 ≤ 4611685468671574016 := by
  intro j
  by_cases hj : j < 16
  ·have e : (l.take 16).getD j 0 = l.getD j 0 := by simp only [List.getD, List.getElem?_take, if_pos hj]
   rw [e]
   have := h.bd j
   have hc : capC 15 j ≤ 61 := by
    unfold capC bigI
    rw [if_pos hj]
    by_cases h8 : 8 ≤ j
    ·by_cases h15 : j ≤ 14
     ·rw [if_pos (by omega), if_pos (by omega), if_pos (by omega)]; split <;> omega
     ·rw [if_neg (by omega), if_pos (by omega), if_pos (by omega)]; omega
    ·rw [if_neg (c := 31 ≤ j + 8 + 15 ∧ 16 ≤ j + 8 ∧ j + 8 ≤ 30) (by omega), if_pos (by omega)]; split <;> omega
   omega
  ·rw [List.getD_eq_getElem?_getD, List.getElem?_eq_none (by simp; omega)]; simp
 refine ⟨by rw [List.length_take, h.len]; rfl, h.val, ?_, fun j => by have := hb j; omega⟩
 have nn : ∀ m : List Int, (∀ j, 0 ≤ m.getD j 0) → 0 ≤ v28 m := by
  intro m
  induction m with
  | nil => intro _; simp [v28]
  | cons y m ih =>
   intro hm
   have h0 := hm 0
   have h1 := ih fun j => by have := hm (j + 1); simpa using this
   simp only [v28]
   simp at h0
   omega
 exact nn _ fun j => (hb j).1
def o_rmul : Orc := { ans := [(10, oB), (14, oB), (19, oV), (22, oV), (23, oV), (24, oV), (26, oV), (27, oV), (29, oV), (30, oV), (31, oV), (32, oV), (33, oV), (16, oV), (12, oV), (35, oB), (39, oV), (41, oV), (42, oV), (43, oV), (45, oV), (46, oV), (47, oV), (48, oV), (50, oV), (52, oV), (53, oV), (54, oV), (56, oV), (57, oV), (58, oV), (59, oV), (37, oV), (60, oV), (61, oV), (62, oV), (63, oA 16)], lps := [(0, [.slot 6 [.one], .blk 3 [.agg 31]]), (2, [.slot 7 [.one], .blk 3 [.agg 31]]), (4, [.slot 8 [.one], .blk 3 [.agg 31]])] }
def t_rmul : Tree :=
 .new <|
 .new <|
 .new <|
 .new <|
 .loop [.atom (.const (.int .i64 0)), .agg [.lit [.int .i64 0, .int .i64 0, .int .i64 0, .int .i64 0, .int .i64 0, .int .i64 0, .int .i64 0, .int .i64 0, .int .i64 0, .int .i64 0, .int .i64 0, .int .i64 0, .int .i64 0, .int .i64 0, .int .i64 0, .int .i64 0, .int .i64 0, .int .i64 0, .int .i64 0, .int .i64 0, .int .i64 0, .int .i64 0, .int .i64 0, .int .i64 0, .int .i64 0, .int .i64 0, .int .i64 0, .int .i64 0, .int .i64 0, .int .i64 0, .int .i64 0]]] [.one, .agg 31] <|
 .calc2 (.binOp .lss 3 (.tmp 9) (.const (.int .i64 16)) 3) 4 [(9, qv 2)] ([], []) qT 0 (
 .loop [.atom (.const (.int .i64 0)), .agg [.whole 3 31]] [.one, .agg 31] <|
 .calc2 (.binOp .lss 3 (.tmp 13) (.const (.int .i64 16)) 3) 4 [(13, qv 4)] ([], []) qT 0 (
 .calc (.binOp .add 3 (.tmp 17) (.tmp 18) 3) 3 [(17, qv 2), (18, qv 4)] ([], []) (qv 6) 1 <|
 .calc (.binOp .add 3 (.tmp 20) (.tmp 21) 3) 3 [(20, qv 2), (21, qv 4)] ([], []) (qv 7) 1 <|
 .bound 7 31 <|
 .ldi [.whole 5 31] 0 7 1 1 false <|
 .bound 2 16 <|
 .ldi [.whole 0 16] 0 2 1 1 false <|
 .bound 4 16 <|
 .ldi [.whole 1 16] 0 4 1 1 false <|
 .calc (.binOp .mul 3 (.tmp 27) (.tmp 30) 3) 3 [(27, qv 9), (30, qv 10)] ([], []) (qv 11) 1 <|
 .calc (.binOp .add 3 (.tmp 24) (.tmp 31) 3) 3 [(24, qv 8), (31, qv 11)] ([], []) (qv 12) 1 <|
 .bound 6 31 <|
 .sti [.whole 5 31] 0 6 1 1 [.one (.var 12)] <|
 .calc (.binOp .add 3 (.tmp 15) (.const (.int .i64 1)) 3) 3 [(15, qv 4)] ([], []) (qv 14) 1 <|
 .again 1 [.atom (.var 14), .agg [.whole 13 31]]) qF 0 <|
 .calc (.binOp .add 3 (.tmp 11) (.const (.int .i64 1)) 3) 3 [(11, qv 2)] ([], []) (qv 6) 1 <|
 .again 0 [.atom (.var 6), .agg [.whole 5 31]]) qF 0 <|
 .loop [.atom (.const (.int .i64 30)), .agg [.whole 3 31]] [.one, .agg 31] <|
 .calc2 (.binOp .geq 3 (.tmp 34) (.const (.int .i64 16)) 3) 4 [(34, qv 4)] ([], []) qT 0 (
 .calc (.binOp .sub 3 (.tmp 38) (.const (.int .i64 16)) 3) 3 [(38, qv 4)] ([], []) (qv 6) 1 <|
 .calc (.binOp .sub 3 (.tmp 40) (.const (.int .i64 16)) 3) 3 [(40, qv 4)] ([], []) (qv 7) 1 <|
 .bound 7 31 <|
 .ldi [.whole 5 31] 0 7 1 1 false <|
 .bound 4 31 <|
 .ldi [.whole 5 31] 0 4 1 1 false <|
 .calc (.binOp .add 3 (.tmp 43) (.tmp 46) 3) 3 [(43, qv 8), (46, qv 9)] ([], []) (qv 10) 1 <|
 .bound 6 31 <|
 .sti [.whole 5 31] 0 6 1 1 [.one (.var 10)] <|
 .calc (.binOp .sub 3 (.tmp 49) (.const (.int .i64 8)) 3) 3 [(49, qv 4)] ([], []) (qv 12) 1 <|
 .calc (.binOp .sub 3 (.tmp 51) (.const (.int .i64 8)) 3) 3 [(51, qv 4)] ([], []) (qv 13) 1 <|
 .bound 13 31 <|
 .ldi [.whole 11 31] 0 13 1 1 false <|
 .bound 4 31 <|
 .ldi [.whole 11 31] 0 4 1 1 false <|
 .calc (.binOp .add 3 (.tmp 54) (.tmp 57) 3) 3 [(54, qv 14), (57, qv 15)] ([], []) (qv 16) 1 <|
 .bound 12 31 <|
 .sti [.whole 11 31] 0 12 1 1 [.one (.var 16)] <|
 .calc (.binOp .sub 3 (.tmp 36) (.const (.int .i64 1)) 3) 3 [(36, qv 4)] ([], []) (qv 18) 1 <|
 .again 1 [.atom (.var 18), .agg [.whole 17 31]]) qF 0 <|
 .call 46 [.agg [.part 5 0 16]] ([], []) (.leaf (.agg [.whole 6 16])) 1 [] <|
 .ret ([], []) (.leaf (.agg [.whole 6 16]))
theorem c_rmul : compF Try.prog Try.f37 o_rmul (Try.f37.body.getD .skip) (symIn [.agg [.whole 0 16], .agg [.whole 1 16]] Try.f37.ntmps 2) = some t_rmul := by kernel_rfl

set_option maxHeartbeats 1000000 in
theorem rmul_c (a b : F) (w : World) : Calls Try.prog 37 #[FG a, FG b] w (OutV (FG (a * b)) w) := by
 refine calls_tree o_rmul [.agg [.whole 0 16], .agg [.whole 1 16]] [FG a, FG b] Try.func37 rfl c_rmul rfl (by intro x hx; simp at hx; rcases hx with rfl | rfl <;> intro s hs <;> simp at hs <;> subst hs <;> first | exact FG_ok _ 0 a rfl | exact FG_ok _ 1 b rfl) ?_
 refine tw_new fun _ => tw_new fun _ => tw_new fun _ => tw_new fun _ => ?_
 have la := dgs_len a
 have lb := dgs_len b
 refine tw_countI 16 (fun i vs => ∃ l, vs = [.int .i64 (i : Int), AG (is l)] ∧ Ml (dgs a) (dgs b) i 0 l) ⟨_, rfl, Ml.start _ _⟩ fun i vs p hi _ hI hp => ?_
 conv => enter [6]; dsimp only [List.cons_append, List.nil_append]
 obtain ⟨l, rfl, hl⟩ := hI
 refine tw_cmp _ rfl rfl (bin_lss _ _ _ _) (fun ht => ?_) (fun hf => ?_)
 ·have hi' : i < 16 := by have := of_decide_eq_true ht; omega
  have hx := dg_get (dgs_dg a) i (by omega)
  refine tw_countI 16 (fun k vs => ∃ l, vs = [.int .i64 (k : Int), AG (is l)] ∧ Ml (dgs a) (dgs b) i k l) ⟨_, rfl, hl⟩ fun k vs q hk _ hI hq => ?_
  conv => enter [6]; dsimp only [List.cons_append, List.nil_append]
  clear hl
  obtain ⟨l, rfl, hl⟩ := hI
  have ll := hl.len
  refine tw_cmp _ rfl rfl (bin_lss _ _ _ _) (fun ht => ?_) (fun hf => ?_)
  ·have hk' : k < 16 := by have := of_decide_eq_true ht; omega
   have hy := dg_get (dgs_dg b) k (by omega)
   have hb := hl.bd (i + k)
   have hc : ((if i + k < 16 then i else i - 1) + (if i ≤ i + k ∧ i + k < i + k then 1 else 0) : Nat) ≤ 16 := by split <;> split <;> omega
   generalize ((if i + k < 16 then i else i - 1) + (if i ≤ i + k ∧ i + k < i + k then 1 else 0) : Nat) = cc at hb hc
   have hxy : 0 ≤ (dgs a).getD i 0 * (dgs b).getD k 0 ∧ (dgs a).getD i 0 * (dgs b).getD k 0 ≤ 72057594037927936 :=
    ⟨Int.mul_nonneg hx.1 hy.1, Int.le_trans (Int.mul_le_mul (Int.le_of_lt hx.2) (Int.le_of_lt hy.2) hy.1 (by omega)) (by omega)⟩
   have hn := hl.step hi' hk' _ hxy rfl
   generalize hxe : (dgs a).getD i 0 * (dgs b).getD k 0 = xy at *
   refine tw_bin rfl rfl (bin_add_in _ (r := ((i + k : Nat) : Int)) (by omega) (by omega)) rfl rfl ?_
   conv => enter [6]; dsimp only [List.cons_append, List.nil_append]
   refine tw_bin rfl rfl (bin_add_in _ (r := ((i + k : Nat) : Int)) (by omega) (by omega)) rfl rfl ?_
   conv => enter [6]; dsimp only [List.cons_append, List.nil_append]
   refine tw_bound rfl (by omega) (by omega) ?_
   refine tw_ldi (i + k) (by show 0 + intN (.int .i64 (((i + k : Nat) : Int))) * 1 = i + k; simp only [intN]; omega) (get_is (by omega)) ?_
   conv => enter [6]; dsimp only [List.cons_append, List.nil_append]
   refine tw_bound rfl (by omega) (by omega) ?_
   refine tw_ldi (i) (by show 0 + intN (.int .i64 ((i : Int))) * 1 = i; simp only [intN]; omega) (get_is (by omega)) ?_
   conv => enter [6]; dsimp only [List.cons_append, List.nil_append]
   refine tw_bound rfl (by omega) (by omega) ?_
   refine tw_ldi (k) (by show 0 + intN (.int .i64 ((k : Int))) * 1 = k; simp only [intN]; omega) (get_is (by omega)) ?_
   conv => enter [6]; dsimp only [List.cons_append, List.nil_append]
   refine tw_bin rfl rfl (bin_mul_in _ hxe (by omega)) rfl rfl ?_
   conv => enter [6]; dsimp only [List.cons_append, List.nil_append]
   refine tw_bin rfl rfl (bin_add_in _ rfl (by omega)) rfl rfl ?_
   conv => enter [6]; dsimp only [List.cons_append, List.nil_append]
   refine tw_bound rfl (by omega) (by omega) ?_
   refine tw_sti (i + k) (by show 0 + intN (.int .i64 (((i + k : Nat) : Int))) * 1 = i + k; simp only [intN]; omega) (by show i + k + 1 ≤ (is _).length; rw [is_len]; omega) (set_is (by omega)) ?_
   conv => enter [6]; dsimp only [List.cons_append, List.nil_append]
   refine tw_bin rfl rfl (bin_add_in _ rfl (by omega)) rfl rfl ?_
   conv => enter [6]; dsimp only [List.cons_append, List.nil_append]
   exact tw_again rfl rfl (hq (k + 1) _ (by omega) (by omega) ⟨_, rfl, hn⟩)
  ·have hk' : k = 16 := by have := of_decide_eq_false hf; omega
   subst hk'
   refine tw_bin rfl rfl (bin_add_in _ rfl (by omega)) rfl rfl ?_
   conv => enter [6]; dsimp only [List.cons_append, List.nil_append]
   exact tw_again rfl rfl (hp (i + 1) _ (by omega) (by omega) ⟨_, rfl, hl.row lb⟩)
 ·have hi' : i = 16 := by have := of_decide_eq_false hf; omega
  subst hi'
  have hst := Mf.start hl la
  rw [v28_dgs, v28_dgs, z_of_val, z_of_val] at hst
  clear hl hp
  generalize a * b = x at hst
  refine tw_countI 15 (fun c vs => ∃ l, vs = [.int .i64 (30 - (c : Int)), AG (is l)] ∧ Mf x c l) ⟨_, rfl, hst⟩ fun c vs q hc _ hI hq => ?_
  conv => enter [6]; dsimp only [List.cons_append, List.nil_append]
  clear hst
  obtain ⟨l, rfl, hl⟩ := hI
  have ll := hl.len
  refine tw_cmp _ rfl rfl (bin_geq _ _ _ _) (fun ht => ?_) (fun hf => ?_)
  ·have hc' : c < 15 := by have := of_decide_eq_true ht; omega
   obtain ⟨i, hi⟩ : ∃ i, i + c = 30 := ⟨30 - c, by omega⟩
   have h16 : 16 ≤ i := by omega
   have ei : (30 - (c : Int)) = (i : Int) := by omega
   rw [ei]
   have b1 := hl.bd i
   have b2 := hl.bd (i - 16)
   have b3 := hl.bd (i - 8)
   have c1 : capC c i ≤ 30 := Nat.le_trans (capC_i hi h16) (by unfold bigI; split <;> omega)
   have c2 := capC_le (c := c) (j := i - 16)
   have c3 := capC_le (c := c) (j := i - 8)
   have hm := hl.step hi h16 rfl
   generalize hmm : l.set (i - 16) (l.getD (i - 16) 0 + l.getD i 0) = m at hm
   have lm : m.length = 31 := by rw [← hmm, List.length_set]; exact ll
   generalize hnn : m.set (i - 8) (m.getD (i - 8) 0 + m.getD i 0) = n at hm
   have e8 : m.getD (i - 8) 0 = l.getD (i - 8) 0 := by rw [← hmm, getD_set_nee (by omega)]
   have eii : m.getD i 0 = l.getD i 0 := by rw [← hmm, getD_set_nee (by omega)]
   refine tw_bin rfl rfl (bin_sub_in _ (r := ((i - 16 : Nat) : Int)) (by omega) (by omega)) rfl rfl ?_
   conv => enter [6]; dsimp only [List.cons_append, List.nil_append]
   refine tw_bin rfl rfl (bin_sub_in _ (r := ((i - 16 : Nat) : Int)) (by omega) (by omega)) rfl rfl ?_
   conv => enter [6]; dsimp only [List.cons_append, List.nil_append]
   refine tw_bound rfl (by omega) (by omega) ?_
   refine tw_ldi (i - 16) (by show 0 + intN (.int .i64 (((i - 16 : Nat) : Int))) * 1 = i - 16; simp only [intN]; omega) (get_is (by omega)) ?_
   conv => enter [6]; dsimp only [List.cons_append, List.nil_append]
   refine tw_bound rfl (by omega) (by omega) ?_
   refine tw_ldi (i) (by show 0 + intN (.int .i64 ((i : Int))) * 1 = i; simp only [intN]; omega) (get_is (by omega)) ?_
   conv => enter [6]; dsimp only [List.cons_append, List.nil_append]
   refine tw_bin rfl rfl (bin_add_in _ rfl (by omega)) rfl rfl ?_
   conv => enter [6]; dsimp only [List.cons_append, List.nil_append]
   refine tw_bound rfl (by omega) (by omega) ?_
   refine tw_sti (i - 16) (by show 0 + intN (.int .i64 (((i - 16 : Nat) : Int))) * 1 = i - 16; simp only [intN]; omega) (by show i - 16 + 1 ≤ (is _).length; rw [is_len]; omega) (set_is (by omega)) ?_
   conv => enter [6]; dsimp only [List.cons_append, List.nil_append]
   rw [hmm]
   refine tw_bin rfl rfl (bin_sub_in _ (r := ((i - 8 : Nat) : Int)) (by omega) (by omega)) rfl rfl ?_
   conv => enter [6]; dsimp only [List.cons_append, List.nil_append]
   refine tw_bin rfl rfl (bin_sub_in _ (r := ((i - 8 : Nat) : Int)) (by omega) (by omega)) rfl rfl ?_
   conv => enter [6]; dsimp only [List.cons_append, List.nil_append]
   refine tw_bound rfl (by omega) (by omega) ?_
   refine tw_ldi (i - 8) (by show 0 + intN (.int .i64 (((i - 8 : Nat) : Int))) * 1 = i - 8; simp only [intN]; omega) (get_is (by omega)) ?_
   conv => enter [6]; dsimp only [List.cons_append, List.nil_append]
   refine tw_bound rfl (by omega) (by omega) ?_
   refine tw_ldi (i) (by show 0 + intN (.int .i64 ((i : Int))) * 1 = i; simp only [intN]; omega) (get_is (by omega)) ?_
   conv => enter [6]; dsimp only [List.cons_append, List.nil_append]
   refine tw_bin rfl rfl (bin_add_in _ rfl (by omega)) rfl rfl ?_
   conv => enter [6]; dsimp only [List.cons_append, List.nil_append]
   refine tw_bound rfl (by omega) (by omega) ?_
   refine tw_sti (i - 8) (by show 0 + intN (.int .i64 (((i - 8 : Nat) : Int))) * 1 = i - 8; simp only [intN]; omega) (by show i - 8 + 1 ≤ (is _).length; rw [is_len]; omega) (set_is (by omega)) ?_
   conv => enter [6]; dsimp only [List.cons_append, List.nil_append]
   rw [hnn]
   refine tw_bin rfl rfl (bin_sub_in _ (r := 30 - ((c + 1 : Nat) : Int)) (by omega) (by omega)) rfl rfl ?_
   conv => enter [6]; dsimp only [List.cons_append, List.nil_append]
   exact tw_again (us := [.int .i64 (30 - ((c + 1 : Nat) : Int)), AG (is n)]) rfl rfl (hq (c + 1) _ (by omega) (by omega) ⟨n, rfl, hm⟩)
  ·have hc' : c = 15 := by have := of_decide_eq_false hf; omega
   subst hc'
   obtain ⟨l1, l2, l3, l4⟩ := hl.end
   refine tw_F x (fun W _ => ?_) rfl ?_
   ·have := norm_z (l.take 16) l1 l4 l3 W
    rw [l2] at this
    have e : is (l.take 16) = ((is l).drop 0).take 16 := by simp [is]
    rw [e] at this
    exact this
   exact tw_retV rfl rfl
end Go.Proofs.Ytdpongijmmdnoaa
