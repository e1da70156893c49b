/- the document's answer: sums, what is less than 0, numbers, over trees. WRITTEN BY gen_refa.py -/
import Derived.Test.YtdpongijmmdnoaaSyg
import Derived.Test.YtdpongijmmdnoaaNor
namespace Go.Proofs.Ytdpongijmmdnoaa
open Go.RowKit FdP FdP.Ch
/-- the digits of an element -/
def dgs (a : F) : List Int := digk 16 a.val
def FG (a : F) : Value := AG (is (dgs a))
theorem dgs_len (a : F) : (dgs a).length = 16 := digk_len 16 _
theorem dgs_dg (a : F) : Dg (dgs a) := digk_dg _ _
theorem val_28 (a : F) : (a.val : Int) < 268435456 ^ 16 := by
  have h : (P : Int) < 268435456 ^ 16 := by decide +kernel
  exact Int.lt_trans (Int.ofNat_lt.2 a.isLt) h
theorem v28_dgs (a : F) : v28 (dgs a) = a.val := v28_digk 16 _ (by omega) (val_28 a)
theorem dgs_inj {a b : F} (h : dgs a = dgs b) : a = b := by
  have h1 := v28_dgs a
  rw [h, v28_dgs] at h1
  exact Fin.ext (by omega)
theorem FG_ok (env : List Value) (k : Nat) (a : F) (h : env[k]? = some (FG a)) : AggN env k 16 := ⟨_, h, by rw [is_len, dgs_len], is_one _⟩
theorem dgs_bd (a : F) (j : Nat) : -268435456 ≤ (dgs a).getD j 0 ∧ (dgs a).getD j 0 ≤ 268435456 := by
  have la := dgs_len a
  by_cases hj : j < 16
  · have := dg_get (dgs_dg a) j (by omega); omega
  · rw [List.getD_eq_getElem?_getD, List.getElem?_eq_none (by omega)]; simp
theorem norm_z (l : List Int) (ll : l.length = 16) (bl : ∀ j, -4611685468671574016 ≤ l.getD j 0 ∧ l.getD j 0 ≤ 4611685468671574016) (h0 : 0 ≤ v28 l) (w : World) :
    Calls Try.prog 46 #[AG (is l)] w (OutV (FG (z (v28 l))) w) := by
  have := norm_any l ll (fun x hx => ?_) h0 w
  · rwa [← z_val] at this
  · obtain ⟨j, hj, rfl⟩ := List.mem_iff_getElem.1 hx
    have := bl j
    rw [List.getD_eq_getElem?_getD, List.getElem?_eq_getElem hj] at this
    simpa using this
/-- an element of the document's answer -/
theorem tw_F {w0 : World} {R : Ending → World → Prop} {L : List (List Value → Prop)} {env : List Value} {gs : List Nat} {f : FuncId} {args : List Leaf} {bl : Mem} {k : Tree} {m : Nat} (a : F)
    (hc : ∀ W, Mm w0 W env gs bl → Calls Try.prog f (args.map (Leaf.den env gs)).toArray W (OutV (FG a) W))
    (hm : env.length = m) (hk : TWp Try.prog w0 R k L (env ++ [FG a]) gs) :
    TWp Try.prog w0 R (.call f args bl (.leaf (.agg [.whole m 16])) 1 [] k) L env gs :=
  tw_agg (cs := is (dgs a)) hc hm (by rw [is_len, dgs_len]) (is_one _) hk
/-- row a, of which the first k have row b's added -/
def addK (a b : List Int) : Nat → List Int
  | 0 => a
  | k + 1 => (addK a b k).set k ((addK a b k).getD k 0 + b.getD k 0)
theorem addK_len (a b : List Int) (k : Nat) : (addK a b k).length = a.length := by induction k with | zero => rfl | succ k ih => simp [addK, ih]
theorem addK_far (a b : List Int) (k j : Nat) (h : k ≤ j) : (addK a b k).getD j 0 = a.getD j 0 := by
  induction k with
  | zero => rfl
  | succ k ih =>
    have : k ≠ j := by omega
    simp only [addK, List.getD, List.getElem?_set, if_neg this]
    have := ih (by omega)
    simpa [List.getD] using this
theorem addK_v28 (a b : List Int) (hl : a.length = b.length) (k : Nat) (hk : k ≤ a.length) : v28 (addK a b k) = v28 a + v28 (b.take k) := by
  induction k with
  | zero => simp [addK, v28]
  | succ k ih =>
    rw [addK, v28_set _ _ _ (by rw [addK_len]; omega), ih (by omega), v28_take]
    omega
theorem addK_bd (a b : List Int) (B C : Int) (h0 : 0 ≤ B) (hC : 0 ≤ C) (ha : ∀ j, -B ≤ a.getD j 0 ∧ a.getD j 0 ≤ B) (hb : ∀ j, -C ≤ b.getD j 0 ∧ b.getD j 0 ≤ C) (k j : Nat) : -(B + C) ≤ (addK a b k).getD j 0 ∧ (addK a b k).getD j 0 ≤ B + C := by
  induction k with
  | zero => have := ha j; simp only [addK]; omega
  | succ k ih =>
    by_cases hj : k = j
    · subst hj
      have h1 := addK_far a b k k (Nat.le_refl _)
      have h2 := ha k; have h3 := hb k
      simp only [addK]
      by_cases hl : k < (addK a b k).length
      · have : ((addK a b k).set k ((addK a b k).getD k 0 + b.getD k 0)).getD k 0 = (addK a b k).getD k 0 + b.getD k 0 := by
          generalize (addK a b k).getD k 0 + b.getD k 0 = q
          simp [List.getD, hl]
        rw [this, h1]; omega
      · rw [List.set_eq_of_length_le (by omega), h1]; omega
    · have : ((addK a b (k + 1)).getD j 0) = (addK a b k).getD j 0 := by simp [addK, List.getD, List.getElem?_set, hj]
      rw [this]; exact ih
def o_radd : Orc := { ans := [(7, .two ⟨.leaf (.atom (.const (.bool true))), 0, []⟩ ⟨.leaf (.atom (.const (.bool false))), 0, []⟩), (12, .one ⟨.leaf (.atom (.var 0)), 1, []⟩), (13, .one ⟨.leaf (.atom (.var 0)), 1, []⟩), (15, .one ⟨.leaf (.atom (.var 0)), 1, []⟩), (16, .one ⟨.leaf (.atom (.var 0)), 1, []⟩), (17, .one ⟨.leaf (.atom (.var 0)), 1, []⟩), (18, .one ⟨.leaf (.atom (.var 0)), 1, []⟩), (9, .one ⟨.leaf (.atom (.var 0)), 1, []⟩), (19, .one ⟨.leaf (.atom (.var 0)), 1, []⟩), (20, .one ⟨.leaf (.agg [.whole 0 16]), 1, []⟩)], lps := [(0, [.slot 5 [.one], .blk 0 [.agg 16]])] }
def t_radd : Tree :=
  .new <|
  .new <|
  .new <|
  .loop [.atom (.const (.int .i64 0)), .agg [.whole 0 16]] [.one, .agg 16] <|
  .calc2 (.binOp .lss 3 (.tmp 6) (.const (.int .i64 16)) 3) 4 [(6, .leaf (.atom (.var 2)))] ([], []) (.leaf (.atom (.const (.bool true)))) 0 (
    .bound 2 16 <|
    .ldi [.whole 3 16] 0 2 1 1 false <|
    .bound 2 16 <|
    .ldi [.whole 1 16] 0 2 1 1 false <|
    .calc (.binOp .add 3 (.tmp 13) (.tmp 16) 3) 3 [(13, .leaf (.atom (.var 4))), (16, .leaf (.atom (.var 5)))] ([], []) (.leaf (.atom (.var 6))) 1 <|
    .bound 2 16 <|
    .sti [.whole 3 16] 0 2 1 1 [.one (.var 6)] <|
    .calc (.binOp .add 3 (.tmp 8) (.const (.int .i64 1)) 3) 3 [(8, .leaf (.atom (.var 2)))] ([], []) (.leaf (.atom (.var 8))) 1 <|
    .again 0 [.atom (.var 8), .agg [.whole 7 16]]) (.leaf (.atom (.const (.bool false)))) 0 <|
  .call 46 [.agg [.whole 3 16]] ([], []) (.leaf (.agg [.whole 4 16])) 1 [] <|
  .ret ([], []) (.leaf (.agg [.whole 4 16]))
theorem c_radd : compF Try.prog Try.f15 o_radd (Try.f15.body.getD .skip) (symIn [.agg [.whole 0 16], .agg [.whole 1 16]] Try.f15.ntmps 2) = some t_radd := by kernel_rfl

theorem radd_c (a b : F) (w : World) : Calls Try.prog 15 #[FG a, FG b] w (OutV (FG (a + b)) w) := by
  refine calls_tree o_radd [.agg [.whole 0 16], .agg [.whole 1 16]] [FG a, FG b] Try.func15 rfl c_radd rfl (by intro x hx; simp at hx; rcases hx with rfl | rfl <;> intro s hs <;> simp at hs <;> subst hs <;> first | exact FG_ok _ 0 a rfl | exact FG_ok _ 1 b rfl) ?_
  refine tw_new fun _ => tw_new fun _ => tw_new fun _ => ?_
  have la := dgs_len a
  have lb := dgs_len b
  have bk := fun k j => addK_bd (dgs a) (dgs b) 268435456 268435456 (by omega) (by omega) (dgs_bd a) (dgs_bd b) k j
  refine tw_count 16 (fun k => [.int .i64 (k : Int), AG (is (addK (dgs a) (dgs b) k))]) rfl fun k p hk _ hp => ?_
  have lk := addK_len (dgs a) (dgs b) k
  refine tw_cmp _ rfl rfl (bin_lss _ _ _ _) (fun ht => ?_) (fun hf => ?_)
  · have hk' : k < 16 := by have := of_decide_eq_true ht; omega
    have hx := bk k k
    have hy := dgs_bd b k
    refine tw_bound rfl (by omega) (by omega) ?_
    refine tw_ldi k (by show 0 + intN (.int .i64 (k : Int)) * 1 = k; rw [intN_nat]; omega) (get_is (by omega)) ?_
    refine tw_bound rfl (by omega) (by omega) ?_
    refine tw_ldi k (by show 0 + intN (.int .i64 (k : Int)) * 1 = k; rw [intN_nat]; omega) (get_is (by omega)) ?_
    refine tw_bin rfl rfl (bin_add_in _ rfl (by omega)) rfl rfl ?_
    refine tw_bound rfl (by omega) (by omega) ?_
    refine tw_sti k (by show 0 + intN (.int .i64 (k : Int)) * 1 = k; rw [intN_nat]; omega) (by show k + 1 ≤ (is _).length; simp; omega) (set_is (by omega)) ?_
    refine tw_bin rfl rfl (bin_add_in _ rfl (by omega)) rfl rfl ?_
    exact tw_again rfl rfl (hp (k + 1) (by omega) (by omega))
  · have hk' : k = 16 := by have := of_decide_eq_false hf; omega
    subst hk'
    have hv := addK_v28 (dgs a) (dgs b) (by omega) 16 (by omega)
    have ht : (dgs b).take 16 = dgs b := List.take_of_length_le (by omega)
    rw [ht, v28_dgs, v28_dgs] at hv
    have e : z (v28 (addK (dgs a) (dgs b) 16)) = a + b := by rw [hv, z_add, z_of_val, z_of_val]
    have h0 : 0 ≤ v28 (addK (dgs a) (dgs b) 16) := by rw [hv]; omega
    have bk' := bk 16
    generalize addK (dgs a) (dgs b) 16 = s at *
    generalize a + b = c at *
    refine tw_F c (fun W _ => ?_) rfl ?_
    · have := norm_z s (by omega) (fun j => by have := bk' j; omega) h0 W
      rw [e] at this; exact this
    exact tw_retV rfl rfl

/-- p's digits less twice a's -/
def negR (a : F) : List Int := List.zipWith (fun p x => p - 2 * x) primeD (dgs a)
theorem negR_len (a : F) : (negR a).length = 16 := by simp [negR, dgs_len]
theorem v28_zip2 : ∀ (p a : List Int), p.length = a.length → v28 (List.zipWith (fun p x => p - 2 * x) p a) = v28 p - 2 * v28 a
  | [], [], _ => rfl
  | x :: p, y :: a, h => by
    have := v28_zip2 p a (by simpa using h)
    simp only [List.zipWith_cons_cons, v28, this]; omega
theorem primeD_bd (j : Nat) : 0 ≤ primeD.getD j 0 ∧ primeD.getD j 0 ≤ 268435455 := by
  by_cases hj : j < 16
  · have := dg_get primeD_dg j (by simpa using hj); omega
  · rw [List.getD_eq_getElem?_getD, List.getElem?_eq_none (by simp; omega)]; simp
theorem negR_get (a : F) (j : Nat) (hj : j < 16) : (negR a).getD j 0 = primeD.getD j 0 - 2 * (dgs a).getD j 0 := by
  have h1 : j < primeD.length := by simpa using hj
  have h2 : j < (dgs a).length := by rw [dgs_len]; exact hj
  simp [negR, List.getD, List.getElem?_zipWith, List.getElem?_eq_getElem h1, h2]
theorem negR_bd (a : F) (j : Nat) : -1073741824 ≤ (negR a).getD j 0 ∧ (negR a).getD j 0 ≤ 1073741824 := by
  by_cases hj : j < 16
  · have h1 := negR_get a j hj
    have := primeD_bd j; have := dgs_bd a j; omega
  · rw [List.getD_eq_getElem?_getD, List.getElem?_eq_none (by rw [negR_len]; omega)]; simp
def o_rneg : Orc := { ans := [(5, .one ⟨.leaf (.agg [.whole 0 16]), 1, []⟩), (7, .two ⟨.leaf (.atom (.const (.bool true))), 0, []⟩ ⟨.leaf (.atom (.const (.bool false))), 0, []⟩), (12, .one ⟨.leaf (.atom (.var 0)), 1, []⟩), (13, .one ⟨.leaf (.atom (.var 0)), 1, []⟩), (15, .one ⟨.leaf (.atom (.var 0)), 1, []⟩), (16, .one ⟨.leaf (.atom (.var 0)), 1, []⟩), (17, .one ⟨.leaf (.atom (.var 0)), 1, []⟩), (18, .one ⟨.leaf (.atom (.var 0)), 1, []⟩), (9, .one ⟨.leaf (.atom (.var 0)), 1, []⟩), (19, .one ⟨.leaf (.atom (.var 0)), 1, []⟩), (20, .one ⟨.leaf (.agg [.whole 0 16]), 1, []⟩)], lps := [(0, [.slot 4 [.one], .blk 0 [.agg 16]])] }
def t_rneg : Tree :=
  .new <|
  .new <|
  .call 49 [] ([], []) (.leaf (.agg [.whole 1 16])) 1 [] <|
  .new <|
  .loop [.atom (.const (.int .i64 0)), .agg [.whole 0 16]] [.one, .agg 16] <|
  .calc2 (.binOp .lss 3 (.tmp 6) (.const (.int .i64 16)) 3) 4 [(6, .leaf (.atom (.var 2)))] ([], []) (.leaf (.atom (.const (.bool true)))) 0 (
    .bound 2 16 <|
    .ldi [.whole 1 16] 0 2 1 1 false <|
    .bound 2 16 <|
    .ldi [.whole 3 16] 0 2 1 1 false <|
    .calc (.binOp .sub 3 (.tmp 13) (.tmp 16) 3) 3 [(13, .leaf (.atom (.var 4))), (16, .leaf (.atom (.var 5)))] ([], []) (.leaf (.atom (.var 6))) 1 <|
    .bound 2 16 <|
    .sti [.whole 3 16] 0 2 1 1 [.one (.var 6)] <|
    .calc (.binOp .add 3 (.tmp 8) (.const (.int .i64 1)) 3) 3 [(8, .leaf (.atom (.var 2)))] ([], []) (.leaf (.atom (.var 8))) 1 <|
    .again 0 [.atom (.var 8), .agg [.whole 7 16]]) (.leaf (.atom (.const (.bool false)))) 0 <|
  .call 46 [.agg [.whole 3 16]] ([], []) (.leaf (.agg [.whole 4 16])) 1 [] <|
  .ret ([], []) (.leaf (.agg [.whole 4 16]))
theorem c_rneg : compF Try.prog Try.f19 o_rneg (Try.f19.body.getD .skip) (symIn [.agg [.whole 0 16]] Try.f19.ntmps 1) = some t_rneg := by kernel_rfl

theorem rneg_c (a : F) (w : World) : Calls Try.prog 19 #[FG a] w (OutV (FG (-a)) w) := by
  refine calls_tree o_rneg [.agg [.whole 0 16]] [FG a] Try.func19 rfl c_rneg rfl (by intro x hx; simp at hx; subst hx; intro s hs; simp at hs; subst hs; exact FG_ok _ 0 a rfl) ?_
  refine tw_new fun _ => tw_new fun _ => ?_
  refine tw_agg (cs := is primeD) (fun W _ => rprime_any W) rfl (by simp) (is_one _) ?_
  refine tw_new fun _ => ?_
  have la := dgs_len a
  have lb := negR_len a
  have bk := fun k j => addK_bd (dgs a) (negR a) 268435456 1073741824 (by omega) (by omega) (dgs_bd a) (negR_bd a) k j
  refine tw_count 16 (fun k => [.int .i64 (k : Int), AG (is (addK (dgs a) (negR a) k))]) rfl fun k p hk _ hp => ?_
  have lk := addK_len (dgs a) (negR a) k
  have lp : primeD.length = 16 := rfl
  refine tw_cmp _ rfl rfl (bin_lss _ _ _ _) (fun ht => ?_) (fun hf => ?_)
  · have hk' : k < 16 := by have := of_decide_eq_true ht; omega
    have hx := bk k k
    have hy := primeD_bd k
    have e0 := addK_far (dgs a) (negR a) k k (Nat.le_refl _)
    have e1 := negR_get a k hk'
    refine tw_bound rfl (by omega) (by omega) ?_
    refine tw_ldi k (by show 0 + intN (.int .i64 (k : Int)) * 1 = k; rw [intN_nat]; omega) (get_is (by omega)) ?_
    refine tw_bound rfl (by omega) (by omega) ?_
    refine tw_ldi k (by show 0 + intN (.int .i64 (k : Int)) * 1 = k; rw [intN_nat]; omega) (get_is (by omega)) ?_
    refine tw_bin rfl rfl (bin_sub_in _ (r := (addK (dgs a) (negR a) k).getD k 0 + (negR a).getD k 0) (by omega) (by omega)) rfl rfl ?_
    refine tw_bound rfl (by omega) (by omega) ?_
    refine tw_sti k (by show 0 + intN (.int .i64 (k : Int)) * 1 = k; rw [intN_nat]; omega) (by show k + 1 ≤ (is _).length; simp; omega) (set_is (by omega)) ?_
    refine tw_bin rfl rfl (bin_add_in _ rfl (by omega)) rfl rfl ?_
    exact tw_again rfl rfl (hp (k + 1) (by omega) (by omega))
  · have hk' : k = 16 := by have := of_decide_eq_false hf; omega
    subst hk'
    have hv := addK_v28 (dgs a) (negR a) (by omega) 16 (by omega)
    have ht : (negR a).take 16 = negR a := List.take_of_length_le (by omega)
    have hz : v28 (negR a) = v28 primeD - 2 * v28 (dgs a) := v28_zip2 _ _ (by omega)
    rw [ht, hz, v28_dgs, v28_prime] at hv
    have hlt : (a.val : Int) < P := Int.ofNat_lt.2 a.isLt
    have e : z (v28 (addK (dgs a) (negR a) 16)) = -a := by
      rw [hv, show (a.val : Int) + ((P : Int) - 2 * a.val) = P - a.val from by omega, z_sub, z_P, z_of_val]; grind
    have h0 : 0 ≤ v28 (addK (dgs a) (negR a) 16) := by rw [hv]; omega
    have bk' := bk 16
    generalize addK (dgs a) (negR a) 16 = s at *
    generalize -a = c at *
    refine tw_F c (fun W _ => ?_) rfl ?_
    · have := norm_z s (by omega) (fun j => by have := bk' j; omega) h0 W
      rw [e] at this; exact this
    exact tw_retV rfl rfl
def o_rsub : Orc := { ans := [(5, .one ⟨.leaf (.atom (.var 0)), 1, []⟩), (6, .one ⟨.leaf (.atom (.var 0)), 1, []⟩), (7, .one ⟨.leaf (.agg [.whole 0 16]), 1, []⟩), (8, .one ⟨.leaf (.agg [.whole 0 16]), 1, []⟩)], lps := [] }
def t_rsub : Tree :=
  .new <|
  .new <|
  .new <|
  .call 19 [.agg [.whole 1 16]] ([], []) (.leaf (.agg [.whole 2 16])) 1 [] <|
  .call 15 [.agg [.whole 0 16], .agg [.whole 2 16]] ([], []) (.leaf (.agg [.whole 3 16])) 1 [] <|
  .ret ([], []) (.leaf (.agg [.whole 3 16]))
theorem c_rsub : compF Try.prog Try.f17 o_rsub (Try.f17.body.getD .skip) (symIn [.agg [.whole 0 16], .agg [.whole 1 16]] Try.f17.ntmps 2) = some t_rsub := by kernel_rfl

theorem rsub_c (a b : F) (w : World) : Calls Try.prog 17 #[FG a, FG b] w (OutV (FG (a - b)) w) := by
  refine calls_tree o_rsub [.agg [.whole 0 16], .agg [.whole 1 16]] [FG a, FG b] Try.func17 rfl c_rsub rfl (by intro x hx; simp at hx; rcases hx with rfl | rfl <;> intro s hs <;> simp at hs <;> subst hs <;> first | exact FG_ok _ 0 a rfl | exact FG_ok _ 1 b rfl) ?_
  refine tw_new fun _ => tw_new fun _ => tw_new fun _ => ?_
  refine tw_F (-b) (fun W _ => rneg_c b W) rfl ?_
  refine tw_F (a + -b) (fun W _ => radd_c a (-b) W) rfl ?_
  exact tw_retV (x := FG (a + -b)) (by rw [show a - b = a + -b from by grind]) rfl
theorem norm_two (x y : Int) (hx : 0 ≤ x ∧ x ≤ 268435456) (hy : 0 ≤ y ∧ y ≤ 34359738368) (w : World) :
    Calls Try.prog 46 #[AG ([.int .i64 x] ++ ([.int .i64 y] ++ is [0, 0, 0, 0, 0, 0, 0, 0, 0, 0, 0, 0, 0, 0]))] w (OutV (FG (z (x + y * 268435456))) w) := by
  have hv : v28 [x, y, 0, 0, 0, 0, 0, 0, 0, 0, 0, 0, 0, 0, 0, 0] = x + y * 268435456 := by simp [v28]; omega
  have := norm_z [x, y, 0, 0, 0, 0, 0, 0, 0, 0, 0, 0, 0, 0, 0, 0] rfl (fun j => ?_) (by rw [hv]; omega) w
  · rw [hv] at this; exact this
  · match j with
    | 0 => simp; omega
    | 1 => simp; omega
    | j + 2 =>
      have : ([x, y, 0, 0, 0, 0, 0, 0, 0, 0, 0, 0, 0, 0, 0, 0] : List Int).getD (j + 2) 0 = 0 := by
        rcases Nat.lt_or_ge j 14 with h | h
        · have : ∀ i : Fin 14, ([0, 0, 0, 0, 0, 0, 0, 0, 0, 0, 0, 0, 0, 0] : List Int).getD i.val 0 = 0 := by decide
          simpa using this ⟨j, h⟩
        · rw [List.getD_eq_getElem?_getD, List.getElem?_eq_none (by simp; omega)]; rfl
      rw [this]; omega
def o_rint : Orc := { ans := [(5, .two ⟨.leaf (.atom (.const (.bool true))), 0, []⟩ ⟨.leaf (.atom (.const (.bool false))), 0, []⟩), (7, .one ⟨.leaf (.atom (.var 0)), 1, []⟩), (8, .one ⟨.leaf (.atom (.var 0)), 1, []⟩), (9, .one ⟨.leaf (.atom (.var 0)), 1, []⟩), (11, .one ⟨.leaf (.atom (.var 0)), 1, []⟩), (12, .one ⟨.leaf (.atom (.var 0)), 1, []⟩), (13, .one ⟨.leaf (.atom (.var 0)), 1, []⟩), (14, .one ⟨.leaf (.atom (.var 0)), 1, []⟩), (15, .one ⟨.leaf (.agg [.whole 0 16]), 1, []⟩), (16, .one ⟨.leaf (.agg [.whole 0 16]), 1, []⟩), (18, .one ⟨.leaf (.atom (.var 0)), 1, []⟩), (19, .one ⟨.leaf (.atom (.var 0)), 1, []⟩), (21, .one ⟨.leaf (.atom (.var 0)), 1, []⟩), (22, .one ⟨.leaf (.atom (.var 0)), 1, []⟩), (23, .one ⟨.leaf (.atom (.var 0)), 1, []⟩), (24, .one ⟨.leaf (.agg [.whole 0 16]), 1, []⟩)], lps := [] }
def t_rint : Tree :=
  .new <|
  .new <|
  .calc2 (.binOp .lss 3 (.tmp 4) (.const (.int .i64 0)) 3) 4 [(4, .leaf (.atom (.var 0)))] ([], []) (.leaf (.atom (.const (.bool true)))) 0 (
    .calc (.binOp .rem 3 (.tmp 6) (.const (.int .i64 268435456)) 3) 3 [(6, .leaf (.atom (.var 0)))] ([], []) (.leaf (.atom (.var 1))) 1 <|
    .calc (.unOp .neg 3 (.tmp 7)) 3 [(7, .leaf (.atom (.var 1)))] ([], []) (.leaf (.atom (.var 2))) 1 <|
    .calc (.binOp .quo 3 (.tmp 10) (.const (.int .i64 268435456)) 3) 3 [(10, .leaf (.atom (.var 0)))] ([], []) (.leaf (.atom (.var 3))) 1 <|
    .calc (.unOp .neg 3 (.tmp 11)) 3 [(11, .leaf (.atom (.var 3)))] ([], []) (.leaf (.atom (.var 4))) 1 <|
    .call 46 [.agg [.one (.var 2), .one (.var 4), .lit [.int .i64 0, .int .i64 0, .int .i64 0, .int .i64 0, .int .i64 0, .int .i64 0, .int .i64 0, .int .i64 0, .int .i64 0, .int .i64 0, .int .i64 0, .int .i64 0, .int .i64 0, .int .i64 0]]] ([], []) (.leaf (.agg [.whole 5 16])) 1 [] <|
    .call 19 [.agg [.whole 5 16]] ([], []) (.leaf (.agg [.whole 6 16])) 1 [] <|
    .ret ([], []) (.leaf (.agg [.whole 6 16]))) (.leaf (.atom (.const (.bool false)))) 0 <|
  .calc (.binOp .rem 3 (.tmp 17) (.const (.int .i64 268435456)) 3) 3 [(17, .leaf (.atom (.var 0)))] ([], []) (.leaf (.atom (.var 1))) 1 <|
  .calc (.binOp .quo 3 (.tmp 20) (.const (.int .i64 268435456)) 3) 3 [(20, .leaf (.atom (.var 0)))] ([], []) (.leaf (.atom (.var 2))) 1 <|
  .call 46 [.agg [.one (.var 1), .one (.var 2), .lit [.int .i64 0, .int .i64 0, .int .i64 0, .int .i64 0, .int .i64 0, .int .i64 0, .int .i64 0, .int .i64 0, .int .i64 0, .int .i64 0, .int .i64 0, .int .i64 0, .int .i64 0, .int .i64 0]]] ([], []) (.leaf (.agg [.whole 3 16])) 1 [] <|
  .ret ([], []) (.leaf (.agg [.whole 3 16]))
theorem c_rint : compF Try.prog Try.f36 o_rint (Try.f36.body.getD .skip) (symIn [.atom (.var 0)] Try.f36.ntmps 1) = some t_rint := by kernel_rfl

theorem rint_c (n : Int) (h0 : -9223372036854775808 ≤ n) (h1 : n < 9223372036854775808) (w : World) : Calls Try.prog 36 #[.int .i64 n] w (OutV (FG (z n)) w) := by
  refine calls_tree o_rint [.atom (.var 0)] [.int .i64 n] Try.func36 rfl c_rint rfl (by intro x hx; simp at hx; subst hx; exact ⟨by simp, rfl⟩) ?_
  refine tw_new fun _ => tw_new fun _ => ?_
  refine tw_cmp _ rfl rfl (bin_lss _ _ _ _) (fun ht => ?_) (fun hf => ?_)
  · have hn : n < 0 := by have := of_decide_eq_true ht; omega
    have e1 : Int.tmod n 268435456 = -((-n) % 268435456) := by
      rw [← Int.tmod_eq_emod_of_nonneg (by omega : 0 ≤ -n), Int.neg_tmod]; omega
    have e2 : Int.tdiv n 268435456 = -((-n) / 268435456) := by
      rw [← Int.tdiv_eq_ediv_of_nonneg (by omega : 0 ≤ -n), Int.neg_tdiv]; omega
    refine tw_bin (v := .int .i64 (-((-n) % 268435456))) rfl rfl (fun W => by rw [bin_rem _ _ _ _ (by omega), e1]) rfl rfl ?_
    refine tw_neg (r := (-n) % 268435456) rfl (by rw [i64_in _ (by omega)]; omega) rfl ?_
    refine tw_bin (v := .int .i64 (-((-n) / 268435456))) rfl rfl (fun W => by rw [bin_quo _ _ _ _ (by omega), e2, i64_in _ (by omega)]) rfl rfl ?_
    refine tw_neg (r := (-n) / 268435456) rfl (by rw [i64_in _ (by omega)]; omega) rfl ?_
    have e3 : (-n) % 268435456 + (-n) / 268435456 * 268435456 = -n := by omega
    refine tw_F (z (-n)) (fun W _ => ?_) rfl ?_
    · have := norm_two ((-n) % 268435456) ((-n) / 268435456) (by omega) (by omega) W
      rw [e3] at this; exact this
    refine tw_F (-(z (-n))) (fun W _ => rneg_c _ W) rfl ?_
    exact tw_retV (x := FG (-(z (-n)))) (by rw [z_neg]; congr 2; grind) rfl
  · have hn : 0 ≤ n := by have := of_decide_eq_false hf; omega
    refine tw_bin rfl rfl (bin_rem_in _ hn (by omega)) rfl rfl ?_
    refine tw_bin rfl rfl (bin_quo_in _ hn (by omega) (by omega)) rfl rfl ?_
    have e3 : n % 268435456 + n / 268435456 * 268435456 = n := by omega
    refine tw_F (z n) (fun W _ => ?_) rfl ?_
    · have := norm_two (n % 268435456) (n / 268435456) (by omega) (by omega) W
      rw [e3] at this; exact this
    exact tw_retV rfl rfl
end Go.Proofs.Ytdpongijmmdnoaa
