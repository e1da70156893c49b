/- RootProves' walk: WRITTEN BY gen_law5.py -/
import Derived.Test.YtohjkkmgcibemaaRtb
set_option linter.unusedSimpArgs false
set_option linter.unusedVariables false
namespace Go.Proofs.Ytohjkkmgcibemaa
open Go.RowKit FdP FdP.Ch
def o_provA : Orc := { ans := [(13, .one ⟨.leaf (.atom (.var 0)), 1, []⟩), (14, .one ⟨.tup [.agg [.whole 0 8], .atom (.const (.bool true))], 1, []⟩), (18, .one ⟨.leaf (.atom (.var 0)), 1, []⟩), (19, .one ⟨.tup [.agg [.whole 0 8], .atom (.const (.bool true))], 1, []⟩), (23, .one ⟨.leaf (.atom (.var 0)), 1, []⟩), (26, .one ⟨.leaf (.atom (.var 0)), 1, []⟩), (27, .one ⟨.leaf (.atom (.var 0)), 1, []⟩), (29, .one ⟨.leaf (.atom (.var 0)), 1, []⟩), (30, .one ⟨.leaf (.atom (.var 0)), 1, []⟩), (31, .one ⟨.tup [.agg [.whole 0 8], .atom (.const (.bool true))], 1, []⟩), (34, .one ⟨.leaf (.atom (.var 0)), 1, []⟩), (35, .one ⟨.leaf (.atom (.var 0)), 1, []⟩), (36, .one ⟨.leaf (.agg [.whole 0 8]), 1, []⟩), (37, .one ⟨.leaf (.agg [.whole 0 8]), 1, []⟩), (38, .one ⟨.leaf (.atom (.var 0)), 1, []⟩), (39, .one ⟨.leaf (.atom (.const (.bool false))), 0, []⟩), (40, .one ⟨.leaf (.atom (.var 0)), 1, []⟩), (41, .one ⟨.leaf (.atom (.const (.bool true))), 0, []⟩), (43, .one ⟨.leaf (.atom (.var 0)), 1, []⟩), (44, .two ⟨.leaf (.atom (.const (.bool true))), 0, []⟩ ⟨.leaf (.atom (.const (.bool false))), 0, []⟩), (45, .one ⟨.leaf (.atom (.var 0)), 1, []⟩), (46, .one ⟨.leaf (.atom (.var 0)), 1, []⟩), (47, .one ⟨.leaf (.atom (.const (.bool true))), 0, []⟩), (50, .one ⟨.leaf (.atom (.var 0)), 1, []⟩), (51, .one ⟨.leaf (.atom (.const (.bool true))), 0, []⟩), (52, .one ⟨.leaf (.atom (.const (.bool true))), 0, []⟩), (53, .one ⟨.leaf (.atom (.var 0)), 1, []⟩), (55, .one ⟨.leaf (.atom (.const (.bool true))), 0, []⟩), (56, .one ⟨.leaf (.atom (.var 0)), 1, []⟩), (58, .one ⟨.leaf (.atom (.var 0)), 1, []⟩), (59, .one ⟨.leaf (.atom (.var 0)), 1, []⟩), (60, .two ⟨.leaf (.atom (.const (.bool true))), 0, []⟩ ⟨.leaf (.atom (.const (.bool false))), 0, []⟩), (62, .one ⟨.leaf (.atom (.const (.bool true))), 0, []⟩), (63, .one ⟨.leaf (.atom (.var 0)), 1, []⟩), (64, .one ⟨.leaf (.atom (.var 0)), 1, []⟩), (65, .one ⟨.leaf (.atom (.var 0)), 1, []⟩), (66, .one ⟨.leaf (.agg [.whole 0 8]), 1, []⟩), (67, .two ⟨.leaf (.atom (.const (.bool true))), 0, []⟩ ⟨.leaf (.atom (.const (.bool false))), 0, []⟩), (69, .one ⟨.leaf (.atom (.const (.bool true))), 0, []⟩), (70, .one ⟨.leaf (.atom (.var 0)), 1, []⟩)], lps := [] }
def t_provA : Tree :=
  .new <|
  .new <|
  .call 11 [.agg [.whole 0 56]] ([], []) (.tup [.agg [.whole 2 8], .atom (.const (.bool true))]) 1 [] <|
  .new <|
  .call 11 [.agg [.whole 1 56]] ([], []) (.tup [.agg [.whole 3 8], .atom (.const (.bool true))]) 1 [] <|
  .new <|
  .call 18 [.agg [.whole 2 8], .agg [.whole 3 8]] ([], []) (.tup [.agg [.whole 4 8], .atom (.const (.bool true))]) 1 [] <|
  .new <|
  .call 22 [.agg [.whole 4 8]] ([], []) (.leaf (.agg [.whole 5 8])) 1 [] <|
  .call 20 [.agg [.whole 3 8], .agg [.whole 5 8]] ([], []) (.leaf (.agg [.whole 6 8])) 1 [] <|
  .new <|
  .call 26 [.agg [.whole 4 8]] ([], []) (.leaf (.atom (.const (.bool false)))) 0 [] <|
  .call 15 [.agg [.whole 2 8]] ([], []) (.leaf (.atom (.const (.bool true)))) 0 [] <|
  .call 15 [.agg [.whole 4 8]] ([], []) (.leaf (.atom (.const (.bool true)))) 0 [] <|
  .call 15 [.agg [.whole 2 8]] ([], []) (.leaf (.atom (.const (.bool true)))) 0 [] <|
  .calc (.binOp .eql 4 (.tmp 49) (.tmp 51) 4) 4 [(49, .leaf (.atom (.const (.bool true)))), (51, .leaf (.atom (.const (.bool true))))] ([], []) (.leaf (.atom (.const (.bool true)))) 0 <|
  .call 16 [] ([], []) (.leaf (.atom (.const (.bool true)))) 0 [] <|
  .ret ([], []) (.leaf (.atom (.const (.bool true))))
theorem c_provA : compF Try.prog Try.f8 o_provA (Try.f8.body.getD .skip) (symIn [.agg [.whole 0 56], .agg [.whole 1 56]] Try.f8.ntmps 2) = some t_provA := by kernel_rfl

theorem proves_A (b1 : List Int) (lb1 : b1.length = 56) (yb1 : By b1) (b2 : List Int) (lb2 : b2.length = 56) (yb2 : By b2) (h0 : (z (bval b1)) = 0) (w : World) : Calls Try.prog 8 #[AG (ys b1), AG (ys b2)] w (OutV (.bool true) w) := by
  refine calls_tree o_provA [.agg [.whole 0 56], .agg [.whole 1 56]] [AG (ys b1), AG (ys b2)] Try.func8 rfl c_provA rfl (by intro x hx; simp at hx; rcases hx with rfl | rfl; (intro s hs; simp at hs; subst hs; exact ⟨_, rfl, by simp [lb1], ys_one _⟩); (intro s hs; simp at hs; subst hs; exact ⟨_, rfl, by simp [lb2], ys_one _⟩)) ?_
  have mk1 := fun W => made_c b1 lb1 yb1 W
  generalize z (bval b1) = a at *
  have mk2 := fun W => made_c b2 lb2 yb2 W
  generalize z (bval b2) = b at *
  have r0 := rat_zero a b (Or.inl h0)
  have ra : abs (rat a b) = 0 := by rw [r0, abs_zero]
  have hi : b * (rat a b * rat a b) = a := by rw [r0, h0]; grind
  refine tw_new fun _ => tw_new fun _ => ?_
  refine tw_EC (a) (fun W _ => mk1 W) rfl rfl fun l1 e1 => ?_
  conv => enter [6]; dsimp only [List.cons_append, List.nil_append]
  refine tw_new fun _ => ?_
  refine tw_EC (b) (fun W _ => mk2 W) rfl rfl fun l2 e2 => ?_
  conv => enter [6]; dsimp only [List.cons_append, List.nil_append]
  refine tw_new fun _ => ?_
  refine tw_EC (abs (rat a b)) (fun W _ => ratio_is e1 e2 (decide_eq_true hi) W) rfl rfl fun l3 e3 => ?_
  conv => enter [6]; dsimp only [List.cons_append, List.nil_append]
  refine tw_new fun _ => ?_
  refine tw_E (x := (abs (rat a b)) * (abs (rat a b))) (fun W _ => square_c e3 W) rfl fun l4 e4 => ?_
  conv => enter [6]; dsimp only [List.cons_append, List.nil_append]
  refine tw_E (x := b * ((abs (rat a b)) * (abs (rat a b)))) (fun W _ => mul_c e2 e4 W) rfl fun l5 e5 => ?_
  conv => enter [6]; dsimp only [List.cons_append, List.nil_append]
  refine tw_new fun _ => ?_
  refine tw_yes _ (fun W _ => negative_c e3 W) (decide_eq_false (abs_even _)) ?_
  refine tw_yes _ (fun W _ => zero_c e1 W) (decide_eq_true h0) ?_
  refine tw_yes _ (fun W _ => zero_c e3 W) (decide_eq_true ra) ?_
  refine tw_yes _ (fun W _ => zero_c e1 W) (decide_eq_true h0) ?_
  refine tw_binKB rfl rfl (bin_eqB _ _) (by simp) rfl ?_
  refine tw_yes true (fun W _ => awake5_c W) rfl ?_
  exact tw_retV rfl rfl
def o_provB : Orc := { ans := [(13, .one ⟨.leaf (.atom (.var 0)), 1, []⟩), (14, .one ⟨.tup [.agg [.whole 0 8], .atom (.const (.bool true))], 1, []⟩), (18, .one ⟨.leaf (.atom (.var 0)), 1, []⟩), (19, .one ⟨.tup [.agg [.whole 0 8], .atom (.const (.bool true))], 1, []⟩), (23, .one ⟨.leaf (.atom (.var 0)), 1, []⟩), (26, .one ⟨.leaf (.atom (.var 0)), 1, []⟩), (27, .one ⟨.leaf (.atom (.var 0)), 1, []⟩), (29, .one ⟨.leaf (.atom (.var 0)), 1, []⟩), (30, .one ⟨.leaf (.atom (.var 0)), 1, []⟩), (31, .one ⟨.tup [.agg [.whole 0 8], .atom (.const (.bool false))], 1, []⟩), (34, .one ⟨.leaf (.atom (.var 0)), 1, []⟩), (35, .one ⟨.leaf (.atom (.var 0)), 1, []⟩), (36, .one ⟨.leaf (.agg [.whole 0 8]), 1, []⟩), (37, .one ⟨.leaf (.agg [.whole 0 8]), 1, []⟩), (38, .one ⟨.leaf (.atom (.var 0)), 1, []⟩), (39, .one ⟨.leaf (.atom (.const (.bool false))), 0, []⟩), (40, .one ⟨.leaf (.atom (.var 0)), 1, []⟩), (41, .one ⟨.leaf (.atom (.const (.bool false))), 0, []⟩), (43, .one ⟨.leaf (.atom (.var 0)), 1, []⟩), (44, .one ⟨.leaf (.atom (.const (.bool true))), 0, []⟩), (45, .one ⟨.leaf (.atom (.var 0)), 1, []⟩), (46, .one ⟨.leaf (.atom (.var 0)), 1, []⟩), (47, .one ⟨.leaf (.atom (.const (.bool true))), 0, []⟩), (50, .one ⟨.leaf (.atom (.var 0)), 1, []⟩), (51, .one ⟨.leaf (.atom (.const (.bool false))), 0, []⟩), (52, .one ⟨.leaf (.atom (.const (.bool true))), 0, []⟩), (53, .one ⟨.leaf (.atom (.var 0)), 1, []⟩), (55, .one ⟨.leaf (.atom (.const (.bool true))), 0, []⟩), (56, .one ⟨.leaf (.atom (.var 0)), 1, []⟩), (58, .one ⟨.leaf (.atom (.var 0)), 1, []⟩), (59, .one ⟨.leaf (.atom (.var 0)), 1, []⟩), (60, .two ⟨.leaf (.atom (.const (.bool true))), 0, []⟩ ⟨.leaf (.atom (.const (.bool false))), 0, []⟩), (62, .one ⟨.leaf (.atom (.const (.bool true))), 0, []⟩), (63, .one ⟨.leaf (.atom (.var 0)), 1, []⟩), (64, .one ⟨.leaf (.atom (.var 0)), 1, []⟩), (65, .one ⟨.leaf (.atom (.var 0)), 1, []⟩), (66, .one ⟨.leaf (.agg [.whole 0 8]), 1, []⟩), (67, .two ⟨.leaf (.atom (.const (.bool true))), 0, []⟩ ⟨.leaf (.atom (.const (.bool false))), 0, []⟩), (69, .one ⟨.leaf (.atom (.const (.bool true))), 0, []⟩), (70, .one ⟨.leaf (.atom (.var 0)), 1, []⟩)], lps := [] }
def t_provB : Tree :=
  .new <|
  .new <|
  .call 11 [.agg [.whole 0 56]] ([], []) (.tup [.agg [.whole 2 8], .atom (.const (.bool true))]) 1 [] <|
  .new <|
  .call 11 [.agg [.whole 1 56]] ([], []) (.tup [.agg [.whole 3 8], .atom (.const (.bool true))]) 1 [] <|
  .new <|
  .call 18 [.agg [.whole 2 8], .agg [.whole 3 8]] ([], []) (.tup [.agg [.whole 4 8], .atom (.const (.bool false))]) 1 [] <|
  .new <|
  .call 22 [.agg [.whole 4 8]] ([], []) (.leaf (.agg [.whole 5 8])) 1 [] <|
  .call 20 [.agg [.whole 3 8], .agg [.whole 5 8]] ([], []) (.leaf (.agg [.whole 6 8])) 1 [] <|
  .new <|
  .call 26 [.agg [.whole 4 8]] ([], []) (.leaf (.atom (.const (.bool false)))) 0 [] <|
  .call 15 [.agg [.whole 2 8]] ([], []) (.leaf (.atom (.const (.bool false)))) 0 [] <|
  .call 15 [.agg [.whole 3 8]] ([], []) (.leaf (.atom (.const (.bool true)))) 0 [] <|
  .call 15 [.agg [.whole 4 8]] ([], []) (.leaf (.atom (.const (.bool true)))) 0 [] <|
  .call 15 [.agg [.whole 2 8]] ([], []) (.leaf (.atom (.const (.bool false)))) 0 [] <|
  .calc (.binOp .eql 4 (.tmp 49) (.tmp 51) 4) 4 [(49, .leaf (.atom (.const (.bool false)))), (51, .leaf (.atom (.const (.bool false))))] ([], []) (.leaf (.atom (.const (.bool true)))) 0 <|
  .call 16 [] ([], []) (.leaf (.atom (.const (.bool true)))) 0 [] <|
  .ret ([], []) (.leaf (.atom (.const (.bool true))))
theorem c_provB : compF Try.prog Try.f8 o_provB (Try.f8.body.getD .skip) (symIn [.agg [.whole 0 56], .agg [.whole 1 56]] Try.f8.ntmps 2) = some t_provB := by kernel_rfl

theorem proves_B (b1 : List Int) (lb1 : b1.length = 56) (yb1 : By b1) (b2 : List Int) (lb2 : b2.length = 56) (yb2 : By b2) (h0 : (z (bval b1)) ≠ 0) (h1 : (z (bval b2)) = 0) (w : World) : Calls Try.prog 8 #[AG (ys b1), AG (ys b2)] w (OutV (.bool true) w) := by
  refine calls_tree o_provB [.agg [.whole 0 56], .agg [.whole 1 56]] [AG (ys b1), AG (ys b2)] Try.func8 rfl c_provB rfl (by intro x hx; simp at hx; rcases hx with rfl | rfl; (intro s hs; simp at hs; subst hs; exact ⟨_, rfl, by simp [lb1], ys_one _⟩); (intro s hs; simp at hs; subst hs; exact ⟨_, rfl, by simp [lb2], ys_one _⟩)) ?_
  have mk1 := fun W => made_c b1 lb1 yb1 W
  generalize z (bval b1) = a at *
  have mk2 := fun W => made_c b2 lb2 yb2 W
  generalize z (bval b2) = b at *
  have r0 := rat_zero a b (Or.inr h1)
  have ra : abs (rat a b) = 0 := by rw [r0, abs_zero]
  have hi : ¬ b * (rat a b * rat a b) = a := by rw [h1]; intro e; exact h0 (by rw [← e]; grind)
  refine tw_new fun _ => tw_new fun _ => ?_
  refine tw_EC (a) (fun W _ => mk1 W) rfl rfl fun l1 e1 => ?_
  conv => enter [6]; dsimp only [List.cons_append, List.nil_append]
  refine tw_new fun _ => ?_
  refine tw_EC (b) (fun W _ => mk2 W) rfl rfl fun l2 e2 => ?_
  conv => enter [6]; dsimp only [List.cons_append, List.nil_append]
  refine tw_new fun _ => ?_
  refine tw_EC (abs (rat a b)) (fun W _ => ratio_is e1 e2 (decide_eq_false hi) W) rfl rfl fun l3 e3 => ?_
  conv => enter [6]; dsimp only [List.cons_append, List.nil_append]
  refine tw_new fun _ => ?_
  refine tw_E (x := (abs (rat a b)) * (abs (rat a b))) (fun W _ => square_c e3 W) rfl fun l4 e4 => ?_
  conv => enter [6]; dsimp only [List.cons_append, List.nil_append]
  refine tw_E (x := b * ((abs (rat a b)) * (abs (rat a b)))) (fun W _ => mul_c e2 e4 W) rfl fun l5 e5 => ?_
  conv => enter [6]; dsimp only [List.cons_append, List.nil_append]
  refine tw_new fun _ => ?_
  refine tw_yes _ (fun W _ => negative_c e3 W) (decide_eq_false (abs_even _)) ?_
  refine tw_yes _ (fun W _ => zero_c e1 W) (decide_eq_false h0) ?_
  refine tw_yes _ (fun W _ => zero_c e2 W) (decide_eq_true h1) ?_
  refine tw_yes _ (fun W _ => zero_c e3 W) (decide_eq_true ra) ?_
  refine tw_yes _ (fun W _ => zero_c e1 W) (decide_eq_false h0) ?_
  refine tw_binKB rfl rfl (bin_eqB _ _) (by simp) rfl ?_
  refine tw_yes true (fun W _ => awake5_c W) rfl ?_
  exact tw_retV rfl rfl
def o_provC : Orc := { ans := [(13, .one ⟨.leaf (.atom (.var 0)), 1, []⟩), (14, .one ⟨.tup [.agg [.whole 0 8], .atom (.const (.bool true))], 1, []⟩), (18, .one ⟨.leaf (.atom (.var 0)), 1, []⟩), (19, .one ⟨.tup [.agg [.whole 0 8], .atom (.const (.bool true))], 1, []⟩), (23, .one ⟨.leaf (.atom (.var 0)), 1, []⟩), (26, .one ⟨.leaf (.atom (.var 0)), 1, []⟩), (27, .one ⟨.leaf (.atom (.var 0)), 1, []⟩), (29, .one ⟨.leaf (.atom (.var 0)), 1, []⟩), (30, .one ⟨.leaf (.atom (.var 0)), 1, []⟩), (31, .one ⟨.tup [.agg [.whole 0 8], .atom (.const (.bool true))], 1, []⟩), (34, .one ⟨.leaf (.atom (.var 0)), 1, []⟩), (35, .one ⟨.leaf (.atom (.var 0)), 1, []⟩), (36, .one ⟨.leaf (.agg [.whole 0 8]), 1, []⟩), (37, .one ⟨.leaf (.agg [.whole 0 8]), 1, []⟩), (38, .one ⟨.leaf (.atom (.var 0)), 1, []⟩), (39, .one ⟨.leaf (.atom (.const (.bool false))), 0, []⟩), (40, .one ⟨.leaf (.atom (.var 0)), 1, []⟩), (41, .one ⟨.leaf (.atom (.const (.bool false))), 0, []⟩), (43, .one ⟨.leaf (.atom (.var 0)), 1, []⟩), (44, .one ⟨.leaf (.atom (.const (.bool false))), 0, []⟩), (45, .one ⟨.leaf (.atom (.var 0)), 1, []⟩), (46, .one ⟨.leaf (.atom (.var 0)), 1, []⟩), (47, .two ⟨.leaf (.atom (.const (.bool true))), 0, []⟩ ⟨.leaf (.atom (.const (.bool false))), 0, []⟩), (50, .one ⟨.leaf (.atom (.var 0)), 1, []⟩), (51, .two ⟨.leaf (.atom (.const (.bool true))), 0, []⟩ ⟨.leaf (.atom (.const (.bool false))), 0, []⟩), (52, .two ⟨.leaf (.atom (.const (.bool true))), 0, []⟩ ⟨.leaf (.atom (.const (.bool false))), 0, []⟩), (53, .one ⟨.leaf (.atom (.var 0)), 1, []⟩), (55, .one ⟨.leaf (.atom (.const (.bool true))), 0, []⟩), (56, .one ⟨.leaf (.atom (.var 0)), 1, []⟩), (58, .one ⟨.leaf (.atom (.var 0)), 1, []⟩), (59, .one ⟨.leaf (.atom (.var 0)), 1, []⟩), (60, .one ⟨.leaf (.atom (.const (.bool true))), 0, []⟩), (62, .one ⟨.leaf (.atom (.const (.bool true))), 0, []⟩), (63, .one ⟨.leaf (.atom (.var 0)), 1, []⟩), (64, .one ⟨.leaf (.atom (.var 0)), 1, []⟩), (65, .one ⟨.leaf (.atom (.var 0)), 1, []⟩), (66, .one ⟨.leaf (.agg [.whole 0 8]), 1, []⟩), (67, .two ⟨.leaf (.atom (.const (.bool true))), 0, []⟩ ⟨.leaf (.atom (.const (.bool false))), 0, []⟩), (69, .one ⟨.leaf (.atom (.const (.bool true))), 0, []⟩), (70, .one ⟨.leaf (.atom (.var 0)), 1, []⟩)], lps := [] }
def t_provC : Tree :=
  .new <|
  .new <|
  .call 11 [.agg [.whole 0 56]] ([], []) (.tup [.agg [.whole 2 8], .atom (.const (.bool true))]) 1 [] <|
  .new <|
  .call 11 [.agg [.whole 1 56]] ([], []) (.tup [.agg [.whole 3 8], .atom (.const (.bool true))]) 1 [] <|
  .new <|
  .call 18 [.agg [.whole 2 8], .agg [.whole 3 8]] ([], []) (.tup [.agg [.whole 4 8], .atom (.const (.bool true))]) 1 [] <|
  .new <|
  .call 22 [.agg [.whole 4 8]] ([], []) (.leaf (.agg [.whole 5 8])) 1 [] <|
  .call 20 [.agg [.whole 3 8], .agg [.whole 5 8]] ([], []) (.leaf (.agg [.whole 6 8])) 1 [] <|
  .new <|
  .call 26 [.agg [.whole 4 8]] ([], []) (.leaf (.atom (.const (.bool false)))) 0 [] <|
  .call 15 [.agg [.whole 2 8]] ([], []) (.leaf (.atom (.const (.bool false)))) 0 [] <|
  .call 15 [.agg [.whole 3 8]] ([], []) (.leaf (.atom (.const (.bool false)))) 0 [] <|
  .call 21 [.agg [.whole 6 8], .agg [.whole 2 8]] ([], []) (.leaf (.atom (.const (.bool true)))) 0 [] <|
  .call 16 [] ([], []) (.leaf (.atom (.const (.bool true)))) 0 [] <|
  .ret ([], []) (.leaf (.atom (.const (.bool true))))
theorem c_provC : compF Try.prog Try.f8 o_provC (Try.f8.body.getD .skip) (symIn [.agg [.whole 0 56], .agg [.whole 1 56]] Try.f8.ntmps 2) = some t_provC := by kernel_rfl

theorem proves_C (b1 : List Int) (lb1 : b1.length = 56) (yb1 : By b1) (b2 : List Int) (lb2 : b2.length = 56) (yb2 : By b2) (h0 : (z (bval b1)) ≠ 0) (h1 : (z (bval b2)) ≠ 0) (hi : (z (bval b2)) * (rat (z (bval b1)) (z (bval b2)) * rat (z (bval b1)) (z (bval b2))) = (z (bval b1))) (w : World) : Calls Try.prog 8 #[AG (ys b1), AG (ys b2)] w (OutV (.bool true) w) := by
  refine calls_tree o_provC [.agg [.whole 0 56], .agg [.whole 1 56]] [AG (ys b1), AG (ys b2)] Try.func8 rfl c_provC rfl (by intro x hx; simp at hx; rcases hx with rfl | rfl; (intro s hs; simp at hs; subst hs; exact ⟨_, rfl, by simp [lb1], ys_one _⟩); (intro s hs; simp at hs; subst hs; exact ⟨_, rfl, by simp [lb2], ys_one _⟩)) ?_
  have mk1 := fun W => made_c b1 lb1 yb1 W
  generalize z (bval b1) = a at *
  have mk2 := fun W => made_c b2 lb2 yb2 W
  generalize z (bval b2) = b at *
  have hs : b * (abs (rat a b) * abs (rat a b)) = a := by rw [abs_sq]; exact hi
  refine tw_new fun _ => tw_new fun _ => ?_
  refine tw_EC (a) (fun W _ => mk1 W) rfl rfl fun l1 e1 => ?_
  conv => enter [6]; dsimp only [List.cons_append, List.nil_append]
  refine tw_new fun _ => ?_
  refine tw_EC (b) (fun W _ => mk2 W) rfl rfl fun l2 e2 => ?_
  conv => enter [6]; dsimp only [List.cons_append, List.nil_append]
  refine tw_new fun _ => ?_
  refine tw_EC (abs (rat a b)) (fun W _ => ratio_is e1 e2 (decide_eq_true hi) W) rfl rfl fun l3 e3 => ?_
  conv => enter [6]; dsimp only [List.cons_append, List.nil_append]
  refine tw_new fun _ => ?_
  refine tw_E (x := (abs (rat a b)) * (abs (rat a b))) (fun W _ => square_c e3 W) rfl fun l4 e4 => ?_
  conv => enter [6]; dsimp only [List.cons_append, List.nil_append]
  refine tw_E (x := b * ((abs (rat a b)) * (abs (rat a b)))) (fun W _ => mul_c e2 e4 W) rfl fun l5 e5 => ?_
  conv => enter [6]; dsimp only [List.cons_append, List.nil_append]
  refine tw_new fun _ => ?_
  refine tw_yes _ (fun W _ => negative_c e3 W) (decide_eq_false (abs_even _)) ?_
  refine tw_yes _ (fun W _ => zero_c e1 W) (decide_eq_false h0) ?_
  refine tw_yes _ (fun W _ => zero_c e2 W) (decide_eq_false h1) ?_
  refine tw_yes _ (fun W _ => equal_c e5 e1 W) (decide_eq_true hs) ?_
  refine tw_yes true (fun W _ => awake5_c W) rfl ?_
  exact tw_retV rfl rfl
def o_provD : Orc := { ans := [(13, .one ⟨.leaf (.atom (.var 0)), 1, []⟩), (14, .one ⟨.tup [.agg [.whole 0 8], .atom (.const (.bool true))], 1, []⟩), (18, .one ⟨.leaf (.atom (.var 0)), 1, []⟩), (19, .one ⟨.tup [.agg [.whole 0 8], .atom (.const (.bool true))], 1, []⟩), (23, .one ⟨.leaf (.atom (.var 0)), 1, []⟩), (26, .one ⟨.leaf (.atom (.var 0)), 1, []⟩), (27, .one ⟨.leaf (.atom (.var 0)), 1, []⟩), (29, .one ⟨.leaf (.atom (.var 0)), 1, []⟩), (30, .one ⟨.leaf (.atom (.var 0)), 1, []⟩), (31, .one ⟨.tup [.agg [.whole 0 8], .atom (.const (.bool false))], 1, []⟩), (34, .one ⟨.leaf (.atom (.var 0)), 1, []⟩), (35, .one ⟨.leaf (.atom (.var 0)), 1, []⟩), (36, .one ⟨.leaf (.agg [.whole 0 8]), 1, []⟩), (37, .one ⟨.leaf (.agg [.whole 0 8]), 1, []⟩), (38, .one ⟨.leaf (.atom (.var 0)), 1, []⟩), (39, .one ⟨.leaf (.atom (.const (.bool false))), 0, []⟩), (40, .one ⟨.leaf (.atom (.var 0)), 1, []⟩), (41, .one ⟨.leaf (.atom (.const (.bool false))), 0, []⟩), (43, .one ⟨.leaf (.atom (.var 0)), 1, []⟩), (44, .one ⟨.leaf (.atom (.const (.bool false))), 0, []⟩), (45, .one ⟨.leaf (.atom (.var 0)), 1, []⟩), (46, .one ⟨.leaf (.atom (.var 0)), 1, []⟩), (47, .two ⟨.leaf (.atom (.const (.bool true))), 0, []⟩ ⟨.leaf (.atom (.const (.bool false))), 0, []⟩), (50, .one ⟨.leaf (.atom (.var 0)), 1, []⟩), (51, .two ⟨.leaf (.atom (.const (.bool true))), 0, []⟩ ⟨.leaf (.atom (.const (.bool false))), 0, []⟩), (52, .two ⟨.leaf (.atom (.const (.bool true))), 0, []⟩ ⟨.leaf (.atom (.const (.bool false))), 0, []⟩), (53, .one ⟨.leaf (.atom (.var 0)), 1, []⟩), (55, .one ⟨.leaf (.atom (.const (.bool true))), 0, []⟩), (56, .one ⟨.leaf (.atom (.var 0)), 1, []⟩), (58, .one ⟨.leaf (.atom (.var 0)), 1, []⟩), (59, .one ⟨.leaf (.atom (.var 0)), 1, []⟩), (60, .two ⟨.leaf (.atom (.const (.bool true))), 0, []⟩ ⟨.leaf (.atom (.const (.bool false))), 0, []⟩), (62, .one ⟨.leaf (.atom (.const (.bool true))), 0, []⟩), (63, .one ⟨.leaf (.atom (.var 0)), 1, []⟩), (64, .one ⟨.leaf (.atom (.var 0)), 1, []⟩), (65, .one ⟨.leaf (.atom (.var 0)), 1, []⟩), (66, .one ⟨.leaf (.agg [.whole 0 8]), 1, []⟩), (67, .one ⟨.leaf (.atom (.const (.bool true))), 0, []⟩), (69, .one ⟨.leaf (.atom (.const (.bool true))), 0, []⟩), (70, .one ⟨.leaf (.atom (.var 0)), 1, []⟩)], lps := [] }
def t_provD : Tree :=
  .new <|
  .new <|
  .call 11 [.agg [.whole 0 56]] ([], []) (.tup [.agg [.whole 2 8], .atom (.const (.bool true))]) 1 [] <|
  .new <|
  .call 11 [.agg [.whole 1 56]] ([], []) (.tup [.agg [.whole 3 8], .atom (.const (.bool true))]) 1 [] <|
  .new <|
  .call 18 [.agg [.whole 2 8], .agg [.whole 3 8]] ([], []) (.tup [.agg [.whole 4 8], .atom (.const (.bool false))]) 1 [] <|
  .new <|
  .call 22 [.agg [.whole 4 8]] ([], []) (.leaf (.agg [.whole 5 8])) 1 [] <|
  .call 20 [.agg [.whole 3 8], .agg [.whole 5 8]] ([], []) (.leaf (.agg [.whole 6 8])) 1 [] <|
  .new <|
  .call 26 [.agg [.whole 4 8]] ([], []) (.leaf (.atom (.const (.bool false)))) 0 [] <|
  .call 15 [.agg [.whole 2 8]] ([], []) (.leaf (.atom (.const (.bool false)))) 0 [] <|
  .call 15 [.agg [.whole 3 8]] ([], []) (.leaf (.atom (.const (.bool false)))) 0 [] <|
  .call 30 [.agg [.whole 2 8]] ([], []) (.leaf (.agg [.whole 7 8])) 1 [] <|
  .call 21 [.agg [.whole 6 8], .agg [.whole 7 8]] ([], []) (.leaf (.atom (.const (.bool true)))) 0 [] <|
  .call 16 [] ([], []) (.leaf (.atom (.const (.bool true)))) 0 [] <|
  .ret ([], []) (.leaf (.atom (.const (.bool true))))
theorem c_provD : compF Try.prog Try.f8 o_provD (Try.f8.body.getD .skip) (symIn [.agg [.whole 0 56], .agg [.whole 1 56]] Try.f8.ntmps 2) = some t_provD := by kernel_rfl

theorem proves_D (b1 : List Int) (lb1 : b1.length = 56) (yb1 : By b1) (b2 : List Int) (lb2 : b2.length = 56) (yb2 : By b2) (h0 : (z (bval b1)) ≠ 0) (h1 : (z (bval b2)) ≠ 0) (hi : ¬ (z (bval b2)) * (rat (z (bval b1)) (z (bval b2)) * rat (z (bval b1)) (z (bval b2))) = (z (bval b1))) (w : World) : Calls Try.prog 8 #[AG (ys b1), AG (ys b2)] w (OutV (.bool true) w) := by
  refine calls_tree o_provD [.agg [.whole 0 56], .agg [.whole 1 56]] [AG (ys b1), AG (ys b2)] Try.func8 rfl c_provD rfl (by intro x hx; simp at hx; rcases hx with rfl | rfl; (intro s hs; simp at hs; subst hs; exact ⟨_, rfl, by simp [lb1], ys_one _⟩); (intro s hs; simp at hs; subst hs; exact ⟨_, rfl, by simp [lb2], ys_one _⟩)) ?_
  have mk1 := fun W => made_c b1 lb1 yb1 W
  generalize z (bval b1) = a at *
  have mk2 := fun W => made_c b2 lb2 yb2 W
  generalize z (bval b2) = b at *
  have hs : b * (abs (rat a b) * abs (rat a b)) = -a := by rw [abs_sq]; exact (rat_or h0 h1).resolve_left hi
  refine tw_new fun _ => tw_new fun _ => ?_
  refine tw_EC (a) (fun W _ => mk1 W) rfl rfl fun l1 e1 => ?_
  conv => enter [6]; dsimp only [List.cons_append, List.nil_append]
  refine tw_new fun _ => ?_
  refine tw_EC (b) (fun W _ => mk2 W) rfl rfl fun l2 e2 => ?_
  conv => enter [6]; dsimp only [List.cons_append, List.nil_append]
  refine tw_new fun _ => ?_
  refine tw_EC (abs (rat a b)) (fun W _ => ratio_is e1 e2 (decide_eq_false hi) W) rfl rfl fun l3 e3 => ?_
  conv => enter [6]; dsimp only [List.cons_append, List.nil_append]
  refine tw_new fun _ => ?_
  refine tw_E (x := (abs (rat a b)) * (abs (rat a b))) (fun W _ => square_c e3 W) rfl fun l4 e4 => ?_
  conv => enter [6]; dsimp only [List.cons_append, List.nil_append]
  refine tw_E (x := b * ((abs (rat a b)) * (abs (rat a b)))) (fun W _ => mul_c e2 e4 W) rfl fun l5 e5 => ?_
  conv => enter [6]; dsimp only [List.cons_append, List.nil_append]
  refine tw_new fun _ => ?_
  refine tw_yes _ (fun W _ => negative_c e3 W) (decide_eq_false (abs_even _)) ?_
  refine tw_yes _ (fun W _ => zero_c e1 W) (decide_eq_false h0) ?_
  refine tw_yes _ (fun W _ => zero_c e2 W) (decide_eq_false h1) ?_
  refine tw_E (x := -a) (fun W _ => neg_c e1 W) rfl fun l6 e6 => ?_
  conv => enter [6]; dsimp only [List.cons_append, List.nil_append]
  refine tw_yes _ (fun W _ => equal_c e5 e6 W) (decide_eq_true hs) ?_
  refine tw_yes true (fun W _ => awake5_c W) rfl ?_
  exact tw_retV rfl rfl

theorem proves_any (b1 : List Int) (lb1 : b1.length = 56) (yb1 : By b1) (b2 : List Int) (lb2 : b2.length = 56) (yb2 : By b2) (w : World) : Calls Try.prog 8 #[AG (ys b1), AG (ys b2)] w (OutV (.bool true) w) := by
  by_cases h0 : z (bval b1) = 0
  · exact proves_A b1 lb1 yb1 b2 lb2 yb2 h0 w
  · by_cases h1 : z (bval b2) = 0
    · exact proves_B b1 lb1 yb1 b2 lb2 yb2 h0 h1 w
    · by_cases hi : z (bval b2) * (rat (z (bval b1)) (z (bval b2)) * rat (z (bval b1)) (z (bval b2))) = z (bval b1)
      · exact proves_C b1 lb1 yb1 b2 lb2 yb2 h0 h1 hi w
      · exact proves_D b1 lb1 yb1 b2 lb2 yb2 h0 h1 hi w
end Go.Proofs.Ytohjkkmgcibemaa
