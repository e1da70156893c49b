/- FieldSums' walk: WRITTEN BY gen_law4.py -/
import Derived.Test.YtdpongijmmdnoaaLwa
namespace Go.Proofs.Ytdpongijmmdnoaa
open Go.RowKit FdP FdP.Ch
def o_sums : Orc := { ans := [(12, .one ⟨.leaf (.atom (.var 0)), 1, []⟩), (13, .one ⟨.tup [.agg [.whole 0 8], .atom (.const (.bool true))], 1, []⟩), (17, .one ⟨.leaf (.atom (.var 0)), 1, []⟩), (18, .one ⟨.tup [.agg [.whole 0 8], .atom (.const (.bool true))], 1, []⟩), (22, .one ⟨.leaf (.atom (.var 0)), 1, []⟩), (25, .one ⟨.leaf (.atom (.var 0)), 1, []⟩), (26, .one ⟨.leaf (.atom (.var 0)), 1, []⟩), (27, .one ⟨.leaf (.atom (.var 0)), 1, []⟩), (28, .one ⟨.leaf (.agg [.whole 0 16]), 1, []⟩), (29, .one ⟨.leaf (.atom (.var 0)), 1, []⟩), (30, .one ⟨.leaf (.agg [.whole 0 16]), 1, []⟩), (31, .one ⟨.leaf (.atom (.var 0)), 1, []⟩), (32, .one ⟨.leaf (.atom (.var 0)), 1, []⟩), (33, .one ⟨.leaf (.agg [.whole 0 8]), 1, []⟩), (34, .one ⟨.leaf (.atom (.var 0)), 1, []⟩), (35, .one ⟨.leaf (.atom (.var 0)), 1, []⟩), (36, .one ⟨.leaf (.agg [.whole 0 16]), 1, []⟩), (37, .one ⟨.leaf (.atom (.const (.bool true))), 0, []⟩), (39, .one ⟨.leaf (.atom (.var 0)), 1, []⟩), (40, .one ⟨.leaf (.atom (.var 0)), 1, []⟩), (41, .one ⟨.leaf (.agg [.whole 0 8]), 1, []⟩), (42, .one ⟨.leaf (.atom (.var 0)), 1, []⟩), (43, .one ⟨.leaf (.atom (.var 0)), 1, []⟩), (44, .one ⟨.leaf (.agg [.whole 0 16]), 1, []⟩), (45, .one ⟨.leaf (.atom (.const (.bool true))), 0, []⟩), (46, .one ⟨.leaf (.atom (.var 0)), 1, []⟩), (48, .one ⟨.leaf (.atom (.var 0)), 1, []⟩), (49, .one ⟨.leaf (.agg [.whole 0 8]), 1, []⟩), (50, .one ⟨.leaf (.atom (.var 0)), 1, []⟩), (51, .one ⟨.leaf (.agg [.whole 0 16]), 1, []⟩), (52, .one ⟨.leaf (.atom (.const (.bool true))), 0, []⟩), (53, .one ⟨.leaf (.atom (.var 0)), 1, []⟩), (55, .one ⟨.leaf (.atom (.const (.bool true))), 0, []⟩), (56, .one ⟨.leaf (.atom (.var 0)), 1, []⟩)], lps := [] }
def t_sums : Tree :=
  .new <|
  .new <|
  .call 11 [.agg [.whole 0 56]] ([], []) (.tup [.agg [.whole 2 8], .atom (.const (.bool true))]) 1 [] <|
  .new <|
  .call 11 [.agg [.whole 1 56]] ([], []) (.tup [.agg [.whole 3 8], .atom (.const (.bool true))]) 1 [] <|
  .new <|
  .call 12 [.agg [.whole 0 56]] ([], []) (.leaf (.agg [.whole 4 16])) 1 [] <|
  .new <|
  .call 12 [.agg [.whole 1 56]] ([], []) (.leaf (.agg [.whole 5 16])) 1 [] <|
  .new <|
  .call 14 [.agg [.whole 2 8], .agg [.whole 3 8]] ([], []) (.leaf (.agg [.whole 6 8])) 1 [] <|
  .call 15 [.agg [.whole 4 16], .agg [.whole 5 16]] ([], []) (.leaf (.agg [.whole 7 16])) 1 [] <|
  .call 13 [.agg [.whole 6 8], .agg [.whole 7 16]] ([], []) (.leaf (.atom (.const (.bool true)))) 0 [] <|
  .call 16 [.agg [.whole 2 8], .agg [.whole 3 8]] ([], []) (.leaf (.agg [.whole 8 8])) 1 [] <|
  .call 17 [.agg [.whole 4 16], .agg [.whole 5 16]] ([], []) (.leaf (.agg [.whole 9 16])) 1 [] <|
  .call 13 [.agg [.whole 8 8], .agg [.whole 9 16]] ([], []) (.leaf (.atom (.const (.bool true)))) 0 [] <|
  .call 18 [.agg [.whole 2 8]] ([], []) (.leaf (.agg [.whole 10 8])) 1 [] <|
  .call 19 [.agg [.whole 4 16]] ([], []) (.leaf (.agg [.whole 11 16])) 1 [] <|
  .call 13 [.agg [.whole 10 8], .agg [.whole 11 16]] ([], []) (.leaf (.atom (.const (.bool true)))) 0 [] <|
  .call 20 [] ([], []) (.leaf (.atom (.const (.bool true)))) 0 [] <|
  .ret ([], []) (.leaf (.atom (.const (.bool true))))
theorem c_sums : compF Try.prog Try.f3 o_sums (Try.f3.body.getD .skip) (symIn [.agg [.whole 0 56], .agg [.whole 1 56]] Try.f3.ntmps 2) = some t_sums := by kernel_rfl

theorem sums_any (b1 : List Int) (l1 : b1.length = 56) (y1 : By b1) (b2 : List Int) (l2 : b2.length = 56) (y2 : By b2) (w : World) : Calls Try.prog 3 #[AG (ys b1), AG (ys b2)] w (OutV (.bool true) w) := by
  refine calls_tree o_sums [.agg [.whole 0 56], .agg [.whole 1 56]] [AG (ys b1), AG (ys b2)] Try.func3 rfl c_sums rfl (by intro x hx; simp at hx; rcases hx with rfl | rfl; (intro s hs; simp at hs; subst hs; exact ⟨_, rfl, by simp [l1], ys_one _⟩); (intro s hs; simp at hs; subst hs; exact ⟨_, rfl, by simp [l2], ys_one _⟩)) ?_
  refine tw_new fun _ => tw_new fun _ => ?_
  refine tw_EC (z (bval b1)) (fun W _ => made_c b1 l1 y1 W) rfl rfl fun m1 e1 => ?_
  conv => enter [6]; dsimp only [List.cons_append, List.nil_append]
  refine tw_new fun _ => ?_
  refine tw_EC (z (bval b2)) (fun W _ => made_c b2 l2 y2 W) rfl rfl fun m2 e2 => ?_
  conv => enter [6]; dsimp only [List.cons_append, List.nil_append]
  refine tw_new fun _ => ?_
  refine tw_F (z (bval b1)) (fun W _ => plain_c b1 l1 y1 W) rfl ?_
  conv => enter [6]; dsimp only [List.cons_append, List.nil_append]
  refine tw_new fun _ => ?_
  refine tw_F (z (bval b2)) (fun W _ => plain_c b2 l2 y2 W) rfl ?_
  conv => enter [6]; dsimp only [List.cons_append, List.nil_append]
  refine tw_new fun _ => ?_
  generalize z (bval b1) = a at *
  generalize z (bval b2) = b at *
  refine tw_E (fun W _ => add_c e1 e2 W) rfl fun m3 e3 => ?_
  conv => enter [6]; dsimp only [List.cons_append, List.nil_append]
  refine tw_F (a + b) (fun W _ => radd_c a b W) rfl ?_
  conv => enter [6]; dsimp only [List.cons_append, List.nil_append]
  refine tw_yes true (fun W _ => by have := is_c e3 (a + b) W; rwa [decide_eq_true rfl] at this) rfl ?_
  refine tw_E (fun W _ => sub_c e1 e2 W) rfl fun m4 e4 => ?_
  conv => enter [6]; dsimp only [List.cons_append, List.nil_append]
  refine tw_F (a - b) (fun W _ => rsub_c a b W) rfl ?_
  conv => enter [6]; dsimp only [List.cons_append, List.nil_append]
  refine tw_yes true (fun W _ => by have := is_c e4 (a - b) W; rwa [decide_eq_true rfl] at this) rfl ?_
  refine tw_E (fun W _ => neg_c e1 W) rfl fun m5 e5 => ?_
  conv => enter [6]; dsimp only [List.cons_append, List.nil_append]
  refine tw_F (-a) (fun W _ => rneg_c a W) rfl ?_
  conv => enter [6]; dsimp only [List.cons_append, List.nil_append]
  refine tw_yes true (fun W _ => by have := is_c e5 (-a) W; rwa [decide_eq_true rfl] at this) rfl ?_
  refine tw_yes true (fun W _ => awake_c W) rfl ?_
  exact tw_retV rfl rfl
end Go.Proofs.Ytdpongijmmdnoaa
