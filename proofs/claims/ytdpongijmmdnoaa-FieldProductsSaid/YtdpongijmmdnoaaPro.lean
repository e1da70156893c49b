/- FieldProducts' walk: WRITTEN BY gen_law4.py -/
import Derived.Test.YtdpongijmmdnoaaLwa
namespace Go.Proofs.Ytdpongijmmdnoaa
open Go.RowKit FdP FdP.Ch
def o_products : Orc := { ans := [(15, .one ⟨.leaf (.atom (.var 0)), 1, []⟩), (16, .one ⟨.tup [.agg [.whole 0 8], .atom (.const (.bool true))], 1, []⟩), (20, .one ⟨.leaf (.atom (.var 0)), 1, []⟩), (21, .one ⟨.tup [.agg [.whole 0 8], .atom (.const (.bool true))], 1, []⟩), (25, .one ⟨.leaf (.atom (.var 0)), 1, []⟩), (28, .one ⟨.leaf (.atom (.var 0)), 1, []⟩), (29, .one ⟨.leaf (.atom (.var 0)), 1, []⟩), (30, .one ⟨.leaf (.atom (.var 0)), 1, []⟩), (31, .one ⟨.leaf (.agg [.whole 0 16]), 1, []⟩), (32, .one ⟨.leaf (.atom (.var 0)), 1, []⟩), (33, .one ⟨.leaf (.agg [.whole 0 16]), 1, []⟩), (35, .one ⟨.leaf (.agg [.whole 0 16]), 1, []⟩), (36, .one ⟨.leaf (.atom (.var 0)), 1, []⟩), (37, .one ⟨.leaf (.atom (.var 0)), 1, []⟩), (38, .one ⟨.leaf (.agg [.whole 0 8]), 1, []⟩), (39, .one ⟨.leaf (.atom (.var 0)), 1, []⟩), (40, .one ⟨.leaf (.atom (.var 0)), 1, []⟩), (41, .one ⟨.leaf (.agg [.whole 0 16]), 1, []⟩), (42, .one ⟨.leaf (.atom (.const (.bool true))), 0, []⟩), (44, .one ⟨.leaf (.atom (.var 0)), 1, []⟩), (45, .one ⟨.leaf (.agg [.whole 0 8]), 1, []⟩), (46, .one ⟨.leaf (.atom (.var 0)), 1, []⟩), (47, .one ⟨.leaf (.atom (.var 0)), 1, []⟩), (48, .one ⟨.leaf (.agg [.whole 0 16]), 1, []⟩), (49, .one ⟨.leaf (.atom (.const (.bool true))), 0, []⟩), (50, .one ⟨.leaf (.atom (.var 0)), 1, []⟩), (53, .one ⟨.leaf (.agg [.whole 0 8]), 1, []⟩), (54, .one ⟨.leaf (.atom (.var 0)), 1, []⟩), (55, .one ⟨.leaf (.atom (.const (.bool true))), 0, []⟩), (56, .one ⟨.leaf (.atom (.var 0)), 1, []⟩), (58, .one ⟨.leaf (.atom (.var 0)), 1, []⟩), (60, .one ⟨.leaf (.agg [.whole 0 8]), 1, []⟩), (61, .one ⟨.leaf (.atom (.var 0)), 1, []⟩), (62, .one ⟨.leaf (.atom (.var 0)), 1, []⟩), (63, .one ⟨.leaf (.agg [.whole 0 16]), 1, []⟩), (64, .one ⟨.leaf (.atom (.const (.bool true))), 0, []⟩), (65, .one ⟨.leaf (.atom (.var 0)), 1, []⟩), (67, .one ⟨.leaf (.atom (.const (.bool true))), 0, []⟩), (68, .one ⟨.leaf (.atom (.var 0)), 1, []⟩)], lps := [] }
def t_products : Tree :=
  .new <|
  .new <|
  .call 11 [.agg [.whole 0 56]] ([], []) (.tup [.agg [.whole 3 8], .atom (.const (.bool true))]) 1 [] <|
  .new <|
  .call 11 [.agg [.whole 1 56]] ([], []) (.tup [.agg [.whole 4 8], .atom (.const (.bool true))]) 1 [] <|
  .new <|
  .call 12 [.agg [.whole 0 56]] ([], []) (.leaf (.agg [.whole 5 16])) 1 [] <|
  .new <|
  .call 12 [.agg [.whole 1 56]] ([], []) (.leaf (.agg [.whole 6 16])) 1 [] <|
  .new <|
  .call 36 [.atom (.var 2)] ([], []) (.leaf (.agg [.whole 7 16])) 1 [] <|
  .new <|
  .call 34 [.agg [.whole 3 8], .agg [.whole 4 8]] ([], []) (.leaf (.agg [.whole 8 8])) 1 [] <|
  .call 37 [.agg [.whole 5 16], .agg [.whole 6 16]] ([], []) (.leaf (.agg [.whole 9 16])) 1 [] <|
  .call 13 [.agg [.whole 8 8], .agg [.whole 9 16]] ([], []) (.leaf (.atom (.const (.bool true)))) 0 [] <|
  .call 38 [.agg [.whole 3 8]] ([], []) (.leaf (.agg [.whole 10 8])) 1 [] <|
  .call 37 [.agg [.whole 5 16], .agg [.whole 5 16]] ([], []) (.leaf (.agg [.whole 11 16])) 1 [] <|
  .call 13 [.agg [.whole 10 8], .agg [.whole 11 16]] ([], []) (.leaf (.atom (.const (.bool true)))) 0 [] <|
  .call 35 [.atom (.var 2)] ([], []) (.leaf (.agg [.whole 12 8])) 1 [] <|
  .call 13 [.agg [.whole 12 8], .agg [.whole 7 16]] ([], []) (.leaf (.atom (.const (.bool true)))) 0 [] <|
  .call 39 [.agg [.whole 3 8], .atom (.var 2)] ([], []) (.leaf (.agg [.whole 13 8])) 1 [] <|
  .call 37 [.agg [.whole 5 16], .agg [.whole 7 16]] ([], []) (.leaf (.agg [.whole 14 16])) 1 [] <|
  .call 13 [.agg [.whole 13 8], .agg [.whole 14 16]] ([], []) (.leaf (.atom (.const (.bool true)))) 0 [] <|
  .call 20 [] ([], []) (.leaf (.atom (.const (.bool true)))) 0 [] <|
  .ret ([], []) (.leaf (.atom (.const (.bool true))))
theorem c_products : compF Try.prog Try.f8 o_products (Try.f8.body.getD .skip) (symIn [.agg [.whole 0 56], .agg [.whole 1 56], .atom (.var 2)] Try.f8.ntmps 3) = some t_products := by kernel_rfl

theorem products_any (b1 : List Int) (l1 : b1.length = 56) (y1 : By b1) (b2 : List Int) (l2 : b2.length = 56) (y2 : By b2) (n : Int) (hn : -9223372036854775808 ≤ n ∧ n < 9223372036854775808) (w : World) : Calls Try.prog 8 #[AG (ys b1), AG (ys b2), .int .i64 n] w (OutV (.bool true) w) := by
  refine calls_tree o_products [.agg [.whole 0 56], .agg [.whole 1 56], .atom (.var 2)] [AG (ys b1), AG (ys b2), .int .i64 n] Try.func8 rfl c_products rfl (by intro x hx; simp at hx; rcases hx with rfl | rfl | rfl; (intro s hs; simp at hs; subst hs; exact ⟨_, rfl, by simp [l1], ys_one _⟩); (intro s hs; simp at hs; subst hs; exact ⟨_, rfl, by simp [l2], ys_one _⟩); exact ⟨by simp, rfl⟩) ?_
  refine tw_new fun _ => tw_new fun _ => ?_
  refine tw_EC (z (bval b1)) (fun W _ => made_c b1 l1 y1 W) rfl rfl fun m1 e1 => ?_
  conv => enter [6]; dsimp only [List.cons_append, List.nil_append]
  refine tw_new fun _ => ?_
  refine tw_EC (z (bval b2)) (fun W _ => made_c b2 l2 y2 W) rfl rfl fun m2 e2 => ?_
  conv => enter [6]; dsimp only [List.cons_append, List.nil_append]
  refine tw_new fun _ => ?_
  refine tw_F (z (bval b1)) (fun W _ => plain_c b1 l1 y1 W) rfl ?_
  conv => enter [6]; dsimp only [List.cons_append, List.nil_append]
  refine tw_new fun _ => ?_
  refine tw_F (z (bval b2)) (fun W _ => plain_c b2 l2 y2 W) rfl ?_
  conv => enter [6]; dsimp only [List.cons_append, List.nil_append]
  refine tw_new fun _ => ?_
  generalize z (bval b1) = a at *
  generalize z (bval b2) = b at *
  refine tw_F (z n) (fun W _ => rint_c n hn.1 hn.2 W) rfl ?_
  conv => enter [6]; dsimp only [List.cons_append, List.nil_append]
  refine tw_new fun _ => ?_
  refine tw_E (fun W _ => mul_c e1 e2 W) rfl fun m3 e3 => ?_
  conv => enter [6]; dsimp only [List.cons_append, List.nil_append]
  refine tw_F (a * b) (fun W _ => rmul_c a b W) rfl ?_
  conv => enter [6]; dsimp only [List.cons_append, List.nil_append]
  refine tw_yes true (fun W _ => by have := is_c e3 (a * b) W; rwa [decide_eq_true rfl] at this) rfl ?_
  refine tw_E (fun W _ => square_c e1 W) rfl fun m4 e4 => ?_
  conv => enter [6]; dsimp only [List.cons_append, List.nil_append]
  refine tw_F (a * a) (fun W _ => rmul_c a a W) rfl ?_
  conv => enter [6]; dsimp only [List.cons_append, List.nil_append]
  refine tw_yes true (fun W _ => by have := is_c e4 (a * a) W; rwa [decide_eq_true rfl] at this) rfl ?_
  refine tw_E (fun W _ => int_c n hn.1 hn.2 W) rfl fun m5 e5 => ?_
  conv => enter [6]; dsimp only [List.cons_append, List.nil_append]
  refine tw_yes true (fun W _ => by have := is_c e5 (z n) W; rwa [decide_eq_true rfl] at this) rfl ?_
  refine tw_E (fun W _ => times_c e1 n hn.1 hn.2 W) rfl fun m6 e6 => ?_
  conv => enter [6]; dsimp only [List.cons_append, List.nil_append]
  refine tw_F (a * z n) (fun W _ => rmul_c a (z n) W) rfl ?_
  conv => enter [6]; dsimp only [List.cons_append, List.nil_append]
  refine tw_yes true (fun W _ => by have := is_c e6 (a * z n) W; rwa [decide_eq_true rfl] at this) rfl ?_
  refine tw_yes true (fun W _ => awake_c W) rfl ?_
  exact tw_retV rfl rfl
end Go.Proofs.Ytdpongijmmdnoaa
