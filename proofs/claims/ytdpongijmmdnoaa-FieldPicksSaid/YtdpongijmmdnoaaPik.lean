/- FieldPicks' walk: WRITTEN BY gen_law4.py -/
import Derived.Test.YtdpongijmmdnoaaLwa
namespace Go.Proofs.Ytdpongijmmdnoaa
open Go.RowKit FdP FdP.Ch
def o_swap : Orc := { ans := [(9, .one ⟨.leaf (.atom (.var 0)), 1, []⟩), (10, .one ⟨.leaf (.atom (.var 0)), 1, []⟩), (11, .one ⟨.leaf (.agg [.whole 0 8]), 1, []⟩), (13, .one ⟨.leaf (.atom (.var 0)), 1, []⟩), (14, .one ⟨.leaf (.atom (.var 0)), 1, []⟩), (15, .one ⟨.leaf (.agg [.whole 0 8]), 1, []⟩)], lps := [] }
def t_swap : Tree :=
  .new <|
  .new <|
  .new <|
  .new <|
  .call 25 [.atom (.var 0), .agg [.whole 1 8], .agg [.whole 2 8]] ([], []) (.leaf (.agg [.whole 3 8])) 1 [] <|
  .call 25 [.atom (.var 0), .agg [.whole 2 8], .agg [.whole 1 8]] ([], []) (.leaf (.agg [.whole 4 8])) 1 [] <|
  .ret ([], []) (.tup [.agg [.whole 3 8], .agg [.whole 4 8]])
theorem c_swap : compF Try.prog Try.f21 o_swap (Try.f21.body.getD .skip) (symIn [.atom (.var 0), .agg [.whole 1 8], .agg [.whole 2 8]] Try.f21.ntmps 3) = some t_swap := by kernel_rfl

theorem select_c {l m : List Int} {a b : F} (bit : Int) (hl : E l a) (hm : E m b) (W : World) : Calls Try.prog 25 #[.int .i64 bit, AG (us l), AG (us m)] W (OutE (if bit % 2 = 0 then a else b) W) := by
  refine (select_any bit l m hl.len hm.len W).mono fun e w' ⟨h1, h2⟩ => ?_
  rw [selF_law bit l m hl.len hm.len hl.bd hm.bd] at h1
  by_cases hb : bit % 2 = 0
  · rw [if_pos hb] at h1 ⊢; exact ⟨_, h1, hl, h2⟩
  · rw [if_neg hb] at h1 ⊢; exact ⟨_, h1, hm, h2⟩
theorem swap_c {l m : List Int} {a b : F} (bit : Int) (hl : E l a) (hm : E m b) (w : World) : Calls Try.prog 21 #[.int .i64 bit, AG (us l), AG (us m)] w
    fun e w' => ∃ q q', e = .returned (.tuple #[AG (us q), AG (us q')]) ∧ E q (if bit % 2 = 0 then a else b) ∧ E q' (if bit % 2 = 0 then b else a) ∧ Fut w w' := by
  have l1 := hl.len
  have l2 := hm.len
  refine calls_tree o_swap [.atom (.var 0), .agg [.whole 1 8], .agg [.whole 2 8]] [.int .i64 bit, AG (us l), AG (us m)] Try.func21 rfl c_swap rfl (by intro x hx; simp at hx; rcases hx with rfl | rfl | rfl; exact ⟨by simp, rfl⟩; (intro s hs; simp at hs; subst hs; exact ⟨_, rfl, by simp [l1], us_one _⟩); (intro s hs; simp at hs; subst hs; exact ⟨_, rfl, by simp [l2], us_one _⟩)) ?_
  refine tw_new fun _ => tw_new fun _ => tw_new fun _ => tw_new fun _ => ?_
  refine tw_E (fun W _ => select_c bit hl hm W) rfl fun q1 f1 => ?_
  conv => enter [6]; dsimp only [List.cons_append, List.nil_append]
  refine tw_E (fun W _ => select_c bit hm hl W) rfl fun q2 f2 => ?_
  conv => enter [6]; dsimp only [List.cons_append, List.nil_append]
  exact tw_ret fun W hW => ⟨q1, q2, rfl, f1, f2, hW.1.below⟩
theorem tm2 (n : Int) : n.tmod 2 = 0 ↔ n % 2 = 0 := by
  rcases Int.le_total 0 n with h | h
  · rw [Int.tmod_eq_emod_of_nonneg h]
  · have : n.tmod 2 = -((-n) % 2) := by rw [← Int.tmod_eq_emod_of_nonneg (by omega), Int.neg_tmod, Int.neg_neg]
    rw [this]; omega
theorem FG_zero : FG 0 = AG (List.replicate 16 (.int .i64 0)) := by
  have : dgs 0 = List.replicate 16 0 := by decide +kernel
  unfold FG; rw [this]; rfl
def o_picks : Orc := { ans := [(17, .one ⟨.leaf (.atom (.var 0)), 1, []⟩), (18, .one ⟨.tup [.agg [.whole 0 8], .atom (.const (.bool true))], 1, []⟩), (22, .one ⟨.leaf (.atom (.var 0)), 1, []⟩), (23, .one ⟨.tup [.agg [.whole 0 8], .atom (.const (.bool true))], 1, []⟩), (27, .one ⟨.leaf (.atom (.var 0)), 1, []⟩), (30, .one ⟨.leaf (.atom (.var 0)), 1, []⟩), (31, .one ⟨.leaf (.atom (.var 0)), 1, []⟩), (32, .one ⟨.leaf (.atom (.var 0)), 1, []⟩), (33, .one ⟨.leaf (.agg [.whole 0 16]), 1, []⟩), (34, .one ⟨.leaf (.atom (.var 0)), 1, []⟩), (35, .one ⟨.leaf (.agg [.whole 0 16]), 1, []⟩), (38, .one ⟨.leaf (.atom (.var 0)), 1, []⟩), (39, .one ⟨.leaf (.atom (.var 0)), 1, []⟩), (40, .one ⟨.tup [.agg [.whole 0 8], .agg [.whole 1 8]], 2, []⟩), (44, .one ⟨.leaf (.atom (.var 0)), 1, []⟩), (45, .one ⟨.leaf (.atom (.var 0)), 1, []⟩), (46, .one ⟨.leaf (.atom (.var 0)), 1, []⟩), (47, .one ⟨.leaf (.atom (.var 0)), 1, []⟩), (48, .one ⟨.leaf (.atom (.var 0)), 1, []⟩), (49, .one ⟨.leaf (.atom (.var 0)), 1, []⟩), (50, .two ⟨.leaf (.atom (.const (.bool true))), 0, []⟩ ⟨.leaf (.atom (.const (.bool false))), 0, []⟩), (52, .one ⟨.leaf (.atom (.var 0)), 1, []⟩), (53, .one ⟨.leaf (.atom (.var 0)), 1, []⟩), (54, .one ⟨.leaf (.atom (.var 0)), 1, []⟩), (55, .one ⟨.leaf (.atom (.var 0)), 1, []⟩), (56, .one ⟨.leaf (.atom (.var 0)), 1, []⟩), (57, .two ⟨.leaf (.atom (.const (.bool true))), 0, []⟩ ⟨.leaf (.atom (.const (.bool false))), 0, []⟩), (58, .one ⟨.leaf (.atom (.var 0)), 1, []⟩), (60, .one ⟨.leaf (.atom (.var 0)), 1, []⟩), (61, .two ⟨.leaf (.atom (.const (.bool true))), 0, []⟩ ⟨.leaf (.atom (.const (.bool false))), 0, []⟩), (63, .one ⟨.leaf (.atom (.var 0)), 1, []⟩), (64, .one ⟨.leaf (.atom (.var 0)), 1, []⟩), (65, .one ⟨.leaf (.agg [.whole 0 8]), 1, []⟩), (66, .one ⟨.leaf (.atom (.var 0)), 1, []⟩), (67, .one ⟨.leaf (.atom (.const (.bool true))), 0, []⟩), (69, .one ⟨.leaf (.atom (.var 0)), 1, []⟩), (70, .one ⟨.leaf (.atom (.var 0)), 1, []⟩), (71, .one ⟨.leaf (.atom (.const (.bool true))), 0, []⟩), (72, .one ⟨.leaf (.atom (.var 0)), 1, []⟩), (74, .one ⟨.leaf (.atom (.var 0)), 1, []⟩), (75, .one ⟨.leaf (.atom (.var 0)), 1, []⟩), (76, .one ⟨.leaf (.atom (.const (.bool true))), 0, []⟩), (77, .one ⟨.leaf (.atom (.var 0)), 1, []⟩), (79, .one ⟨.leaf (.atom (.const (.bool true))), 0, []⟩), (80, .one ⟨.leaf (.atom (.var 0)), 1, []⟩), (82, .one ⟨.leaf (.atom (.var 0)), 1, []⟩), (83, .one ⟨.leaf (.atom (.var 0)), 1, []⟩), (84, .one ⟨.leaf (.agg [.whole 0 8]), 1, []⟩), (85, .one ⟨.leaf (.atom (.var 0)), 1, []⟩), (86, .one ⟨.leaf (.atom (.const (.bool true))), 0, []⟩), (88, .one ⟨.leaf (.atom (.var 0)), 1, []⟩), (89, .one ⟨.leaf (.atom (.var 0)), 1, []⟩), (90, .one ⟨.leaf (.atom (.const (.bool true))), 0, []⟩), (91, .one ⟨.leaf (.atom (.var 0)), 1, []⟩), (93, .one ⟨.leaf (.atom (.var 0)), 1, []⟩), (94, .one ⟨.leaf (.atom (.var 0)), 1, []⟩), (95, .one ⟨.leaf (.atom (.const (.bool true))), 0, []⟩), (96, .one ⟨.leaf (.atom (.var 0)), 1, []⟩), (98, .one ⟨.leaf (.atom (.const (.bool true))), 0, []⟩), (99, .one ⟨.leaf (.atom (.var 0)), 1, []⟩)], lps := [] }
def t_picks : Tree :=
  .new <|
  .new <|
  .call 11 [.agg [.whole 0 56]] ([], []) (.tup [.agg [.whole 3 8], .atom (.const (.bool true))]) 1 [] <|
  .new <|
  .call 11 [.agg [.whole 1 56]] ([], []) (.tup [.agg [.whole 4 8], .atom (.const (.bool true))]) 1 [] <|
  .new <|
  .call 12 [.agg [.whole 0 56]] ([], []) (.leaf (.agg [.whole 5 16])) 1 [] <|
  .new <|
  .call 12 [.agg [.whole 1 56]] ([], []) (.leaf (.agg [.whole 6 16])) 1 [] <|
  .new <|
  .call 21 [.atom (.var 2), .agg [.whole 3 8], .agg [.whole 4 8]] ([], []) (.tup [.agg [.whole 7 8], .agg [.whole 8 8]]) 2 [] <|
  .new <|
  .new <|
  .new <|
  .call 22 [.agg [.whole 3 8], .agg [.whole 4 8]] ([], []) (.leaf (.atom (.var 9))) 1 [] <|
  .call 23 [.agg [.whole 5 16], .agg [.whole 6 16]] ([], []) (.leaf (.atom (.var 10))) 1 [] <|
  .calc2 (.binOp .neq 4 (.tmp 46) (.tmp 49) 4) 4 [(46, .leaf (.atom (.var 9))), (49, .leaf (.atom (.var 10)))] ([], []) (.leaf (.atom (.const (.bool true)))) 0 (
    .ret ([], []) (.leaf (.atom (.const (.bool false))))) (.leaf (.atom (.const (.bool false)))) 0 <|
  .call 24 [.agg [.whole 3 8]] ([], []) (.leaf (.atom (.var 11))) 1 [] <|
  .call 23 [.agg [.whole 5 16], .agg [.lit [.int .i64 0, .int .i64 0, .int .i64 0, .int .i64 0, .int .i64 0, .int .i64 0, .int .i64 0, .int .i64 0, .int .i64 0, .int .i64 0, .int .i64 0, .int .i64 0, .int .i64 0, .int .i64 0, .int .i64 0, .int .i64 0]]] ([], []) (.leaf (.atom (.var 12))) 1 [] <|
  .calc2 (.binOp .neq 4 (.tmp 53) (.tmp 56) 4) 4 [(53, .leaf (.atom (.var 11))), (56, .leaf (.atom (.var 12)))] ([], []) (.leaf (.atom (.const (.bool true)))) 0 (
    .ret ([], []) (.leaf (.atom (.const (.bool false))))) (.leaf (.atom (.const (.bool false)))) 0 <|
  .calc (.binOp .rem 3 (.tmp 59) (.const (.int .i64 2)) 3) 3 [(59, .leaf (.atom (.var 2)))] ([], []) (.leaf (.atom (.var 13))) 1 <|
  .calc2 (.binOp .eql 3 (.tmp 60) (.const (.int .i64 0)) 3) 4 [(60, .leaf (.atom (.var 13)))] ([], []) (.leaf (.atom (.const (.bool true)))) 0 (
    .call 25 [.atom (.var 2), .agg [.whole 3 8], .agg [.whole 4 8]] ([], []) (.leaf (.agg [.whole 14 8])) 1 [] <|
    .call 13 [.agg [.whole 14 8], .agg [.whole 5 16]] ([], []) (.leaf (.atom (.const (.bool true)))) 0 [] <|
    .call 13 [.agg [.whole 7 8], .agg [.whole 5 16]] ([], []) (.leaf (.atom (.const (.bool true)))) 0 [] <|
    .call 13 [.agg [.whole 8 8], .agg [.whole 6 16]] ([], []) (.leaf (.atom (.const (.bool true)))) 0 [] <|
    .call 20 [] ([], []) (.leaf (.atom (.const (.bool true)))) 0 [] <|
    .ret ([], []) (.leaf (.atom (.const (.bool true))))) (.leaf (.atom (.const (.bool false)))) 0 <|
  .call 25 [.atom (.var 2), .agg [.whole 3 8], .agg [.whole 4 8]] ([], []) (.leaf (.agg [.whole 14 8])) 1 [] <|
  .call 13 [.agg [.whole 14 8], .agg [.whole 6 16]] ([], []) (.leaf (.atom (.const (.bool true)))) 0 [] <|
  .call 13 [.agg [.whole 7 8], .agg [.whole 6 16]] ([], []) (.leaf (.atom (.const (.bool true)))) 0 [] <|
  .call 13 [.agg [.whole 8 8], .agg [.whole 5 16]] ([], []) (.leaf (.atom (.const (.bool true)))) 0 [] <|
  .call 20 [] ([], []) (.leaf (.atom (.const (.bool true)))) 0 [] <|
  .ret ([], []) (.leaf (.atom (.const (.bool true))))
theorem c_picks : compF Try.prog Try.f4 o_picks (Try.f4.body.getD .skip) (symIn [.agg [.whole 0 56], .agg [.whole 1 56], .atom (.var 2)] Try.f4.ntmps 3) = some t_picks := by kernel_rfl

theorem picks_any (b1 : List Int) (l1 : b1.length = 56) (y1 : By b1) (b2 : List Int) (l2 : b2.length = 56) (y2 : By b2) (n : Int) (w : World) : Calls Try.prog 4 #[AG (ys b1), AG (ys b2), .int .i64 n] w (OutV (.bool true) w) := by
  refine calls_tree o_picks [.agg [.whole 0 56], .agg [.whole 1 56], .atom (.var 2)] [AG (ys b1), AG (ys b2), .int .i64 n] Try.func4 rfl c_picks rfl (by intro x hx; simp at hx; rcases hx with rfl | rfl | rfl; (intro s hs; simp at hs; subst hs; exact ⟨_, rfl, by simp [l1], ys_one _⟩); (intro s hs; simp at hs; subst hs; exact ⟨_, rfl, by simp [l2], ys_one _⟩); exact ⟨by simp, rfl⟩) ?_
  refine tw_new fun _ => tw_new fun _ => ?_
  refine tw_EC (z (bval b1)) (fun W _ => made_c b1 l1 y1 W) rfl rfl fun m1 e1 => ?_
  conv => enter [6]; dsimp only [List.cons_append, List.nil_append]
  refine tw_new fun _ => ?_
  refine tw_EC (z (bval b2)) (fun W _ => made_c b2 l2 y2 W) rfl rfl fun m2 e2 => ?_
  conv => enter [6]; dsimp only [List.cons_append, List.nil_append]
  refine tw_new fun _ => ?_
  refine tw_F (z (bval b1)) (fun W _ => plain_c b1 l1 y1 W) rfl ?_
  conv => enter [6]; dsimp only [List.cons_append, List.nil_append]
  refine tw_new fun _ => ?_
  refine tw_F (z (bval b2)) (fun W _ => plain_c b2 l2 y2 W) rfl ?_
  conv => enter [6]; dsimp only [List.cons_append, List.nil_append]
  refine tw_new fun _ => ?_
  generalize z (bval b1) = a at *
  generalize z (bval b2) = b at *
  refine tw_EE _ _ (fun W _ => swap_c n e1 e2 W) rfl rfl fun q1 q2 f1 f2 => ?_
  conv => enter [6]; dsimp only [List.cons_append, List.nil_append]
  refine tw_new fun _ => tw_new fun _ => tw_new fun _ => ?_
  refine tw_var (fun W _ => equal_c e1 e2 W) rfl rfl ?_
  conv => enter [6]; dsimp only [List.cons_append, List.nil_append]
  refine tw_var (fun W _ => rsame_c a b W) rfl rfl ?_
  conv => enter [6]; dsimp only [List.cons_append, List.nil_append]
  refine tw_cmpB _ rfl rfl (bin_neB _ _) (fun h => by simp at h) (fun _ => ?_)
  refine tw_var (fun W _ => zero_c e1 W) rfl rfl ?_
  conv => enter [6]; dsimp only [List.cons_append, List.nil_append]
  refine tw_var (v := .bool (decide (a = 0))) (fun W _ => by have := rsame_c a 0 W; rw [FG_zero] at this; exact this) rfl rfl ?_
  conv => enter [6]; dsimp only [List.cons_append, List.nil_append]
  refine tw_cmpB _ rfl rfl (bin_neB _ _) (fun h => by simp at h) (fun _ => ?_)
  refine tw_bin rfl rfl (bin_rem _ .i64 n 2 (by omega)) rfl rfl ?_
  conv => enter [6]; dsimp only [List.cons_append, List.nil_append]
  refine tw_cmp _ rfl rfl (bin_eql _ _ _ _) (fun ht => ?_) (fun hf => ?_)
  · have hn : n % 2 = 0 := (tm2 n).1 (of_decide_eq_true ht)
    rw [if_pos hn] at f1 f2
    have sel := fun W => select_c n e1 e2 W
    rw [if_pos hn] at sel
    refine tw_E (fun W _ => sel W) rfl fun q3 f3 => ?_
    conv => enter [6]; dsimp only [List.cons_append, List.nil_append]
    refine tw_yes true (fun W _ => by have := is_c f3 (a) W; rwa [decide_eq_true rfl] at this) rfl ?_
    refine tw_yes true (fun W _ => by have := is_c f1 (a) W; rwa [decide_eq_true rfl] at this) rfl ?_
    refine tw_yes true (fun W _ => by have := is_c f2 (b) W; rwa [decide_eq_true rfl] at this) rfl ?_
    refine tw_yes true (fun W _ => awake_c W) rfl ?_
    exact tw_retV rfl rfl
  · have hn : ¬ n % 2 = 0 := fun h => of_decide_eq_false hf ((tm2 n).2 h)
    rw [if_neg hn] at f1 f2
    have sel := fun W => select_c n e1 e2 W
    rw [if_neg hn] at sel
    refine tw_E (fun W _ => sel W) rfl fun q3 f3 => ?_
    conv => enter [6]; dsimp only [List.cons_append, List.nil_append]
    refine tw_yes true (fun W _ => by have := is_c f3 (b) W; rwa [decide_eq_true rfl] at this) rfl ?_
    refine tw_yes true (fun W _ => by have := is_c f1 (b) W; rwa [decide_eq_true rfl] at this) rfl ?_
    refine tw_yes true (fun W _ => by have := is_c f2 (a) W; rwa [decide_eq_true rfl] at this) rfl ?_
    refine tw_yes true (fun W _ => awake_c W) rfl ?_
    exact tw_retV rfl rfl
end Go.Proofs.Ytdpongijmmdnoaa
