/- package root, over trees: WRITTEN BY gen_root.py -/
import Derived.Test.YtohjkkmgcibemaaJ9
import Derived.Test.YtohjkkmgcibemaaJ3
import Derived.Laws.BitsAllLaws
set_option linter.unusedSimpArgs false
set_option linter.unusedVariables false
namespace Go.Proofs.Ytohjkkmgcibemaa
open Go.RowKit FdP FdP.Ch
theorem sq2 (x : F) : x ^ 2 = x * x := by grind
theorem bin_and (t : TypeId) (kd : IntKind) (m n : Int) (W : World) : (binOp .and t (.int kd m) (.int kd n)).run Try.prog W = .ok (.int kd (bits .and kd m n)) W := by simp [binOp, intBits_and]
theorem u8_and1 (x : Int) (h : 0 ≤ x ∧ x < 256) : bits .and .u8 x 1 = x % 2 := by
 rw [u8_and x 1 h.1 h.2 (by omega) (by omega)]
 have : x.toNat &&& (1 : Int).toNat = x.toNat % 2 := Nat.and_one_is_mod _
 rw [this]; omega
theorem raw0 (n : Int) : (rawF (dig n)).getD 0 0 % 2 = n % 2 ∧ 0 ≤ (rawF (dig n)).getD 0 0 ∧ (rawF (dig n)).getD 0 0 < 256 := by
 have e : (rawF (dig n)).getD 0 0 = (n % 72057594037927936) / 2 ^ (8 * 0) % 256 := by
  simp [rawF, rawO, rawX, dig]
 rw [e]
 simp
 omega
theorem pow_one' (a : F) : a ^ 1 = a := by grind
def o_squares : Orc := { ans := [(7, oB), (8, oV), (9, oA 8), (10, oV), (11, oV)], lps := [(0, [.slot 6 [.one], .blk 0 [.agg 8]])] }
def t_squares : Tree :=
 .new <|
 .new <|
 .loop [.atom (.const (.int .i64 0)), .agg [.whole 0 8]] [.one, .agg 8] <|
 .calc2 (.binOp .lss 3 (.tmp 6) (.tmp 5) 3) 4 [(6, qv 2), (5, qv 1)] ([], []) qT 0 (
 .call 22 [.agg [.whole 3 8]] ([], []) (.leaf (.agg [.whole 4 8])) 1 [] <|
 .calc (.binOp .add 3 (.tmp 6) (.const (.int .i64 1)) 3) 3 [(6, qv 2)] ([], []) (qv 5) 1 <|
 .again 0 [.atom (.var 5), .agg [.whole 4 8]]) qF 0 <|
 .ret ([], []) (.leaf (.agg [.whole 3 8]))
theorem c_squares : compF Try.prog Try.f57 o_squares (Try.f57.body.getD .skip) (symIn [.agg [.whole 0 8], .atom (.var 1)] Try.f57.ntmps 2) = some t_squares := by kernel_rfl

theorem squares_c {l : List Int} {a : F} (h : E l a) (n : Nat) (hn : n < 1000000) (w : World) : Calls Try.prog 57 #[AG (us l), .int .i64 (n : Int)] w (OutE (a ^ (2 ^ n)) w) := by
 refine calls_tree o_squares [.agg [.whole 0 8], .atom (.var 1)] [AG (us l), .int .i64 (n : Int)] Try.func57 rfl c_squares rfl (by intro x hx; simp at hx; rcases hx with rfl | rfl; (intro s hs; simp at hs; subst hs; exact ⟨_, rfl, by simp [h.len], us_one _⟩); exact ⟨by simp, rfl⟩) ?_
 refine tw_new fun _ => tw_new fun _ => ?_
 refine tw_countI n (fun k vs => ∃ m, vs = [.int .i64 (k : Int), AG (us m)] ∧ E m (a ^ (2 ^ k))) ⟨l, rfl, by rw [Nat.pow_zero, pow_one']; exact h⟩ fun k vs p hk _ hI hp => ?_
 obtain ⟨m, rfl, hm⟩ := hI
 conv => enter [6]; dsimp only [List.cons_append, List.nil_append]
 refine tw_cmp _ rfl rfl (bin_lss _ _ _ _) (fun ht => ?_) (fun hf => ?_)
 ·have hk' : k < n := by have := of_decide_eq_true ht; omega
  refine tw_E (fun W _ => square_c hm W) rfl fun q hq => ?_
  conv => enter [6]; dsimp only [List.cons_append, List.nil_append]
  refine tw_bin rfl rfl (bin_add_in _ rfl (by omega)) rfl rfl ?_
  conv => enter [6]; dsimp only [List.cons_append, List.nil_append]
  have hq' : E q (a ^ 2 ^ (k + 1)) := by rw [Nat.pow_succ, pow_mul, sq2]; exact hq
  exact tw_again rfl rfl (hp (k + 1) _ (by omega) (by omega) ⟨q, rfl, hq'⟩)
 ·have hk' : k = n := by have := of_decide_eq_false hf; omega
  subst hk'
  exact tw_retE rfl rfl hm
def o_join : Orc := { ans := [(7, oV), (9, oA 8), (10, oV), (11, oA 8)], lps := [] }
def t_join : Tree :=
 .new <|
 .new <|
 .new <|
 .call 57 [.agg [.whole 0 8], .atom (.var 1)] ([], []) (.leaf (.agg [.whole 3 8])) 1 [] <|
 .call 20 [.agg [.whole 3 8], .agg [.whole 2 8]] ([], []) (.leaf (.agg [.whole 4 8])) 1 [] <|
 .ret ([], []) (.leaf (.agg [.whole 4 8]))
theorem c_join : compF Try.prog Try.f70 o_join (Try.f70.body.getD .skip) (symIn [.agg [.whole 0 8], .atom (.var 1), .agg [.whole 2 8]] Try.f70.ntmps 3) = some t_join := by kernel_rfl

theorem join_c {l m : List Int} {a : F} {i j e : Nat} (n : Nat) (hl : E l (a ^ i)) (hm : E m (a ^ j)) (hn : n < 1000000) (he : i * 2 ^ n + j = e) (w : World) : Calls Try.prog 70 #[AG (us l), .int .i64 (n : Int), AG (us m)] w (OutE (a ^ e) w) := by
 refine calls_tree o_join [.agg [.whole 0 8], .atom (.var 1), .agg [.whole 2 8]] [AG (us l), .int .i64 (n : Int), AG (us m)] Try.func70 rfl c_join rfl (by intro x hx; simp at hx; rcases hx with rfl | rfl | rfl; (intro s hs; simp at hs; subst hs; exact ⟨_, rfl, by simp [hl.len], us_one _⟩); exact ⟨by simp, rfl⟩; (intro s hs; simp at hs; subst hs; exact ⟨_, rfl, by simp [hm.len], us_one _⟩)) ?_
 refine tw_new fun _ => tw_new fun _ => tw_new fun _ => ?_
 refine tw_E (fun W _ => squares_c hl n hn W) rfl fun l1 e1 => ?_
 conv => enter [6]; dsimp only [List.cons_append, List.nil_append]
 refine tw_E (fun W _ => mul_c e1 hm W) rfl fun l2 e2 => ?_
 conv => enter [6]; dsimp only [List.cons_append, List.nil_append]
 have e3 : (a ^ i) ^ (2 ^ n) * a ^ j = a ^ e := by rw [← he, pow_add, pow_mul]
 rw [e3] at e2
 exact tw_retE rfl rfl e2
def o_chain : Orc := { ans := [(10, oV), (11, oV), (12, oA 8), (14, oV), (15, oV), (16, oA 8), (19, oV), (20, oV), (21, oA 8), (22, oV), (23, oA 8), (25, oV), (26, oV), (27, oA 8), (30, oV), (31, oV), (32, oA 8), (33, oV), (34, oA 8), (37, oV), (38, oV), (39, oA 8), (40, oV), (41, oA 8), (43, oV), (44, oV), (45, oA 8), (48, oV), (49, oV), (50, oA 8), (51, oV), (52, oA 8)], lps := [] }
def t_chain : Tree :=
 .new <|
 .new <|
 .call 70 [.agg [.whole 0 8], .atom (.const (.int .i64 1)), .agg [.whole 0 8]] ([], []) (.leaf (.agg [.whole 1 8])) 1 [] <|
 .new <|
 .call 70 [.agg [.whole 1 8], .atom (.const (.int .i64 1)), .agg [.whole 0 8]] ([], []) (.leaf (.agg [.whole 2 8])) 1 [] <|
 .new <|
 .call 70 [.agg [.whole 2 8], .atom (.const (.int .i64 3)), .agg [.whole 2 8]] ([], []) (.leaf (.agg [.whole 3 8])) 1 [] <|
 .call 70 [.agg [.whole 3 8], .atom (.const (.int .i64 3)), .agg [.whole 2 8]] ([], []) (.leaf (.agg [.whole 4 8])) 1 [] <|
 .new <|
 .call 70 [.agg [.whole 4 8], .atom (.const (.int .i64 9)), .agg [.whole 4 8]] ([], []) (.leaf (.agg [.whole 5 8])) 1 [] <|
 .new <|
 .call 70 [.agg [.whole 5 8], .atom (.const (.int .i64 1)), .agg [.whole 0 8]] ([], []) (.leaf (.agg [.whole 6 8])) 1 [] <|
 .call 70 [.agg [.whole 6 8], .atom (.const (.int .i64 18)), .agg [.whole 5 8]] ([], []) (.leaf (.agg [.whole 7 8])) 1 [] <|
 .new <|
 .call 70 [.agg [.whole 7 8], .atom (.const (.int .i64 37)), .agg [.whole 7 8]] ([], []) (.leaf (.agg [.whole 8 8])) 1 [] <|
 .call 70 [.agg [.whole 8 8], .atom (.const (.int .i64 37)), .agg [.whole 7 8]] ([], []) (.leaf (.agg [.whole 9 8])) 1 [] <|
 .call 70 [.agg [.whole 9 8], .atom (.const (.int .i64 111)), .agg [.whole 9 8]] ([], []) (.leaf (.agg [.whole 10 8])) 1 [] <|
 .call 70 [.agg [.whole 10 8], .atom (.const (.int .i64 1)), .agg [.whole 0 8]] ([], []) (.leaf (.agg [.whole 11 8])) 1 [] <|
 .call 70 [.agg [.whole 11 8], .atom (.const (.int .i64 223)), .agg [.whole 10 8]] ([], []) (.leaf (.agg [.whole 12 8])) 1 [] <|
 .ret ([], []) (.leaf (.agg [.whole 12 8]))
theorem c_chain : compF Try.prog Try.f40 o_chain (Try.f40.body.getD .skip) (symIn [.agg [.whole 0 8]] Try.f40.ntmps 1) = some t_chain := by kernel_rfl

theorem chain_c {l : List Int} {a : F} (h : E l a) (w : World) : Calls Try.prog 40 #[AG (us l)] w (OutE (a ^ chE) w) := by
 refine calls_tree o_chain [.agg [.whole 0 8]] [AG (us l)] Try.func40 rfl c_chain rfl (by intro x hx; simp at hx; subst hx; (intro s hs; simp at hs; subst hs; exact ⟨_, rfl, by simp [h.len], us_one _⟩)) ?_
 refine tw_new fun _ => tw_new fun _ => ?_
 have h1 : E l (a ^ 1) := by rw [pow_one']; exact h
 refine tw_E (fun W _ => join_c (e := 3) 1 h1 h1 (by omega) (by decide +kernel) W) rfl fun q1 f1 => ?_
 conv => enter [6]; dsimp only [List.cons_append, List.nil_append]
 refine tw_new fun _ => ?_
 refine tw_E (fun W _ => join_c (e := 7) 1 f1 h1 (by omega) (by decide +kernel) W) rfl fun q2 f2 => ?_
 conv => enter [6]; dsimp only [List.cons_append, List.nil_append]
 refine tw_new fun _ => ?_
 refine tw_E (fun W _ => join_c (e := 63) 3 f2 f2 (by omega) (by decide +kernel) W) rfl fun q3 f3 => ?_
 conv => enter [6]; dsimp only [List.cons_append, List.nil_append]
 refine tw_E (fun W _ => join_c (e := 511) 3 f3 f2 (by omega) (by decide +kernel) W) rfl fun q4 f4 => ?_
 conv => enter [6]; dsimp only [List.cons_append, List.nil_append]
 refine tw_new fun _ => ?_
 refine tw_E (fun W _ => join_c (e := 262143) 9 f4 f4 (by omega) (by decide +kernel) W) rfl fun q5 f5 => ?_
 conv => enter [6]; dsimp only [List.cons_append, List.nil_append]
 refine tw_new fun _ => ?_
 refine tw_E (fun W _ => join_c (e := 524287) 1 f5 h1 (by omega) (by decide +kernel) W) rfl fun q6 f6 => ?_
 conv => enter [6]; dsimp only [List.cons_append, List.nil_append]
 refine tw_E (fun W _ => join_c (e := 137438953471) 18 f6 f5 (by omega) (by decide +kernel) W) rfl fun q7 f7 => ?_
 conv => enter [6]; dsimp only [List.cons_append, List.nil_append]
 refine tw_new fun _ => ?_
 refine tw_E (fun W _ => join_c (e := 18889465931478580854783) 37 f7 f7 (by omega) (by decide +kernel) W) rfl fun q8 f8 => ?_
 conv => enter [6]; dsimp only [List.cons_append, List.nil_append]
 refine tw_E (fun W _ => join_c (e := 2596148429267413814265248164610047) 37 f8 f7 (by omega) (by decide +kernel) W) rfl fun q9 f9 => ?_
 conv => enter [6]; dsimp only [List.cons_append, List.nil_append]
 refine tw_E (fun W _ => join_c (e := 6739986666787659948666753771754907668409286105635143120275902562303) 111 f9 f9 (by omega) (by decide +kernel) W) rfl fun q10 f10 => ?_
 conv => enter [6]; dsimp only [List.cons_append, List.nil_append]
 refine tw_E (fun W _ => join_c (e := 13479973333575319897333507543509815336818572211270286240551805124607) 1 f10 h1 (by omega) (by decide +kernel) W) rfl fun q11 f11 => ?_
 conv => enter [6]; dsimp only [List.cons_append, List.nil_append]
 refine tw_E (fun W _ => join_c (e := 181709681073901722637330951972001133588410340171829515070372549795153082041682693171599095924669136482522221115460909340263374504591359) 223 f11 f10 (by omega) (by decide +kernel) W) rfl fun q12 f12 => ?_
 conv => enter [6]; dsimp only [List.cons_append, List.nil_append]
 have e : 181709681073901722637330951972001133588410340171829515070372549795153082041682693171599095924669136482522221115460909340263374504591359 = chE := by decide +kernel
 rw [e] at f12
 exact tw_retE rfl rfl f12
def o_rootInverse : Orc := { ans := [(3, oV), (4, oA 8), (5, oA 8), (6, oV), (7, oA 8)], lps := [] }
def t_rootInverse : Tree :=
 .new <|
 .new <|
 .call 40 [.agg [.whole 0 8]] ([], []) (.leaf (.agg [.whole 1 8])) 1 [] <|
 .call 57 [.agg [.whole 1 8], .atom (.const (.int .i64 2))] ([], []) (.leaf (.agg [.whole 2 8])) 1 [] <|
 .call 20 [.agg [.whole 2 8], .agg [.whole 0 8]] ([], []) (.leaf (.agg [.whole 3 8])) 1 [] <|
 .ret ([], []) (.leaf (.agg [.whole 3 8]))
theorem c_rootInverse : compF Try.prog Try.f23 o_rootInverse (Try.f23.body.getD .skip) (symIn [.agg [.whole 0 8]] Try.f23.ntmps 1) = some t_rootInverse := by kernel_rfl

theorem rinverse_c {l : List Int} {a : F} (h : E l a) (w : World) : Calls Try.prog 23 #[AG (us l)] w (OutE (inv a) w) := by
 refine calls_tree o_rootInverse [.agg [.whole 0 8]] [AG (us l)] Try.func23 rfl c_rootInverse rfl (by intro x hx; simp at hx; subst hx; (intro s hs; simp at hs; subst hs; exact ⟨_, rfl, by simp [h.len], us_one _⟩)) ?_
 refine tw_new fun _ => tw_new fun _ => ?_
 refine tw_E (fun W _ => chain_c h W) rfl fun l1 e1 => ?_
 conv => enter [6]; dsimp only [List.cons_append, List.nil_append]
 refine tw_E (fun W _ => squares_c e1 2 (by omega) W) rfl fun l2 e2 => ?_
 conv => enter [6]; dsimp only [List.cons_append, List.nil_append]
 refine tw_E (fun W _ => mul_c e2 h W) rfl fun l3 e3 => ?_
 conv => enter [6]; dsimp only [List.cons_append, List.nil_append]
 rw [chE_inv] at e3
 exact tw_retE rfl rfl e3
def o_odd : Orc := { ans := [(3, oV), (4, .one ⟨.leaf (.atom (.slcx 0 0 0)), 3, [([.rest 1, .junk 2], 5)]⟩), (5, oV), (6, oV), (7, oV), (8, oV)], lps := [] }
def t_odd : Tree :=
 .new <|
 .call 48 [.agg [.whole 0 8]] ([], []) (.leaf (.atom (.slcx 1 0 1))) 3 [([.rest 2, .junk 3], 5)] <|
 .boundc 0 1 <|
 .ldi [.rest 2] 0 0 0 1 false <|
 .calc (.binOp .and 5 (.tmp 6) (.const (.int .u8 1)) 5) 5 [(6, qv 4)] ([], []) (qv 5) 1 <|
 .calc (.convert 5 3 (.tmp 7)) 3 [(7, qv 5)] ([], []) (qv 6) 1 <|
 .ret ([], []) (qv 6)
theorem c_odd : compF Try.prog Try.f59 o_odd (Try.f59.body.getD .skip) (symIn [.agg [.whole 0 8]] Try.f59.ntmps 1) = some t_odd := by kernel_rfl

theorem odd_c {l : List Int} {a : F} (h : E l a) (w : World) : Calls Try.prog 59 #[AG (us l)] w (OutV (.int .i64 ((a.val : Int) % 2)) w) := by
 refine calls_tree o_odd [.agg [.whole 0 8]] [AG (us l)] Try.func59 rfl c_odd rfl (by intro x hx; simp at hx; subst hx; (intro s hs; simp at hs; subst hs; exact ⟨_, rfl, by simp [h.len], us_one _⟩)) ?_
 have hr := raw0 (a.val : Int)
 refine tw_new fun _ => ?_
 refine tw_B (rawF (dig a.val)) (fun W _ => by have := bytes_any l h.len h.bd W; rw [bytes_eq h] at this; exact this) rfl rfl fun g1 c1 s1 => ?_
 conv => enter [6]; dsimp only [List.cons_append, List.nil_append]
 have hl : (rawF (dig a.val)).length = 56 := by simp
 generalize rawF (dig a.val) = xs at *
 refine tw_boundc (by show 0 < xs.length; omega) ?_
 refine tw_ldi 0 (by simp) (ys_get xs 0 (by omega)) ?_
 conv => enter [6]; dsimp only [List.cons_append, List.nil_append]
 refine tw_bin rfl rfl (bin_and _ _ _ _) rfl rfl ?_
 conv => enter [6]; dsimp only [List.cons_append, List.nil_append]
 rw [u8_and1 _ hr.2, hr.1]
 refine tw_conv rfl tlU.1 tlU.2 (i64_in _ (by omega)) rfl ?_
 conv => enter [6]; dsimp only [List.cons_append, List.nil_append]
 exact tw_retV rfl rfl
theorem select_c {l m : List Int} {a b : F} (bit : Int) (hl : E l a) (hm : E m b) (W : World) : Calls Try.prog 58 #[.int .i64 bit, AG (us l), AG (us m)] W (OutE (if bit % 2 = 0 then a else b) W) := by
 refine (select_any bit l m hl.len hm.len W).mono fun e w' ⟨h1, h2⟩ => ?_
 rw [selF_law bit l m hl.len hm.len hl.bd hm.bd] at h1
 by_cases hb : bit % 2 = 0
 ·rw [if_pos hb] at h1 ⊢; exact ⟨_, h1, hl, h2⟩
 ·rw [if_neg hb] at h1 ⊢; exact ⟨_, h1, hm, h2⟩
def o_rabs : Orc := { ans := [(3, oV), (4, oV), (5, oV), (6, oV), (7, oA 8), (8, oA 8)], lps := [] }
def t_rabs : Tree :=
 .new <|
 .new <|
 .call 59 [.agg [.whole 0 8]] ([], []) (qv 1) 1 [] <|
 .call 30 [.agg [.whole 0 8]] ([], []) (.leaf (.agg [.whole 2 8])) 1 [] <|
 .call 58 [.atom (.var 1), .agg [.whole 0 8], .agg [.whole 2 8]] ([], []) (.leaf (.agg [.whole 3 8])) 1 [] <|
 .ret ([], []) (.leaf (.agg [.whole 3 8]))
theorem c_rabs : compF Try.prog Try.f24 o_rabs (Try.f24.body.getD .skip) (symIn [.agg [.whole 0 8]] Try.f24.ntmps 1) = some t_rabs := by kernel_rfl

theorem abs_c {l : List Int} {a : F} (h : E l a) (w : World) : Calls Try.prog 24 #[AG (us l)] w (OutE (abs a) w) := by
 refine calls_tree o_rabs [.agg [.whole 0 8]] [AG (us l)] Try.func24 rfl c_rabs rfl (by intro x hx; simp at hx; subst hx; (intro s hs; simp at hs; subst hs; exact ⟨_, rfl, by simp [h.len], us_one _⟩)) ?_
 refine tw_new fun _ => tw_new fun _ => ?_
 refine tw_var (fun W _ => odd_c h W) rfl rfl ?_
 conv => enter [6]; dsimp only [List.cons_append, List.nil_append]
 refine tw_E (fun W _ => neg_c h W) rfl fun l1 e1 => ?_
 conv => enter [6]; dsimp only [List.cons_append, List.nil_append]
 refine tw_E (fun W _ => select_c _ h e1 W) rfl fun l2 e2 => ?_
 conv => enter [6]; dsimp only [List.cons_append, List.nil_append]
 have e3 : (if (a.val : Int) % 2 % 2 = 0 then a else -a) = abs a := by
  unfold abs
  by_cases hb : a.val % 2 = 1
  ·rw [if_pos hb, if_neg (by omega)]
  ·rw [if_neg hb, if_pos (by omega)]
 rw [e3] at e2
 exact tw_retE rfl rfl e2
def o_rroot : Orc := { ans := [(5, oV), (6, oV), (7, oA 8), (8, oA 8), (9, oV), (10, oA 8), (11, oV), (12, oB), (13, oV), (15, oV), (16, oA 8)], lps := [] }
def t_rroot : Tree :=
 .new <|
 .new <|
 .call 40 [.agg [.whole 0 8]] ([], []) (.leaf (.agg [.whole 1 8])) 1 [] <|
 .call 20 [.agg [.whole 0 8], .agg [.whole 1 8]] ([], []) (.leaf (.agg [.whole 2 8])) 1 [] <|
 .new <|
 .call 22 [.agg [.whole 2 8]] ([], []) (.leaf (.agg [.whole 3 8])) 1 [] <|
 .call2 21 [.agg [.whole 3 8], .agg [.whole 0 8]] ([], []) qT 0 [] (
 .call 24 [.agg [.whole 2 8]] ([], []) (.leaf (.agg [.whole 4 8])) 1 [] <|
 .ret ([], []) (.tup [.agg [.whole 4 8], .atom (.const (.int .i64 0))])) qF 0 [] <|
 .ret ([], []) (.tup [.agg [.lit [.int .u64 0, .int .u64 0, .int .u64 0, .int .u64 0, .int .u64 0, .int .u64 0, .int .u64 0, .int .u64 0]], .atom (.const (.int .i64 17))])
theorem c_rroot : compF Try.prog Try.f12 o_rroot (Try.f12.body.getD .skip) (symIn [.agg [.whole 0 8]] Try.f12.ntmps 1) = some t_rroot := by kernel_rfl

def OutEV (x : F) (v : Value) (W : World) (e : Ending) (w' : World) : Prop := ∃ l, e = .returned (.tuple #[AG (us l), v]) ∧ E l x ∧ Fut W w'
theorem root_c {l : List Int} {a : F} (h : E l a) (w : World) : Calls Try.prog 12 #[AG (us l)] w (OutEV (if rt a * rt a = a then abs (rt a) else 0) (.int .i64 (if rt a * rt a = a then 0 else 17)) w) := by
 refine calls_tree o_rroot [.agg [.whole 0 8]] [AG (us l)] Try.func12 rfl c_rroot rfl (by intro x hx; simp at hx; subst hx; (intro s hs; simp at hs; subst hs; exact ⟨_, rfl, by simp [h.len], us_one _⟩)) ?_
 refine tw_new fun _ => tw_new fun _ => ?_
 refine tw_E (fun W _ => chain_c h W) rfl fun l1 e1 => ?_
 conv => enter [6]; dsimp only [List.cons_append, List.nil_append]
 refine tw_E (fun W _ => mul_c h e1 W) rfl fun l2 e2 => ?_
 conv => enter [6]; dsimp only [List.cons_append, List.nil_append]
 rw [chE_rt] at e2
 refine tw_new fun _ => ?_
 refine tw_E (fun W _ => square_c e2 W) rfl fun l3 e3 => ?_
 conv => enter [6]; dsimp only [List.cons_append, List.nil_append]
 refine tw_bool (decide (rt a * rt a = a)) (fun W _ => equal_c e3 h W) (fun ht => ?_) (fun hf => ?_)
 ·have hb := of_decide_eq_true ht
  rw [if_pos hb, if_pos hb]
  refine tw_E (fun W _ => abs_c e2 W) rfl fun l4 e4 => ?_
  conv => enter [6]; dsimp only [List.cons_append, List.nil_append]
  exact tw_ret fun W hW => ⟨l4, rfl, e4, hW.1.below⟩
 ·have hb := of_decide_eq_false hf
  rw [if_neg hb, if_neg hb]
  exact tw_ret fun W hW => ⟨zE, rfl, zero_E, hW.1.below⟩
def o_rratio : Orc := { ans := [(7, oV), (8, oV), (9, oV), (10, oA 8), (11, oA 8), (12, oA 8), (13, oV), (14, oA 8), (15, oV), (16, oV), (17, oA 8), (18, oA 8), (19, oV), (20, oB)], lps := [] }
def t_rratio : Tree :=
 .new <|
 .new <|
 .new <|
 .call 20 [.agg [.whole 0 8], .agg [.whole 1 8]] ([], []) (.leaf (.agg [.whole 2 8])) 1 [] <|
 .call 40 [.agg [.whole 2 8]] ([], []) (.leaf (.agg [.whole 3 8])) 1 [] <|
 .call 20 [.agg [.whole 0 8], .agg [.whole 3 8]] ([], []) (.leaf (.agg [.whole 4 8])) 1 [] <|
 .new <|
 .call 24 [.agg [.whole 4 8]] ([], []) (.leaf (.agg [.whole 5 8])) 1 [] <|
 .call 22 [.agg [.whole 4 8]] ([], []) (.leaf (.agg [.whole 6 8])) 1 [] <|
 .call 20 [.agg [.whole 1 8], .agg [.whole 6 8]] ([], []) (.leaf (.agg [.whole 7 8])) 1 [] <|
 .call2 21 [.agg [.whole 7 8], .agg [.whole 0 8]] ([], []) qT 0 [] (
 .ret ([], []) (.tup [.agg [.whole 5 8], .atom (.const (.bool true))])) qF 0 [] <|
 .ret ([], []) (.tup [.agg [.whole 5 8], .atom (.const (.bool false))])
theorem c_rratio : compF Try.prog Try.f18 o_rratio (Try.f18.body.getD .skip) (symIn [.agg [.whole 0 8], .agg [.whole 1 8]] Try.f18.ntmps 2) = some t_rratio := by kernel_rfl

theorem ratio_c {l m : List Int} {u v : F} (hu : E l u) (hv : E m v) (w : World) : Calls Try.prog 18 #[AG (us l), AG (us m)] w (OutEV (abs (rat u v)) (.bool (decide (v * (rat u v * rat u v) = u))) w) := by
 refine calls_tree o_rratio [.agg [.whole 0 8], .agg [.whole 1 8]] [AG (us l), AG (us m)] Try.func18 rfl c_rratio rfl (by intro x hx; simp at hx; rcases hx with rfl | rfl; (intro s hs; simp at hs; subst hs; exact ⟨_, rfl, by simp [hu.len], us_one _⟩); (intro s hs; simp at hs; subst hs; exact ⟨_, rfl, by simp [hv.len], us_one _⟩)) ?_
 refine tw_new fun _ => tw_new fun _ => tw_new fun _ => ?_
 refine tw_E (fun W _ => mul_c hu hv W) rfl fun l1 e1 => ?_
 conv => enter [6]; dsimp only [List.cons_append, List.nil_append]
 refine tw_E (fun W _ => chain_c e1 W) rfl fun l2 e2 => ?_
 conv => enter [6]; dsimp only [List.cons_append, List.nil_append]
 refine tw_E (fun W _ => mul_c hu e2 W) rfl fun l3 e3 => ?_
 conv => enter [6]; dsimp only [List.cons_append, List.nil_append]
 have e3 : E l3 (rat u v) := e3
 refine tw_new fun _ => ?_
 refine tw_E (fun W _ => abs_c e3 W) rfl fun l4 e4 => ?_
 conv => enter [6]; dsimp only [List.cons_append, List.nil_append]
 refine tw_E (fun W _ => square_c e3 W) rfl fun l5 e5 => ?_
 conv => enter [6]; dsimp only [List.cons_append, List.nil_append]
 refine tw_E (fun W _ => mul_c hv e5 W) rfl fun l6 e6 => ?_
 conv => enter [6]; dsimp only [List.cons_append, List.nil_append]
 refine tw_bool (decide (v * (rat u v * rat u v) = u)) (fun W _ => equal_c e6 hu W) (fun ht => ?_) (fun hf => ?_)
 ·rw [ht]; exact tw_ret fun W hW => ⟨l4, rfl, e4, hW.1.below⟩
 ·rw [hf]; exact tw_ret fun W hW => ⟨l4, rfl, e4, hW.1.below⟩
end Go.Proofs.Ytohjkkmgcibemaa
