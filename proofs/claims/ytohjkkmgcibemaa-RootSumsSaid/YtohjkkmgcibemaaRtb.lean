/- RootWhole, RootProves, RootScales: WRITTEN BY gen_law5.py -/
import Derived.Test.YtohjkkmgcibemaaRta
set_option linter.unusedSimpArgs false
set_option linter.unusedVariables false
namespace Go.Proofs.Ytohjkkmgcibemaa
open Go.RowKit FdP FdP.Ch
theorem root_yes {l : List Int} {a : F} (h : E l a) (hr : rt a * rt a = a) (w : World) : Calls Try.prog 12 #[AG (us l)] w (OutEV (abs (rt a)) (.int .i64 0) w) := by
 have := root_c h w
 rwa [if_pos hr, if_pos hr] at this
theorem ratio_is {l m : List Int} {u v : F} (hu : E l u) (hv : E m v) {b : Bool} (hb : decide (v * (rat u v * rat u v) = u) = b) (w : World) : Calls Try.prog 18 #[AG (us l), AG (us m)] w (OutEV (abs (rat u v)) (.bool b) w) := by
 have := ratio_c hu hv w
 rwa [hb] at this
section
variable {w0 : World} {R : Ending → World → Prop} {L : List (List Value → Prop)} {env : List Value} {gs : List Nat}
end

theorem z2_val : (z 2).val = 2 := by
 have h := z_val 2
 have hp : (2 : Int) < P := by rw [P_eq]; decide
 rw [Int.emod_eq_of_lt (by omega) hp] at h; omega
theorem z4_sq : z 4 = z 2 * z 2 := by rw [← z_mul]; rfl
theorem abs_rt4 : abs (rt (z 4)) = z 2 := by
 rw [z4_sq, rt_abs]; unfold abs; rw [if_neg (by rw [z2_val]; omega)]
theorem rt4 : rt (z 4) * rt (z 4) = z 4 := by rw [z4_sq]; exact rt_square _
theorem z_m1 : z (-1) = -1 := by rw [z_neg, z_one]
theorem rat_m1 : z 1 * (rat (z (-1)) (z 1) * rat (z (-1)) (z 1)) = 1 := by
 rw [rat_sq, z_m1, z_one]
 have : (-1 : F) * 1 = -1 := by grind
 rw [this, half_neg_one]; grind
theorem one_val : (1 : F).val = 1 := Nat.mod_eq_of_lt one_lt_P
theorem abs_rat_m1 : abs (rat (z (-1)) (z 1)) = -1 := by
 have h : rat (z (-1)) (z 1) * rat (z (-1)) (z 1) = 1 * 1 := by have := rat_m1; rw [z_one] at this ⊢; grind
 rw [abs_of_sq h]; unfold abs; rw [if_pos (by rw [one_val])]
theorem rat_m1_no : ¬ z 1 * (rat (z (-1)) (z 1) * rat (z (-1)) (z 1)) = z (-1) := by
 rw [rat_m1, z_m1]; exact fun e => neg_one_ne e.symm
theorem m1_byte : (rawF (dig (((-1 : F).val : Nat) : Int))).getD 0 0 = 254 := by
 have h : (((-1 : F).val : Nat) : Int) = P - 1 := by
  rw [neg_val one_ne, one_val]; have := one_lt_P; omega
 rw [h]; decide +kernel
theorem z2_ne : z 2 ≠ 0 := fun e => by have := z2_val; rw [e] at this; exact absurd this (by decide)
theorem inv2 : inv (z 2) * z 2 = z 1 := by have := mul_inv z2_ne; rw [z_one]; grind
def o_awake5 : Orc := { ans := [(7, oA 8), (8, .one ⟨.tup [.agg [.whole 0 8], .atom (.const (.int .i64 0))], 1, []⟩), (12, oA 8), (13, oA 8), (14, .one ⟨.tup [.agg [.whole 0 8], .atom (.const (.bool false))], 1, []⟩), (17, oV), (18, .one ⟨.leaf (.atom (.slcx 0 0 0)), 3, [([.rest 1, .junk 2], 5)]⟩), (20, oB), (23, oV), (24, oB), (25, oV), (28, oV), (29, oV), (30, oB), (31, oV), (34, oV), (35, oV), (37, oV), (38, oA 8), (39, .one ⟨.leaf (.atom (.const (.bool true))), 0, []⟩), (40, oV), (42, oA 8), (43, oA 8), (44, oA 8), (45, oA 8), (46, oA 8), (47, .one ⟨.leaf (.atom (.const (.bool true))), 0, []⟩), (48, oV)], lps := [] }
def t_awake5 : Tree :=
 .call 29 [.atom (.const (.int .i64 4))] ([], []) (.leaf (.agg [.whole 0 8])) 1 [] <|
 .call 12 [.agg [.whole 0 8]] ([], []) (.tup [.agg [.whole 1 8], .atom (.const (.int .i64 0))]) 1 [] <|
 .new <|
 .call 29 [.atom (.const (.int .i64 (-1)))] ([], []) (.leaf (.agg [.whole 2 8])) 1 [] <|
 .call 29 [.atom (.const (.int .i64 1))] ([], []) (.leaf (.agg [.whole 3 8])) 1 [] <|
 .call 18 [.agg [.whole 2 8], .agg [.whole 3 8]] ([], []) (.tup [.agg [.whole 4 8], .atom (.const (.bool false))]) 1 [] <|
 .new <|
 .call 48 [.agg [.whole 4 8]] ([], []) (.leaf (.atom (.slcx 2 0 5))) 3 [([.rest 6, .junk 7], 5)] <|
 .calc2 (.binOp .eql 30 (.tmp 19) (.const (.int .i64 0)) 30) 4 [(19, .leaf (.atom (.const (.int .i64 0))))] ([], []) qT 0 (
 .calc (.call { callee := .builtin .len, args := #[.tmp 22], argTypes := #[52] }) 3 [(22, .leaf (.atom (.slcx 2 0 5)))] ([([.whole 1 8], 27), ([.whole 4 8], 27), ([.rest 6, .junk 7], 5)], []) (qv 8) 1 <|
 .calc2 (.binOp .eql 3 (.tmp 23) (.const (.int .i64 56)) 3) 4 [(23, qv 8)] ([], []) qT 0 (
 .boundc 0 5 <|
 .ldi [.rest 6] 0 0 0 1 false <|
 .calc2 (.binOp .eql 5 (.tmp 29) (.const (.int .u8 254)) 5) 4 [(29, qv 9)] ([], []) qT 0 (
 .call 29 [.atom (.const (.int .i64 2))] ([], []) (.leaf (.agg [.whole 10 8])) 1 [] <|
 .call 21 [.agg [.whole 1 8], .agg [.whole 10 8]] ([], []) qT 0 [] <|
 .call 29 [.atom (.const (.int .i64 2))] ([], []) (.leaf (.agg [.whole 11 8])) 1 [] <|
 .call 23 [.agg [.whole 11 8]] ([], []) (.leaf (.agg [.whole 12 8])) 1 [] <|
 .call 29 [.atom (.const (.int .i64 2))] ([], []) (.leaf (.agg [.whole 13 8])) 1 [] <|
 .call 20 [.agg [.whole 12 8], .agg [.whole 13 8]] ([], []) (.leaf (.agg [.whole 14 8])) 1 [] <|
 .call 29 [.atom (.const (.int .i64 1))] ([], []) (.leaf (.agg [.whole 15 8])) 1 [] <|
 .call 21 [.agg [.whole 14 8], .agg [.whole 15 8]] ([], []) qT 0 [] <|
 .ret ([], []) qT) qF 0 <|
 .ret ([], []) qF) qF 0 <|
 .ret ([], []) qF) qF 0 <|
 .ret ([], []) qF
theorem c_awake5 : compF Try.prog Try.f16 o_awake5 (Try.f16.body.getD .skip) (symIn [] Try.f16.ntmps 0) = some t_awake5 := by kernel_rfl

theorem awake5_c (w : World) : Calls Try.prog 16 #[] w (OutV (.bool true) w) := by
 have hb := m1_byte
 refine calls_tree o_awake5 [] [] Try.func16 rfl c_awake5 rfl (by intro x hx; cases hx) ?_
 refine tw_E (x := z 4) (fun W _ => int_c 4 (by omega) (by omega) W) rfl fun l1 e1 => ?_
 conv => enter [6]; dsimp only [List.cons_append, List.nil_append]
 refine tw_EC (abs (rt (z 4))) (fun W _ => root_yes e1 rt4 W) rfl rfl fun l2 e2 => ?_
 conv => enter [6]; dsimp only [List.cons_append, List.nil_append]
 rw [abs_rt4] at e2
 refine tw_new fun _ => ?_
 refine tw_E (x := z (-1)) (fun W _ => int_c (-1) (by omega) (by omega) W) rfl fun l3 e3 => ?_
 conv => enter [6]; dsimp only [List.cons_append, List.nil_append]
 refine tw_E (x := z 1) (fun W _ => int_c 1 (by omega) (by omega) W) rfl fun l4 e4 => ?_
 conv => enter [6]; dsimp only [List.cons_append, List.nil_append]
 refine tw_EC (abs (rat (z (-1)) (z 1))) (fun W _ => ratio_is e3 e4 (decide_eq_false rat_m1_no) W) rfl rfl fun l5 e5 => ?_
 conv => enter [6]; dsimp only [List.cons_append, List.nil_append]
 rw [abs_rat_m1] at e5
 refine tw_new fun _ => ?_
 refine tw_B (rawF (dig (((-1 : F).val : Nat) : Int))) (fun W _ => by have := bytes_any l5 e5.len e5.bd W; rw [bytes_eq e5] at this; exact this) rfl rfl fun g1 c1 s1 => ?_
 conv => enter [6]; dsimp only [List.cons_append, List.nil_append]
 have hl : (rawF (dig (((-1 : F).val : Nat) : Int))).length = 56 := by simp
 generalize rawF (dig (((-1 : F).val : Nat) : Int)) = xs at *
 refine tw_cmp _ rfl rfl (bin_eql _ _ _ _) (fun _ => ?_) (fun h => by simp at h)
 refine tw_len rfl tlS rfl ?_
 conv => enter [6]; dsimp only [List.cons_append, List.nil_append]
 refine tw_cmp _ rfl rfl (bin_eql _ _ _ _) (fun _ => ?_) (fun h => by simp at h; omega)
 refine tw_boundc (by show 0 < xs.length; omega) ?_
 refine tw_ldi 0 (by simp) (ys_get xs 0 (by omega)) ?_
 conv => enter [6]; dsimp only [List.cons_append, List.nil_append]
 refine tw_cmp _ rfl rfl (bin_eql _ _ _ _) (fun _ => ?_) (fun h => by rw [hb] at h; simp at h)
 refine tw_E (x := z 2) (fun W _ => int_c 2 (by omega) (by omega) W) rfl fun l6 e6 => ?_
 conv => enter [6]; dsimp only [List.cons_append, List.nil_append]
 refine tw_yes _ (fun W _ => equal_c e2 e6 W) (decide_eq_true rfl) ?_
 refine tw_E (x := z 2) (fun W _ => int_c 2 (by omega) (by omega) W) rfl fun l7 e7 => ?_
 conv => enter [6]; dsimp only [List.cons_append, List.nil_append]
 refine tw_E (x := inv (z 2)) (fun W _ => rinverse_c e7 W) rfl fun l8 e8 => ?_
 conv => enter [6]; dsimp only [List.cons_append, List.nil_append]
 refine tw_E (x := z 2) (fun W _ => int_c 2 (by omega) (by omega) W) rfl fun l9 e9 => ?_
 conv => enter [6]; dsimp only [List.cons_append, List.nil_append]
 refine tw_E (x := inv (z 2) * z 2) (fun W _ => mul_c e8 e9 W) rfl fun l10 e10 => ?_
 conv => enter [6]; dsimp only [List.cons_append, List.nil_append]
 refine tw_E (x := z 1) (fun W _ => int_c 1 (by omega) (by omega) W) rfl fun l11 e11 => ?_
 conv => enter [6]; dsimp only [List.cons_append, List.nil_append]
 refine tw_yes _ (fun W _ => equal_c e10 e11 W) (decide_eq_true inv2) ?_
 exact tw_retV rfl rfl
end Go.Proofs.Ytohjkkmgcibemaa
