/- RootWhole, RootProves, RootScales: WRITTEN BY gen_law5.py -/
import Derived.Test.YtohjkkmgcibemaaRta
set_option linter.unusedSimpArgs false
set_option linter.unusedVariables false
namespace Go.Proofs.Ytohjkkmgcibemaa
open Go.RowKit FdP FdP.Ch
theorem root_yes {l : List Int} {a : F} (h : E l a) (hr : rt a * rt a = a) (w : World) : Calls Try.prog 12 #[AG (us l)] w (OutEV (abs (rt a)) (.int .i64 0) w) := by
  have := root_c h w
  rwa [if_pos hr, if_pos hr] at this
theorem root_no {l : List Int} {a : F} (h : E l a) (hr : ¬ rt a * rt a = a) (w : World) : Calls Try.prog 12 #[AG (us l)] w (OutEV 0 (.int .i64 17) w) := by
  have := root_c h w
  rwa [if_neg hr, if_neg hr] at this
theorem ratio_is {l m : List Int} {u v : F} (hu : E l u) (hv : E m v) {b : Bool} (hb : decide (v * (rat u v * rat u v) = u) = b) (w : World) : Calls Try.prog 18 #[AG (us l), AG (us m)] w (OutEV (abs (rat u v)) (.bool b) w) := by
  have := ratio_c hu hv w
  rwa [hb] at this
section
variable {w0 : World} {R : Ending → World → Prop} {L : List (List Value → Prop)} {env : List Value} {gs : List Nat}
/-- an operation of which the value is known -/
theorem tw_calcC {op : Op} {ty : TypeId} {ev : List (Tmp × SV)} {bl : Mem} {k : Tree} {v : Value}
    (hx : ∀ (o : Oper) (a : Act) (W : World), o.op = op → o.type = ty → (∀ x ∈ ev, a.eval (.tmp x.1) = x.2.den env gs) → Mm w0 W env gs bl → (execOp a.eval o).run Try.prog W = .ok (.value v) W)
    (h1 : v.oneCell' = true) (hk : TWp Try.prog w0 R k L env gs) : TWp Try.prog w0 R (.calc op ty ev bl (.leaf (.atom (.const v))) 0 k) L env gs :=
  fun β => ⟨[], rfl, h1, fun o a W q1 q2 q3 q4 _ => hx o a W q1 q2 q3 q4, by rw [List.append_nil]; exact hk β⟩
theorem tw_binK {op : BinOp} {xt yt ty : TypeId} {x y : Operand} {ev : List (Tmp × SV)} {bl : Mem} {k : Tree} {kd : IntKind} {m n : Int} {v u : Value}
    (hx : opv ev env gs x = some (.int kd m)) (hy : opv ev env gs y = some (.int kd n)) (hb : ∀ W, (binOp op xt (.int kd m) (.int kd n)).run Try.prog W = .ok u W) (hu : u = v)
    (h1 : v.oneCell' = true) (hk : TWp Try.prog w0 R k L env gs) : TWp Try.prog w0 R (.calc (.binOp op xt x y yt) ty ev bl (.leaf (.atom (.const v))) 0 k) L env gs := by
  subst hu; exact tw_calcC (fun _ _ W ho _ he _ => run_bin ho (opv_ok hx he) (opv_ok hy he) (hb W)) h1 hk
theorem tw_binKB {op : BinOp} {xt yt ty : TypeId} {x y : Operand} {ev : List (Tmp × SV)} {bl : Mem} {k : Tree} {p q : Bool} {v u : Value}
    (hx : opv ev env gs x = some (.bool p)) (hy : opv ev env gs y = some (.bool q)) (hb : ∀ W, (binOp op xt (.bool p) (.bool q)).run Try.prog W = .ok u W) (hu : u = v)
    (h1 : v.oneCell' = true) (hk : TWp Try.prog w0 R k L env gs) : TWp Try.prog w0 R (.calc (.binOp op xt x y yt) ty ev bl (.leaf (.atom (.const v))) 0 k) L env gs := by
  subst hu; exact tw_calcC (fun _ _ W ho _ he _ => run_binB ho (opv_ok hx he) (opv_ok hy he) (hb W)) h1 hk
end

theorem z2_val : (z 2).val = 2 := by
  have h := z_val 2
  have hp : (2 : Int) < P := by rw [P_eq]; decide
  rw [Int.emod_eq_of_lt (by omega) hp] at h; omega
theorem z4_sq : z 4 = z 2 * z 2 := by rw [← z_mul]; rfl
theorem abs_rt4 : abs (rt (z 4)) = z 2 := by
  rw [z4_sq, rt_abs]; unfold abs; rw [if_neg (by rw [z2_val]; omega)]
theorem rt4 : rt (z 4) * rt (z 4) = z 4 := by rw [z4_sq]; exact rt_square _
theorem z_m1 : z (-1) = -1 := by rw [z_neg, z_one]
theorem rat_m1 : z 1 * (rat (z (-1)) (z 1) * rat (z (-1)) (z 1)) = 1 := by
  rw [rat_sq, z_m1, z_one]
  have : (-1 : F) * 1 = -1 := by grind
  rw [this, half_neg_one]; grind
theorem one_val : (1 : F).val = 1 := Nat.mod_eq_of_lt one_lt_P
theorem abs_rat_m1 : abs (rat (z (-1)) (z 1)) = -1 := by
  have h : rat (z (-1)) (z 1) * rat (z (-1)) (z 1) = 1 * 1 := by have := rat_m1; rw [z_one] at this ⊢; grind
  rw [abs_of_sq h]; unfold abs; rw [if_pos (by rw [one_val])]
theorem rat_m1_no : ¬ z 1 * (rat (z (-1)) (z 1) * rat (z (-1)) (z 1)) = z (-1) := by
  rw [rat_m1, z_m1]; exact fun e => neg_one_ne e.symm
theorem m1_byte : (rawF (dig (((-1 : F).val : Nat) : Int))).getD 0 0 = 254 := by
  have h : (((-1 : F).val : Nat) : Int) = P - 1 := by
    rw [neg_val one_ne, one_val]; have := one_lt_P; omega
  rw [h]; decide +kernel
theorem z2_ne : z 2 ≠ 0 := fun e => by have := z2_val; rw [e] at this; exact absurd this (by decide)
theorem inv2 : inv (z 2) * z 2 = z 1 := by have := mul_inv z2_ne; rw [z_one]; grind
def o_awake5 : Orc := { ans := [(7, .one ⟨.leaf (.agg [.whole 0 8]), 1, []⟩), (8, .one ⟨.tup [.agg [.whole 0 8], .atom (.const (.int .i64 0))], 1, []⟩), (12, .one ⟨.leaf (.agg [.whole 0 8]), 1, []⟩), (13, .one ⟨.leaf (.agg [.whole 0 8]), 1, []⟩), (14, .one ⟨.tup [.agg [.whole 0 8], .atom (.const (.bool false))], 1, []⟩), (17, .one ⟨.leaf (.atom (.var 0)), 1, []⟩), (18, .one ⟨.leaf (.atom (.slcx 0 0 0)), 3, [([.rest 1, .junk 2], 5)]⟩), (20, .two ⟨.leaf (.atom (.const (.bool true))), 0, []⟩ ⟨.leaf (.atom (.const (.bool false))), 0, []⟩), (23, .one ⟨.leaf (.atom (.var 0)), 1, []⟩), (24, .two ⟨.leaf (.atom (.const (.bool true))), 0, []⟩ ⟨.leaf (.atom (.const (.bool false))), 0, []⟩), (25, .one ⟨.leaf (.atom (.var 0)), 1, []⟩), (28, .one ⟨.leaf (.atom (.var 0)), 1, []⟩), (29, .one ⟨.leaf (.atom (.var 0)), 1, []⟩), (30, .two ⟨.leaf (.atom (.const (.bool true))), 0, []⟩ ⟨.leaf (.atom (.const (.bool false))), 0, []⟩), (31, .one ⟨.leaf (.atom (.var 0)), 1, []⟩), (34, .one ⟨.leaf (.atom (.var 0)), 1, []⟩), (35, .one ⟨.leaf (.atom (.var 0)), 1, []⟩), (37, .one ⟨.leaf (.atom (.var 0)), 1, []⟩), (38, .one ⟨.leaf (.agg [.whole 0 8]), 1, []⟩), (39, .one ⟨.leaf (.atom (.const (.bool true))), 0, []⟩), (40, .one ⟨.leaf (.atom (.var 0)), 1, []⟩), (42, .one ⟨.leaf (.agg [.whole 0 8]), 1, []⟩), (43, .one ⟨.leaf (.agg [.whole 0 8]), 1, []⟩), (44, .one ⟨.leaf (.agg [.whole 0 8]), 1, []⟩), (45, .one ⟨.leaf (.agg [.whole 0 8]), 1, []⟩), (46, .one ⟨.leaf (.agg [.whole 0 8]), 1, []⟩), (47, .one ⟨.leaf (.atom (.const (.bool true))), 0, []⟩), (48, .one ⟨.leaf (.atom (.var 0)), 1, []⟩)], lps := [] }
def t_awake5 : Tree :=
  .call 29 [.atom (.const (.int .i64 4))] ([], []) (.leaf (.agg [.whole 0 8])) 1 [] <|
  .call 12 [.agg [.whole 0 8]] ([], []) (.tup [.agg [.whole 1 8], .atom (.const (.int .i64 0))]) 1 [] <|
  .new <|
  .call 29 [.atom (.const (.int .i64 (-1)))] ([], []) (.leaf (.agg [.whole 2 8])) 1 [] <|
  .call 29 [.atom (.const (.int .i64 1))] ([], []) (.leaf (.agg [.whole 3 8])) 1 [] <|
  .call 18 [.agg [.whole 2 8], .agg [.whole 3 8]] ([], []) (.tup [.agg [.whole 4 8], .atom (.const (.bool false))]) 1 [] <|
  .new <|
  .call 48 [.agg [.whole 4 8]] ([], []) (.leaf (.atom (.slcx 2 0 5))) 3 [([.rest 6, .junk 7], 5)] <|
  .calc2 (.binOp .eql 30 (.tmp 19) (.const (.int .i64 0)) 30) 4 [(19, .leaf (.atom (.const (.int .i64 0))))] ([], []) (.leaf (.atom (.const (.bool true)))) 0 (
    .calc (.call { callee := .builtin .len, args := #[.tmp 22], argTypes := #[52] }) 3 [(22, .leaf (.atom (.slcx 2 0 5)))] ([([.whole 1 8], 27), ([.whole 4 8], 27), ([.rest 6, .junk 7], 5)], []) (.leaf (.atom (.var 8))) 1 <|
    .calc2 (.binOp .eql 3 (.tmp 23) (.const (.int .i64 56)) 3) 4 [(23, .leaf (.atom (.var 8)))] ([], []) (.leaf (.atom (.const (.bool true)))) 0 (
      .boundc 0 5 <|
      .ldi [.rest 6] 0 0 0 1 false <|
      .calc2 (.binOp .eql 5 (.tmp 29) (.const (.int .u8 254)) 5) 4 [(29, .leaf (.atom (.var 9)))] ([], []) (.leaf (.atom (.const (.bool true)))) 0 (
        .call 29 [.atom (.const (.int .i64 2))] ([], []) (.leaf (.agg [.whole 10 8])) 1 [] <|
        .call 21 [.agg [.whole 1 8], .agg [.whole 10 8]] ([], []) (.leaf (.atom (.const (.bool true)))) 0 [] <|
        .call 29 [.atom (.const (.int .i64 2))] ([], []) (.leaf (.agg [.whole 11 8])) 1 [] <|
        .call 23 [.agg [.whole 11 8]] ([], []) (.leaf (.agg [.whole 12 8])) 1 [] <|
        .call 29 [.atom (.const (.int .i64 2))] ([], []) (.leaf (.agg [.whole 13 8])) 1 [] <|
        .call 20 [.agg [.whole 12 8], .agg [.whole 13 8]] ([], []) (.leaf (.agg [.whole 14 8])) 1 [] <|
        .call 29 [.atom (.const (.int .i64 1))] ([], []) (.leaf (.agg [.whole 15 8])) 1 [] <|
        .call 21 [.agg [.whole 14 8], .agg [.whole 15 8]] ([], []) (.leaf (.atom (.const (.bool true)))) 0 [] <|
        .ret ([], []) (.leaf (.atom (.const (.bool true))))) (.leaf (.atom (.const (.bool false)))) 0 <|
      .ret ([], []) (.leaf (.atom (.const (.bool false))))) (.leaf (.atom (.const (.bool false)))) 0 <|
    .ret ([], []) (.leaf (.atom (.const (.bool false))))) (.leaf (.atom (.const (.bool false)))) 0 <|
  .ret ([], []) (.leaf (.atom (.const (.bool false))))
theorem c_awake5 : compF Try.prog Try.f16 o_awake5 (Try.f16.body.getD .skip) (symIn [] Try.f16.ntmps 0) = some t_awake5 := by kernel_rfl

theorem awake5_c (w : World) : Calls Try.prog 16 #[] w (OutV (.bool true) w) := by
  have hb := m1_byte
  refine calls_tree o_awake5 [] [] Try.func16 rfl c_awake5 rfl (by intro x hx; cases hx) ?_
  refine tw_E (x := z 4) (fun W _ => int_c 4 (by omega) (by omega) W) rfl fun l1 e1 => ?_
  conv => enter [6]; dsimp only [List.cons_append, List.nil_append]
  refine tw_EC (abs (rt (z 4))) (fun W _ => root_yes e1 rt4 W) rfl rfl fun l2 e2 => ?_
  conv => enter [6]; dsimp only [List.cons_append, List.nil_append]
  rw [abs_rt4] at e2
  refine tw_new fun _ => ?_
  refine tw_E (x := z (-1)) (fun W _ => int_c (-1) (by omega) (by omega) W) rfl fun l3 e3 => ?_
  conv => enter [6]; dsimp only [List.cons_append, List.nil_append]
  refine tw_E (x := z 1) (fun W _ => int_c 1 (by omega) (by omega) W) rfl fun l4 e4 => ?_
  conv => enter [6]; dsimp only [List.cons_append, List.nil_append]
  refine tw_EC (abs (rat (z (-1)) (z 1))) (fun W _ => ratio_is e3 e4 (decide_eq_false rat_m1_no) W) rfl rfl fun l5 e5 => ?_
  conv => enter [6]; dsimp only [List.cons_append, List.nil_append]
  rw [abs_rat_m1] at e5
  refine tw_new fun _ => ?_
  refine tw_B (rawF (dig (((-1 : F).val : Nat) : Int))) (fun W _ => by have := bytes_any l5 e5.len e5.bd W; rw [bytes_eq e5] at this; exact this) rfl rfl fun g1 c1 s1 => ?_
  conv => enter [6]; dsimp only [List.cons_append, List.nil_append]
  have hl : (rawF (dig (((-1 : F).val : Nat) : Int))).length = 56 := by simp
  generalize rawF (dig (((-1 : F).val : Nat) : Int)) = xs at *
  refine tw_cmp _ rfl rfl (bin_eql _ _ _ _) (fun _ => ?_) (fun h => by simp at h)
  refine tw_len rfl tlS rfl ?_
  conv => enter [6]; dsimp only [List.cons_append, List.nil_append]
  refine tw_cmp _ rfl rfl (bin_eql _ _ _ _) (fun _ => ?_) (fun h => by simp at h; omega)
  refine tw_boundc (by show 0 < xs.length; omega) ?_
  refine tw_ldi 0 (by simp) (ys_get xs 0 (by omega)) ?_
  conv => enter [6]; dsimp only [List.cons_append, List.nil_append]
  refine tw_cmp _ rfl rfl (bin_eql _ _ _ _) (fun _ => ?_) (fun h => by rw [hb] at h; simp at h)
  refine tw_E (x := z 2) (fun W _ => int_c 2 (by omega) (by omega) W) rfl fun l6 e6 => ?_
  conv => enter [6]; dsimp only [List.cons_append, List.nil_append]
  refine tw_yes _ (fun W _ => equal_c e2 e6 W) (decide_eq_true rfl) ?_
  refine tw_E (x := z 2) (fun W _ => int_c 2 (by omega) (by omega) W) rfl fun l7 e7 => ?_
  conv => enter [6]; dsimp only [List.cons_append, List.nil_append]
  refine tw_E (x := inv (z 2)) (fun W _ => rinverse_c e7 W) rfl fun l8 e8 => ?_
  conv => enter [6]; dsimp only [List.cons_append, List.nil_append]
  refine tw_E (x := z 2) (fun W _ => int_c 2 (by omega) (by omega) W) rfl fun l9 e9 => ?_
  conv => enter [6]; dsimp only [List.cons_append, List.nil_append]
  refine tw_E (x := inv (z 2) * z 2) (fun W _ => mul_c e8 e9 W) rfl fun l10 e10 => ?_
  conv => enter [6]; dsimp only [List.cons_append, List.nil_append]
  refine tw_E (x := z 1) (fun W _ => int_c 1 (by omega) (by omega) W) rfl fun l11 e11 => ?_
  conv => enter [6]; dsimp only [List.cons_append, List.nil_append]
  refine tw_yes _ (fun W _ => equal_c e10 e11 W) (decide_eq_true inv2) ?_
  exact tw_retV rfl rfl
def o_wholeA : Orc := { ans := [(13, .one ⟨.leaf (.atom (.var 0)), 1, []⟩), (14, .one ⟨.tup [.agg [.whole 0 8], .atom (.const (.bool true))], 1, []⟩), (18, .one ⟨.leaf (.atom (.var 0)), 1, []⟩), (19, .one ⟨.leaf (.atom (.var 0)), 1, []⟩), (20, .one ⟨.leaf (.atom (.var 0)), 1, []⟩), (21, .one ⟨.leaf (.agg [.whole 0 8]), 1, []⟩), (22, .one ⟨.leaf (.agg [.whole 0 8]), 1, []⟩), (23, .one ⟨.leaf (.agg [.whole 0 8]), 1, []⟩), (24, .one ⟨.leaf (.atom (.const (.bool false))), 0, []⟩), (26, .one ⟨.leaf (.atom (.var 0)), 1, []⟩), (27, .one ⟨.leaf (.atom (.const (.bool true))), 0, []⟩), (28, .one ⟨.leaf (.atom (.const (.bool false))), 0, []⟩), (30, .one ⟨.leaf (.atom (.var 0)), 1, []⟩), (31, .one ⟨.leaf (.atom (.const (.bool true))), 0, []⟩), (33, .one ⟨.leaf (.atom (.var 0)), 1, []⟩), (34, .one ⟨.leaf (.agg [.whole 0 8]), 1, []⟩), (35, .one ⟨.leaf (.atom (.const (.bool true))), 0, []⟩), (36, .one ⟨.leaf (.atom (.var 0)), 1, []⟩), (37, .one ⟨.leaf (.atom (.var 0)), 1, []⟩), (38, .one ⟨.leaf (.atom (.var 0)), 1, []⟩), (40, .one ⟨.leaf (.atom (.var 0)), 1, []⟩), (41, .one ⟨.tup [.agg [.whole 0 8], .atom (.const (.int .i64 0))], 1, []⟩), (45, .one ⟨.leaf (.atom (.var 0)), 1, []⟩), (46, .one ⟨.leaf (.agg [.whole 0 8]), 1, []⟩), (47, .one ⟨.tup [.agg [.whole 0 8], .atom (.const (.int .i64 0))], 1, []⟩), (50, .one ⟨.leaf (.atom (.var 0)), 1, []⟩), (51, .one ⟨.leaf (.atom (.const (.bool true))), 0, []⟩), (53, .two ⟨.leaf (.atom (.const (.bool true))), 0, []⟩ ⟨.leaf (.atom (.const (.bool false))), 0, []⟩), (56, .two ⟨.leaf (.atom (.const (.bool true))), 0, []⟩ ⟨.leaf (.atom (.const (.bool false))), 0, []⟩), (57, .one ⟨.leaf (.atom (.var 0)), 1, []⟩), (59, .one ⟨.leaf (.atom (.var 0)), 1, []⟩), (60, .one ⟨.leaf (.atom (.const (.bool true))), 0, []⟩), (61, .one ⟨.leaf (.atom (.var 0)), 1, []⟩), (63, .one ⟨.leaf (.atom (.var 0)), 1, []⟩), (64, .one ⟨.leaf (.atom (.const (.bool true))), 0, []⟩), (65, .one ⟨.leaf (.atom (.var 0)), 1, []⟩), (67, .one ⟨.leaf (.atom (.const (.bool true))), 0, []⟩), (68, .one ⟨.leaf (.atom (.var 0)), 1, []⟩), (70, .two ⟨.leaf (.atom (.const (.bool true))), 0, []⟩ ⟨.leaf (.atom (.const (.bool false))), 0, []⟩), (72, .two ⟨.leaf (.atom (.const (.bool true))), 0, []⟩ ⟨.leaf (.atom (.const (.bool false))), 0, []⟩), (73, .two ⟨.leaf (.atom (.const (.bool true))), 0, []⟩ ⟨.leaf (.atom (.const (.bool false))), 0, []⟩), (76, .two ⟨.leaf (.atom (.const (.bool true))), 0, []⟩ ⟨.leaf (.atom (.const (.bool false))), 0, []⟩), (78, .one ⟨.leaf (.atom (.var 0)), 1, []⟩), (79, .one ⟨.leaf (.agg [.whole 0 8]), 1, []⟩), (80, .one ⟨.leaf (.atom (.var 0)), 1, []⟩), (81, .two ⟨.leaf (.atom (.const (.bool true))), 0, []⟩ ⟨.leaf (.atom (.const (.bool false))), 0, []⟩), (82, .one ⟨.leaf (.atom (.var 0)), 1, []⟩), (83, .one ⟨.leaf (.atom (.var 0)), 1, []⟩), (84, .one ⟨.leaf (.atom (.var 0)), 1, []⟩), (87, .two ⟨.leaf (.atom (.const (.bool true))), 0, []⟩ ⟨.leaf (.atom (.const (.bool false))), 0, []⟩), (89, .one ⟨.leaf (.atom (.var 0)), 1, []⟩), (90, .one ⟨.leaf (.agg [.whole 0 8]), 1, []⟩), (91, .one ⟨.leaf (.atom (.var 0)), 1, []⟩), (92, .one ⟨.leaf (.agg [.whole 0 8]), 1, []⟩), (93, .two ⟨.leaf (.atom (.const (.bool true))), 0, []⟩ ⟨.leaf (.atom (.const (.bool false))), 0, []⟩), (94, .one ⟨.leaf (.atom (.var 0)), 1, []⟩), (95, .one ⟨.leaf (.atom (.var 0)), 1, []⟩), (96, .one ⟨.leaf (.atom (.var 0)), 1, []⟩), (98, .one ⟨.leaf (.atom (.var 0)), 1, []⟩), (99, .one ⟨.leaf (.agg [.whole 0 8]), 1, []⟩), (100, .one ⟨.tup [.agg [.whole 0 8], .atom (.var 1)], 2, []⟩), (104, .two ⟨.leaf (.atom (.const (.bool true))), 0, []⟩ ⟨.leaf (.atom (.const (.bool false))), 0, []⟩), (106, .one ⟨.leaf (.atom (.var 0)), 1, []⟩), (107, .one ⟨.leaf (.atom (.var 0)), 1, []⟩), (108, .one ⟨.leaf (.agg [.whole 0 8]), 1, []⟩), (109, .two ⟨.leaf (.atom (.const (.bool true))), 0, []⟩ ⟨.leaf (.atom (.const (.bool false))), 0, []⟩), (110, .one ⟨.leaf (.atom (.var 0)), 1, []⟩), (112, .one ⟨.leaf (.atom (.var 0)), 1, []⟩), (113, .two ⟨.leaf (.atom (.const (.bool true))), 0, []⟩ ⟨.leaf (.atom (.const (.bool false))), 0, []⟩), (114, .one ⟨.leaf (.atom (.var 0)), 1, []⟩), (115, .one ⟨.leaf (.atom (.var 0)), 1, []⟩), (117, .one ⟨.leaf (.atom (.var 0)), 1, []⟩), (118, .two ⟨.leaf (.atom (.const (.bool true))), 0, []⟩ ⟨.leaf (.atom (.const (.bool false))), 0, []⟩), (119, .one ⟨.leaf (.atom (.var 0)), 1, []⟩), (120, .one ⟨.leaf (.atom (.var 0)), 1, []⟩), (122, .one ⟨.leaf (.atom (.var 0)), 1, []⟩), (123, .two ⟨.leaf (.atom (.const (.bool true))), 0, []⟩ ⟨.leaf (.atom (.const (.bool false))), 0, []⟩), (124, .one ⟨.leaf (.atom (.var 0)), 1, []⟩), (125, .one ⟨.leaf (.atom (.var 0)), 1, []⟩), (127, .one ⟨.leaf (.atom (.var 0)), 1, []⟩), (128, .two ⟨.leaf (.atom (.const (.bool true))), 0, []⟩ ⟨.leaf (.atom (.const (.bool false))), 0, []⟩), (129, .one ⟨.leaf (.atom (.var 0)), 1, []⟩), (130, .one ⟨.leaf (.agg [.whole 0 8]), 1, []⟩), (131, .two ⟨.leaf (.atom (.const (.bool true))), 0, []⟩ ⟨.leaf (.atom (.const (.bool false))), 0, []⟩), (132, .two ⟨.leaf (.atom (.const (.bool true))), 0, []⟩ ⟨.leaf (.atom (.const (.bool false))), 0, []⟩), (133, .one ⟨.leaf (.atom (.var 0)), 1, []⟩), (135, .one ⟨.leaf (.atom (.const (.bool true))), 0, []⟩), (136, .one ⟨.leaf (.atom (.var 0)), 1, []⟩)], lps := [] }
def t_wholeA : Tree :=
  .new <|
  .call 11 [.agg [.whole 0 56]] ([], []) (.tup [.agg [.whole 1 8], .atom (.const (.bool true))]) 1 [] <|
  .new <|
  .call 23 [.agg [.whole 1 8]] ([], []) (.leaf (.agg [.whole 2 8])) 1 [] <|
  .call 20 [.agg [.whole 1 8], .agg [.whole 2 8]] ([], []) (.leaf (.agg [.whole 3 8])) 1 [] <|
  .call 29 [.atom (.const (.int .i64 1))] ([], []) (.leaf (.agg [.whole 4 8])) 1 [] <|
  .call 21 [.agg [.whole 3 8], .agg [.whole 4 8]] ([], []) (.leaf (.atom (.const (.bool false)))) 0 [] <|
  .call 15 [.agg [.whole 1 8]] ([], []) (.leaf (.atom (.const (.bool true)))) 0 [] <|
  .calc (.binOp .eql 4 (.tmp 25) (.tmp 27) 4) 4 [(25, .leaf (.atom (.const (.bool false)))), (27, .leaf (.atom (.const (.bool true))))] ([], []) (.leaf (.atom (.const (.bool false)))) 0 <|
  .call 15 [.agg [.whole 1 8]] ([], []) (.leaf (.atom (.const (.bool true)))) 0 [] <|
  .call 23 [.agg [.whole 1 8]] ([], []) (.leaf (.agg [.whole 5 8])) 1 [] <|
  .call 15 [.agg [.whole 5 8]] ([], []) (.leaf (.atom (.const (.bool true)))) 0 [] <|
  .call 12 [.agg [.whole 1 8]] ([], []) (.tup [.agg [.whole 6 8], .atom (.const (.int .i64 0))]) 1 [] <|
  .new <|
  .call 30 [.agg [.whole 1 8]] ([], []) (.leaf (.agg [.whole 7 8])) 1 [] <|
  .call 12 [.agg [.whole 7 8]] ([], []) (.tup [.agg [.whole 8 8], .atom (.const (.int .i64 0))]) 1 [] <|
  .new <|
  .call 15 [.agg [.whole 1 8]] ([], []) (.leaf (.atom (.const (.bool true)))) 0 [] <|
  .calc2 (.binOp .eql 30 (.tmp 52) (.const (.int .i64 0)) 30) 4 [(52, .leaf (.atom (.const (.int .i64 0))))] ([], []) (.leaf (.atom (.const (.bool true)))) 0 (
    .calc2 (.binOp .eql 30 (.tmp 55) (.const (.int .i64 0)) 30) 4 [(55, .leaf (.atom (.const (.int .i64 0))))] ([], []) (.leaf (.atom (.const (.bool true)))) 0 (
      .call 15 [.agg [.whole 6 8]] ([], []) (.leaf (.atom (.const (.bool true)))) 0 [] <|
      .call 15 [.agg [.whole 8 8]] ([], []) (.leaf (.atom (.const (.bool true)))) 0 [] <|
      .call 16 [] ([], []) (.leaf (.atom (.const (.bool true)))) 0 [] <|
      .ret ([], []) (.leaf (.atom (.const (.bool true))))) (.leaf (.atom (.const (.bool false)))) 0 <|
    .ret ([], []) (.leaf (.atom (.const (.bool false))))) (.leaf (.atom (.const (.bool false)))) 0 <|
  .ret ([], []) (.leaf (.atom (.const (.bool false))))
theorem c_wholeA : compF Try.prog Try.f7 o_wholeA (Try.f7.body.getD .skip) (symIn [.agg [.whole 0 56]] Try.f7.ntmps 1) = some t_wholeA := by kernel_rfl

theorem whole_A (b1 : List Int) (lb1 : b1.length = 56) (yb1 : By b1) (h0 : z (bval b1) = 0) (w : World) : Calls Try.prog 7 #[AG (ys b1)] w (OutV (.bool true) w) := by
  refine calls_tree o_wholeA [.agg [.whole 0 56]] [AG (ys b1)] Try.func7 rfl c_wholeA rfl (by intro x hx; simp at hx; subst hx; (intro s hs; simp at hs; subst hs; exact ⟨_, rfl, by simp [lb1], ys_one _⟩)) ?_
  have mk1 := fun W => made_c b1 lb1 yb1 W
  generalize z (bval b1) = a at *
  have n0 : -a = 0 := by rw [h0]; exact neg_zero'
  have q0 : rt (0 : F) * rt 0 = 0 := by rw [rt_zero]; grind
  have r0 : rt a * rt a = a := by rw [h0]; exact q0
  have r1 : rt (-a) * rt (-a) = -a := by rw [n0]; exact q0
  have hi : inv a = 0 := by rw [h0]; exact inv_zero
  have ha : abs (rt a) = 0 := by rw [h0, rt_zero, abs_zero]
  have hb : abs (rt (-a)) = 0 := by rw [n0, rt_zero, abs_zero]
  have h1 : ¬ a * inv a = z 1 := by rw [h0, inv_zero, z_one]; intro e; exact one_ne (by rw [← e]; grind)
  refine tw_new fun _ => ?_
  refine tw_EC (a) (fun W _ => mk1 W) rfl rfl fun l1 e1 => ?_
  conv => enter [6]; dsimp only [List.cons_append, List.nil_append]
  refine tw_new fun _ => ?_
  refine tw_E (x := inv a) (fun W _ => rinverse_c e1 W) rfl fun l2 e2 => ?_
  conv => enter [6]; dsimp only [List.cons_append, List.nil_append]
  refine tw_E (x := a * (inv a)) (fun W _ => mul_c e1 e2 W) rfl fun l3 e3 => ?_
  conv => enter [6]; dsimp only [List.cons_append, List.nil_append]
  refine tw_E (x := z 1) (fun W _ => int_c 1 (by omega) (by omega) W) rfl fun l4 e4 => ?_
  conv => enter [6]; dsimp only [List.cons_append, List.nil_append]
  refine tw_yes _ (fun W _ => equal_c e3 e4 W) (decide_eq_false h1) ?_
  refine tw_yes _ (fun W _ => zero_c e1 W) (decide_eq_true h0) ?_
  refine tw_binKB rfl rfl (bin_eqB _ _) (by simp) rfl ?_
  refine tw_yes _ (fun W _ => zero_c e1 W) (decide_eq_true h0) ?_
  refine tw_E (x := inv a) (fun W _ => rinverse_c e1 W) rfl fun l5 e5 => ?_
  conv => enter [6]; dsimp only [List.cons_append, List.nil_append]
  refine tw_yes _ (fun W _ => zero_c e5 W) (decide_eq_true hi) ?_
  refine tw_EC (abs (rt a)) (fun W _ => root_yes e1 r0 W) rfl rfl fun l6 e6 => ?_
  conv => enter [6]; dsimp only [List.cons_append, List.nil_append]
  refine tw_new fun _ => ?_
  refine tw_E (x := -a) (fun W _ => neg_c e1 W) rfl fun l7 e7 => ?_
  conv => enter [6]; dsimp only [List.cons_append, List.nil_append]
  refine tw_EC (abs (rt (-a))) (fun W _ => root_yes e7 r1 W) rfl rfl fun l8 e8 => ?_
  conv => enter [6]; dsimp only [List.cons_append, List.nil_append]
  refine tw_new fun _ => ?_
  refine tw_yes _ (fun W _ => zero_c e1 W) (decide_eq_true h0) ?_
  refine tw_cmp _ rfl rfl (bin_eql _ _ _ _) (fun _ => ?_) (fun h => by simp at h)
  refine tw_cmp _ rfl rfl (bin_eql _ _ _ _) (fun _ => ?_) (fun h => by simp at h)
  refine tw_yes _ (fun W _ => zero_c e6 W) (decide_eq_true ha) ?_
  refine tw_yes _ (fun W _ => zero_c e8 W) (decide_eq_true hb) ?_
  refine tw_yes true (fun W _ => awake5_c W) rfl ?_
  exact tw_retV rfl rfl
def o_wholeB : Orc := { ans := [(13, .one ⟨.leaf (.atom (.var 0)), 1, []⟩), (14, .one ⟨.tup [.agg [.whole 0 8], .atom (.const (.bool true))], 1, []⟩), (18, .one ⟨.leaf (.atom (.var 0)), 1, []⟩), (19, .one ⟨.leaf (.atom (.var 0)), 1, []⟩), (20, .one ⟨.leaf (.atom (.var 0)), 1, []⟩), (21, .one ⟨.leaf (.agg [.whole 0 8]), 1, []⟩), (22, .one ⟨.leaf (.agg [.whole 0 8]), 1, []⟩), (23, .one ⟨.leaf (.agg [.whole 0 8]), 1, []⟩), (24, .one ⟨.leaf (.atom (.const (.bool true))), 0, []⟩), (26, .one ⟨.leaf (.atom (.var 0)), 1, []⟩), (27, .one ⟨.leaf (.atom (.const (.bool false))), 0, []⟩), (28, .one ⟨.leaf (.atom (.const (.bool false))), 0, []⟩), (30, .one ⟨.leaf (.atom (.var 0)), 1, []⟩), (31, .one ⟨.leaf (.atom (.const (.bool false))), 0, []⟩), (33, .one ⟨.leaf (.atom (.var 0)), 1, []⟩), (34, .one ⟨.leaf (.agg [.whole 0 8]), 1, []⟩), (35, .two ⟨.leaf (.atom (.const (.bool true))), 0, []⟩ ⟨.leaf (.atom (.const (.bool false))), 0, []⟩), (36, .one ⟨.leaf (.atom (.var 0)), 1, []⟩), (37, .one ⟨.leaf (.atom (.var 0)), 1, []⟩), (38, .one ⟨.leaf (.atom (.var 0)), 1, []⟩), (40, .one ⟨.leaf (.atom (.var 0)), 1, []⟩), (41, .one ⟨.tup [.agg [.whole 0 8], .atom (.const (.int .i64 0))], 1, []⟩), (45, .one ⟨.leaf (.atom (.var 0)), 1, []⟩), (46, .one ⟨.leaf (.agg [.whole 0 8]), 1, []⟩), (47, .one ⟨.tup [.agg [.whole 0 8], .atom (.const (.int .i64 17))], 1, []⟩), (50, .one ⟨.leaf (.atom (.var 0)), 1, []⟩), (51, .one ⟨.leaf (.atom (.const (.bool false))), 0, []⟩), (53, .two ⟨.leaf (.atom (.const (.bool true))), 0, []⟩ ⟨.leaf (.atom (.const (.bool false))), 0, []⟩), (56, .two ⟨.leaf (.atom (.const (.bool true))), 0, []⟩ ⟨.leaf (.atom (.const (.bool false))), 0, []⟩), (57, .one ⟨.leaf (.atom (.var 0)), 1, []⟩), (59, .one ⟨.leaf (.atom (.var 0)), 1, []⟩), (60, .two ⟨.leaf (.atom (.const (.bool true))), 0, []⟩ ⟨.leaf (.atom (.const (.bool false))), 0, []⟩), (61, .one ⟨.leaf (.atom (.var 0)), 1, []⟩), (63, .one ⟨.leaf (.atom (.var 0)), 1, []⟩), (64, .two ⟨.leaf (.atom (.const (.bool true))), 0, []⟩ ⟨.leaf (.atom (.const (.bool false))), 0, []⟩), (65, .one ⟨.leaf (.atom (.var 0)), 1, []⟩), (67, .one ⟨.leaf (.atom (.const (.bool true))), 0, []⟩), (68, .one ⟨.leaf (.atom (.var 0)), 1, []⟩), (70, .one ⟨.leaf (.atom (.const (.bool true))), 0, []⟩), (72, .one ⟨.leaf (.atom (.const (.bool false))), 0, []⟩), (73, .one ⟨.leaf (.atom (.const (.bool false))), 0, []⟩), (76, .one ⟨.leaf (.atom (.const (.bool true))), 0, []⟩), (78, .one ⟨.leaf (.atom (.var 0)), 1, []⟩), (79, .one ⟨.leaf (.agg [.whole 0 8]), 1, []⟩), (80, .one ⟨.leaf (.atom (.var 0)), 1, []⟩), (81, .one ⟨.leaf (.atom (.const (.bool true))), 0, []⟩), (82, .one ⟨.leaf (.atom (.var 0)), 1, []⟩), (83, .one ⟨.leaf (.atom (.var 0)), 1, []⟩), (84, .one ⟨.leaf (.atom (.var 0)), 1, []⟩), (87, .one ⟨.leaf (.atom (.const (.bool false))), 0, []⟩), (89, .one ⟨.leaf (.atom (.var 0)), 1, []⟩), (90, .one ⟨.leaf (.agg [.whole 0 8]), 1, []⟩), (91, .one ⟨.leaf (.atom (.var 0)), 1, []⟩), (92, .one ⟨.leaf (.agg [.whole 0 8]), 1, []⟩), (93, .two ⟨.leaf (.atom (.const (.bool true))), 0, []⟩ ⟨.leaf (.atom (.const (.bool false))), 0, []⟩), (94, .one ⟨.leaf (.atom (.var 0)), 1, []⟩), (95, .one ⟨.leaf (.atom (.var 0)), 1, []⟩), (96, .one ⟨.leaf (.atom (.var 0)), 1, []⟩), (98, .one ⟨.leaf (.atom (.var 0)), 1, []⟩), (99, .one ⟨.leaf (.agg [.whole 0 8]), 1, []⟩), (100, .one ⟨.tup [.agg [.whole 0 8], .atom (.const (.int .i64 0))], 1, []⟩), (104, .one ⟨.leaf (.atom (.const (.bool true))), 0, []⟩), (106, .one ⟨.leaf (.atom (.var 0)), 1, []⟩), (107, .one ⟨.leaf (.atom (.var 0)), 1, []⟩), (108, .one ⟨.leaf (.agg [.whole 0 8]), 1, []⟩), (109, .one ⟨.leaf (.atom (.const (.bool true))), 0, []⟩), (110, .one ⟨.leaf (.atom (.var 0)), 1, []⟩), (112, .one ⟨.leaf (.atom (.var 0)), 1, []⟩), (113, .one ⟨.leaf (.atom (.const (.bool false))), 0, []⟩), (114, .one ⟨.leaf (.atom (.var 0)), 1, []⟩), (115, .one ⟨.leaf (.atom (.var 0)), 1, []⟩), (117, .one ⟨.leaf (.atom (.var 0)), 1, []⟩), (118, .one ⟨.leaf (.atom (.const (.bool false))), 0, []⟩), (119, .one ⟨.leaf (.atom (.var 0)), 1, []⟩), (120, .one ⟨.leaf (.atom (.var 0)), 1, []⟩), (122, .one ⟨.leaf (.atom (.var 0)), 1, []⟩), (123, .one ⟨.leaf (.atom (.const (.bool false))), 0, []⟩), (124, .one ⟨.leaf (.atom (.var 0)), 1, []⟩), (125, .one ⟨.leaf (.atom (.var 0)), 1, []⟩), (127, .one ⟨.leaf (.atom (.var 0)), 1, []⟩), (128, .one ⟨.leaf (.atom (.var 0)), 1, []⟩), (129, .one ⟨.leaf (.atom (.var 0)), 1, []⟩), (130, .one ⟨.leaf (.agg [.whole 0 8]), 1, []⟩), (131, .one ⟨.leaf (.atom (.var 0)), 1, []⟩), (132, .two ⟨.leaf (.atom (.const (.bool true))), 0, []⟩ ⟨.leaf (.atom (.const (.bool false))), 0, []⟩), (133, .one ⟨.leaf (.atom (.var 0)), 1, []⟩), (135, .one ⟨.leaf (.atom (.const (.bool true))), 0, []⟩), (136, .one ⟨.leaf (.atom (.var 0)), 1, []⟩)], lps := [] }
def t_wholeB : Tree :=
  .new <|
  .call 11 [.agg [.whole 0 56]] ([], []) (.tup [.agg [.whole 1 8], .atom (.const (.bool true))]) 1 [] <|
  .new <|
  .call 23 [.agg [.whole 1 8]] ([], []) (.leaf (.agg [.whole 2 8])) 1 [] <|
  .call 20 [.agg [.whole 1 8], .agg [.whole 2 8]] ([], []) (.leaf (.agg [.whole 3 8])) 1 [] <|
  .call 29 [.atom (.const (.int .i64 1))] ([], []) (.leaf (.agg [.whole 4 8])) 1 [] <|
  .call 21 [.agg [.whole 3 8], .agg [.whole 4 8]] ([], []) (.leaf (.atom (.const (.bool true)))) 0 [] <|
  .call 15 [.agg [.whole 1 8]] ([], []) (.leaf (.atom (.const (.bool false)))) 0 [] <|
  .calc (.binOp .eql 4 (.tmp 25) (.tmp 27) 4) 4 [(25, .leaf (.atom (.const (.bool true)))), (27, .leaf (.atom (.const (.bool false))))] ([], []) (.leaf (.atom (.const (.bool false)))) 0 <|
  .call 15 [.agg [.whole 1 8]] ([], []) (.leaf (.atom (.const (.bool false)))) 0 [] <|
  .call 12 [.agg [.whole 1 8]] ([], []) (.tup [.agg [.whole 5 8], .atom (.const (.int .i64 0))]) 1 [] <|
  .new <|
  .call 30 [.agg [.whole 1 8]] ([], []) (.leaf (.agg [.whole 6 8])) 1 [] <|
  .call 12 [.agg [.whole 6 8]] ([], []) (.tup [.agg [.whole 7 8], .atom (.const (.int .i64 17))]) 1 [] <|
  .new <|
  .call 15 [.agg [.whole 1 8]] ([], []) (.leaf (.atom (.const (.bool false)))) 0 [] <|
  .calc (.binOp .eql 30 (.tmp 69) (.const (.int .i64 0)) 30) 4 [(69, .leaf (.atom (.const (.int .i64 0))))] ([], []) (.leaf (.atom (.const (.bool true)))) 0 <|
  .calc (.binOp .eql 30 (.tmp 71) (.const (.int .i64 0)) 30) 4 [(71, .leaf (.atom (.const (.int .i64 17))))] ([], []) (.leaf (.atom (.const (.bool false)))) 0 <|
  .calc (.binOp .eql 4 (.tmp 70) (.tmp 72) 4) 4 [(70, .leaf (.atom (.const (.bool true)))), (72, .leaf (.atom (.const (.bool false))))] ([], []) (.leaf (.atom (.const (.bool false)))) 0 <|
  .calc (.binOp .eql 30 (.tmp 75) (.const (.int .i64 0)) 30) 4 [(75, .leaf (.atom (.const (.int .i64 0))))] ([], []) (.leaf (.atom (.const (.bool true)))) 0 <|
  .call 22 [.agg [.whole 5 8]] ([], []) (.leaf (.agg [.whole 8 8])) 1 [] <|
  .call 21 [.agg [.whole 8 8], .agg [.whole 1 8]] ([], []) (.leaf (.atom (.const (.bool true)))) 0 [] <|
  .calc (.binOp .eql 30 (.tmp 86) (.const (.int .i64 0)) 30) 4 [(86, .leaf (.atom (.const (.int .i64 17))))] ([], []) (.leaf (.atom (.const (.bool false)))) 0 <|
  .call 22 [.agg [.whole 1 8]] ([], []) (.leaf (.agg [.whole 9 8])) 1 [] <|
  .call 12 [.agg [.whole 9 8]] ([], []) (.tup [.agg [.whole 10 8], .atom (.const (.int .i64 0))]) 1 [] <|
  .new <|
  .calc (.binOp .eql 30 (.tmp 103) (.const (.int .i64 0)) 30) 4 [(103, .leaf (.atom (.const (.int .i64 0))))] ([], []) (.leaf (.atom (.const (.bool true)))) 0 <|
  .call 24 [.agg [.whole 1 8]] ([], []) (.leaf (.agg [.whole 11 8])) 1 [] <|
  .call 21 [.agg [.whole 10 8], .agg [.whole 11 8]] ([], []) (.leaf (.atom (.const (.bool true)))) 0 [] <|
  .call 26 [.agg [.whole 10 8]] ([], []) (.leaf (.atom (.const (.bool false)))) 0 [] <|
  .call 26 [.agg [.whole 5 8]] ([], []) (.leaf (.atom (.const (.bool false)))) 0 [] <|
  .call 26 [.agg [.whole 7 8]] ([], []) (.leaf (.atom (.const (.bool false)))) 0 [] <|
  .call 26 [.agg [.whole 1 8]] ([], []) (.leaf (.atom (.var 12))) 1 [] <|
  .call 30 [.agg [.whole 1 8]] ([], []) (.leaf (.agg [.whole 13 8])) 1 [] <|
  .call 26 [.agg [.whole 13 8]] ([], []) (.leaf (.atom (.var 14))) 1 [] <|
  .calc2 (.binOp .neq 4 (.tmp 128) (.tmp 131) 4) 4 [(128, .leaf (.atom (.var 12))), (131, .leaf (.atom (.var 14)))] ([], []) (.leaf (.atom (.const (.bool true)))) 0 (
    .call 16 [] ([], []) (.leaf (.atom (.const (.bool true)))) 0 [] <|
    .ret ([], []) (.leaf (.atom (.const (.bool true))))) (.leaf (.atom (.const (.bool false)))) 0 <|
  .ret ([], []) (.leaf (.atom (.const (.bool false))))
theorem c_wholeB : compF Try.prog Try.f7 o_wholeB (Try.f7.body.getD .skip) (symIn [.agg [.whole 0 56]] Try.f7.ntmps 1) = some t_wholeB := by kernel_rfl

theorem whole_B (b1 : List Int) (lb1 : b1.length = 56) (yb1 : By b1) (h0 : z (bval b1) ≠ 0) (hr : rt (z (bval b1)) * rt (z (bval b1)) = z (bval b1)) (w : World) : Calls Try.prog 7 #[AG (ys b1)] w (OutV (.bool true) w) := by
  refine calls_tree o_wholeB [.agg [.whole 0 56]] [AG (ys b1)] Try.func7 rfl c_wholeB rfl (by intro x hx; simp at hx; subst hx; (intro s hs; simp at hs; subst hs; exact ⟨_, rfl, by simp [lb1], ys_one _⟩)) ?_
  have mk1 := fun W => made_c b1 lb1 yb1 W
  generalize z (bval b1) = a at *
  have h1 : a * inv a = z 1 := by rw [z_one]; exact mul_inv h0
  have r2 := rt_square a
  have h2 : abs (rt (a * a)) = abs a := rt_abs a
  have hn := rt_neg h0
  have r1 : ¬ rt (-a) * rt (-a) = -a := fun e => hn.1 e hr
  have hs : abs (rt a) * abs (rt a) = a := by rw [abs_sq]; exact hr
  have z0 : ¬ (0 : F).val % 2 = 1 := by rw [zero_val]; omega
  refine tw_new fun _ => ?_
  refine tw_EC (a) (fun W _ => mk1 W) rfl rfl fun l1 e1 => ?_
  conv => enter [6]; dsimp only [List.cons_append, List.nil_append]
  refine tw_new fun _ => ?_
  refine tw_E (x := inv a) (fun W _ => rinverse_c e1 W) rfl fun l2 e2 => ?_
  conv => enter [6]; dsimp only [List.cons_append, List.nil_append]
  refine tw_E (x := a * (inv a)) (fun W _ => mul_c e1 e2 W) rfl fun l3 e3 => ?_
  conv => enter [6]; dsimp only [List.cons_append, List.nil_append]
  refine tw_E (x := z 1) (fun W _ => int_c 1 (by omega) (by omega) W) rfl fun l4 e4 => ?_
  conv => enter [6]; dsimp only [List.cons_append, List.nil_append]
  refine tw_yes _ (fun W _ => equal_c e3 e4 W) (decide_eq_true h1) ?_
  refine tw_yes _ (fun W _ => zero_c e1 W) (decide_eq_false h0) ?_
  refine tw_binKB rfl rfl (bin_eqB _ _) (by simp) rfl ?_
  refine tw_yes _ (fun W _ => zero_c e1 W) (decide_eq_false h0) ?_
  refine tw_EC (abs (rt a)) (fun W _ => root_yes e1 hr W) rfl rfl fun l5 e5 => ?_
  conv => enter [6]; dsimp only [List.cons_append, List.nil_append]
  refine tw_new fun _ => ?_
  refine tw_E (x := -a) (fun W _ => neg_c e1 W) rfl fun l6 e6 => ?_
  conv => enter [6]; dsimp only [List.cons_append, List.nil_append]
  refine tw_EC (0) (fun W _ => root_no e6 r1 W) rfl rfl fun l7 e7 => ?_
  conv => enter [6]; dsimp only [List.cons_append, List.nil_append]
  refine tw_new fun _ => ?_
  refine tw_yes _ (fun W _ => zero_c e1 W) (decide_eq_false h0) ?_
  refine tw_binK rfl rfl (bin_eql _ _ _ _) (by simp) rfl ?_
  refine tw_binK rfl rfl (bin_eql _ _ _ _) (by simp) rfl ?_
  refine tw_binKB rfl rfl (bin_eqB _ _) (by simp) rfl ?_
  refine tw_binK rfl rfl (bin_eql _ _ _ _) (by simp) rfl ?_
  refine tw_E (x := (abs (rt a)) * (abs (rt a))) (fun W _ => square_c e5 W) rfl fun l8 e8 => ?_
  conv => enter [6]; dsimp only [List.cons_append, List.nil_append]
  refine tw_yes _ (fun W _ => equal_c e8 e1 W) (decide_eq_true hs) ?_
  refine tw_binK rfl rfl (bin_eql _ _ _ _) (by simp) rfl ?_
  refine tw_E (x := a * a) (fun W _ => square_c e1 W) rfl fun l9 e9 => ?_
  conv => enter [6]; dsimp only [List.cons_append, List.nil_append]
  refine tw_EC (abs (rt (a * a))) (fun W _ => root_yes e9 r2 W) rfl rfl fun l10 e10 => ?_
  conv => enter [6]; dsimp only [List.cons_append, List.nil_append]
  refine tw_new fun _ => ?_
  refine tw_binK rfl rfl (bin_eql _ _ _ _) (by simp) rfl ?_
  refine tw_E (x := abs a) (fun W _ => abs_c e1 W) rfl fun l11 e11 => ?_
  conv => enter [6]; dsimp only [List.cons_append, List.nil_append]
  refine tw_yes _ (fun W _ => equal_c e10 e11 W) (decide_eq_true h2) ?_
  refine tw_yes _ (fun W _ => negative_c e10 W) (decide_eq_false (abs_even _)) ?_
  refine tw_yes _ (fun W _ => negative_c e5 W) (decide_eq_false (abs_even _)) ?_
  refine tw_yes _ (fun W _ => negative_c e7 W) (decide_eq_false z0) ?_
  refine tw_var (v := .bool (decide ((a).val % 2 = 1))) (fun W _ => negative_c e1 W) rfl rfl ?_
  conv => enter [6]; dsimp only [List.cons_append, List.nil_append]
  refine tw_E (x := -a) (fun W _ => neg_c e1 W) rfl fun l12 e12 => ?_
  conv => enter [6]; dsimp only [List.cons_append, List.nil_append]
  refine tw_var (v := .bool (decide (((-a)).val % 2 = 1))) (fun W _ => negative_c e12 W) rfl rfl ?_
  conv => enter [6]; dsimp only [List.cons_append, List.nil_append]
  refine tw_cmpB _ rfl rfl (bin_neB _ _) (fun _ => ?_) (fun h => by simp [neg_odd h0] at h; omega)
  refine tw_yes true (fun W _ => awake5_c W) rfl ?_
  exact tw_retV rfl rfl
def o_wholeC : Orc := { ans := [(13, .one ⟨.leaf (.atom (.var 0)), 1, []⟩), (14, .one ⟨.tup [.agg [.whole 0 8], .atom (.const (.bool true))], 1, []⟩), (18, .one ⟨.leaf (.atom (.var 0)), 1, []⟩), (19, .one ⟨.leaf (.atom (.var 0)), 1, []⟩), (20, .one ⟨.leaf (.atom (.var 0)), 1, []⟩), (21, .one ⟨.leaf (.agg [.whole 0 8]), 1, []⟩), (22, .one ⟨.leaf (.agg [.whole 0 8]), 1, []⟩), (23, .one ⟨.leaf (.agg [.whole 0 8]), 1, []⟩), (24, .one ⟨.leaf (.atom (.const (.bool true))), 0, []⟩), (26, .one ⟨.leaf (.atom (.var 0)), 1, []⟩), (27, .one ⟨.leaf (.atom (.const (.bool false))), 0, []⟩), (28, .one ⟨.leaf (.atom (.const (.bool false))), 0, []⟩), (30, .one ⟨.leaf (.atom (.var 0)), 1, []⟩), (31, .one ⟨.leaf (.atom (.const (.bool false))), 0, []⟩), (33, .one ⟨.leaf (.atom (.var 0)), 1, []⟩), (34, .one ⟨.leaf (.agg [.whole 0 8]), 1, []⟩), (35, .two ⟨.leaf (.atom (.const (.bool true))), 0, []⟩ ⟨.leaf (.atom (.const (.bool false))), 0, []⟩), (36, .one ⟨.leaf (.atom (.var 0)), 1, []⟩), (37, .one ⟨.leaf (.atom (.var 0)), 1, []⟩), (38, .one ⟨.leaf (.atom (.var 0)), 1, []⟩), (40, .one ⟨.leaf (.atom (.var 0)), 1, []⟩), (41, .one ⟨.tup [.agg [.whole 0 8], .atom (.const (.int .i64 17))], 1, []⟩), (45, .one ⟨.leaf (.atom (.var 0)), 1, []⟩), (46, .one ⟨.leaf (.agg [.whole 0 8]), 1, []⟩), (47, .one ⟨.tup [.agg [.whole 0 8], .atom (.const (.int .i64 0))], 1, []⟩), (50, .one ⟨.leaf (.atom (.var 0)), 1, []⟩), (51, .one ⟨.leaf (.atom (.const (.bool false))), 0, []⟩), (53, .two ⟨.leaf (.atom (.const (.bool true))), 0, []⟩ ⟨.leaf (.atom (.const (.bool false))), 0, []⟩), (56, .two ⟨.leaf (.atom (.const (.bool true))), 0, []⟩ ⟨.leaf (.atom (.const (.bool false))), 0, []⟩), (57, .one ⟨.leaf (.atom (.var 0)), 1, []⟩), (59, .one ⟨.leaf (.atom (.var 0)), 1, []⟩), (60, .two ⟨.leaf (.atom (.const (.bool true))), 0, []⟩ ⟨.leaf (.atom (.const (.bool false))), 0, []⟩), (61, .one ⟨.leaf (.atom (.var 0)), 1, []⟩), (63, .one ⟨.leaf (.atom (.var 0)), 1, []⟩), (64, .two ⟨.leaf (.atom (.const (.bool true))), 0, []⟩ ⟨.leaf (.atom (.const (.bool false))), 0, []⟩), (65, .one ⟨.leaf (.atom (.var 0)), 1, []⟩), (67, .one ⟨.leaf (.atom (.const (.bool true))), 0, []⟩), (68, .one ⟨.leaf (.atom (.var 0)), 1, []⟩), (70, .one ⟨.leaf (.atom (.const (.bool false))), 0, []⟩), (72, .one ⟨.leaf (.atom (.const (.bool true))), 0, []⟩), (73, .one ⟨.leaf (.atom (.const (.bool false))), 0, []⟩), (76, .one ⟨.leaf (.atom (.const (.bool false))), 0, []⟩), (78, .one ⟨.leaf (.atom (.var 0)), 1, []⟩), (79, .one ⟨.leaf (.agg [.whole 0 8]), 1, []⟩), (80, .one ⟨.leaf (.atom (.var 0)), 1, []⟩), (81, .two ⟨.leaf (.atom (.const (.bool true))), 0, []⟩ ⟨.leaf (.atom (.const (.bool false))), 0, []⟩), (82, .one ⟨.leaf (.atom (.var 0)), 1, []⟩), (83, .one ⟨.leaf (.atom (.var 0)), 1, []⟩), (84, .one ⟨.leaf (.atom (.var 0)), 1, []⟩), (87, .one ⟨.leaf (.atom (.const (.bool true))), 0, []⟩), (89, .one ⟨.leaf (.atom (.var 0)), 1, []⟩), (90, .one ⟨.leaf (.agg [.whole 0 8]), 1, []⟩), (91, .one ⟨.leaf (.atom (.var 0)), 1, []⟩), (92, .one ⟨.leaf (.agg [.whole 0 8]), 1, []⟩), (93, .one ⟨.leaf (.atom (.const (.bool true))), 0, []⟩), (94, .one ⟨.leaf (.atom (.var 0)), 1, []⟩), (95, .one ⟨.leaf (.atom (.var 0)), 1, []⟩), (96, .one ⟨.leaf (.atom (.var 0)), 1, []⟩), (98, .one ⟨.leaf (.atom (.var 0)), 1, []⟩), (99, .one ⟨.leaf (.agg [.whole 0 8]), 1, []⟩), (100, .one ⟨.tup [.agg [.whole 0 8], .atom (.const (.int .i64 0))], 1, []⟩), (104, .one ⟨.leaf (.atom (.const (.bool true))), 0, []⟩), (106, .one ⟨.leaf (.atom (.var 0)), 1, []⟩), (107, .one ⟨.leaf (.atom (.var 0)), 1, []⟩), (108, .one ⟨.leaf (.agg [.whole 0 8]), 1, []⟩), (109, .one ⟨.leaf (.atom (.const (.bool true))), 0, []⟩), (110, .one ⟨.leaf (.atom (.var 0)), 1, []⟩), (112, .one ⟨.leaf (.atom (.var 0)), 1, []⟩), (113, .one ⟨.leaf (.atom (.const (.bool false))), 0, []⟩), (114, .one ⟨.leaf (.atom (.var 0)), 1, []⟩), (115, .one ⟨.leaf (.atom (.var 0)), 1, []⟩), (117, .one ⟨.leaf (.atom (.var 0)), 1, []⟩), (118, .one ⟨.leaf (.atom (.const (.bool false))), 0, []⟩), (119, .one ⟨.leaf (.atom (.var 0)), 1, []⟩), (120, .one ⟨.leaf (.atom (.var 0)), 1, []⟩), (122, .one ⟨.leaf (.atom (.var 0)), 1, []⟩), (123, .one ⟨.leaf (.atom (.const (.bool false))), 0, []⟩), (124, .one ⟨.leaf (.atom (.var 0)), 1, []⟩), (125, .one ⟨.leaf (.atom (.var 0)), 1, []⟩), (127, .one ⟨.leaf (.atom (.var 0)), 1, []⟩), (128, .one ⟨.leaf (.atom (.var 0)), 1, []⟩), (129, .one ⟨.leaf (.atom (.var 0)), 1, []⟩), (130, .one ⟨.leaf (.agg [.whole 0 8]), 1, []⟩), (131, .one ⟨.leaf (.atom (.var 0)), 1, []⟩), (132, .two ⟨.leaf (.atom (.const (.bool true))), 0, []⟩ ⟨.leaf (.atom (.const (.bool false))), 0, []⟩), (133, .one ⟨.leaf (.atom (.var 0)), 1, []⟩), (135, .one ⟨.leaf (.atom (.const (.bool true))), 0, []⟩), (136, .one ⟨.leaf (.atom (.var 0)), 1, []⟩)], lps := [] }
def t_wholeC : Tree :=
  .new <|
  .call 11 [.agg [.whole 0 56]] ([], []) (.tup [.agg [.whole 1 8], .atom (.const (.bool true))]) 1 [] <|
  .new <|
  .call 23 [.agg [.whole 1 8]] ([], []) (.leaf (.agg [.whole 2 8])) 1 [] <|
  .call 20 [.agg [.whole 1 8], .agg [.whole 2 8]] ([], []) (.leaf (.agg [.whole 3 8])) 1 [] <|
  .call 29 [.atom (.const (.int .i64 1))] ([], []) (.leaf (.agg [.whole 4 8])) 1 [] <|
  .call 21 [.agg [.whole 3 8], .agg [.whole 4 8]] ([], []) (.leaf (.atom (.const (.bool true)))) 0 [] <|
  .call 15 [.agg [.whole 1 8]] ([], []) (.leaf (.atom (.const (.bool false)))) 0 [] <|
  .calc (.binOp .eql 4 (.tmp 25) (.tmp 27) 4) 4 [(25, .leaf (.atom (.const (.bool true)))), (27, .leaf (.atom (.const (.bool false))))] ([], []) (.leaf (.atom (.const (.bool false)))) 0 <|
  .call 15 [.agg [.whole 1 8]] ([], []) (.leaf (.atom (.const (.bool false)))) 0 [] <|
  .call 12 [.agg [.whole 1 8]] ([], []) (.tup [.agg [.whole 5 8], .atom (.const (.int .i64 17))]) 1 [] <|
  .new <|
  .call 30 [.agg [.whole 1 8]] ([], []) (.leaf (.agg [.whole 6 8])) 1 [] <|
  .call 12 [.agg [.whole 6 8]] ([], []) (.tup [.agg [.whole 7 8], .atom (.const (.int .i64 0))]) 1 [] <|
  .new <|
  .call 15 [.agg [.whole 1 8]] ([], []) (.leaf (.atom (.const (.bool false)))) 0 [] <|
  .calc (.binOp .eql 30 (.tmp 69) (.const (.int .i64 0)) 30) 4 [(69, .leaf (.atom (.const (.int .i64 17))))] ([], []) (.leaf (.atom (.const (.bool false)))) 0 <|
  .calc (.binOp .eql 30 (.tmp 71) (.const (.int .i64 0)) 30) 4 [(71, .leaf (.atom (.const (.int .i64 0))))] ([], []) (.leaf (.atom (.const (.bool true)))) 0 <|
  .calc (.binOp .eql 4 (.tmp 70) (.tmp 72) 4) 4 [(70, .leaf (.atom (.const (.bool false)))), (72, .leaf (.atom (.const (.bool true))))] ([], []) (.leaf (.atom (.const (.bool false)))) 0 <|
  .calc (.binOp .eql 30 (.tmp 75) (.const (.int .i64 0)) 30) 4 [(75, .leaf (.atom (.const (.int .i64 17))))] ([], []) (.leaf (.atom (.const (.bool false)))) 0 <|
  .calc (.binOp .eql 30 (.tmp 86) (.const (.int .i64 0)) 30) 4 [(86, .leaf (.atom (.const (.int .i64 0))))] ([], []) (.leaf (.atom (.const (.bool true)))) 0 <|
  .call 22 [.agg [.whole 7 8]] ([], []) (.leaf (.agg [.whole 8 8])) 1 [] <|
  .call 30 [.agg [.whole 1 8]] ([], []) (.leaf (.agg [.whole 9 8])) 1 [] <|
  .call 21 [.agg [.whole 8 8], .agg [.whole 9 8]] ([], []) (.leaf (.atom (.const (.bool true)))) 0 [] <|
  .call 22 [.agg [.whole 1 8]] ([], []) (.leaf (.agg [.whole 10 8])) 1 [] <|
  .call 12 [.agg [.whole 10 8]] ([], []) (.tup [.agg [.whole 11 8], .atom (.const (.int .i64 0))]) 1 [] <|
  .new <|
  .calc (.binOp .eql 30 (.tmp 103) (.const (.int .i64 0)) 30) 4 [(103, .leaf (.atom (.const (.int .i64 0))))] ([], []) (.leaf (.atom (.const (.bool true)))) 0 <|
  .call 24 [.agg [.whole 1 8]] ([], []) (.leaf (.agg [.whole 12 8])) 1 [] <|
  .call 21 [.agg [.whole 11 8], .agg [.whole 12 8]] ([], []) (.leaf (.atom (.const (.bool true)))) 0 [] <|
  .call 26 [.agg [.whole 11 8]] ([], []) (.leaf (.atom (.const (.bool false)))) 0 [] <|
  .call 26 [.agg [.whole 5 8]] ([], []) (.leaf (.atom (.const (.bool false)))) 0 [] <|
  .call 26 [.agg [.whole 7 8]] ([], []) (.leaf (.atom (.const (.bool false)))) 0 [] <|
  .call 26 [.agg [.whole 1 8]] ([], []) (.leaf (.atom (.var 13))) 1 [] <|
  .call 30 [.agg [.whole 1 8]] ([], []) (.leaf (.agg [.whole 14 8])) 1 [] <|
  .call 26 [.agg [.whole 14 8]] ([], []) (.leaf (.atom (.var 15))) 1 [] <|
  .calc2 (.binOp .neq 4 (.tmp 128) (.tmp 131) 4) 4 [(128, .leaf (.atom (.var 13))), (131, .leaf (.atom (.var 15)))] ([], []) (.leaf (.atom (.const (.bool true)))) 0 (
    .call 16 [] ([], []) (.leaf (.atom (.const (.bool true)))) 0 [] <|
    .ret ([], []) (.leaf (.atom (.const (.bool true))))) (.leaf (.atom (.const (.bool false)))) 0 <|
  .ret ([], []) (.leaf (.atom (.const (.bool false))))
theorem c_wholeC : compF Try.prog Try.f7 o_wholeC (Try.f7.body.getD .skip) (symIn [.agg [.whole 0 56]] Try.f7.ntmps 1) = some t_wholeC := by kernel_rfl

theorem whole_C (b1 : List Int) (lb1 : b1.length = 56) (yb1 : By b1) (h0 : z (bval b1) ≠ 0) (hr : ¬ rt (z (bval b1)) * rt (z (bval b1)) = z (bval b1)) (w : World) : Calls Try.prog 7 #[AG (ys b1)] w (OutV (.bool true) w) := by
  refine calls_tree o_wholeC [.agg [.whole 0 56]] [AG (ys b1)] Try.func7 rfl c_wholeC rfl (by intro x hx; simp at hx; subst hx; (intro s hs; simp at hs; subst hs; exact ⟨_, rfl, by simp [lb1], ys_one _⟩)) ?_
  have mk1 := fun W => made_c b1 lb1 yb1 W
  generalize z (bval b1) = a at *
  have h1 : a * inv a = z 1 := by rw [z_one]; exact mul_inv h0
  have r2 := rt_square a
  have h2 : abs (rt (a * a)) = abs a := rt_abs a
  have hn := rt_neg h0
  have r1 : rt (-a) * rt (-a) = -a := hn.2 hr
  have hs : abs (rt (-a)) * abs (rt (-a)) = -a := by rw [abs_sq]; exact r1
  have z0 : ¬ (0 : F).val % 2 = 1 := by rw [zero_val]; omega
  refine tw_new fun _ => ?_
  refine tw_EC (a) (fun W _ => mk1 W) rfl rfl fun l1 e1 => ?_
  conv => enter [6]; dsimp only [List.cons_append, List.nil_append]
  refine tw_new fun _ => ?_
  refine tw_E (x := inv a) (fun W _ => rinverse_c e1 W) rfl fun l2 e2 => ?_
  conv => enter [6]; dsimp only [List.cons_append, List.nil_append]
  refine tw_E (x := a * (inv a)) (fun W _ => mul_c e1 e2 W) rfl fun l3 e3 => ?_
  conv => enter [6]; dsimp only [List.cons_append, List.nil_append]
  refine tw_E (x := z 1) (fun W _ => int_c 1 (by omega) (by omega) W) rfl fun l4 e4 => ?_
  conv => enter [6]; dsimp only [List.cons_append, List.nil_append]
  refine tw_yes _ (fun W _ => equal_c e3 e4 W) (decide_eq_true h1) ?_
  refine tw_yes _ (fun W _ => zero_c e1 W) (decide_eq_false h0) ?_
  refine tw_binKB rfl rfl (bin_eqB _ _) (by simp) rfl ?_
  refine tw_yes _ (fun W _ => zero_c e1 W) (decide_eq_false h0) ?_
  refine tw_EC (0) (fun W _ => root_no e1 hr W) rfl rfl fun l5 e5 => ?_
  conv => enter [6]; dsimp only [List.cons_append, List.nil_append]
  refine tw_new fun _ => ?_
  refine tw_E (x := -a) (fun W _ => neg_c e1 W) rfl fun l6 e6 => ?_
  conv => enter [6]; dsimp only [List.cons_append, List.nil_append]
  refine tw_EC (abs (rt (-a))) (fun W _ => root_yes e6 r1 W) rfl rfl fun l7 e7 => ?_
  conv => enter [6]; dsimp only [List.cons_append, List.nil_append]
  refine tw_new fun _ => ?_
  refine tw_yes _ (fun W _ => zero_c e1 W) (decide_eq_false h0) ?_
  refine tw_binK rfl rfl (bin_eql _ _ _ _) (by simp) rfl ?_
  refine tw_binK rfl rfl (bin_eql _ _ _ _) (by simp) rfl ?_
  refine tw_binKB rfl rfl (bin_eqB _ _) (by simp) rfl ?_
  refine tw_binK rfl rfl (bin_eql _ _ _ _) (by simp) rfl ?_
  refine tw_binK rfl rfl (bin_eql _ _ _ _) (by simp) rfl ?_
  refine tw_E (x := (abs (rt (-a))) * (abs (rt (-a)))) (fun W _ => square_c e7 W) rfl fun l8 e8 => ?_
  conv => enter [6]; dsimp only [List.cons_append, List.nil_append]
  refine tw_E (x := -a) (fun W _ => neg_c e1 W) rfl fun l9 e9 => ?_
  conv => enter [6]; dsimp only [List.cons_append, List.nil_append]
  refine tw_yes _ (fun W _ => equal_c e8 e9 W) (decide_eq_true hs) ?_
  refine tw_E (x := a * a) (fun W _ => square_c e1 W) rfl fun l10 e10 => ?_
  conv => enter [6]; dsimp only [List.cons_append, List.nil_append]
  refine tw_EC (abs (rt (a * a))) (fun W _ => root_yes e10 r2 W) rfl rfl fun l11 e11 => ?_
  conv => enter [6]; dsimp only [List.cons_append, List.nil_append]
  refine tw_new fun _ => ?_
  refine tw_binK rfl rfl (bin_eql _ _ _ _) (by simp) rfl ?_
  refine tw_E (x := abs a) (fun W _ => abs_c e1 W) rfl fun l12 e12 => ?_
  conv => enter [6]; dsimp only [List.cons_append, List.nil_append]
  refine tw_yes _ (fun W _ => equal_c e11 e12 W) (decide_eq_true h2) ?_
  refine tw_yes _ (fun W _ => negative_c e11 W) (decide_eq_false (abs_even _)) ?_
  refine tw_yes _ (fun W _ => negative_c e5 W) (decide_eq_false z0) ?_
  refine tw_yes _ (fun W _ => negative_c e7 W) (decide_eq_false (abs_even _)) ?_
  refine tw_var (v := .bool (decide ((a).val % 2 = 1))) (fun W _ => negative_c e1 W) rfl rfl ?_
  conv => enter [6]; dsimp only [List.cons_append, List.nil_append]
  refine tw_E (x := -a) (fun W _ => neg_c e1 W) rfl fun l13 e13 => ?_
  conv => enter [6]; dsimp only [List.cons_append, List.nil_append]
  refine tw_var (v := .bool (decide (((-a)).val % 2 = 1))) (fun W _ => negative_c e13 W) rfl rfl ?_
  conv => enter [6]; dsimp only [List.cons_append, List.nil_append]
  refine tw_cmpB _ rfl rfl (bin_neB _ _) (fun _ => ?_) (fun h => by simp [neg_odd h0] at h; omega)
  refine tw_yes true (fun W _ => awake5_c W) rfl ?_
  exact tw_retV rfl rfl

theorem whole_any (b1 : List Int) (lb1 : b1.length = 56) (yb1 : By b1) (w : World) : Calls Try.prog 7 #[AG (ys b1)] w (OutV (.bool true) w) := by
  by_cases h0 : z (bval b1) = 0
  · exact whole_A b1 lb1 yb1 h0 w
  · by_cases hr : rt (z (bval b1)) * rt (z (bval b1)) = z (bval b1)
    · exact whole_B b1 lb1 yb1 h0 hr w
    · exact whole_C b1 lb1 yb1 h0 hr w
end Go.Proofs.Ytohjkkmgcibemaa
