/- Chapter 8: PointHangs -/
import Derived.Test.YtnglocmggmhldaaPnx
set_option linter.unusedSimpArgs false
set_option linter.unusedVariables false
namespace Go.Proofs.Ytnglocmggmhldaa
open Go.RowKit FdP FdP.Ch
/-- two numbers' bytes, together: what is carried over, the bytes so far -/
def addB (a b : List Int) : Nat → Int × List Int
  | 0 => (0, List.replicate 57 0)
  | i + 1 => (((addB a b i).1 + a.getD i 0 + b.getD i 0) / 256, (addB a b i).2.set i (((addB a b i).1 + a.getD i 0 + b.getD i 0) % 256))
theorem addB_len (a b : List Int) : ∀ i, (addB a b i).2.length = 57
  | 0 => rfl
  | i + 1 => by simp only [addB, List.length_set]; exact addB_len a b i
theorem addB_by (a b : List Int) : ∀ i, By (addB a b i).2
  | 0 => fun x hx => by have := List.eq_of_mem_replicate hx; omega
  | i + 1 => fun x hx => by
    simp only [addB] at hx
    rcases List.mem_or_eq_of_mem_set hx with h | h
    · exact addB_by a b i x h
    · omega
theorem addB_over {a b : List Int} (ha : By a) (hb : By b) (la : a.length = 57) (lb : b.length = 57) : ∀ i, i ≤ 57 → 0 ≤ (addB a b i).1 ∧ (addB a b i).1 ≤ 1
  | 0, _ => by simp [addB]
  | i + 1, h => by
    have ih := addB_over ha hb la lb i (by omega)
    have h1 := by_getD ha (i := i) (by omega)
    have h2 := by_getD hb (i := i) (by omega)
    simp only [addB]; omega
theorem addB_val (a b : List Int) : ∀ i, i ≤ 57 → bval ((addB a b i).2.take i) + (addB a b i).1 * 2 ^ (8 * i) = bval (a.take i) + bval (b.take i)
  | 0, _ => by simp [addB, bval]
  | i + 1, h => by
    have ih := addB_val a b i (by omega)
    have hl := addB_len a b i
    rw [bval_take, bval_take, bval_take]
    have e1 : (addB a b (i + 1)).2.take i = (addB a b i).2.take i := by
      simp only [addB]; rw [List.take_set_of_le (Nat.le_refl i)]
    have e2 : (addB a b (i + 1)).2.getD i 0 = ((addB a b i).1 + a.getD i 0 + b.getD i 0) % 256 := by
      simp only [addB, List.getD]
      rw [List.getElem?_set_self (by omega)]; rfl
    have e3 : (addB a b (i + 1)).1 = ((addB a b i).1 + a.getD i 0 + b.getD i 0) / 256 := rfl
    rw [e1, e2, e3]
    generalize (addB a b i).1 = o at *
    have e4 : (2 : Int) ^ (8 * (i + 1)) = 256 * 2 ^ (8 * i) := by rw [show 8 * (i + 1) = 8 * i + 8 by omega, Int.pow_add, Int.mul_comm]; rfl
    rw [e4]
    generalize (2 : Int) ^ (8 * i) = p at *
    have e5 : o + a.getD i 0 + b.getD i 0 = (o + a.getD i 0 + b.getD i 0) % 256 + 256 * ((o + a.getD i 0 + b.getD i 0) / 256) := by omega
    generalize (o + a.getD i 0 + b.getD i 0) % 256 = r at *
    generalize (o + a.getD i 0 + b.getD i 0) / 256 = q at *
    grind
theorem addB_all {a b : List Int} (ha : By a) (hb : By b) (la : a.length = 57) (lb : b.length = 57) (za : a.getD 56 0 = 0) (zb : b.getD 56 0 = 0) : nval (addB a b 57).2 = nval a + nval b := by
  have h := addB_val a b 57 (by omega)
  have h56 := addB_over ha hb la lb 56 (by omega)
  have e : (addB a b 57).1 = 0 := by
    show ((addB a b 56).1 + a.getD 56 0 + b.getD 56 0) / 256 = 0
    rw [za, zb]; omega
  rw [e, Int.zero_mul, Int.add_zero, List.take_of_length_le (by rw [addB_len]; omega), List.take_of_length_le (by omega), List.take_of_length_le (by omega)] at h
  have h1 := nval_eq ha
  have h2 := nval_eq hb
  have h3 := nval_eq (addB_by a b 57)
  omega
theorem quart_add (m n : Int) : mulG (quart (m.tmod 4 + n.tmod 4)) TG = mulG (quart m) TG + mulG (quart n) TG := by
  have h1 := tmod4 m
  have h2 := tmod4 n
  rw [← mulG_add, mulG_mod TG_four (quart m + quart n)]
  congr 1
  unfold quart
  omega
theorem hang_sum {N M K : Nat} {a b c q r s : G} (h : K = N + M) (hq : s = q + r) : mulG N a + q + (mulG M a + r) = mulG K a + s := by
  rw [h, hq, mulG_add, G.assoc, G.assoc, G.left_comm q]
theorem zsH {a a' b b' : Int} {l l' : List Int} {x : AV} (h : a = a') (h' : b = b') (hl : l = l') : [AV.int .i64 a, .int .i64 b, .ints .u8 l, x] = [.int .i64 a', .int .i64 b', .ints .u8 l', x] := by rw [h, h', hl]
def o_hangs : Orc := { ans := [(14, .one ⟨.leaf (.atom (.var 0)), 1, []⟩), (15, .one ⟨.leaf (.atom (.var 0)), 1, []⟩), (16, .one ⟨.leaf (.atom (.var 0)), 1, []⟩), (17, .two ⟨.leaf (.atom (.const (.bool true))), 0, []⟩ ⟨.leaf (.atom (.const (.bool false))), 0, []⟩), (19, .one ⟨.leaf (.atom (.var 0)), 1, []⟩), (20, .one ⟨.leaf (.atom (.var 0)), 1, []⟩), (21, .one ⟨.leaf (.atom (.var 0)), 1, []⟩), (22, .two ⟨.leaf (.atom (.const (.bool true))), 0, []⟩ ⟨.leaf (.atom (.const (.bool false))), 0, []⟩), (23, .one ⟨.leaf (.atom (.var 0)), 1, []⟩), (24, .two ⟨.leaf (.atom (.const (.bool true))), 0, []⟩ ⟨.leaf (.atom (.const (.bool false))), 0, []⟩), (26, .one ⟨.leaf (.agg [.whole 0 57, .one (.var 1)]), 2, []⟩), (27, .two ⟨.tup [.agg [.whole 0 24], .atom (.const (.bool true))], 1, []⟩ ⟨.tup [.agg [.whole 0 24], .atom (.const (.bool false))], 1, []⟩), (31, .one ⟨.leaf (.agg [.whole 0 57, .one (.var 1)]), 2, []⟩), (32, .one ⟨.tup [.agg [.whole 0 24], .atom (.var 1)], 2, []⟩), (36, .one ⟨.leaf (.atom (.var 0)), 1, []⟩), (39, .one ⟨.leaf (.atom (.var 0)), 1, []⟩), (40, .one ⟨.leaf (.atom (.var 0)), 1, []⟩), (42, .two ⟨.leaf (.atom (.const (.bool true))), 0, []⟩ ⟨.leaf (.atom (.const (.bool false))), 0, []⟩), (47, .one ⟨.leaf (.atom (.var 0)), 1, []⟩), (48, .one ⟨.leaf (.atom (.var 0)), 1, []⟩), (49, .one ⟨.leaf (.atom (.var 0)), 1, []⟩), (50, .one ⟨.leaf (.atom (.var 0)), 1, []⟩), (51, .one ⟨.leaf (.atom (.var 0)), 1, []⟩), (53, .one ⟨.leaf (.atom (.var 0)), 1, []⟩), (54, .one ⟨.leaf (.atom (.var 0)), 1, []⟩), (55, .one ⟨.leaf (.atom (.var 0)), 1, []⟩), (56, .one ⟨.leaf (.atom (.var 0)), 1, []⟩), (57, .one ⟨.leaf (.atom (.var 0)), 1, []⟩), (60, .one ⟨.leaf (.atom (.var 0)), 1, []⟩), (61, .one ⟨.leaf (.atom (.var 0)), 1, []⟩), (62, .one ⟨.leaf (.atom (.var 0)), 1, []⟩), (63, .one ⟨.leaf (.atom (.var 0)), 1, []⟩), (65, .one ⟨.leaf (.atom (.var 0)), 1, []⟩), (44, .one ⟨.leaf (.atom (.var 0)), 1, []⟩), (66, .one ⟨.leaf (.atom (.var 0)), 1, []⟩), (67, .one ⟨.leaf (.atom (.var 0)), 1, []⟩), (68, .one ⟨.leaf (.atom (.var 0)), 1, []⟩), (69, .one ⟨.leaf (.atom (.var 0)), 1, []⟩), (70, .one ⟨.leaf (.atom (.var 0)), 1, []⟩), (71, .one ⟨.leaf (.atom (.var 0)), 1, []⟩), (72, .one ⟨.leaf (.atom (.var 0)), 1, []⟩), (73, .one ⟨.leaf (.atom (.var 0)), 1, []⟩), (75, .one ⟨.leaf (.agg [.whole 0 57, .one (.var 1)]), 2, []⟩), (76, .two ⟨.tup [.agg [.whole 0 24], .atom (.const (.bool true))], 1, []⟩ ⟨.tup [.agg [.whole 0 24], .atom (.const (.bool false))], 1, []⟩), (81, .one ⟨.leaf (.agg [.whole 0 24]), 1, []⟩), (82, .one ⟨.leaf (.agg [.whole 0 24]), 1, []⟩), (83, .one ⟨.leaf (.agg [.whole 0 24]), 1, []⟩), (84, .one ⟨.leaf (.agg [.whole 0 24]), 1, []⟩), (85, .two ⟨.leaf (.atom (.const (.bool true))), 0, []⟩ ⟨.leaf (.atom (.const (.bool false))), 0, []⟩), (86, .one ⟨.leaf (.atom (.var 0)), 1, []⟩), (88, .two ⟨.leaf (.atom (.const (.bool true))), 0, []⟩ ⟨.leaf (.atom (.const (.bool false))), 0, []⟩), (89, .one ⟨.leaf (.atom (.var 0)), 1, []⟩)], lps := [(0, [.slot 10 [.one], .slot 11 [.one], .blk 4 [.agg 57, .one]])], ords := [(12, [.pure 0, .pure 1, .quiet 2, .quiet 3, .quiet 4, .quiet 5, .quiet 6, .pure 7, .quiet 8, .quiet 9, .quiet 10, .quiet 11, .quiet 12, .pure 13]), (17, [.pure 0, .pure 1, .quiet 2, .quiet 3, .quiet 5, .call 4 [], .call 6 [], .quiet 7, .pure 8, .call 9 [], .quiet 10, .pure 11])] }
def t_hangs : Tree :=
  .new <|
  .new <|
  .calc2 (.binOp .neq 5 (.tmp 16) (.const (.int .u8 0)) 5) 4 [(16, .leaf (.atom (.cell 0 56)))] ([], []) (.leaf (.atom (.const (.bool true)))) 0 (
    .call2 20 [] ([], []) (.leaf (.atom (.const (.bool true)))) 0 [] (
      .ret ([], []) (.leaf (.atom (.const (.bool true))))) (.leaf (.atom (.const (.bool false)))) 0 [] <|
    .ret ([], []) (.leaf (.atom (.const (.bool false))))) (.leaf (.atom (.const (.bool false)))) 0 <|
  .calc2 (.binOp .neq 5 (.tmp 21) (.const (.int .u8 0)) 5) 4 [(21, .leaf (.atom (.cell 2 56)))] ([], []) (.leaf (.atom (.const (.bool true)))) 0 (
    .call2 20 [] ([], []) (.leaf (.atom (.const (.bool true)))) 0 [] (
      .ret ([], []) (.leaf (.atom (.const (.bool true))))) (.leaf (.atom (.const (.bool false)))) 0 [] <|
    .ret ([], []) (.leaf (.atom (.const (.bool false))))) (.leaf (.atom (.const (.bool false)))) 0 <|
  .call2 10 [.agg [.whole 0 57, .one (.var 1)]] ([], []) (.tup [.agg [.whole 4 24], .atom (.const (.bool true))]) 1 [] (
    .new <|
    .call 10 [.agg [.whole 2 57, .one (.var 3)]] ([], []) (.tup [.agg [.whole 5 24], .atom (.var 6)]) 2 [] <|
    .new <|
    .calc (.unOp .not 4 (.tmp 38)) 4 [(38, .leaf (.atom (.var 6)))] ([], []) (.leaf (.atom (.var 7))) 1 <|
    .ite (.var 7) (
      .ret ([], []) (.leaf (.atom (.const (.bool false))))) <|
    .new <|
    .loop [.atom (.const (.int .i64 0)), .atom (.const (.int .i64 0)), .agg [.lit [.int .u8 0, .int .u8 0, .int .u8 0, .int .u8 0, .int .u8 0, .int .u8 0, .int .u8 0, .int .u8 0, .int .u8 0, .int .u8 0, .int .u8 0, .int .u8 0, .int .u8 0, .int .u8 0, .int .u8 0, .int .u8 0, .int .u8 0, .int .u8 0, .int .u8 0, .int .u8 0, .int .u8 0, .int .u8 0, .int .u8 0, .int .u8 0, .int .u8 0, .int .u8 0, .int .u8 0, .int .u8 0, .int .u8 0, .int .u8 0, .int .u8 0, .int .u8 0, .int .u8 0, .int .u8 0, .int .u8 0, .int .u8 0, .int .u8 0, .int .u8 0, .int .u8 0, .int .u8 0, .int .u8 0, .int .u8 0, .int .u8 0, .int .u8 0, .int .u8 0, .int .u8 0, .int .u8 0, .int .u8 0, .int .u8 0, .int .u8 0, .int .u8 0, .int .u8 0, .int .u8 0, .int .u8 0, .int .u8 0, .int .u8 0, .int .u8 0]], .atom (.const (.int .i64 0))] [.one, .one, .agg 57, .one] <|
    .calc2 (.binOp .lss 3 (.tmp 41) (.const (.int .i64 57)) 3) 4 [(41, .leaf (.atom (.var 9)))] ([], []) (.leaf (.atom (.const (.bool true)))) 0 (
      .bound 9 57 <|
      .ldi [.whole 0 57, .one (.var 1)] 0 9 1 1 false <|
      .calc (.convert 5 3 (.tmp 49)) 3 [(49, .leaf (.atom (.var 12)))] ([], []) (.leaf (.atom (.var 13))) 1 <|
      .calc (.binOp .add 3 (.tmp 45) (.tmp 50) 3) 3 [(45, .leaf (.atom (.var 8))), (50, .leaf (.atom (.var 13)))] ([], []) (.leaf (.atom (.var 14))) 1 <|
      .bound 9 57 <|
      .ldi [.whole 2 57, .one (.var 3)] 0 9 1 1 false <|
      .calc (.convert 5 3 (.tmp 55)) 3 [(55, .leaf (.atom (.var 15)))] ([], []) (.leaf (.atom (.var 16))) 1 <|
      .calc (.binOp .add 3 (.tmp 51) (.tmp 56) 3) 3 [(51, .leaf (.atom (.var 14))), (56, .leaf (.atom (.var 16)))] ([], []) (.leaf (.atom (.var 17))) 1 <|
      .calc (.binOp .rem 3 (.tmp 59) (.const (.int .i64 256)) 3) 3 [(59, .leaf (.atom (.var 17)))] ([], []) (.leaf (.atom (.var 18))) 1 <|
      .calc (.convert 3 5 (.tmp 60)) 5 [(60, .leaf (.atom (.var 18)))] ([], []) (.leaf (.atom (.var 19))) 1 <|
      .bound 9 57 <|
      .sti [.whole 10 57, .one (.var 11)] 0 9 1 1 [.one (.var 19)] <|
      .calc (.binOp .quo 3 (.tmp 64) (.const (.int .i64 256)) 3) 3 [(64, .leaf (.atom (.var 17)))] ([], []) (.leaf (.atom (.var 21))) 1 <|
      .calc (.binOp .add 3 (.tmp 43) (.const (.int .i64 1)) 3) 3 [(43, .leaf (.atom (.var 9)))] ([], []) (.leaf (.atom (.var 22))) 1 <|
      .again 0 [.atom (.var 21), .atom (.var 22), .agg [.part 20 0 57], .atom (.cell 20 57)]) (.leaf (.atom (.const (.bool false)))) 0 <|
    .calc (.binOp .rem 3 (.tmp 67) (.const (.int .i64 4)) 3) 3 [(67, .leaf (.atom (.var 1)))] ([], []) (.leaf (.atom (.var 12))) 1 <|
    .calc (.binOp .rem 3 (.tmp 70) (.const (.int .i64 4)) 3) 3 [(70, .leaf (.atom (.var 3)))] ([], []) (.leaf (.atom (.var 13))) 1 <|
    .calc (.binOp .add 3 (.tmp 68) (.tmp 71) 3) 3 [(68, .leaf (.atom (.var 12))), (71, .leaf (.atom (.var 13)))] ([], []) (.leaf (.atom (.var 14))) 1 <|
    .call2 10 [.agg [.whole 10 57, .one (.var 14)]] ([], []) (.tup [.agg [.whole 15 24], .atom (.const (.bool true))]) 1 [] (
      .new <|
      .call 14 [.agg [.whole 4 24], .agg [.whole 5 24]] ([], []) (.leaf (.agg [.whole 16 24])) 1 [] <|
      .call2 16 [.agg [.whole 16 24], .agg [.whole 15 24]] ([], []) (.leaf (.atom (.const (.bool true)))) 0 [] (
        .call2 20 [] ([], []) (.leaf (.atom (.const (.bool true)))) 0 [] (
          .ret ([], []) (.leaf (.atom (.const (.bool true))))) (.leaf (.atom (.const (.bool false)))) 0 [] <|
        .ret ([], []) (.leaf (.atom (.const (.bool false))))) (.leaf (.atom (.const (.bool false)))) 0 [] <|
      .ret ([], []) (.leaf (.atom (.const (.bool false))))) (.tup [.agg [.whole 15 24], .atom (.const (.bool false))]) 1 [] <|
    .new <|
    .ret ([], []) (.leaf (.atom (.const (.bool false))))) (.tup [.agg [.whole 4 24], .atom (.const (.bool false))]) 1 [] <|
  .new <|
  .call 10 [.agg [.whole 2 57, .one (.var 3)]] ([], []) (.tup [.agg [.whole 5 24], .atom (.var 6)]) 2 [] <|
  .new <|
  .ret ([], []) (.leaf (.atom (.const (.bool false))))
theorem c_hangs : compF Try.prog Try.f4 o_hangs (Try.f4.body.getD .skip) (symIn [.agg [.whole 0 57, .one (.var 1)], .agg [.whole 2 57, .one (.var 3)]] Try.f4.ntmps 4) = some t_hangs := by kernel_rfl
theorem g_hangs : goodC Try.prog o_hangs.ords (Try.f4.body.getD .skip) = true := by kernel_rfl
set_option maxRecDepth 100000 in
set_option maxHeartbeats 4000000 in
theorem aw_hangs (b1 : List Int) (lb1 : b1.length = 57) (yb1 : By b1) (n1 : Int) (r1 : I64 n1) (b2 : List Int) (lb2 : b2.length = 57) (yb2 : By b2) (n2 : Int) (r2 : I64 n2) : AWp Try.prog tbl8l (fun a => a = .bool true) t_hangs [] [.ints .u8 b1, .int .i64 n1, .ints .u8 b2, .int .i64 n2] := by
  have m1 := And.intro lb1 yb1
  have m2 := And.intro lb2 yb2
  obtain ⟨hl1, hy1⟩ := id m1
  obtain ⟨hl2, hy2⟩ := id m2
  have t1 := tmod4 n1
  have t2 := tmod4 n2
  have hlen := addB_len b1 b2
  have hov := addB_over hy1 hy2 hl1 hl2
  have hby := addB_by b1 b2
  have i : Nat := 0
  repeat ((conv => whnf) <;> first | refine wI (by omega) ?_ | refine wB (by omega) ?_ | refine wR (by omega) ?_ | refine wQ (by omega) ?_ | refine wT ?_ | with_reducible refine And.intro rfl ?_ | with_reducible refine And.intro (by assumption) ?_ | refine And.intro (by omega) ?_ | with_reducible refine cTe (by assumption) ?_ | with_reducible refine cTt ?_ | with_reducible refine cNt ?_ | refine cTd (by omega) ?_ | refine cFd (by omega) ?_ | refine ⟨57, by rw [List.length_set]; exact hlen i, ?_⟩)
  by_cases z1 : b1.getD 56 0 = 0
  case neg =>
    refine cN (cFd z1 ?_)
    repeat ((conv => whnf) <;> first | refine wI (by omega) ?_ | refine wB (by omega) ?_ | refine wR (by omega) ?_ | refine wQ (by omega) ?_ | refine wT ?_ | with_reducible refine And.intro rfl ?_ | with_reducible refine And.intro (by assumption) ?_ | refine And.intro (by omega) ?_ | with_reducible refine cTe (by assumption) ?_ | with_reducible refine cTt ?_ | with_reducible refine cNt ?_ | refine cTd (by omega) ?_ | refine cFd (by omega) ?_ | refine ⟨57, by rw [List.length_set]; exact hlen i, ?_⟩)
  refine cN (cTd z1 ?_)
  repeat ((conv => whnf) <;> first | refine wI (by omega) ?_ | refine wB (by omega) ?_ | refine wR (by omega) ?_ | refine wQ (by omega) ?_ | refine wT ?_ | with_reducible refine And.intro rfl ?_ | with_reducible refine And.intro (by assumption) ?_ | refine And.intro (by omega) ?_ | with_reducible refine cTe (by assumption) ?_ | with_reducible refine cTt ?_ | with_reducible refine cNt ?_ | refine cTd (by omega) ?_ | refine cFd (by omega) ?_ | refine ⟨57, by rw [List.length_set]; exact hlen i, ?_⟩)
  by_cases z2 : b2.getD 56 0 = 0
  case neg =>
    refine cN (cFd z2 ?_)
    repeat ((conv => whnf) <;> first | refine wI (by omega) ?_ | refine wB (by omega) ?_ | refine wR (by omega) ?_ | refine wQ (by omega) ?_ | refine wT ?_ | with_reducible refine And.intro rfl ?_ | with_reducible refine And.intro (by assumption) ?_ | refine And.intro (by omega) ?_ | with_reducible refine cTe (by assumption) ?_ | with_reducible refine cTt ?_ | with_reducible refine cNt ?_ | refine cTd (by omega) ?_ | refine cFd (by omega) ?_ | refine ⟨57, by rw [List.length_set]; exact hlen i, ?_⟩)
  refine cN (cTd z2 ?_)
  repeat ((conv => whnf) <;> first | refine wI (by omega) ?_ | refine wB (by omega) ?_ | refine wR (by omega) ?_ | refine wQ (by omega) ?_ | refine wT ?_ | with_reducible refine And.intro rfl ?_ | with_reducible refine And.intro (by assumption) ?_ | refine And.intro (by omega) ?_ | with_reducible refine cTe (by assumption) ?_ | with_reducible refine cTt ?_ | with_reducible refine cNt ?_ | refine cTd (by omega) ?_ | refine cFd (by omega) ?_ | refine ⟨57, by rw [List.length_set]; exact hlen i, ?_⟩)
  (conv => whnf)
  clear i
  refine ⟨Nat, fun i zs => i ≤ 57 ∧ zs = [.int .i64 (addB b1 b2 i).1, .int .i64 (i : Int), .ints .u8 (addB b1 b2 i).2, .int .i64 0], fun i => 57 - i, 0, ?_, ?_⟩
  · (conv => whnf)
    exact ⟨[.int .i64 0, .int .i64 0, .ints .u8 (List.replicate 57 0), .int .i64 0], ⟨Sub.refl' _, Sub.refl' _, sub_lit rfl, Sub.refl' _, trivial⟩, by omega, rfl⟩
  rintro i _ ⟨hi, rfl⟩
  have ho := hov i hi
  by_cases hlt : i < 57
  · have ej : 0 + ((i : Int)).toNat * 1 = i := by omega
    have q1 := by_getD hy1 (i := 0 + ((i : Int)).toNat * 1) (by omega)
    have q2 := by_getD hy2 (i := 0 + ((i : Int)).toNat * 1) (by omega)
    have hln := hlen i
    repeat ((conv => whnf) <;> first | refine wI (by omega) ?_ | refine wB (by omega) ?_ | refine wR (by omega) ?_ | refine wQ (by omega) ?_ | refine wT ?_ | with_reducible refine And.intro rfl ?_ | with_reducible refine And.intro (by assumption) ?_ | refine And.intro (by omega) ?_ | with_reducible refine cTe (by assumption) ?_ | with_reducible refine cTt ?_ | with_reducible refine cNt ?_ | refine cTd (by omega) ?_ | refine cFd (by omega) ?_ | refine ⟨57, by rw [List.length_set]; exact hlen i, ?_⟩)
    (conv => whnf)
    exact ⟨_, Subs.refl' _, i + 1, ⟨by omega, zsH (by rw [ej]; rfl) (by omega) (by rw [ej]; rfl)⟩, by show 57 - (i + 1) < 57 - i; omega⟩
  · obtain rfl : i = 57 := by omega
    have m3 : (addB b1 b2 57).2.length = 57 ∧ By (addB b1 b2 57).2 := ⟨hlen 57, hby 57⟩
    have fin : (mulG (nval b1) BG + mulG (quart n1) TG) + (mulG (nval b2) BG + mulG (quart n2) TG) = mulG (nval (addB b1 b2 57).2) BG + mulG (quart (n1.tmod 4 + n2.tmod 4)) TG := hang_sum (c := 0) (b := 0) (addB_all hy1 hy2 hl1 hl2 z1 z2) (quart_add n1 n2)
    generalize addB b1 b2 57 = S at *
    have i : Nat := 0
    repeat ((conv => whnf) <;> first | refine wI (by omega) ?_ | refine wB (by omega) ?_ | refine wR (by omega) ?_ | refine wQ (by omega) ?_ | refine wT ?_ | with_reducible refine And.intro rfl ?_ | with_reducible refine And.intro (by assumption) ?_ | refine And.intro (by omega) ?_ | with_reducible refine cTe (by assumption) ?_ | with_reducible refine cTt ?_ | with_reducible refine cNt ?_ | refine cTd (by omega) ?_ | refine cFd (by omega) ?_ | refine ⟨57, by rw [List.length_set]; exact hlen i, ?_⟩)
set_option maxRecDepth 100000 in
theorem hangs_any (b1 : List Int) (lb1 : b1.length = 57) (yb1 : By b1) (n1 : Int) (r1 : I64 n1) (b2 : List Int) (lb2 : b2.length = 57) (yb2 : By b2) (n2 : Int) (r2 : I64 n2) (w : World) : Calls Try.prog 4 #[AG (ys b1 ++ [.int .i64 n1]), AG (ys b2 ++ [.int .i64 n2])] w (OutV (.bool true) w) :=
  law_tree tbl8l_ok o_hangs [.agg [.whole 0 57, .one (.var 1)], .agg [.whole 2 57, .one (.var 3)]] [AG (ys b1), .int .i64 n1, AG (ys b2), .int .i64 n2] [.ints .u8 b1, .int .i64 n1, .ints .u8 b2, .int .i64 n2] Try.func4 rfl c_hangs (by simp [Leaf.den, catS, Seg.den, Atom.den, cellsAt, AG, Value.cells]) (by intro x hx; simp only [List.mem_cons, List.not_mem_nil, or_false] at hx; rcases hx with rfl | rfl <;> first | exact ok_spot rfl lb1 rfl rfl | exact ok_spot rfl lb2 rfl rfl) ⟨_, _, rfl, arr_val b1, _, _, rfl, int_val n1, ⟨_, _, rfl, arr_val b2, _, _, rfl, int_val n2, rfl⟩⟩ g_hangs (aw_hangs b1 lb1 yb1 n1 r1 b2 lb2 yb2 n2 r2)
end Go.Proofs.Ytnglocmggmhldaa
