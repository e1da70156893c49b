/- Chapter 11: CombPowers -/
import Derived.Test.YtamgmkeoaaaliaaCma
import Derived.Test.YtamgmkeoaaaliaaCmd
import Derived.Test.YtamgmkeoaaaliaaCme
set_option linter.unusedSimpArgs false
set_option linter.unusedVariables false
namespace Go.Proofs.Ytamgmkeoaaaliaa
open Go.RowKit FdP FdP.Ch
def tcM : Tab := tb_awake11 :: tb_made11 :: tb_powers :: tb_pow11 :: tb_rptimes :: tb_same11 :: []
theorem tcM_ok : tcM.OK Try.prog := tab_cons tb_awake11_ok <| tab_cons tb_made11_ok <| tab_cons tb_powers_ok <| tab_cons tb_pow11_ok <| tab_cons tb_rptimes_ok <| tab_cons tb_same11_ok <| tab_nil _
def o_cp0 : Orc := { ans := [(14, .one ⟨.leaf (.agg [.one (.var 0), .one (.var 1)]), 2, []⟩), (15, .two ⟨.tup [.agg [.whole 0 24], .agg [.whole 1 48], .atom (.const (.bool true))], 2, []⟩ ⟨.tup [.agg [.whole 0 24], .agg [.whole 1 48], .atom (.const (.bool false))], 2, []⟩), (20, .one ⟨.leaf (.atom (.var 0)), 1, []⟩), (23, .two ⟨.leaf (.atom (.const (.bool true))), 0, []⟩ ⟨.leaf (.atom (.const (.bool false))), 0, []⟩), (26, .two ⟨.leaf (.atom (.const (.bool true))), 0, []⟩ ⟨.leaf (.atom (.const (.bool false))), 0, []⟩), (27, .one ⟨.leaf (.atom (.var 0)), 1, []⟩), (28, .one ⟨.leaf (.atom (.var 0)), 1, []⟩), (31, .two ⟨.leaf (.atom (.const (.bool true))), 0, []⟩ ⟨.leaf (.atom (.const (.bool false))), 0, []⟩), (34, .two ⟨.leaf (.atom (.const (.bool true))), 0, []⟩ ⟨.leaf (.atom (.const (.bool false))), 0, []⟩), (35, .one ⟨.leaf (.atom (.var 0)), 1, []⟩), (36, .one ⟨.leaf (.atom (.var 0)), 1, []⟩), (37, .two ⟨.leaf (.atom (.const (.bool true))), 0, []⟩ ⟨.leaf (.atom (.const (.bool false))), 0, []⟩), (39, .one ⟨.leaf (.agg [.whole 0 24]), 1, []⟩), (42, .one ⟨.tup [.atom (.var 0), .atom (.var 1)], 2, []⟩), (46, .two ⟨.leaf (.atom (.const (.bool true))), 0, []⟩ ⟨.leaf (.atom (.const (.bool false))), 0, []⟩), (49, .two ⟨.leaf (.atom (.const (.bool true))), 0, []⟩ ⟨.leaf (.atom (.const (.bool false))), 0, []⟩), (50, .one ⟨.leaf (.atom (.var 0)), 1, []⟩), (53, .two ⟨.leaf (.atom (.const (.bool true))), 0, []⟩ ⟨.leaf (.atom (.const (.bool false))), 0, []⟩), (54, .one ⟨.leaf (.atom (.var 0)), 1, []⟩), (57, .two ⟨.leaf (.atom (.const (.bool true))), 0, []⟩ ⟨.leaf (.atom (.const (.bool false))), 0, []⟩), (58, .one ⟨.leaf (.atom (.var 0)), 1, []⟩), (60, .one ⟨.leaf (.atom (.var 0)), 1, []⟩), (61, .two ⟨.leaf (.atom (.const (.bool true))), 0, []⟩ ⟨.leaf (.atom (.const (.bool false))), 0, []⟩), (64, .two ⟨.leaf (.atom (.const (.bool true))), 0, []⟩ ⟨.leaf (.atom (.const (.bool false))), 0, []⟩), (65, .one ⟨.leaf (.atom (.var 0)), 1, []⟩), (67, .two ⟨.leaf (.atom (.const (.bool true))), 0, []⟩ ⟨.leaf (.atom (.const (.bool false))), 0, []⟩), (68, .one ⟨.leaf (.atom (.var 0)), 1, []⟩), (70, .two ⟨.leaf (.atom (.const (.bool true))), 0, []⟩ ⟨.leaf (.atom (.const (.bool false))), 0, []⟩), (73, .one ⟨.leaf (.atom (.var 0)), 1, []⟩), (75, .two ⟨.leaf (.atom (.const (.bool true))), 0, []⟩ ⟨.leaf (.atom (.const (.bool false))), 0, []⟩), (76, .one ⟨.leaf (.atom (.var 0)), 1, []⟩), (79, .two ⟨.leaf (.atom (.const (.bool true))), 0, []⟩ ⟨.leaf (.atom (.const (.bool false))), 0, []⟩), (84, .one ⟨.leaf (.atom (.var 0)), 1, []⟩), (85, .one ⟨.leaf (.agg [.whole 0 24]), 1, []⟩), (88, .one ⟨.leaf (.atom (.var 0)), 1, []⟩), (89, .one ⟨.leaf (.atom (.var 0)), 1, []⟩), (90, .one ⟨.leaf (.agg [.whole 0 48]), 1, []⟩), (91, .one ⟨.leaf (.agg [.whole 0 48]), 1, []⟩), (92, .two ⟨.leaf (.atom (.const (.bool true))), 0, []⟩ ⟨.leaf (.atom (.const (.bool false))), 0, []⟩), (93, .one ⟨.leaf (.atom (.var 0)), 1, []⟩), (81, .one ⟨.leaf (.atom (.var 0)), 1, []⟩), (94, .two ⟨.leaf (.atom (.const (.bool true))), 0, []⟩ ⟨.leaf (.atom (.const (.bool false))), 0, []⟩)], lps := [(0, [.slot 12 [.one]])], ords := [(12, [.pure 0, .pure 1, .quiet 2, .quiet 3, .pure 4, .pure 5, .quiet 6, .quiet 8, .call 7 [], .call 9 [], .call 10 [], .quiet 11])] }
def o_cpA : Orc := { o_cp0 with ans := [(23, .one ⟨.leaf (.atom (.const (.bool false))), 0, []⟩), (31, .one ⟨.leaf (.atom (.const (.bool false))), 0, []⟩), (46, .one ⟨.leaf (.atom (.const (.bool false))), 0, []⟩), (49, .one ⟨.leaf (.atom (.const (.bool false))), 0, []⟩), (53, .one ⟨.leaf (.atom (.const (.bool false))), 0, []⟩), (57, .one ⟨.leaf (.atom (.const (.bool false))), 0, []⟩)] ++ o_cp0.ans }
def t_cpA : Tree :=
  .new <|
  .call2 18 [.agg [.one (.var 0), .one (.var 1)]] ([], []) (.tup [.agg [.whole 4 24], .agg [.whole 5 48], .atom (.const (.bool true))]) 2 [] (
    .new <|
    .new <|
    .calc (.binOp .gtr 3 (.tmp 22) (.const (.int .i64 6)) 3) 4 [(22, .leaf (.atom (.var 2)))] ([], []) (.leaf (.atom (.const (.bool false)))) 0 <|
    .calc (.binOp .gtr 3 (.tmp 30) (.const (.int .i64 40)) 3) 4 [(30, .leaf (.atom (.var 3)))] ([], []) (.leaf (.atom (.const (.bool false)))) 0 <|
    .call 19 [.agg [.whole 4 24], .atom (.var 2), .atom (.var 3)] ([], []) (.tup [.atom (.var 6), .atom (.var 7)]) 2 [] <|
    .calc (.binOp .lss 3 (.tmp 45) (.const (.int .i64 0)) 3) 4 [(45, .leaf (.atom (.var 2)))] ([], []) (.leaf (.atom (.const (.bool false)))) 0 <|
    .calc (.binOp .gtr 3 (.tmp 48) (.const (.int .i64 64)) 3) 4 [(48, .leaf (.atom (.var 2)))] ([], []) (.leaf (.atom (.const (.bool false)))) 0 <|
    .calc (.binOp .lss 3 (.tmp 52) (.const (.int .i64 0)) 3) 4 [(52, .leaf (.atom (.var 3)))] ([], []) (.leaf (.atom (.const (.bool false)))) 0 <|
    .calc (.binOp .gtr 3 (.tmp 56) (.const (.int .i64 512)) 3) 4 [(56, .leaf (.atom (.var 3)))] ([], []) (.leaf (.atom (.const (.bool false)))) 0 <|
    .calc2 (.binOp .neq 33 (.tmp 69) (.const (.int .i64 0)) 33) 4 [(69, .leaf (.atom (.var 7)))] ([], []) (.leaf (.atom (.const (.bool true)))) 0 (
      .ret ([], []) (.leaf (.atom (.const (.bool false))))) (.leaf (.atom (.const (.bool false)))) 0 <|
    .calc (.call { callee := .builtin .len, args := #[.tmp 72], argTypes := #[40] }) 3 [(72, .leaf (.atom (.var 6)))] ([], []) (.leaf (.atom (.var 8))) 1 <|
    .calc2 (.binOp .neq 3 (.tmp 73) (.tmp 74) 3) 4 [(73, .leaf (.atom (.var 8))), (74, .leaf (.atom (.var 2)))] ([], []) (.leaf (.atom (.const (.bool true)))) 0 (
      .ret ([], []) (.leaf (.atom (.const (.bool false))))) (.leaf (.atom (.const (.bool false)))) 0 <|
    .loop [.atom (.const (.int .i64 0))] [.one] <|
    .calc2 (.binOp .lss 3 (.tmp 77) (.tmp 78) 3) 4 [(77, .leaf (.atom (.var 9))), (78, .leaf (.atom (.var 2)))] ([], []) (.leaf (.atom (.const (.bool true)))) 0 (
      .calc (.indexAddr 40 (.tmp 82) (.tmp 83)) 0 [(82, .leaf (.atom (.var 6))), (83, .leaf (.atom (.var 9)))] ([], []) (.leaf (.atom (.var 10))) 1 <|
      .calc (.load 32 (.tmp 84)) 32 [(84, .leaf (.atom (.var 10)))] ([], []) (.leaf (.agg [.whole 11 24])) 1 <|
      .calc (.binOp .mul 3 (.tmp 86) (.tmp 87) 3) 3 [(86, .leaf (.atom (.var 9))), (87, .leaf (.atom (.var 3)))] ([], []) (.leaf (.atom (.var 12))) 1 <|
      .call 22 [.atom (.var 12)] ([], []) (.leaf (.atom (.var 13))) 1 [] <|
      .call 21 [.atom (.var 13), .agg [.whole 5 48]] ([], []) (.leaf (.agg [.whole 14 48])) 1 [] <|
      .call2 20 [.agg [.whole 11 24], .agg [.whole 14 48]] ([], []) (.leaf (.atom (.const (.bool true)))) 0 [] (
        .calc (.binOp .add 3 (.tmp 80) (.const (.int .i64 1)) 3) 3 [(80, .leaf (.atom (.var 9)))] ([], []) (.leaf (.atom (.var 15))) 1 <|
        .again 0 [.atom (.var 15)]) (.leaf (.atom (.const (.bool false)))) 0 [] <|
      .ret ([], []) (.leaf (.atom (.const (.bool false))))) (.leaf (.atom (.const (.bool false)))) 0 <|
    .call2 10 [] ([], []) (.leaf (.atom (.const (.bool true)))) 0 [] (
      .ret ([], []) (.leaf (.atom (.const (.bool true))))) (.leaf (.atom (.const (.bool false)))) 0 [] <|
    .ret ([], []) (.leaf (.atom (.const (.bool false))))) (.tup [.agg [.whole 4 24], .agg [.whole 5 48], .atom (.const (.bool false))]) 2 [] <|
  .new <|
  .new <|
  .call2 10 [] ([], []) (.leaf (.atom (.const (.bool true)))) 0 [] (
    .ret ([], []) (.leaf (.atom (.const (.bool true))))) (.leaf (.atom (.const (.bool false)))) 0 [] <|
  .ret ([], []) (.leaf (.atom (.const (.bool false))))
theorem c_cpA : compF Try.prog Try.f6 o_cpA (Try.f6.body.getD .skip) (symIn [.agg [.one (.var 0), .one (.var 1)], .atom (.var 2), .atom (.var 3)] Try.f6.ntmps 4) = some t_cpA := by kernel_rfl
theorem g_cpA : goodC Try.prog o_cpA.ords (Try.f6.body.getD .skip) = true := by kernel_rfl
set_option maxRecDepth 100000 in
set_option maxHeartbeats 1000000 in
theorem aw_cpA (b1 : List Int) (yb1 : By b1) (n1 : Int) (r1 : I64 n1) (n2 : Int) (r2 : I64 n2) (n3 : Int) (r3 : I64 n3) (h : n2 ≤ 6 ∧ n3 ≤ 40 ∧ 0 ≤ n2 ∧ 0 ≤ n3) : AWp Try.prog tcM (fun a => a = .bool true) t_cpA [] [.isl .u8 b1, .int .i64 n1, .int .i64 n2, .int .i64 n3] := by
  have d23 : decide (6 < n2) = false := decide_eq_false (by omega)
  have d31 : decide (40 < n3) = false := decide_eq_false (by omega)
  have d46 : decide (n2 < 0) = false := decide_eq_false (by omega)
  have d49 : decide (64 < n2) = false := decide_eq_false (by omega)
  have d53 : decide (n3 < 0) = false := decide_eq_false (by omega)
  have d57 : decide (512 < n3) = false := decide_eq_false (by omega)
  (conv => whnf)
  refine ⟨‹_›, fun hh => by repeat ((conv => whnf) <;> first | with_reducible first | refine And.intro rfl ?_ | rfl | refine cTt ?_ | refine cF (Eq.refl false) ?_ | refine cNt ?_ | refine cTd (by omega) ?_ | refine cFd (by omega) ?_), fun k1 k2 k3 => ?_⟩
  generalize sgG b1 n1 = g
  repeat ((conv => whnf) <;> first | with_reducible first | refine And.intro rfl ?_ | rfl | refine cTt ?_ | refine cF (Eq.refl false) ?_ | refine cNt ?_ | refine cTd (by omega) ?_ | refine cFd (by omega) ?_)
  (conv => whnf)
  rw [d23]
  (conv => whnf)
  rw [d31]
  repeat ((conv => whnf) <;> first | with_reducible first | refine wI (by omega) ?_ | refine wB (by omega) ?_ | refine wR (by omega) ?_ | refine wQ (by omega) ?_ | refine And.intro rfl ?_ | rfl | refine And.intro ‹_› ?_ | refine cTe ‹_› ?_ | refine cFe ‹_› ?_ | refine cN (cTe ‹_› ?_) | refine cN (cFe ‹_› ?_) | refine cTe rfl ?_ | refine cEq ‹_› ?_ | refine cTt ?_ | refine cNt ?_ | refine cF (Eq.refl false) ?_ | refine cN (cF (Eq.refl false) ?_) | refine cTd (by omega) ?_ | refine cFd (by omega) ?_ | refine cN (cTd (by omega) ?_) | refine cN (cFd (by omega) ?_) | refine And.intro (fun hh : Option.isSome none = true => by cases hh) ?_ | refine And.intro (by omega) ?_ | refine And.intro (Eq.refl true) ?_ | refine And.intro (Eq.refl (1 : Nat)) ?_)
  intro _ _ _ _
  repeat ((conv => whnf) <;> first | with_reducible first | refine And.intro rfl ?_ | rfl | refine cTt ?_ | refine cF (Eq.refl false) ?_ | refine cNt ?_ | refine cTd (by omega) ?_ | refine cFd (by omega) ?_)
  (conv => whnf)
  rw [d46]
  (conv => whnf)
  rw [d49]
  (conv => whnf)
  rw [d53]
  (conv => whnf)
  rw [d57]
  obtain ⟨A, rfl⟩ := Int.eq_ofNat_of_zero_le (show 0 ≤ n3 by omega)
  have hl := powL_len g (A : Int).toNat n2.toNat
  have hpl := pts_len (powL g (A : Int).toNat n2.toNat)
  have hpg := powL_get g (A : Int).toNat n2.toNat
  generalize powL g (A : Int).toNat n2.toNat = L at *
  repeat ((conv => whnf) <;> first | with_reducible first | refine wI (by omega) ?_ | refine wB (by omega) ?_ | refine wR (by omega) ?_ | refine wQ (by omega) ?_ | refine And.intro rfl ?_ | rfl | refine And.intro ‹_› ?_ | refine cTe ‹_› ?_ | refine cFe ‹_› ?_ | refine cN (cTe ‹_› ?_) | refine cN (cFe ‹_› ?_) | refine cTe rfl ?_ | refine cEq ‹_› ?_ | refine cTt ?_ | refine cNt ?_ | refine cF (Eq.refl false) ?_ | refine cN (cF (Eq.refl false) ?_) | refine cTd (by omega) ?_ | refine cFd (by omega) ?_ | refine cN (cTd (by omega) ?_) | refine cN (cFd (by omega) ?_) | refine And.intro (fun hh : Option.isSome none = true => by cases hh) ?_ | refine And.intro (by omega) ?_ | refine And.intro (Eq.refl true) ?_ | refine And.intro (Eq.refl (1 : Nat)) ?_)
  refine ⟨Nat, fun i zs => i ≤ n2.toNat ∧ zs = [.int .i64 (i : Int)], fun i => n2.toNat - i, 0, ?_, ?_⟩
  · (conv => whnf)
    exact ⟨_, Subs.refl' _, Nat.zero_le _, rfl⟩
  rintro i _ ⟨hi, rfl⟩
  by_cases hlt : (i : Int) < n2
  · have m1 : i * A ≤ 6 * 40 := Nat.mul_le_mul (by omega) (by omega)
    have m2 := Int.natCast_mul i A
    have hM : ((i : Int) * (A : Int)).toNat = A * i := by rw [← m2, Nat.mul_comm]; rfl
    have hg : (L.map ptA).getD (i : Int).toNat .any = ptA (L.getD i 0) := pts_getA (by omega)
    have hgi := hpg i (by omega)
    have mp : (pwB ((i : Int) * (A : Int)).toNat).length ≤ 1000 ∧ By (pwB ((i : Int) * (A : Int)).toNat) := ⟨by rw [pwB_len]; omega, pwB_by _⟩
    repeat ((conv => whnf) <;> first | with_reducible first | refine wI (by omega) ?_ | refine wB (by omega) ?_ | refine wR (by omega) ?_ | refine wQ (by omega) ?_ | refine And.intro rfl ?_ | rfl | refine And.intro ‹_› ?_ | refine cTe ‹_› ?_ | refine cFe ‹_› ?_ | refine cN (cTe ‹_› ?_) | refine cN (cFe ‹_› ?_) | refine cTe rfl ?_ | refine cEq ‹_› ?_ | refine cTt ?_ | refine cNt ?_ | refine cF (Eq.refl false) ?_ | refine cN (cF (Eq.refl false) ?_) | refine cTd (by omega) ?_ | refine cFd (by omega) ?_ | refine cN (cTd (by omega) ?_) | refine cN (cFd (by omega) ?_) | refine And.intro (fun hh : Option.isSome none = true => by cases hh) ?_ | refine And.intro (by omega) ?_ | refine And.intro (Eq.refl true) ?_ | refine And.intro (Eq.refl (1 : Nat)) ?_)
    refine ⟨ptA (L.getD i 0), hg, ?_⟩
    repeat ((conv => whnf) <;> first | with_reducible first | refine wI (by omega) ?_ | refine wB (by omega) ?_ | refine wR (by omega) ?_ | refine wQ (by omega) ?_ | refine And.intro rfl ?_ | rfl | refine And.intro ‹_› ?_ | refine cTe ‹_› ?_ | refine cFe ‹_› ?_ | refine cN (cTe ‹_› ?_) | refine cN (cFe ‹_› ?_) | refine cTe rfl ?_ | refine cEq ‹_› ?_ | refine cTt ?_ | refine cNt ?_ | refine cF (Eq.refl false) ?_ | refine cN (cF (Eq.refl false) ?_) | refine cTd (by omega) ?_ | refine cFd (by omega) ?_ | refine cN (cTd (by omega) ?_) | refine cN (cFd (by omega) ?_) | refine And.intro (fun hh : Option.isSome none = true => by cases hh) ?_ | refine And.intro (by omega) ?_ | refine And.intro (Eq.refl true) ?_ | refine And.intro (Eq.refl (1 : Nat)) ?_)
    refine ⟨fun _ => ?_, fun hh => absurd ?_ hh⟩
    · repeat ((conv => whnf) <;> first | with_reducible first | refine wI (by omega) ?_ | refine wB (by omega) ?_ | refine wR (by omega) ?_ | refine wQ (by omega) ?_ | refine And.intro rfl ?_ | rfl | refine And.intro ‹_› ?_ | refine cTe ‹_› ?_ | refine cFe ‹_› ?_ | refine cN (cTe ‹_› ?_) | refine cN (cFe ‹_› ?_) | refine cTe rfl ?_ | refine cEq ‹_› ?_ | refine cTt ?_ | refine cNt ?_ | refine cF (Eq.refl false) ?_ | refine cN (cF (Eq.refl false) ?_) | refine cTd (by omega) ?_ | refine cFd (by omega) ?_ | refine cN (cTd (by omega) ?_) | refine cN (cFd (by omega) ?_) | refine And.intro (fun hh : Option.isSome none = true => by cases hh) ?_ | refine And.intro (by omega) ?_ | refine And.intro (Eq.refl true) ?_ | refine And.intro (Eq.refl (1 : Nat)) ?_)
      (conv => whnf)
      exact ⟨_, Subs.refl' _, i + 1, ⟨by omega, by rw [show ((i + 1 : Nat) : Int) = (i : Int) + 1 by omega]⟩, by show n2.toNat - (i + 1) < n2.toNat - i; omega⟩
    · rw [hgi, pwB_nval, hM]; rfl
  · repeat ((conv => whnf) <;> first | with_reducible first | refine wI (by omega) ?_ | refine wB (by omega) ?_ | refine wR (by omega) ?_ | refine wQ (by omega) ?_ | refine And.intro rfl ?_ | rfl | refine And.intro ‹_› ?_ | refine cTe ‹_› ?_ | refine cFe ‹_› ?_ | refine cN (cTe ‹_› ?_) | refine cN (cFe ‹_› ?_) | refine cTe rfl ?_ | refine cEq ‹_› ?_ | refine cTt ?_ | refine cNt ?_ | refine cF (Eq.refl false) ?_ | refine cN (cF (Eq.refl false) ?_) | refine cTd (by omega) ?_ | refine cFd (by omega) ?_ | refine cN (cTd (by omega) ?_) | refine cN (cFd (by omega) ?_) | refine And.intro (fun hh : Option.isSome none = true => by cases hh) ?_ | refine And.intro (by omega) ?_ | refine And.intro (Eq.refl true) ?_ | refine And.intro (Eq.refl (1 : Nat)) ?_)
set_option maxRecDepth 100000 in
theorem cpA_any (b1 : List Int) (yb1 : By b1) (v1 : Value) (n1 : Int) (r1 : I64 n1) (n2 : Int) (r2 : I64 n2) (n3 : Int) (r3 : I64 n3) (h : n2 ≤ 6 ∧ n3 ≤ 40 ∧ 0 ≤ n2 ∧ 0 ≤ n3) (w : World) (s1 : Bv w v1 b1) : Calls Try.prog 6 #[AG [v1, .int .i64 n1], .int .i64 n2, .int .i64 n3] w (OutV (.bool true) w) :=
  law_tree tcM_ok o_cpA [.agg [.one (.var 0), .one (.var 1)], .atom (.var 2), .atom (.var 3)] [v1, .int .i64 n1, .int .i64 n2, .int .i64 n3] [.isl .u8 b1, .int .i64 n1, .int .i64 n2, .int .i64 n3] Try.func6 rfl c_cpA (by simp [Leaf.den, catS, Seg.den, Atom.den, cellsAt, AG, Value.cells]) (by intro x hx; simp only [List.mem_cons, List.not_mem_nil, or_false] at hx; rcases hx with rfl | rfl | rfl <;> first | exact ok_two rfl (bv_one s1) rfl rfl | exact ok_one rfl rfl | exact ok_one rfl rfl) ⟨_, _, rfl, bv_val s1, _, _, rfl, int_val n1, ⟨_, _, rfl, int_val n2, ⟨_, _, rfl, int_val n3, rfl⟩⟩⟩ g_cpA (aw_cpA b1 yb1 n1 r1 n2 r2 n3 r3 h)
def o_cpA1 : Orc := { o_cp0 with ans := [(23, .one ⟨.leaf (.atom (.const (.bool false))), 0, []⟩), (31, .one ⟨.leaf (.atom (.const (.bool false))), 0, []⟩), (46, .one ⟨.leaf (.atom (.const (.bool true))), 0, []⟩)] ++ o_cp0.ans }
def t_cpA1 : Tree :=
  .new <|
  .call2 18 [.agg [.one (.var 0), .one (.var 1)]] ([], []) (.tup [.agg [.whole 4 24], .agg [.whole 5 48], .atom (.const (.bool true))]) 2 [] (
    .new <|
    .new <|
    .calc (.binOp .gtr 3 (.tmp 22) (.const (.int .i64 6)) 3) 4 [(22, .leaf (.atom (.var 2)))] ([], []) (.leaf (.atom (.const (.bool false)))) 0 <|
    .calc (.binOp .gtr 3 (.tmp 30) (.const (.int .i64 40)) 3) 4 [(30, .leaf (.atom (.var 3)))] ([], []) (.leaf (.atom (.const (.bool false)))) 0 <|
    .call 19 [.agg [.whole 4 24], .atom (.var 2), .atom (.var 3)] ([], []) (.tup [.atom (.var 6), .atom (.var 7)]) 2 [] <|
    .calc (.binOp .lss 3 (.tmp 45) (.const (.int .i64 0)) 3) 4 [(45, .leaf (.atom (.var 2)))] ([], []) (.leaf (.atom (.const (.bool true)))) 0 <|
    .calc (.call { callee := .builtin .len, args := #[.tmp 59], argTypes := #[40] }) 3 [(59, .leaf (.atom (.var 6)))] ([], []) (.leaf (.atom (.var 8))) 1 <|
    .calc2 (.binOp .eql 3 (.tmp 60) (.const (.int .i64 0)) 3) 4 [(60, .leaf (.atom (.var 8)))] ([], []) (.leaf (.atom (.const (.bool true)))) 0 (
      .calc2 (.binOp .eql 33 (.tmp 63) (.const (.int .i64 10)) 33) 4 [(63, .leaf (.atom (.var 7)))] ([], []) (.leaf (.atom (.const (.bool true)))) 0 (
        .call2 10 [] ([], []) (.leaf (.atom (.const (.bool true)))) 0 [] (
          .ret ([], []) (.leaf (.atom (.const (.bool true))))) (.leaf (.atom (.const (.bool false)))) 0 [] <|
        .ret ([], []) (.leaf (.atom (.const (.bool false))))) (.leaf (.atom (.const (.bool false)))) 0 <|
      .ret ([], []) (.leaf (.atom (.const (.bool false))))) (.leaf (.atom (.const (.bool false)))) 0 <|
    .ret ([], []) (.leaf (.atom (.const (.bool false))))) (.tup [.agg [.whole 4 24], .agg [.whole 5 48], .atom (.const (.bool false))]) 2 [] <|
  .new <|
  .new <|
  .call2 10 [] ([], []) (.leaf (.atom (.const (.bool true)))) 0 [] (
    .ret ([], []) (.leaf (.atom (.const (.bool true))))) (.leaf (.atom (.const (.bool false)))) 0 [] <|
  .ret ([], []) (.leaf (.atom (.const (.bool false))))
theorem c_cpA1 : compF Try.prog Try.f6 o_cpA1 (Try.f6.body.getD .skip) (symIn [.agg [.one (.var 0), .one (.var 1)], .atom (.var 2), .atom (.var 3)] Try.f6.ntmps 4) = some t_cpA1 := by kernel_rfl
theorem g_cpA1 : goodC Try.prog o_cpA1.ords (Try.f6.body.getD .skip) = true := by kernel_rfl
set_option maxRecDepth 100000 in
set_option maxHeartbeats 1000000 in
theorem aw_cpA1 (b1 : List Int) (yb1 : By b1) (n1 : Int) (r1 : I64 n1) (n2 : Int) (r2 : I64 n2) (n3 : Int) (r3 : I64 n3) (h : n2 < 0 ∧ n3 ≤ 40) : AWp Try.prog tcM (fun a => a = .bool true) t_cpA1 [] [.isl .u8 b1, .int .i64 n1, .int .i64 n2, .int .i64 n3] := by
  have d23 : decide (6 < n2) = false := decide_eq_false (by omega)
  have d31 : decide (40 < n3) = false := decide_eq_false (by omega)
  have d46 : decide (n2 < 0) = true := decide_eq_true (by omega)
  (conv => whnf)
  refine ⟨‹_›, fun hh => by repeat ((conv => whnf) <;> first | with_reducible first | refine And.intro rfl ?_ | rfl | refine cTt ?_ | refine cF (Eq.refl false) ?_ | refine cNt ?_ | refine cTd (by omega) ?_ | refine cFd (by omega) ?_), fun k1 k2 k3 => ?_⟩
  generalize sgG b1 n1 = g
  repeat ((conv => whnf) <;> first | with_reducible first | refine And.intro rfl ?_ | rfl | refine cTt ?_ | refine cF (Eq.refl false) ?_ | refine cNt ?_ | refine cTd (by omega) ?_ | refine cFd (by omega) ?_)
  (conv => whnf)
  rw [d23]
  (conv => whnf)
  rw [d31]
  (conv => whnf)
  refine ⟨fun _ => ?_, fun _ _ _ _ => by omega⟩
  repeat ((conv => whnf) <;> first | with_reducible first | refine And.intro rfl ?_ | rfl | refine cTt ?_ | refine cF (Eq.refl false) ?_ | refine cNt ?_ | refine cTd (by omega) ?_ | refine cFd (by omega) ?_)
  (conv => whnf)
  rw [d46]
  repeat ((conv => whnf) <;> first | with_reducible first | refine And.intro rfl ?_ | rfl | refine cTt ?_ | refine cF (Eq.refl false) ?_ | refine cNt ?_ | refine cTd (by omega) ?_ | refine cFd (by omega) ?_)
set_option maxRecDepth 100000 in
theorem cpA1_any (b1 : List Int) (yb1 : By b1) (v1 : Value) (n1 : Int) (r1 : I64 n1) (n2 : Int) (r2 : I64 n2) (n3 : Int) (r3 : I64 n3) (h : n2 < 0 ∧ n3 ≤ 40) (w : World) (s1 : Bv w v1 b1) : Calls Try.prog 6 #[AG [v1, .int .i64 n1], .int .i64 n2, .int .i64 n3] w (OutV (.bool true) w) :=
  law_tree tcM_ok o_cpA1 [.agg [.one (.var 0), .one (.var 1)], .atom (.var 2), .atom (.var 3)] [v1, .int .i64 n1, .int .i64 n2, .int .i64 n3] [.isl .u8 b1, .int .i64 n1, .int .i64 n2, .int .i64 n3] Try.func6 rfl c_cpA1 (by simp [Leaf.den, catS, Seg.den, Atom.den, cellsAt, AG, Value.cells]) (by intro x hx; simp only [List.mem_cons, List.not_mem_nil, or_false] at hx; rcases hx with rfl | rfl | rfl <;> first | exact ok_two rfl (bv_one s1) rfl rfl | exact ok_one rfl rfl | exact ok_one rfl rfl) ⟨_, _, rfl, bv_val s1, _, _, rfl, int_val n1, ⟨_, _, rfl, int_val n2, ⟨_, _, rfl, int_val n3, rfl⟩⟩⟩ g_cpA1 (aw_cpA1 b1 yb1 n1 r1 n2 r2 n3 r3 h)
def o_cpA2 : Orc := { o_cp0 with ans := [(23, .one ⟨.leaf (.atom (.const (.bool false))), 0, []⟩), (31, .one ⟨.leaf (.atom (.const (.bool false))), 0, []⟩), (46, .one ⟨.leaf (.atom (.const (.bool false))), 0, []⟩), (49, .one ⟨.leaf (.atom (.const (.bool false))), 0, []⟩), (53, .one ⟨.leaf (.atom (.const (.bool true))), 0, []⟩)] ++ o_cp0.ans }
def t_cpA2 : Tree :=
  .new <|
  .call2 18 [.agg [.one (.var 0), .one (.var 1)]] ([], []) (.tup [.agg [.whole 4 24], .agg [.whole 5 48], .atom (.const (.bool true))]) 2 [] (
    .new <|
    .new <|
    .calc (.binOp .gtr 3 (.tmp 22) (.const (.int .i64 6)) 3) 4 [(22, .leaf (.atom (.var 2)))] ([], []) (.leaf (.atom (.const (.bool false)))) 0 <|
    .calc (.binOp .gtr 3 (.tmp 30) (.const (.int .i64 40)) 3) 4 [(30, .leaf (.atom (.var 3)))] ([], []) (.leaf (.atom (.const (.bool false)))) 0 <|
    .call 19 [.agg [.whole 4 24], .atom (.var 2), .atom (.var 3)] ([], []) (.tup [.atom (.var 6), .atom (.var 7)]) 2 [] <|
    .calc (.binOp .lss 3 (.tmp 45) (.const (.int .i64 0)) 3) 4 [(45, .leaf (.atom (.var 2)))] ([], []) (.leaf (.atom (.const (.bool false)))) 0 <|
    .calc (.binOp .gtr 3 (.tmp 48) (.const (.int .i64 64)) 3) 4 [(48, .leaf (.atom (.var 2)))] ([], []) (.leaf (.atom (.const (.bool false)))) 0 <|
    .calc (.binOp .lss 3 (.tmp 52) (.const (.int .i64 0)) 3) 4 [(52, .leaf (.atom (.var 3)))] ([], []) (.leaf (.atom (.const (.bool true)))) 0 <|
    .calc (.call { callee := .builtin .len, args := #[.tmp 59], argTypes := #[40] }) 3 [(59, .leaf (.atom (.var 6)))] ([], []) (.leaf (.atom (.var 8))) 1 <|
    .calc2 (.binOp .eql 3 (.tmp 60) (.const (.int .i64 0)) 3) 4 [(60, .leaf (.atom (.var 8)))] ([], []) (.leaf (.atom (.const (.bool true)))) 0 (
      .calc2 (.binOp .eql 33 (.tmp 63) (.const (.int .i64 10)) 33) 4 [(63, .leaf (.atom (.var 7)))] ([], []) (.leaf (.atom (.const (.bool true)))) 0 (
        .call2 10 [] ([], []) (.leaf (.atom (.const (.bool true)))) 0 [] (
          .ret ([], []) (.leaf (.atom (.const (.bool true))))) (.leaf (.atom (.const (.bool false)))) 0 [] <|
        .ret ([], []) (.leaf (.atom (.const (.bool false))))) (.leaf (.atom (.const (.bool false)))) 0 <|
      .ret ([], []) (.leaf (.atom (.const (.bool false))))) (.leaf (.atom (.const (.bool false)))) 0 <|
    .ret ([], []) (.leaf (.atom (.const (.bool false))))) (.tup [.agg [.whole 4 24], .agg [.whole 5 48], .atom (.const (.bool false))]) 2 [] <|
  .new <|
  .new <|
  .call2 10 [] ([], []) (.leaf (.atom (.const (.bool true)))) 0 [] (
    .ret ([], []) (.leaf (.atom (.const (.bool true))))) (.leaf (.atom (.const (.bool false)))) 0 [] <|
  .ret ([], []) (.leaf (.atom (.const (.bool false))))
theorem c_cpA2 : compF Try.prog Try.f6 o_cpA2 (Try.f6.body.getD .skip) (symIn [.agg [.one (.var 0), .one (.var 1)], .atom (.var 2), .atom (.var 3)] Try.f6.ntmps 4) = some t_cpA2 := by kernel_rfl
theorem g_cpA2 : goodC Try.prog o_cpA2.ords (Try.f6.body.getD .skip) = true := by kernel_rfl
set_option maxRecDepth 100000 in
set_option maxHeartbeats 1000000 in
theorem aw_cpA2 (b1 : List Int) (yb1 : By b1) (n1 : Int) (r1 : I64 n1) (n2 : Int) (r2 : I64 n2) (n3 : Int) (r3 : I64 n3) (h : 0 ≤ n2 ∧ n2 ≤ 6 ∧ n3 < 0) : AWp Try.prog tcM (fun a => a = .bool true) t_cpA2 [] [.isl .u8 b1, .int .i64 n1, .int .i64 n2, .int .i64 n3] := by
  have d23 : decide (6 < n2) = false := decide_eq_false (by omega)
  have d31 : decide (40 < n3) = false := decide_eq_false (by omega)
  have d46 : decide (n2 < 0) = false := decide_eq_false (by omega)
  have d49 : decide (64 < n2) = false := decide_eq_false (by omega)
  have d53 : decide (n3 < 0) = true := decide_eq_true (by omega)
  (conv => whnf)
  refine ⟨‹_›, fun hh => by repeat ((conv => whnf) <;> first | with_reducible first | refine And.intro rfl ?_ | rfl | refine cTt ?_ | refine cF (Eq.refl false) ?_ | refine cNt ?_ | refine cTd (by omega) ?_ | refine cFd (by omega) ?_), fun k1 k2 k3 => ?_⟩
  generalize sgG b1 n1 = g
  repeat ((conv => whnf) <;> first | with_reducible first | refine And.intro rfl ?_ | rfl | refine cTt ?_ | refine cF (Eq.refl false) ?_ | refine cNt ?_ | refine cTd (by omega) ?_ | refine cFd (by omega) ?_)
  (conv => whnf)
  rw [d23]
  (conv => whnf)
  rw [d31]
  (conv => whnf)
  refine ⟨fun _ => ?_, fun _ _ _ _ => by omega⟩
  repeat ((conv => whnf) <;> first | with_reducible first | refine And.intro rfl ?_ | rfl | refine cTt ?_ | refine cF (Eq.refl false) ?_ | refine cNt ?_ | refine cTd (by omega) ?_ | refine cFd (by omega) ?_)
  (conv => whnf)
  rw [d46]
  (conv => whnf)
  rw [d49]
  (conv => whnf)
  rw [d53]
  repeat ((conv => whnf) <;> first | with_reducible first | refine And.intro rfl ?_ | rfl | refine cTt ?_ | refine cF (Eq.refl false) ?_ | refine cNt ?_ | refine cTd (by omega) ?_ | refine cFd (by omega) ?_)
set_option maxRecDepth 100000 in
theorem cpA2_any (b1 : List Int) (yb1 : By b1) (v1 : Value) (n1 : Int) (r1 : I64 n1) (n2 : Int) (r2 : I64 n2) (n3 : Int) (r3 : I64 n3) (h : 0 ≤ n2 ∧ n2 ≤ 6 ∧ n3 < 0) (w : World) (s1 : Bv w v1 b1) : Calls Try.prog 6 #[AG [v1, .int .i64 n1], .int .i64 n2, .int .i64 n3] w (OutV (.bool true) w) :=
  law_tree tcM_ok o_cpA2 [.agg [.one (.var 0), .one (.var 1)], .atom (.var 2), .atom (.var 3)] [v1, .int .i64 n1, .int .i64 n2, .int .i64 n3] [.isl .u8 b1, .int .i64 n1, .int .i64 n2, .int .i64 n3] Try.func6 rfl c_cpA2 (by simp [Leaf.den, catS, Seg.den, Atom.den, cellsAt, AG, Value.cells]) (by intro x hx; simp only [List.mem_cons, List.not_mem_nil, or_false] at hx; rcases hx with rfl | rfl | rfl <;> first | exact ok_two rfl (bv_one s1) rfl rfl | exact ok_one rfl rfl | exact ok_one rfl rfl) ⟨_, _, rfl, bv_val s1, _, _, rfl, int_val n1, ⟨_, _, rfl, int_val n2, ⟨_, _, rfl, int_val n3, rfl⟩⟩⟩ g_cpA2 (aw_cpA2 b1 yb1 n1 r1 n2 r2 n3 r3 h)
def o_cpE : Orc := { o_cp0 with ans := [(23, .one ⟨.leaf (.atom (.const (.bool true))), 0, []⟩), (26, .one ⟨.leaf (.atom (.const (.bool true))), 0, []⟩)] ++ o_cp0.ans }
def t_cpE : Tree :=
  .new <|
  .call2 18 [.agg [.one (.var 0), .one (.var 1)]] ([], []) (.tup [.agg [.whole 4 24], .agg [.whole 5 48], .atom (.const (.bool true))]) 2 [] (
    .new <|
    .new <|
    .calc (.binOp .gtr 3 (.tmp 22) (.const (.int .i64 6)) 3) 4 [(22, .leaf (.atom (.var 2)))] ([], []) (.leaf (.atom (.const (.bool true)))) 0 <|
    .calc (.binOp .leq 3 (.tmp 25) (.const (.int .i64 64)) 3) 4 [(25, .leaf (.atom (.var 2)))] ([], []) (.leaf (.atom (.const (.bool true)))) 0 <|
    .call2 10 [] ([], []) (.leaf (.atom (.const (.bool true)))) 0 [] (
      .ret ([], []) (.leaf (.atom (.const (.bool true))))) (.leaf (.atom (.const (.bool false)))) 0 [] <|
    .ret ([], []) (.leaf (.atom (.const (.bool false))))) (.tup [.agg [.whole 4 24], .agg [.whole 5 48], .atom (.const (.bool false))]) 2 [] <|
  .new <|
  .new <|
  .call2 10 [] ([], []) (.leaf (.atom (.const (.bool true)))) 0 [] (
    .ret ([], []) (.leaf (.atom (.const (.bool true))))) (.leaf (.atom (.const (.bool false)))) 0 [] <|
  .ret ([], []) (.leaf (.atom (.const (.bool false))))
theorem c_cpE : compF Try.prog Try.f6 o_cpE (Try.f6.body.getD .skip) (symIn [.agg [.one (.var 0), .one (.var 1)], .atom (.var 2), .atom (.var 3)] Try.f6.ntmps 4) = some t_cpE := by kernel_rfl
theorem g_cpE : goodC Try.prog o_cpE.ords (Try.f6.body.getD .skip) = true := by kernel_rfl
set_option maxRecDepth 100000 in
set_option maxHeartbeats 1000000 in
theorem aw_cpE (b1 : List Int) (yb1 : By b1) (n1 : Int) (r1 : I64 n1) (n2 : Int) (r2 : I64 n2) (n3 : Int) (r3 : I64 n3) (h : 6 < n2 ∧ n2 ≤ 64) : AWp Try.prog tcM (fun a => a = .bool true) t_cpE [] [.isl .u8 b1, .int .i64 n1, .int .i64 n2, .int .i64 n3] := by
  have d23 : decide (6 < n2) = true := decide_eq_true (by omega)
  have d26 : decide (n2 ≤ 64) = true := decide_eq_true (by omega)
  (conv => whnf)
  refine ⟨‹_›, fun hh => by repeat ((conv => whnf) <;> first | with_reducible first | refine And.intro rfl ?_ | rfl | refine cTt ?_ | refine cF (Eq.refl false) ?_ | refine cNt ?_ | refine cTd (by omega) ?_ | refine cFd (by omega) ?_), fun k1 k2 k3 => ?_⟩
  generalize sgG b1 n1 = g
  repeat ((conv => whnf) <;> first | with_reducible first | refine And.intro rfl ?_ | rfl | refine cTt ?_ | refine cF (Eq.refl false) ?_ | refine cNt ?_ | refine cTd (by omega) ?_ | refine cFd (by omega) ?_)
  (conv => whnf)
  rw [d23]
  (conv => whnf)
  rw [d26]
  repeat ((conv => whnf) <;> first | with_reducible first | refine And.intro rfl ?_ | rfl | refine cTt ?_ | refine cF (Eq.refl false) ?_ | refine cNt ?_ | refine cTd (by omega) ?_ | refine cFd (by omega) ?_)
set_option maxRecDepth 100000 in
theorem cpE_any (b1 : List Int) (yb1 : By b1) (v1 : Value) (n1 : Int) (r1 : I64 n1) (n2 : Int) (r2 : I64 n2) (n3 : Int) (r3 : I64 n3) (h : 6 < n2 ∧ n2 ≤ 64) (w : World) (s1 : Bv w v1 b1) : Calls Try.prog 6 #[AG [v1, .int .i64 n1], .int .i64 n2, .int .i64 n3] w (OutV (.bool true) w) :=
  law_tree tcM_ok o_cpE [.agg [.one (.var 0), .one (.var 1)], .atom (.var 2), .atom (.var 3)] [v1, .int .i64 n1, .int .i64 n2, .int .i64 n3] [.isl .u8 b1, .int .i64 n1, .int .i64 n2, .int .i64 n3] Try.func6 rfl c_cpE (by simp [Leaf.den, catS, Seg.den, Atom.den, cellsAt, AG, Value.cells]) (by intro x hx; simp only [List.mem_cons, List.not_mem_nil, or_false] at hx; rcases hx with rfl | rfl | rfl <;> first | exact ok_two rfl (bv_one s1) rfl rfl | exact ok_one rfl rfl | exact ok_one rfl rfl) ⟨_, _, rfl, bv_val s1, _, _, rfl, int_val n1, ⟨_, _, rfl, int_val n2, ⟨_, _, rfl, int_val n3, rfl⟩⟩⟩ g_cpE (aw_cpE b1 yb1 n1 r1 n2 r2 n3 r3 h)
def o_cpG : Orc := { o_cp0 with ans := [(23, .one ⟨.leaf (.atom (.const (.bool false))), 0, []⟩), (31, .one ⟨.leaf (.atom (.const (.bool true))), 0, []⟩), (34, .one ⟨.leaf (.atom (.const (.bool true))), 0, []⟩)] ++ o_cp0.ans }
def t_cpG : Tree :=
  .new <|
  .call2 18 [.agg [.one (.var 0), .one (.var 1)]] ([], []) (.tup [.agg [.whole 4 24], .agg [.whole 5 48], .atom (.const (.bool true))]) 2 [] (
    .new <|
    .new <|
    .calc (.binOp .gtr 3 (.tmp 22) (.const (.int .i64 6)) 3) 4 [(22, .leaf (.atom (.var 2)))] ([], []) (.leaf (.atom (.const (.bool false)))) 0 <|
    .calc (.binOp .gtr 3 (.tmp 30) (.const (.int .i64 40)) 3) 4 [(30, .leaf (.atom (.var 3)))] ([], []) (.leaf (.atom (.const (.bool true)))) 0 <|
    .calc (.binOp .leq 3 (.tmp 33) (.const (.int .i64 512)) 3) 4 [(33, .leaf (.atom (.var 3)))] ([], []) (.leaf (.atom (.const (.bool true)))) 0 <|
    .call2 10 [] ([], []) (.leaf (.atom (.const (.bool true)))) 0 [] (
      .ret ([], []) (.leaf (.atom (.const (.bool true))))) (.leaf (.atom (.const (.bool false)))) 0 [] <|
    .ret ([], []) (.leaf (.atom (.const (.bool false))))) (.tup [.agg [.whole 4 24], .agg [.whole 5 48], .atom (.const (.bool false))]) 2 [] <|
  .new <|
  .new <|
  .call2 10 [] ([], []) (.leaf (.atom (.const (.bool true)))) 0 [] (
    .ret ([], []) (.leaf (.atom (.const (.bool true))))) (.leaf (.atom (.const (.bool false)))) 0 [] <|
  .ret ([], []) (.leaf (.atom (.const (.bool false))))
theorem c_cpG : compF Try.prog Try.f6 o_cpG (Try.f6.body.getD .skip) (symIn [.agg [.one (.var 0), .one (.var 1)], .atom (.var 2), .atom (.var 3)] Try.f6.ntmps 4) = some t_cpG := by kernel_rfl
theorem g_cpG : goodC Try.prog o_cpG.ords (Try.f6.body.getD .skip) = true := by kernel_rfl
set_option maxRecDepth 100000 in
set_option maxHeartbeats 1000000 in
theorem aw_cpG (b1 : List Int) (yb1 : By b1) (n1 : Int) (r1 : I64 n1) (n2 : Int) (r2 : I64 n2) (n3 : Int) (r3 : I64 n3) (h : n2 ≤ 6 ∧ 40 < n3 ∧ n3 ≤ 512) : AWp Try.prog tcM (fun a => a = .bool true) t_cpG [] [.isl .u8 b1, .int .i64 n1, .int .i64 n2, .int .i64 n3] := by
  have d23 : decide (6 < n2) = false := decide_eq_false (by omega)
  have d31 : decide (40 < n3) = true := decide_eq_true (by omega)
  have d34 : decide (n3 ≤ 512) = true := decide_eq_true (by omega)
  (conv => whnf)
  refine ⟨‹_›, fun hh => by repeat ((conv => whnf) <;> first | with_reducible first | refine And.intro rfl ?_ | rfl | refine cTt ?_ | refine cF (Eq.refl false) ?_ | refine cNt ?_ | refine cTd (by omega) ?_ | refine cFd (by omega) ?_), fun k1 k2 k3 => ?_⟩
  generalize sgG b1 n1 = g
  repeat ((conv => whnf) <;> first | with_reducible first | refine And.intro rfl ?_ | rfl | refine cTt ?_ | refine cF (Eq.refl false) ?_ | refine cNt ?_ | refine cTd (by omega) ?_ | refine cFd (by omega) ?_)
  (conv => whnf)
  rw [d23]
  (conv => whnf)
  rw [d31]
  (conv => whnf)
  rw [d34]
  repeat ((conv => whnf) <;> first | with_reducible first | refine And.intro rfl ?_ | rfl | refine cTt ?_ | refine cF (Eq.refl false) ?_ | refine cNt ?_ | refine cTd (by omega) ?_ | refine cFd (by omega) ?_)
set_option maxRecDepth 100000 in
theorem cpG_any (b1 : List Int) (yb1 : By b1) (v1 : Value) (n1 : Int) (r1 : I64 n1) (n2 : Int) (r2 : I64 n2) (n3 : Int) (r3 : I64 n3) (h : n2 ≤ 6 ∧ 40 < n3 ∧ n3 ≤ 512) (w : World) (s1 : Bv w v1 b1) : Calls Try.prog 6 #[AG [v1, .int .i64 n1], .int .i64 n2, .int .i64 n3] w (OutV (.bool true) w) :=
  law_tree tcM_ok o_cpG [.agg [.one (.var 0), .one (.var 1)], .atom (.var 2), .atom (.var 3)] [v1, .int .i64 n1, .int .i64 n2, .int .i64 n3] [.isl .u8 b1, .int .i64 n1, .int .i64 n2, .int .i64 n3] Try.func6 rfl c_cpG (by simp [Leaf.den, catS, Seg.den, Atom.den, cellsAt, AG, Value.cells]) (by intro x hx; simp only [List.mem_cons, List.not_mem_nil, or_false] at hx; rcases hx with rfl | rfl | rfl <;> first | exact ok_two rfl (bv_one s1) rfl rfl | exact ok_one rfl rfl | exact ok_one rfl rfl) ⟨_, _, rfl, bv_val s1, _, _, rfl, int_val n1, ⟨_, _, rfl, int_val n2, ⟨_, _, rfl, int_val n3, rfl⟩⟩⟩ g_cpG (aw_cpG b1 yb1 n1 r1 n2 r2 n3 r3 h)
def o_cpH : Orc := { o_cp0 with ans := [(23, .one ⟨.leaf (.atom (.const (.bool true))), 0, []⟩), (26, .one ⟨.leaf (.atom (.const (.bool false))), 0, []⟩), (31, .one ⟨.leaf (.atom (.const (.bool true))), 0, []⟩), (34, .one ⟨.leaf (.atom (.const (.bool true))), 0, []⟩)] ++ o_cp0.ans }
def t_cpH : Tree :=
  .new <|
  .call2 18 [.agg [.one (.var 0), .one (.var 1)]] ([], []) (.tup [.agg [.whole 4 24], .agg [.whole 5 48], .atom (.const (.bool true))]) 2 [] (
    .new <|
    .new <|
    .calc (.binOp .gtr 3 (.tmp 22) (.const (.int .i64 6)) 3) 4 [(22, .leaf (.atom (.var 2)))] ([], []) (.leaf (.atom (.const (.bool true)))) 0 <|
    .calc (.binOp .leq 3 (.tmp 25) (.const (.int .i64 64)) 3) 4 [(25, .leaf (.atom (.var 2)))] ([], []) (.leaf (.atom (.const (.bool false)))) 0 <|
    .calc (.binOp .gtr 3 (.tmp 30) (.const (.int .i64 40)) 3) 4 [(30, .leaf (.atom (.var 3)))] ([], []) (.leaf (.atom (.const (.bool true)))) 0 <|
    .calc (.binOp .leq 3 (.tmp 33) (.const (.int .i64 512)) 3) 4 [(33, .leaf (.atom (.var 3)))] ([], []) (.leaf (.atom (.const (.bool true)))) 0 <|
    .call2 10 [] ([], []) (.leaf (.atom (.const (.bool true)))) 0 [] (
      .ret ([], []) (.leaf (.atom (.const (.bool true))))) (.leaf (.atom (.const (.bool false)))) 0 [] <|
    .ret ([], []) (.leaf (.atom (.const (.bool false))))) (.tup [.agg [.whole 4 24], .agg [.whole 5 48], .atom (.const (.bool false))]) 2 [] <|
  .new <|
  .new <|
  .call2 10 [] ([], []) (.leaf (.atom (.const (.bool true)))) 0 [] (
    .ret ([], []) (.leaf (.atom (.const (.bool true))))) (.leaf (.atom (.const (.bool false)))) 0 [] <|
  .ret ([], []) (.leaf (.atom (.const (.bool false))))
theorem c_cpH : compF Try.prog Try.f6 o_cpH (Try.f6.body.getD .skip) (symIn [.agg [.one (.var 0), .one (.var 1)], .atom (.var 2), .atom (.var 3)] Try.f6.ntmps 4) = some t_cpH := by kernel_rfl
theorem g_cpH : goodC Try.prog o_cpH.ords (Try.f6.body.getD .skip) = true := by kernel_rfl
set_option maxRecDepth 100000 in
set_option maxHeartbeats 1000000 in
theorem aw_cpH (b1 : List Int) (yb1 : By b1) (n1 : Int) (r1 : I64 n1) (n2 : Int) (r2 : I64 n2) (n3 : Int) (r3 : I64 n3) (h : 64 < n2 ∧ 40 < n3 ∧ n3 ≤ 512) : AWp Try.prog tcM (fun a => a = .bool true) t_cpH [] [.isl .u8 b1, .int .i64 n1, .int .i64 n2, .int .i64 n3] := by
  have d23 : decide (6 < n2) = true := decide_eq_true (by omega)
  have d26 : decide (n2 ≤ 64) = false := decide_eq_false (by omega)
  have d31 : decide (40 < n3) = true := decide_eq_true (by omega)
  have d34 : decide (n3 ≤ 512) = true := decide_eq_true (by omega)
  (conv => whnf)
  refine ⟨‹_›, fun hh => by repeat ((conv => whnf) <;> first | with_reducible first | refine And.intro rfl ?_ | rfl | refine cTt ?_ | refine cF (Eq.refl false) ?_ | refine cNt ?_ | refine cTd (by omega) ?_ | refine cFd (by omega) ?_), fun k1 k2 k3 => ?_⟩
  generalize sgG b1 n1 = g
  repeat ((conv => whnf) <;> first | with_reducible first | refine And.intro rfl ?_ | rfl | refine cTt ?_ | refine cF (Eq.refl false) ?_ | refine cNt ?_ | refine cTd (by omega) ?_ | refine cFd (by omega) ?_)
  (conv => whnf)
  rw [d23]
  (conv => whnf)
  rw [d26]
  (conv => whnf)
  rw [d31]
  (conv => whnf)
  rw [d34]
  repeat ((conv => whnf) <;> first | with_reducible first | refine And.intro rfl ?_ | rfl | refine cTt ?_ | refine cF (Eq.refl false) ?_ | refine cNt ?_ | refine cTd (by omega) ?_ | refine cFd (by omega) ?_)
set_option maxRecDepth 100000 in
theorem cpH_any (b1 : List Int) (yb1 : By b1) (v1 : Value) (n1 : Int) (r1 : I64 n1) (n2 : Int) (r2 : I64 n2) (n3 : Int) (r3 : I64 n3) (h : 64 < n2 ∧ 40 < n3 ∧ n3 ≤ 512) (w : World) (s1 : Bv w v1 b1) : Calls Try.prog 6 #[AG [v1, .int .i64 n1], .int .i64 n2, .int .i64 n3] w (OutV (.bool true) w) :=
  law_tree tcM_ok o_cpH [.agg [.one (.var 0), .one (.var 1)], .atom (.var 2), .atom (.var 3)] [v1, .int .i64 n1, .int .i64 n2, .int .i64 n3] [.isl .u8 b1, .int .i64 n1, .int .i64 n2, .int .i64 n3] Try.func6 rfl c_cpH (by simp [Leaf.den, catS, Seg.den, Atom.den, cellsAt, AG, Value.cells]) (by intro x hx; simp only [List.mem_cons, List.not_mem_nil, or_false] at hx; rcases hx with rfl | rfl | rfl <;> first | exact ok_two rfl (bv_one s1) rfl rfl | exact ok_one rfl rfl | exact ok_one rfl rfl) ⟨_, _, rfl, bv_val s1, _, _, rfl, int_val n1, ⟨_, _, rfl, int_val n2, ⟨_, _, rfl, int_val n3, rfl⟩⟩⟩ g_cpH (aw_cpH b1 yb1 n1 r1 n2 r2 n3 r3 h)
def o_cpC : Orc := { o_cp0 with ans := [(23, .one ⟨.leaf (.atom (.const (.bool true))), 0, []⟩), (26, .one ⟨.leaf (.atom (.const (.bool false))), 0, []⟩), (31, .one ⟨.leaf (.atom (.const (.bool false))), 0, []⟩), (46, .one ⟨.leaf (.atom (.const (.bool false))), 0, []⟩), (49, .one ⟨.leaf (.atom (.const (.bool true))), 0, []⟩)] ++ o_cp0.ans }
def t_cpC : Tree :=
  .new <|
  .call2 18 [.agg [.one (.var 0), .one (.var 1)]] ([], []) (.tup [.agg [.whole 4 24], .agg [.whole 5 48], .atom (.const (.bool true))]) 2 [] (
    .new <|
    .new <|
    .calc (.binOp .gtr 3 (.tmp 22) (.const (.int .i64 6)) 3) 4 [(22, .leaf (.atom (.var 2)))] ([], []) (.leaf (.atom (.const (.bool true)))) 0 <|
    .calc (.binOp .leq 3 (.tmp 25) (.const (.int .i64 64)) 3) 4 [(25, .leaf (.atom (.var 2)))] ([], []) (.leaf (.atom (.const (.bool false)))) 0 <|
    .calc (.binOp .gtr 3 (.tmp 30) (.const (.int .i64 40)) 3) 4 [(30, .leaf (.atom (.var 3)))] ([], []) (.leaf (.atom (.const (.bool false)))) 0 <|
    .call 19 [.agg [.whole 4 24], .atom (.var 2), .atom (.var 3)] ([], []) (.tup [.atom (.var 6), .atom (.var 7)]) 2 [] <|
    .calc (.binOp .lss 3 (.tmp 45) (.const (.int .i64 0)) 3) 4 [(45, .leaf (.atom (.var 2)))] ([], []) (.leaf (.atom (.const (.bool false)))) 0 <|
    .calc (.binOp .gtr 3 (.tmp 48) (.const (.int .i64 64)) 3) 4 [(48, .leaf (.atom (.var 2)))] ([], []) (.leaf (.atom (.const (.bool true)))) 0 <|
    .calc (.call { callee := .builtin .len, args := #[.tmp 59], argTypes := #[40] }) 3 [(59, .leaf (.atom (.var 6)))] ([], []) (.leaf (.atom (.var 8))) 1 <|
    .calc2 (.binOp .eql 3 (.tmp 60) (.const (.int .i64 0)) 3) 4 [(60, .leaf (.atom (.var 8)))] ([], []) (.leaf (.atom (.const (.bool true)))) 0 (
      .calc2 (.binOp .eql 33 (.tmp 63) (.const (.int .i64 10)) 33) 4 [(63, .leaf (.atom (.var 7)))] ([], []) (.leaf (.atom (.const (.bool true)))) 0 (
        .call2 10 [] ([], []) (.leaf (.atom (.const (.bool true)))) 0 [] (
          .ret ([], []) (.leaf (.atom (.const (.bool true))))) (.leaf (.atom (.const (.bool false)))) 0 [] <|
        .ret ([], []) (.leaf (.atom (.const (.bool false))))) (.leaf (.atom (.const (.bool false)))) 0 <|
      .ret ([], []) (.leaf (.atom (.const (.bool false))))) (.leaf (.atom (.const (.bool false)))) 0 <|
    .ret ([], []) (.leaf (.atom (.const (.bool false))))) (.tup [.agg [.whole 4 24], .agg [.whole 5 48], .atom (.const (.bool false))]) 2 [] <|
  .new <|
  .new <|
  .call2 10 [] ([], []) (.leaf (.atom (.const (.bool true)))) 0 [] (
    .ret ([], []) (.leaf (.atom (.const (.bool true))))) (.leaf (.atom (.const (.bool false)))) 0 [] <|
  .ret ([], []) (.leaf (.atom (.const (.bool false))))
theorem c_cpC : compF Try.prog Try.f6 o_cpC (Try.f6.body.getD .skip) (symIn [.agg [.one (.var 0), .one (.var 1)], .atom (.var 2), .atom (.var 3)] Try.f6.ntmps 4) = some t_cpC := by kernel_rfl
theorem g_cpC : goodC Try.prog o_cpC.ords (Try.f6.body.getD .skip) = true := by kernel_rfl
set_option maxRecDepth 100000 in
set_option maxHeartbeats 1000000 in
theorem aw_cpC (b1 : List Int) (yb1 : By b1) (n1 : Int) (r1 : I64 n1) (n2 : Int) (r2 : I64 n2) (n3 : Int) (r3 : I64 n3) (h : 64 < n2 ∧ n3 ≤ 40) : AWp Try.prog tcM (fun a => a = .bool true) t_cpC [] [.isl .u8 b1, .int .i64 n1, .int .i64 n2, .int .i64 n3] := by
  have d23 : decide (6 < n2) = true := decide_eq_true (by omega)
  have d26 : decide (n2 ≤ 64) = false := decide_eq_false (by omega)
  have d31 : decide (40 < n3) = false := decide_eq_false (by omega)
  have d46 : decide (n2 < 0) = false := decide_eq_false (by omega)
  have d49 : decide (64 < n2) = true := decide_eq_true (by omega)
  (conv => whnf)
  refine ⟨‹_›, fun hh => by repeat ((conv => whnf) <;> first | with_reducible first | refine And.intro rfl ?_ | rfl | refine cTt ?_ | refine cF (Eq.refl false) ?_ | refine cNt ?_ | refine cTd (by omega) ?_ | refine cFd (by omega) ?_), fun k1 k2 k3 => ?_⟩
  generalize sgG b1 n1 = g
  repeat ((conv => whnf) <;> first | with_reducible first | refine And.intro rfl ?_ | rfl | refine cTt ?_ | refine cF (Eq.refl false) ?_ | refine cNt ?_ | refine cTd (by omega) ?_ | refine cFd (by omega) ?_)
  (conv => whnf)
  rw [d23]
  (conv => whnf)
  rw [d26]
  (conv => whnf)
  rw [d31]
  (conv => whnf)
  refine ⟨fun _ => ?_, fun _ _ _ _ => by omega⟩
  repeat ((conv => whnf) <;> first | with_reducible first | refine And.intro rfl ?_ | rfl | refine cTt ?_ | refine cF (Eq.refl false) ?_ | refine cNt ?_ | refine cTd (by omega) ?_ | refine cFd (by omega) ?_)
  (conv => whnf)
  rw [d46]
  (conv => whnf)
  rw [d49]
  repeat ((conv => whnf) <;> first | with_reducible first | refine And.intro rfl ?_ | rfl | refine cTt ?_ | refine cF (Eq.refl false) ?_ | refine cNt ?_ | refine cTd (by omega) ?_ | refine cFd (by omega) ?_)
set_option maxRecDepth 100000 in
theorem cpC_any (b1 : List Int) (yb1 : By b1) (v1 : Value) (n1 : Int) (r1 : I64 n1) (n2 : Int) (r2 : I64 n2) (n3 : Int) (r3 : I64 n3) (h : 64 < n2 ∧ n3 ≤ 40) (w : World) (s1 : Bv w v1 b1) : Calls Try.prog 6 #[AG [v1, .int .i64 n1], .int .i64 n2, .int .i64 n3] w (OutV (.bool true) w) :=
  law_tree tcM_ok o_cpC [.agg [.one (.var 0), .one (.var 1)], .atom (.var 2), .atom (.var 3)] [v1, .int .i64 n1, .int .i64 n2, .int .i64 n3] [.isl .u8 b1, .int .i64 n1, .int .i64 n2, .int .i64 n3] Try.func6 rfl c_cpC (by simp [Leaf.den, catS, Seg.den, Atom.den, cellsAt, AG, Value.cells]) (by intro x hx; simp only [List.mem_cons, List.not_mem_nil, or_false] at hx; rcases hx with rfl | rfl | rfl <;> first | exact ok_two rfl (bv_one s1) rfl rfl | exact ok_one rfl rfl | exact ok_one rfl rfl) ⟨_, _, rfl, bv_val s1, _, _, rfl, int_val n1, ⟨_, _, rfl, int_val n2, ⟨_, _, rfl, int_val n3, rfl⟩⟩⟩ g_cpC (aw_cpC b1 yb1 n1 r1 n2 r2 n3 r3 h)
def o_cpD : Orc := { o_cp0 with ans := [(23, .one ⟨.leaf (.atom (.const (.bool true))), 0, []⟩), (26, .one ⟨.leaf (.atom (.const (.bool false))), 0, []⟩), (31, .one ⟨.leaf (.atom (.const (.bool true))), 0, []⟩), (34, .one ⟨.leaf (.atom (.const (.bool false))), 0, []⟩), (46, .one ⟨.leaf (.atom (.const (.bool false))), 0, []⟩), (49, .one ⟨.leaf (.atom (.const (.bool true))), 0, []⟩)] ++ o_cp0.ans }
def t_cpD : Tree :=
  .new <|
  .call2 18 [.agg [.one (.var 0), .one (.var 1)]] ([], []) (.tup [.agg [.whole 4 24], .agg [.whole 5 48], .atom (.const (.bool true))]) 2 [] (
    .new <|
    .new <|
    .calc (.binOp .gtr 3 (.tmp 22) (.const (.int .i64 6)) 3) 4 [(22, .leaf (.atom (.var 2)))] ([], []) (.leaf (.atom (.const (.bool true)))) 0 <|
    .calc (.binOp .leq 3 (.tmp 25) (.const (.int .i64 64)) 3) 4 [(25, .leaf (.atom (.var 2)))] ([], []) (.leaf (.atom (.const (.bool false)))) 0 <|
    .calc (.binOp .gtr 3 (.tmp 30) (.const (.int .i64 40)) 3) 4 [(30, .leaf (.atom (.var 3)))] ([], []) (.leaf (.atom (.const (.bool true)))) 0 <|
    .calc (.binOp .leq 3 (.tmp 33) (.const (.int .i64 512)) 3) 4 [(33, .leaf (.atom (.var 3)))] ([], []) (.leaf (.atom (.const (.bool false)))) 0 <|
    .call 19 [.agg [.whole 4 24], .atom (.var 2), .atom (.var 3)] ([], []) (.tup [.atom (.var 6), .atom (.var 7)]) 2 [] <|
    .calc (.binOp .lss 3 (.tmp 45) (.const (.int .i64 0)) 3) 4 [(45, .leaf (.atom (.var 2)))] ([], []) (.leaf (.atom (.const (.bool false)))) 0 <|
    .calc (.binOp .gtr 3 (.tmp 48) (.const (.int .i64 64)) 3) 4 [(48, .leaf (.atom (.var 2)))] ([], []) (.leaf (.atom (.const (.bool true)))) 0 <|
    .calc (.call { callee := .builtin .len, args := #[.tmp 59], argTypes := #[40] }) 3 [(59, .leaf (.atom (.var 6)))] ([], []) (.leaf (.atom (.var 8))) 1 <|
    .calc2 (.binOp .eql 3 (.tmp 60) (.const (.int .i64 0)) 3) 4 [(60, .leaf (.atom (.var 8)))] ([], []) (.leaf (.atom (.const (.bool true)))) 0 (
      .calc2 (.binOp .eql 33 (.tmp 63) (.const (.int .i64 10)) 33) 4 [(63, .leaf (.atom (.var 7)))] ([], []) (.leaf (.atom (.const (.bool true)))) 0 (
        .call2 10 [] ([], []) (.leaf (.atom (.const (.bool true)))) 0 [] (
          .ret ([], []) (.leaf (.atom (.const (.bool true))))) (.leaf (.atom (.const (.bool false)))) 0 [] <|
        .ret ([], []) (.leaf (.atom (.const (.bool false))))) (.leaf (.atom (.const (.bool false)))) 0 <|
      .ret ([], []) (.leaf (.atom (.const (.bool false))))) (.leaf (.atom (.const (.bool false)))) 0 <|
    .ret ([], []) (.leaf (.atom (.const (.bool false))))) (.tup [.agg [.whole 4 24], .agg [.whole 5 48], .atom (.const (.bool false))]) 2 [] <|
  .new <|
  .new <|
  .call2 10 [] ([], []) (.leaf (.atom (.const (.bool true)))) 0 [] (
    .ret ([], []) (.leaf (.atom (.const (.bool true))))) (.leaf (.atom (.const (.bool false)))) 0 [] <|
  .ret ([], []) (.leaf (.atom (.const (.bool false))))
theorem c_cpD : compF Try.prog Try.f6 o_cpD (Try.f6.body.getD .skip) (symIn [.agg [.one (.var 0), .one (.var 1)], .atom (.var 2), .atom (.var 3)] Try.f6.ntmps 4) = some t_cpD := by kernel_rfl
theorem g_cpD : goodC Try.prog o_cpD.ords (Try.f6.body.getD .skip) = true := by kernel_rfl
set_option maxRecDepth 100000 in
set_option maxHeartbeats 1000000 in
theorem aw_cpD (b1 : List Int) (yb1 : By b1) (n1 : Int) (r1 : I64 n1) (n2 : Int) (r2 : I64 n2) (n3 : Int) (r3 : I64 n3) (h : 64 < n2 ∧ 512 < n3) : AWp Try.prog tcM (fun a => a = .bool true) t_cpD [] [.isl .u8 b1, .int .i64 n1, .int .i64 n2, .int .i64 n3] := by
  have d23 : decide (6 < n2) = true := decide_eq_true (by omega)
  have d26 : decide (n2 ≤ 64) = false := decide_eq_false (by omega)
  have d31 : decide (40 < n3) = true := decide_eq_true (by omega)
  have d34 : decide (n3 ≤ 512) = false := decide_eq_false (by omega)
  have d46 : decide (n2 < 0) = false := decide_eq_false (by omega)
  have d49 : decide (64 < n2) = true := decide_eq_true (by omega)
  (conv => whnf)
  refine ⟨‹_›, fun hh => by repeat ((conv => whnf) <;> first | with_reducible first | refine And.intro rfl ?_ | rfl | refine cTt ?_ | refine cF (Eq.refl false) ?_ | refine cNt ?_ | refine cTd (by omega) ?_ | refine cFd (by omega) ?_), fun k1 k2 k3 => ?_⟩
  generalize sgG b1 n1 = g
  repeat ((conv => whnf) <;> first | with_reducible first | refine And.intro rfl ?_ | rfl | refine cTt ?_ | refine cF (Eq.refl false) ?_ | refine cNt ?_ | refine cTd (by omega) ?_ | refine cFd (by omega) ?_)
  (conv => whnf)
  rw [d23]
  (conv => whnf)
  rw [d26]
  (conv => whnf)
  rw [d31]
  (conv => whnf)
  rw [d34]
  (conv => whnf)
  refine ⟨fun _ => ?_, fun _ _ _ _ => by omega⟩
  repeat ((conv => whnf) <;> first | with_reducible first | refine And.intro rfl ?_ | rfl | refine cTt ?_ | refine cF (Eq.refl false) ?_ | refine cNt ?_ | refine cTd (by omega) ?_ | refine cFd (by omega) ?_)
  (conv => whnf)
  rw [d46]
  (conv => whnf)
  rw [d49]
  repeat ((conv => whnf) <;> first | with_reducible first | refine And.intro rfl ?_ | rfl | refine cTt ?_ | refine cF (Eq.refl false) ?_ | refine cNt ?_ | refine cTd (by omega) ?_ | refine cFd (by omega) ?_)
set_option maxRecDepth 100000 in
theorem cpD_any (b1 : List Int) (yb1 : By b1) (v1 : Value) (n1 : Int) (r1 : I64 n1) (n2 : Int) (r2 : I64 n2) (n3 : Int) (r3 : I64 n3) (h : 64 < n2 ∧ 512 < n3) (w : World) (s1 : Bv w v1 b1) : Calls Try.prog 6 #[AG [v1, .int .i64 n1], .int .i64 n2, .int .i64 n3] w (OutV (.bool true) w) :=
  law_tree tcM_ok o_cpD [.agg [.one (.var 0), .one (.var 1)], .atom (.var 2), .atom (.var 3)] [v1, .int .i64 n1, .int .i64 n2, .int .i64 n3] [.isl .u8 b1, .int .i64 n1, .int .i64 n2, .int .i64 n3] Try.func6 rfl c_cpD (by simp [Leaf.den, catS, Seg.den, Atom.den, cellsAt, AG, Value.cells]) (by intro x hx; simp only [List.mem_cons, List.not_mem_nil, or_false] at hx; rcases hx with rfl | rfl | rfl <;> first | exact ok_two rfl (bv_one s1) rfl rfl | exact ok_one rfl rfl | exact ok_one rfl rfl) ⟨_, _, rfl, bv_val s1, _, _, rfl, int_val n1, ⟨_, _, rfl, int_val n2, ⟨_, _, rfl, int_val n3, rfl⟩⟩⟩ g_cpD (aw_cpD b1 yb1 n1 r1 n2 r2 n3 r3 h)
def o_cpB : Orc := { o_cp0 with ans := [(23, .one ⟨.leaf (.atom (.const (.bool false))), 0, []⟩), (31, .one ⟨.leaf (.atom (.const (.bool true))), 0, []⟩), (34, .one ⟨.leaf (.atom (.const (.bool false))), 0, []⟩), (49, .one ⟨.leaf (.atom (.const (.bool false))), 0, []⟩), (53, .one ⟨.leaf (.atom (.const (.bool false))), 0, []⟩), (57, .one ⟨.leaf (.atom (.const (.bool true))), 0, []⟩)] ++ o_cp0.ans }
def t_cpB : Tree :=
  .new <|
  .call2 18 [.agg [.one (.var 0), .one (.var 1)]] ([], []) (.tup [.agg [.whole 4 24], .agg [.whole 5 48], .atom (.const (.bool true))]) 2 [] (
    .new <|
    .new <|
    .calc (.binOp .gtr 3 (.tmp 22) (.const (.int .i64 6)) 3) 4 [(22, .leaf (.atom (.var 2)))] ([], []) (.leaf (.atom (.const (.bool false)))) 0 <|
    .calc (.binOp .gtr 3 (.tmp 30) (.const (.int .i64 40)) 3) 4 [(30, .leaf (.atom (.var 3)))] ([], []) (.leaf (.atom (.const (.bool true)))) 0 <|
    .calc (.binOp .leq 3 (.tmp 33) (.const (.int .i64 512)) 3) 4 [(33, .leaf (.atom (.var 3)))] ([], []) (.leaf (.atom (.const (.bool false)))) 0 <|
    .call 19 [.agg [.whole 4 24], .atom (.var 2), .atom (.var 3)] ([], []) (.tup [.atom (.var 6), .atom (.var 7)]) 2 [] <|
    .calc2 (.binOp .lss 3 (.tmp 45) (.const (.int .i64 0)) 3) 4 [(45, .leaf (.atom (.var 2)))] ([], []) (.leaf (.atom (.const (.bool true)))) 0 (
      .calc (.call { callee := .builtin .len, args := #[.tmp 59], argTypes := #[40] }) 3 [(59, .leaf (.atom (.var 6)))] ([], []) (.leaf (.atom (.var 8))) 1 <|
      .calc2 (.binOp .eql 3 (.tmp 60) (.const (.int .i64 0)) 3) 4 [(60, .leaf (.atom (.var 8)))] ([], []) (.leaf (.atom (.const (.bool true)))) 0 (
        .calc2 (.binOp .eql 33 (.tmp 63) (.const (.int .i64 10)) 33) 4 [(63, .leaf (.atom (.var 7)))] ([], []) (.leaf (.atom (.const (.bool true)))) 0 (
          .call2 10 [] ([], []) (.leaf (.atom (.const (.bool true)))) 0 [] (
            .ret ([], []) (.leaf (.atom (.const (.bool true))))) (.leaf (.atom (.const (.bool false)))) 0 [] <|
          .ret ([], []) (.leaf (.atom (.const (.bool false))))) (.leaf (.atom (.const (.bool false)))) 0 <|
        .ret ([], []) (.leaf (.atom (.const (.bool false))))) (.leaf (.atom (.const (.bool false)))) 0 <|
      .ret ([], []) (.leaf (.atom (.const (.bool false))))) (.leaf (.atom (.const (.bool false)))) 0 <|
    .calc (.binOp .gtr 3 (.tmp 48) (.const (.int .i64 64)) 3) 4 [(48, .leaf (.atom (.var 2)))] ([], []) (.leaf (.atom (.const (.bool false)))) 0 <|
    .calc (.binOp .lss 3 (.tmp 52) (.const (.int .i64 0)) 3) 4 [(52, .leaf (.atom (.var 3)))] ([], []) (.leaf (.atom (.const (.bool false)))) 0 <|
    .calc (.binOp .gtr 3 (.tmp 56) (.const (.int .i64 512)) 3) 4 [(56, .leaf (.atom (.var 3)))] ([], []) (.leaf (.atom (.const (.bool true)))) 0 <|
    .calc (.call { callee := .builtin .len, args := #[.tmp 59], argTypes := #[40] }) 3 [(59, .leaf (.atom (.var 6)))] ([], []) (.leaf (.atom (.var 8))) 1 <|
    .calc2 (.binOp .eql 3 (.tmp 60) (.const (.int .i64 0)) 3) 4 [(60, .leaf (.atom (.var 8)))] ([], []) (.leaf (.atom (.const (.bool true)))) 0 (
      .calc2 (.binOp .eql 33 (.tmp 63) (.const (.int .i64 10)) 33) 4 [(63, .leaf (.atom (.var 7)))] ([], []) (.leaf (.atom (.const (.bool true)))) 0 (
        .call2 10 [] ([], []) (.leaf (.atom (.const (.bool true)))) 0 [] (
          .ret ([], []) (.leaf (.atom (.const (.bool true))))) (.leaf (.atom (.const (.bool false)))) 0 [] <|
        .ret ([], []) (.leaf (.atom (.const (.bool false))))) (.leaf (.atom (.const (.bool false)))) 0 <|
      .ret ([], []) (.leaf (.atom (.const (.bool false))))) (.leaf (.atom (.const (.bool false)))) 0 <|
    .ret ([], []) (.leaf (.atom (.const (.bool false))))) (.tup [.agg [.whole 4 24], .agg [.whole 5 48], .atom (.const (.bool false))]) 2 [] <|
  .new <|
  .new <|
  .call2 10 [] ([], []) (.leaf (.atom (.const (.bool true)))) 0 [] (
    .ret ([], []) (.leaf (.atom (.const (.bool true))))) (.leaf (.atom (.const (.bool false)))) 0 [] <|
  .ret ([], []) (.leaf (.atom (.const (.bool false))))
theorem c_cpB : compF Try.prog Try.f6 o_cpB (Try.f6.body.getD .skip) (symIn [.agg [.one (.var 0), .one (.var 1)], .atom (.var 2), .atom (.var 3)] Try.f6.ntmps 4) = some t_cpB := by kernel_rfl
theorem g_cpB : goodC Try.prog o_cpB.ords (Try.f6.body.getD .skip) = true := by kernel_rfl
set_option maxRecDepth 100000 in
set_option maxHeartbeats 1000000 in
theorem aw_cpB (b1 : List Int) (yb1 : By b1) (n1 : Int) (r1 : I64 n1) (n2 : Int) (r2 : I64 n2) (n3 : Int) (r3 : I64 n3) (h : n2 ≤ 6 ∧ 512 < n3) : AWp Try.prog tcM (fun a => a = .bool true) t_cpB [] [.isl .u8 b1, .int .i64 n1, .int .i64 n2, .int .i64 n3] := by
  have d23 : decide (6 < n2) = false := decide_eq_false (by omega)
  have d31 : decide (40 < n3) = true := decide_eq_true (by omega)
  have d34 : decide (n3 ≤ 512) = false := decide_eq_false (by omega)
  have d49 : decide (64 < n2) = false := decide_eq_false (by omega)
  have d53 : decide (n3 < 0) = false := decide_eq_false (by omega)
  have d57 : decide (512 < n3) = true := decide_eq_true (by omega)
  (conv => whnf)
  refine ⟨‹_›, fun hh => by repeat ((conv => whnf) <;> first | with_reducible first | refine And.intro rfl ?_ | rfl | refine cTt ?_ | refine cF (Eq.refl false) ?_ | refine cNt ?_ | refine cTd (by omega) ?_ | refine cFd (by omega) ?_), fun k1 k2 k3 => ?_⟩
  generalize sgG b1 n1 = g
  repeat ((conv => whnf) <;> first | with_reducible first | refine And.intro rfl ?_ | rfl | refine cTt ?_ | refine cF (Eq.refl false) ?_ | refine cNt ?_ | refine cTd (by omega) ?_ | refine cFd (by omega) ?_)
  (conv => whnf)
  rw [d23]
  (conv => whnf)
  rw [d31]
  (conv => whnf)
  rw [d34]
  (conv => whnf)
  refine ⟨fun _ => ?_, fun _ _ _ _ => by omega⟩
  by_cases hn : n2 < 0
  · repeat ((conv => whnf) <;> first | with_reducible first | refine And.intro rfl ?_ | rfl | refine cTt ?_ | refine cF (Eq.refl false) ?_ | refine cNt ?_ | refine cTd (by omega) ?_ | refine cFd (by omega) ?_)
  repeat ((conv => whnf) <;> first | with_reducible first | refine And.intro rfl ?_ | rfl | refine cTt ?_ | refine cF (Eq.refl false) ?_ | refine cNt ?_ | refine cTd (by omega) ?_ | refine cFd (by omega) ?_)
  (conv => whnf)
  rw [d49]
  (conv => whnf)
  rw [d53]
  (conv => whnf)
  rw [d57]
  repeat ((conv => whnf) <;> first | with_reducible first | refine And.intro rfl ?_ | rfl | refine cTt ?_ | refine cF (Eq.refl false) ?_ | refine cNt ?_ | refine cTd (by omega) ?_ | refine cFd (by omega) ?_)
set_option maxRecDepth 100000 in
theorem cpB_any (b1 : List Int) (yb1 : By b1) (v1 : Value) (n1 : Int) (r1 : I64 n1) (n2 : Int) (r2 : I64 n2) (n3 : Int) (r3 : I64 n3) (h : n2 ≤ 6 ∧ 512 < n3) (w : World) (s1 : Bv w v1 b1) : Calls Try.prog 6 #[AG [v1, .int .i64 n1], .int .i64 n2, .int .i64 n3] w (OutV (.bool true) w) :=
  law_tree tcM_ok o_cpB [.agg [.one (.var 0), .one (.var 1)], .atom (.var 2), .atom (.var 3)] [v1, .int .i64 n1, .int .i64 n2, .int .i64 n3] [.isl .u8 b1, .int .i64 n1, .int .i64 n2, .int .i64 n3] Try.func6 rfl c_cpB (by simp [Leaf.den, catS, Seg.den, Atom.den, cellsAt, AG, Value.cells]) (by intro x hx; simp only [List.mem_cons, List.not_mem_nil, or_false] at hx; rcases hx with rfl | rfl | rfl <;> first | exact ok_two rfl (bv_one s1) rfl rfl | exact ok_one rfl rfl | exact ok_one rfl rfl) ⟨_, _, rfl, bv_val s1, _, _, rfl, int_val n1, ⟨_, _, rfl, int_val n2, ⟨_, _, rfl, int_val n3, rfl⟩⟩⟩ g_cpB (aw_cpB b1 yb1 n1 r1 n2 r2 n3 r3 h)
theorem cp_any (b1 : List Int) (yb1 : By b1) (v1 : Value) (n1 : Int) (r1 : I64 n1) (n2 : Int) (r2 : I64 n2) (n3 : Int) (r3 : I64 n3) (w : World) (s1 : Bv w v1 b1) : Calls Try.prog 6 #[AG [v1, .int .i64 n1], .int .i64 n2, .int .i64 n3] w (OutV (.bool true) w) := by
  by_cases hA : n2 ≤ 6 ∧ n3 ≤ 40 ∧ 0 ≤ n2 ∧ 0 ≤ n3
  · exact cpA_any b1 yb1 v1 n1 r1 n2 r2 n3 r3 hA w s1
  by_cases hA1 : n2 < 0 ∧ n3 ≤ 40
  · exact cpA1_any b1 yb1 v1 n1 r1 n2 r2 n3 r3 hA1 w s1
  by_cases hA2 : 0 ≤ n2 ∧ n2 ≤ 6 ∧ n3 < 0
  · exact cpA2_any b1 yb1 v1 n1 r1 n2 r2 n3 r3 hA2 w s1
  by_cases hE : 6 < n2 ∧ n2 ≤ 64
  · exact cpE_any b1 yb1 v1 n1 r1 n2 r2 n3 r3 hE w s1
  by_cases hG : n2 ≤ 6 ∧ 40 < n3 ∧ n3 ≤ 512
  · exact cpG_any b1 yb1 v1 n1 r1 n2 r2 n3 r3 hG w s1
  by_cases hH : 64 < n2 ∧ 40 < n3 ∧ n3 ≤ 512
  · exact cpH_any b1 yb1 v1 n1 r1 n2 r2 n3 r3 hH w s1
  by_cases hC : 64 < n2 ∧ n3 ≤ 40
  · exact cpC_any b1 yb1 v1 n1 r1 n2 r2 n3 r3 hC w s1
  by_cases hD : 64 < n2 ∧ 512 < n3
  · exact cpD_any b1 yb1 v1 n1 r1 n2 r2 n3 r3 hD w s1
  by_cases hB : n2 ≤ 6 ∧ 512 < n3
  · exact cpB_any b1 yb1 v1 n1 r1 n2 r2 n3 r3 hB w s1
  exfalso; omega
end Go.Proofs.Ytamgmkeoaaaliaa
