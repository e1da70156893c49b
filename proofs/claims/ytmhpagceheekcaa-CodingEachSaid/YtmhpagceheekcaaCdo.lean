/- Chapter 9: CodingEach -/
import Derived.Test.YtmhpagceheekcaaCdw
import Derived.Test.YtmhpagceheekcaaOpj
set_option linter.unusedSimpArgs false
set_option linter.unusedVariables false
namespace Go.Proofs.Ytmhpagceheekcaa
open Go.RowKit FdP FdP.Ch
theorem each_take {b : List Int} (hl : b.length = 56) (s : Int) : (b ++ [s]).take 56 = b := List.take_left' hl
theorem each_get {b : List Int} (hl : b.length = 56) (s : Int) : (b ++ [s]).getD 56 0 = s := by
 rw [List.getD_eq_getElem?_getD, List.getElem?_append_right (by omega), hl]; rfl
theorem each_len {b : List Int} (hl : b.length = 56) (s : Int) : (b ++ [s]).length = 57 := by rw [List.length_append, hl]; rfl
theorem each_by {b : List Int} (hb : By b) {s : Int} (hs : 0 ≤ s ∧ s < 256) : By (b ++ [s]) := fun x hx => by
 rcases List.mem_append.1 hx with hx | hx
 ·exact hb x hx
 ·rw [List.mem_singleton.1 hx]; exact hs
theorem each_no {b : List Int} (hl : b.length = 56) {s : Int} (hs : ¬ (s = 0 ∨ s = 128)) : ¬ DecOK (b ++ [s]) := fun h => hs (by have := h.2.1; rw [each_get hl] at this; exact this)
abbrev eU (b : List Int) : F := z (bval b) * z (bval b) - z 1
abbrev eV (b : List Int) : F := z (bval b) * z (bval b) * z (-39081) - z 1
theorem each_ok {b : List Int} (hl : b.length = 56) {s : Int} : DecOK (b ++ [s]) ↔ bval b < P ∧ (s = 0 ∨ s = 128) ∧ ratI (eU b) (eV b) ∧ ¬ (ratA (eU b) (eV b) = 0 ∧ s = 128) := by
 unfold DecOK yOf
 rw [each_take hl, each_get hl]
theorem each_x {b : List Int} (hl : b.length = 56) (h : ratI (eU b) (eV b)) : (decG (b ++ [0])).x = ratA (eU b) (eV b) := by
 have e : yOf (b ++ [0]) = z (bval b) := by unfold yOf; rw [each_take hl]
 rw [(decG_x (b := b ++ [0]) (by rw [e]; exact h)).1]
 unfold decX
 rw [each_get hl, e]; exact if_pos (by decide)
theorem each_neg {b : List Int} (hl : b.length = 56) (h : ratI (eU b) (eV b)) : decG (b ++ [128]) = -decG (b ++ [0]) := by
 have e : ∀ s, yOf (b ++ [s]) = z (bval b) := fun s => by unfold yOf; rw [each_take hl]
 have h0 := decG_x (b := b ++ [0]) (by rw [e]; exact h)
 have h1 := decG_x (b := b ++ [128]) (by rw [e]; exact h)
 refine Ed.ext' ?_ ?_
 ·show (decG (b ++ [128])).x = -(decG (b ++ [0])).x
  rw [each_x hl h, h1.1]
  unfold decX
  rw [each_get hl, e]; exact if_neg (by decide)
 ·show (decG (b ++ [128])).y = (decG (b ++ [0])).y
  rw [h0.2, h1.2, e, e]
def tblo : Tab := tb_awake9 :: tb_decP :: tb_fdecS :: tb_square :: tb_int :: tb_sub :: tb_times :: tb_ratioO :: tb_paff :: tb_equal :: tb_zero :: tb_pneg :: tb_peq :: []
theorem tblo_ok : tblo.OK Try.prog := tab_cons tb_awake9_ok <| tab_cons tb_decP_ok <| tab_cons tb_fdecS_ok <| tab_cons tb_square_ok <| tab_cons tb_int_ok <| tab_cons tb_sub_ok <| tab_cons tb_times_ok <| tab_cons tb_ratioO_ok <| tab_cons tb_paff_ok <| tab_cons tb_equal_ok <| tab_cons tb_zero_ok <| tab_cons tb_pneg_ok <| tab_cons tb_peq_ok <| tab_nil _
def o_ceach : Orc := { ans := [(20, oV), (21, oV), (25, oV), (26, .one ⟨.tup [.agg [.whole 0 24], .atom (.var 1)], 2, []⟩), (32, oV), (33, .one ⟨.tup [.agg [.whole 0 24], .atom (.var 1)], 2, []⟩), (39, oV), (40, .one ⟨.tup [.agg [.whole 0 24], .atom (.var 1)], 2, []⟩), (46, oV), (47, .one ⟨.tup [.agg [.whole 0 24], .atom (.var 1)], 2, []⟩), (51, oB), (54, oB), (55, oV), (58, .one ⟨.tup [.agg [.whole 0 8], .atom (.var 1)], 2, []⟩), (62, oB), (64, oB), (67, oB), (68, oV), (70, oB), (71, oV), (72, oA 8), (73, oA 8), (75, oA 8), (76, oA 8), (77, oA 8), (78, oA 8), (79, oA 8), (80, oA 8), (81, oA 8), (82, .one ⟨.tup [.agg [.whole 0 8], .atom (.var 1)], 2, []⟩), (86, oV), (88, oB), (91, oB), (92, oV), (94, oB), (95, oV), (97, oA 24), (98, .one ⟨.tup [.agg [.whole 0 8], .agg [.whole 1 8]], 2, []⟩), (102, oB), (104, oA 8), (105, oA 8), (106, oB), (107, oV), (108, oV), (111, oB), (112, oA 8), (113, oB), (114, oB), (115, oV), (117, oB), (119, oA 24), (120, oA 24), (121, oA 24), (122, oB), (123, oV), (125, oB), (126, oV)], lps := [], ords := [(13, [.quiet 0, .quiet 3, .call 1 [11], .call 2 [11], .call 4 [11], .call 5 [11], .call 6 [11], .call 7 [11], .pure 8, .pure 9, .pure 10, .make 11 [], .last 12, .last 13]), (19, [.pure 0, .quiet 1, .pure 2, .quiet 3, .quiet 4, .call 5 [], .call 6 [], .quiet 7, .pure 8, .call 9 [], .quiet 10, .pure 11])], tap := [25, 32, 39, 46] }
def t_ceach : Tree :=
 .new <|
 .app none [.whole 0 56] 1 <|
 .new <|
 .apc 2 [.one (.const (.int .u8 0))] 5 1 9 (.tup [.agg [.whole 3 24], .atom (.var 4)]) 2 <|
 .new <|
 .new <|
 .apc 2 [.one (.const (.int .u8 128))] 5 1 9 (.tup [.agg [.whole 5 24], .atom (.var 6)]) 2 <|
 .new <|
 .new <|
 .apc 2 [.one (.const (.int .u8 64))] 5 1 9 (.tup [.agg [.whole 7 24], .atom (.var 8)]) 2 <|
 .new <|
 .new <|
 .apc 2 [.one (.const (.int .u8 129))] 5 1 9 (.tup [.agg [.whole 9 24], .atom (.var 10)]) 2 <|
 .new <|
 .calc2 (.binOp .neq 30 (.tmp 50) (.const (.int .i64 13)) 30) 4 [(50, qv 8)] ([], []) qT 0 (
 .ret ([], []) qF) qF 0 <|
 .calc2 (.binOp .neq 30 (.tmp 53) (.const (.int .i64 13)) 30) 4 [(53, qv 10)] ([], []) qT 0 (
 .ret ([], []) qF) qF 0 <|
 .frz 1 2 ([([.whole 0 56], 41), ([.one (.const (.int .u8 0))], 5), ([.whole 3 24], 29), ([.one (.const (.int .u8 128))], 5), ([.whole 5 24], 29), ([.one (.const (.int .u8 64))], 5), ([.whole 7 24], 29), ([.one (.const (.int .u8 129))], 5), ([.whole 9 24], 29)], [⟨1, 2, 5, 1⟩]) <|
 .call 12 [.atom (.var 1)] ([], []) (.tup [.agg [.whole 11 8], .atom (.var 12)]) 2 [] <|
 .new <|
 .calc2 (.binOp .neq 30 (.tmp 61) (.const (.int .i64 0)) 30) 4 [(61, qv 12)] ([], []) qT 0 (
 .calc2 (.binOp .eql 30 (.tmp 63) (.const (.int .i64 13)) 30) 4 [(63, qv 4)] ([], []) qT 0 (
 .calc2 (.binOp .eql 30 (.tmp 66) (.const (.int .i64 13)) 30) 4 [(66, qv 6)] ([], []) qT 0 (
 .call2 8 [] ([], []) qT 0 [] (
 .ret ([], []) qT) qF 0 [] <|
 .ret ([], []) qF) qF 0 <|
 .ret ([], []) qF) qF 0 <|
 .ret ([], []) qF) qF 0 <|
 .call 13 [.agg [.whole 11 8]] ([], []) (.leaf (.agg [.whole 13 8])) 1 [] <|
 .new <|
 .call 16 [.atom (.const (.int .i64 1))] ([], []) (.leaf (.agg [.whole 14 8])) 1 [] <|
 .call 15 [.agg [.whole 13 8], .agg [.whole 14 8]] ([], []) (.leaf (.agg [.whole 15 8])) 1 [] <|
 .call 17 [.agg [.whole 13 8], .atom (.const (.int .i64 (-39081)))] ([], []) (.leaf (.agg [.whole 16 8])) 1 [] <|
 .call 16 [.atom (.const (.int .i64 1))] ([], []) (.leaf (.agg [.whole 17 8])) 1 [] <|
 .call 15 [.agg [.whole 16 8], .agg [.whole 17 8]] ([], []) (.leaf (.agg [.whole 18 8])) 1 [] <|
 .call 14 [.agg [.whole 15 8], .agg [.whole 18 8]] ([], []) (.tup [.agg [.whole 19 8], .atom (.var 20)]) 2 [] <|
 .new <|
 .calc (.unOp .not 4 (.tmp 85)) 4 [(85, qv 20)] ([], []) (qv 21) 1 <|
 .ite (.var 21) (
 .calc2 (.binOp .eql 30 (.tmp 87) (.const (.int .i64 13)) 30) 4 [(87, qv 4)] ([], []) qT 0 (
 .calc2 (.binOp .eql 30 (.tmp 90) (.const (.int .i64 13)) 30) 4 [(90, qv 6)] ([], []) qT 0 (
 .call2 8 [] ([], []) qT 0 [] (
 .ret ([], []) qT) qF 0 [] <|
 .ret ([], []) qF) qF 0 <|
 .ret ([], []) qF) qF 0 <|
 .ret ([], []) qF) <|
 .call 18 [.agg [.whole 3 24]] ([], []) (.tup [.agg [.whole 22 8], .agg [.whole 23 8]]) 2 [] <|
 .new <|
 .new <|
 .calc2 (.binOp .neq 30 (.tmp 101) (.const (.int .i64 0)) 30) 4 [(101, qv 4)] ([], []) qT 0 (
 .ret ([], []) qF) qF 0 <|
 .call2 19 [.agg [.whole 22 8], .agg [.whole 19 8]] ([], []) qT 0 [] (
 .calc2 (.binOp .eql 30 (.tmp 110) (.const (.int .i64 0)) 30) 4 [(110, qv 6)] ([], []) qT 0 (
 .call2 20 [.agg [.whole 19 8]] ([], []) qT 0 [] (
 .calc2 (.binOp .eql 4 (.tmp 111) (.tmp 113) 4) 4 [(111, .leaf (.atom (.const (.bool true)))), (113, .leaf (.atom (.const (.bool true))))] ([], []) qT 0 (
 .ret ([], []) qF) qF 0 <|
 .calc2 (.binOp .neq 30 (.tmp 116) (.const (.int .i64 0)) 30) 4 [(116, qv 6)] ([], []) qT 0 (
 .call2 8 [] ([], []) qT 0 [] (
 .ret ([], []) qT) qF 0 [] <|
 .ret ([], []) qF) qF 0 <|
 .call 22 [.agg [.whole 3 24]] ([], []) (.leaf (.agg [.whole 24 24])) 1 [] <|
 .call2 21 [.agg [.whole 5 24], .agg [.whole 24 24]] ([], []) qT 0 [] (
 .call2 8 [] ([], []) qT 0 [] (
 .ret ([], []) qT) qF 0 [] <|
 .ret ([], []) qF) qF 0 [] <|
 .ret ([], []) qF) qF 0 [] <|
 .calc2 (.binOp .eql 4 (.tmp 111) (.tmp 113) 4) 4 [(111, .leaf (.atom (.const (.bool true)))), (113, .leaf (.atom (.const (.bool false))))] ([], []) qT 0 (
 .ret ([], []) qF) qF 0 <|
 .calc2 (.binOp .neq 30 (.tmp 116) (.const (.int .i64 0)) 30) 4 [(116, qv 6)] ([], []) qT 0 (
 .call2 8 [] ([], []) qT 0 [] (
 .ret ([], []) qT) qF 0 [] <|
 .ret ([], []) qF) qF 0 <|
 .call 22 [.agg [.whole 3 24]] ([], []) (.leaf (.agg [.whole 24 24])) 1 [] <|
 .call2 21 [.agg [.whole 5 24], .agg [.whole 24 24]] ([], []) qT 0 [] (
 .call2 8 [] ([], []) qT 0 [] (
 .ret ([], []) qT) qF 0 [] <|
 .ret ([], []) qF) qF 0 [] <|
 .ret ([], []) qF) qF 0 <|
 .call2 20 [.agg [.whole 19 8]] ([], []) qT 0 [] (
 .calc2 (.binOp .eql 4 (.tmp 111) (.tmp 113) 4) 4 [(111, .leaf (.atom (.const (.bool false)))), (113, .leaf (.atom (.const (.bool true))))] ([], []) qT 0 (
 .ret ([], []) qF) qF 0 <|
 .calc2 (.binOp .neq 30 (.tmp 116) (.const (.int .i64 0)) 30) 4 [(116, qv 6)] ([], []) qT 0 (
 .call2 8 [] ([], []) qT 0 [] (
 .ret ([], []) qT) qF 0 [] <|
 .ret ([], []) qF) qF 0 <|
 .call 22 [.agg [.whole 3 24]] ([], []) (.leaf (.agg [.whole 24 24])) 1 [] <|
 .call2 21 [.agg [.whole 5 24], .agg [.whole 24 24]] ([], []) qT 0 [] (
 .call2 8 [] ([], []) qT 0 [] (
 .ret ([], []) qT) qF 0 [] <|
 .ret ([], []) qF) qF 0 [] <|
 .ret ([], []) qF) qF 0 [] <|
 .calc2 (.binOp .eql 4 (.tmp 111) (.tmp 113) 4) 4 [(111, .leaf (.atom (.const (.bool false)))), (113, .leaf (.atom (.const (.bool false))))] ([], []) qT 0 (
 .ret ([], []) qF) qF 0 <|
 .calc2 (.binOp .neq 30 (.tmp 116) (.const (.int .i64 0)) 30) 4 [(116, qv 6)] ([], []) qT 0 (
 .call2 8 [] ([], []) qT 0 [] (
 .ret ([], []) qT) qF 0 [] <|
 .ret ([], []) qF) qF 0 <|
 .call 22 [.agg [.whole 3 24]] ([], []) (.leaf (.agg [.whole 24 24])) 1 [] <|
 .call2 21 [.agg [.whole 5 24], .agg [.whole 24 24]] ([], []) qT 0 [] (
 .call2 8 [] ([], []) qT 0 [] (
 .ret ([], []) qT) qF 0 [] <|
 .ret ([], []) qF) qF 0 [] <|
 .ret ([], []) qF) qF 0 [] <|
 .ret ([], []) qF
theorem c_ceach : compF Try.prog Try.f4 o_ceach (Try.f4.body.getD .skip) (symIn [.agg [.whole 0 56]] Try.f4.ntmps 1) = some t_ceach := by kernel_rfl
theorem g_ceach : goodC Try.prog o_ceach.ords (Try.f4.body.getD .skip) = true := by kernel_rfl
set_option maxRecDepth 100000 in
set_option maxHeartbeats 1000000 in
theorem aw_ceach (b1 : List Int) (lb1 : b1.length = 56) (yb1 : By b1) : AWp Try.prog tblo (fun a => a = .bool true) t_ceach [] [.ints .u8 b1] := by
 have m1 := And.intro lb1 yb1
 have k0 := each_len lb1 0
 have k1 := each_len lb1 128
 have k2 := each_len lb1 64
 have k3 := each_len lb1 129
 have y0 : By (b1 ++ [0]) ∧ (b1 ++ [0]).length ≤ 100000 := ⟨each_by yb1 (by omega), by omega⟩
 have y1 : By (b1 ++ [128]) ∧ (b1 ++ [128]).length ≤ 100000 := ⟨each_by yb1 (by omega), by omega⟩
 have y2 : By (b1 ++ [64]) ∧ (b1 ++ [64]).length ≤ 100000 := ⟨each_by yb1 (by omega), by omega⟩
 have y3 : By (b1 ++ [129]) ∧ (b1 ++ [129]).length ≤ 100000 := ⟨each_by yb1 (by omega), by omega⟩
 have s0 : (AV.ints .u8 (b1 ++ [0])).size ≤ 1000000 := by show (b1 ++ [0]).length ≤ _; omega
 have s1 : (AV.ints .u8 (b1 ++ [128])).size ≤ 1000000 := by show (b1 ++ [128]).length ≤ _; omega
 have s2 : (AV.ints .u8 (b1 ++ [64])).size ≤ 1000000 := by show (b1 ++ [64]).length ≤ _; omega
 have s3 : (AV.ints .u8 (b1 ++ [129])).size ≤ 1000000 := by show (b1 ++ [129]).length ≤ _; omega
 have s4 : (AV.ints .u8 b1).size ≤ 1000000 := by show b1.length ≤ _; omega
 have n2 := each_no (b := b1) lb1 (s := 64) (by omega)
 have n3 := each_no (b := b1) lb1 (s := 129) (by omega)
 have mb : b1.length = 56 ∧ By b1 := ⟨lb1, yb1⟩
 have i1 : I64 1 := by unfold I64; omega
 have i2 : I64 (-39081) := by unfold I64; omega
 by_cases hP : bval b1 < (P : Int)
 case neg =>
  have n0 : ¬ DecOK (b1 ++ [0]) := fun g => hP ((each_ok lb1).1 g).1
  have n1 : ¬ DecOK (b1 ++ [128]) := fun g => hP ((each_ok lb1).1 g).1
  repeat ((conv => whnf) <;> first | exact rfl | refine wI (by omega) ?_ | refine wB (by omega) ?_ | with_reducible refine And.intro rfl ?_ | with_reducible refine And.intro (by assumption) ?_ | with_reducible refine cTe (by assumption) ?_ | with_reducible refine cFe (by assumption) ?_ | with_reducible refine cN (cTe (by assumption) ?_) | with_reducible refine cN (cFe (by assumption) ?_) | with_reducible refine cTe rfl ?_ | with_reducible refine cEq (by assumption) ?_ | with_reducible refine cTt ?_ | with_reducible refine cNt ?_ | with_reducible refine cF (Eq.refl false) ?_ | refine And.intro (by omega) ?_ | refine cTd (by omega) ?_ | refine cFd (by omega) ?_ | refine cN (cTd (by omega) ?_) | refine cN (cFd (by omega) ?_) | refine And.intro (by simp only [AV.size, Nat.div_one, List.length_append, List.length_singleton]; omega) ?_)
  refine ⟨fun _ _ => ?_, fun _ hy => absurd hy n0⟩
  repeat ((conv => whnf) <;> first | exact rfl | refine wI (by omega) ?_ | refine wB (by omega) ?_ | with_reducible refine And.intro rfl ?_ | with_reducible refine And.intro (by assumption) ?_ | with_reducible refine cTe (by assumption) ?_ | with_reducible refine cFe (by assumption) ?_ | with_reducible refine cN (cTe (by assumption) ?_) | with_reducible refine cN (cFe (by assumption) ?_) | with_reducible refine cTe rfl ?_ | with_reducible refine cEq (by assumption) ?_ | with_reducible refine cTt ?_ | with_reducible refine cNt ?_ | with_reducible refine cF (Eq.refl false) ?_ | refine And.intro (by omega) ?_ | refine cTd (by omega) ?_ | refine cFd (by omega) ?_ | refine cN (cTd (by omega) ?_) | refine cN (cFd (by omega) ?_) | refine And.intro (by simp only [AV.size, Nat.div_one, List.length_append, List.length_singleton]; omega) ?_)
  refine ⟨fun _ _ => ?_, fun _ hy => absurd hy n1⟩
  repeat ((conv => whnf) <;> first | exact rfl | refine wI (by omega) ?_ | refine wB (by omega) ?_ | with_reducible refine And.intro rfl ?_ | with_reducible refine And.intro (by assumption) ?_ | with_reducible refine cTe (by assumption) ?_ | with_reducible refine cFe (by assumption) ?_ | with_reducible refine cN (cTe (by assumption) ?_) | with_reducible refine cN (cFe (by assumption) ?_) | with_reducible refine cTe rfl ?_ | with_reducible refine cEq (by assumption) ?_ | with_reducible refine cTt ?_ | with_reducible refine cNt ?_ | with_reducible refine cF (Eq.refl false) ?_ | refine And.intro (by omega) ?_ | refine cTd (by omega) ?_ | refine cFd (by omega) ?_ | refine cN (cTd (by omega) ?_) | refine cN (cFd (by omega) ?_) | refine And.intro (by simp only [AV.size, Nat.div_one, List.length_append, List.length_singleton]; omega) ?_)
  refine ⟨fun _ _ => ?_, fun _ hy => absurd hy n2⟩
  repeat ((conv => whnf) <;> first | exact rfl | refine wI (by omega) ?_ | refine wB (by omega) ?_ | with_reducible refine And.intro rfl ?_ | with_reducible refine And.intro (by assumption) ?_ | with_reducible refine cTe (by assumption) ?_ | with_reducible refine cFe (by assumption) ?_ | with_reducible refine cN (cTe (by assumption) ?_) | with_reducible refine cN (cFe (by assumption) ?_) | with_reducible refine cTe rfl ?_ | with_reducible refine cEq (by assumption) ?_ | with_reducible refine cTt ?_ | with_reducible refine cNt ?_ | with_reducible refine cF (Eq.refl false) ?_ | refine And.intro (by omega) ?_ | refine cTd (by omega) ?_ | refine cFd (by omega) ?_ | refine cN (cTd (by omega) ?_) | refine cN (cFd (by omega) ?_) | refine And.intro (by simp only [AV.size, Nat.div_one, List.length_append, List.length_singleton]; omega) ?_)
  refine ⟨fun _ _ => ?_, fun _ hy => absurd hy n3⟩
  repeat ((conv => whnf) <;> first | exact rfl | refine wI (by omega) ?_ | refine wB (by omega) ?_ | with_reducible refine And.intro rfl ?_ | with_reducible refine And.intro (by assumption) ?_ | with_reducible refine cTe (by assumption) ?_ | with_reducible refine cFe (by assumption) ?_ | with_reducible refine cN (cTe (by assumption) ?_) | with_reducible refine cN (cFe (by assumption) ?_) | with_reducible refine cTe rfl ?_ | with_reducible refine cEq (by assumption) ?_ | with_reducible refine cTt ?_ | with_reducible refine cNt ?_ | with_reducible refine cF (Eq.refl false) ?_ | refine And.intro (by omega) ?_ | refine cTd (by omega) ?_ | refine cFd (by omega) ?_ | refine cN (cTd (by omega) ?_) | refine cN (cFd (by omega) ?_) | refine And.intro (by simp only [AV.size, Nat.div_one, List.length_append, List.length_singleton]; omega) ?_)
  refine ⟨[.isl .u8 b1], ⟨Sub.refl' _, trivial⟩, ?_⟩
  repeat ((conv => whnf) <;> first | exact rfl | refine wI (by omega) ?_ | refine wB (by omega) ?_ | with_reducible refine And.intro rfl ?_ | with_reducible refine And.intro (by assumption) ?_ | with_reducible refine cTe (by assumption) ?_ | with_reducible refine cFe (by assumption) ?_ | with_reducible refine cN (cTe (by assumption) ?_) | with_reducible refine cN (cFe (by assumption) ?_) | with_reducible refine cTe rfl ?_ | with_reducible refine cEq (by assumption) ?_ | with_reducible refine cTt ?_ | with_reducible refine cNt ?_ | with_reducible refine cF (Eq.refl false) ?_ | refine And.intro (by omega) ?_ | refine cTd (by omega) ?_ | refine cFd (by omega) ?_ | refine cN (cTd (by omega) ?_) | refine cN (cFd (by omega) ?_) | refine And.intro (by simp only [AV.size, Nat.div_one, List.length_append, List.length_singleton]; omega) ?_)
 by_cases hI : ratI (eU b1) (eV b1)
 case neg =>
  have n0 : ¬ DecOK (b1 ++ [0]) := fun g => hI ((each_ok lb1).1 g).2.2.1
  have n1 : ¬ DecOK (b1 ++ [128]) := fun g => hI ((each_ok lb1).1 g).2.2.1
  have hI' : ¬ ratI (z (bval b1) * z (bval b1) - z 1) (z (bval b1) * z (bval b1) * z (-39081) - z 1) := hI
  repeat ((conv => whnf) <;> first | exact rfl | refine wI (by omega) ?_ | refine wB (by omega) ?_ | with_reducible refine And.intro rfl ?_ | with_reducible refine And.intro (by assumption) ?_ | with_reducible refine cTe (by assumption) ?_ | with_reducible refine cFe (by assumption) ?_ | with_reducible refine cN (cTe (by assumption) ?_) | with_reducible refine cN (cFe (by assumption) ?_) | with_reducible refine cTe rfl ?_ | with_reducible refine cEq (by assumption) ?_ | with_reducible refine cTt ?_ | with_reducible refine cNt ?_ | with_reducible refine cF (Eq.refl false) ?_ | refine And.intro (by omega) ?_ | refine cTd (by omega) ?_ | refine cFd (by omega) ?_ | refine cN (cTd (by omega) ?_) | refine cN (cFd (by omega) ?_) | refine And.intro (by simp only [AV.size, Nat.div_one, List.length_append, List.length_singleton]; omega) ?_)
  refine ⟨fun _ _ => ?_, fun _ hy => absurd hy n0⟩
  repeat ((conv => whnf) <;> first | exact rfl | refine wI (by omega) ?_ | refine wB (by omega) ?_ | with_reducible refine And.intro rfl ?_ | with_reducible refine And.intro (by assumption) ?_ | with_reducible refine cTe (by assumption) ?_ | with_reducible refine cFe (by assumption) ?_ | with_reducible refine cN (cTe (by assumption) ?_) | with_reducible refine cN (cFe (by assumption) ?_) | with_reducible refine cTe rfl ?_ | with_reducible refine cEq (by assumption) ?_ | with_reducible refine cTt ?_ | with_reducible refine cNt ?_ | with_reducible refine cF (Eq.refl false) ?_ | refine And.intro (by omega) ?_ | refine cTd (by omega) ?_ | refine cFd (by omega) ?_ | refine cN (cTd (by omega) ?_) | refine cN (cFd (by omega) ?_) | refine And.intro (by simp only [AV.size, Nat.div_one, List.length_append, List.length_singleton]; omega) ?_)
  refine ⟨fun _ _ => ?_, fun _ hy => absurd hy n1⟩
  repeat ((conv => whnf) <;> first | exact rfl | refine wI (by omega) ?_ | refine wB (by omega) ?_ | with_reducible refine And.intro rfl ?_ | with_reducible refine And.intro (by assumption) ?_ | with_reducible refine cTe (by assumption) ?_ | with_reducible refine cFe (by assumption) ?_ | with_reducible refine cN (cTe (by assumption) ?_) | with_reducible refine cN (cFe (by assumption) ?_) | with_reducible refine cTe rfl ?_ | with_reducible refine cEq (by assumption) ?_ | with_reducible refine cTt ?_ | with_reducible refine cNt ?_ | with_reducible refine cF (Eq.refl false) ?_ | refine And.intro (by omega) ?_ | refine cTd (by omega) ?_ | refine cFd (by omega) ?_ | refine cN (cTd (by omega) ?_) | refine cN (cFd (by omega) ?_) | refine And.intro (by simp only [AV.size, Nat.div_one, List.length_append, List.length_singleton]; omega) ?_)
  refine ⟨fun _ _ => ?_, fun _ hy => absurd hy n2⟩
  repeat ((conv => whnf) <;> first | exact rfl | refine wI (by omega) ?_ | refine wB (by omega) ?_ | with_reducible refine And.intro rfl ?_ | with_reducible refine And.intro (by assumption) ?_ | with_reducible refine cTe (by assumption) ?_ | with_reducible refine cFe (by assumption) ?_ | with_reducible refine cN (cTe (by assumption) ?_) | with_reducible refine cN (cFe (by assumption) ?_) | with_reducible refine cTe rfl ?_ | with_reducible refine cEq (by assumption) ?_ | with_reducible refine cTt ?_ | with_reducible refine cNt ?_ | with_reducible refine cF (Eq.refl false) ?_ | refine And.intro (by omega) ?_ | refine cTd (by omega) ?_ | refine cFd (by omega) ?_ | refine cN (cTd (by omega) ?_) | refine cN (cFd (by omega) ?_) | refine And.intro (by simp only [AV.size, Nat.div_one, List.length_append, List.length_singleton]; omega) ?_)
  refine ⟨fun _ _ => ?_, fun _ hy => absurd hy n3⟩
  repeat ((conv => whnf) <;> first | exact rfl | refine wI (by omega) ?_ | refine wB (by omega) ?_ | with_reducible refine And.intro rfl ?_ | with_reducible refine And.intro (by assumption) ?_ | with_reducible refine cTe (by assumption) ?_ | with_reducible refine cFe (by assumption) ?_ | with_reducible refine cN (cTe (by assumption) ?_) | with_reducible refine cN (cFe (by assumption) ?_) | with_reducible refine cTe rfl ?_ | with_reducible refine cEq (by assumption) ?_ | with_reducible refine cTt ?_ | with_reducible refine cNt ?_ | with_reducible refine cF (Eq.refl false) ?_ | refine And.intro (by omega) ?_ | refine cTd (by omega) ?_ | refine cFd (by omega) ?_ | refine cN (cTd (by omega) ?_) | refine cN (cFd (by omega) ?_) | refine And.intro (by simp only [AV.size, Nat.div_one, List.length_append, List.length_singleton]; omega) ?_)
  refine ⟨[.isl .u8 b1], ⟨Sub.refl' _, trivial⟩, ?_⟩
  repeat ((conv => whnf) <;> first | exact rfl | refine wI (by omega) ?_ | refine wB (by omega) ?_ | with_reducible refine And.intro rfl ?_ | with_reducible refine And.intro (by assumption) ?_ | with_reducible refine cTe (by assumption) ?_ | with_reducible refine cFe (by assumption) ?_ | with_reducible refine cN (cTe (by assumption) ?_) | with_reducible refine cN (cFe (by assumption) ?_) | with_reducible refine cTe rfl ?_ | with_reducible refine cEq (by assumption) ?_ | with_reducible refine cTt ?_ | with_reducible refine cNt ?_ | with_reducible refine cF (Eq.refl false) ?_ | refine And.intro (by omega) ?_ | refine cTd (by omega) ?_ | refine cFd (by omega) ?_ | refine cN (cTd (by omega) ?_) | refine cN (cFd (by omega) ?_) | refine And.intro (by simp only [AV.size, Nat.div_one, List.length_append, List.length_singleton]; omega) ?_)
 have n0 : DecOK (b1 ++ [0]) := (each_ok lb1).2 ⟨hP, .inl rfl, hI, fun g => absurd g.2 (by omega)⟩
 have hI' : ratI (z (bval b1) * z (bval b1) - z 1) (z (bval b1) * z (bval b1) * z (-39081) - z 1) := hI
 have hx : (decG (b1 ++ [0])).x = ratA (z (bval b1) * z (bval b1) - z 1) (z (bval b1) * z (bval b1) * z (-39081) - z 1) := each_x lb1 hI
 have hn := each_neg lb1 hI
 by_cases h0 : ratA (z (bval b1) * z (bval b1) - z 1) (z (bval b1) * z (bval b1) * z (-39081) - z 1) = 0
 ·have n1 : ¬ DecOK (b1 ++ [128]) := fun g => ((each_ok lb1).1 g).2.2.2 ⟨h0, rfl⟩
  repeat ((conv => whnf) <;> first | exact rfl | refine wI (by omega) ?_ | refine wB (by omega) ?_ | with_reducible refine And.intro rfl ?_ | with_reducible refine And.intro (by assumption) ?_ | with_reducible refine cTe (by assumption) ?_ | with_reducible refine cFe (by assumption) ?_ | with_reducible refine cN (cTe (by assumption) ?_) | with_reducible refine cN (cFe (by assumption) ?_) | with_reducible refine cTe rfl ?_ | with_reducible refine cEq (by assumption) ?_ | with_reducible refine cTt ?_ | with_reducible refine cNt ?_ | with_reducible refine cF (Eq.refl false) ?_ | refine And.intro (by omega) ?_ | refine cTd (by omega) ?_ | refine cFd (by omega) ?_ | refine cN (cTd (by omega) ?_) | refine cN (cFd (by omega) ?_) | refine And.intro (by simp only [AV.size, Nat.div_one, List.length_append, List.length_singleton]; omega) ?_)
  refine ⟨fun _ hn => absurd n0 hn, fun _ _ => ?_⟩
  repeat ((conv => whnf) <;> first | exact rfl | refine wI (by omega) ?_ | refine wB (by omega) ?_ | with_reducible refine And.intro rfl ?_ | with_reducible refine And.intro (by assumption) ?_ | with_reducible refine cTe (by assumption) ?_ | with_reducible refine cFe (by assumption) ?_ | with_reducible refine cN (cTe (by assumption) ?_) | with_reducible refine cN (cFe (by assumption) ?_) | with_reducible refine cTe rfl ?_ | with_reducible refine cEq (by assumption) ?_ | with_reducible refine cTt ?_ | with_reducible refine cNt ?_ | with_reducible refine cF (Eq.refl false) ?_ | refine And.intro (by omega) ?_ | refine cTd (by omega) ?_ | refine cFd (by omega) ?_ | refine cN (cTd (by omega) ?_) | refine cN (cFd (by omega) ?_) | refine And.intro (by simp only [AV.size, Nat.div_one, List.length_append, List.length_singleton]; omega) ?_)
  refine ⟨fun _ _ => ?_, fun _ hy => absurd hy n1⟩
  repeat ((conv => whnf) <;> first | exact rfl | refine wI (by omega) ?_ | refine wB (by omega) ?_ | with_reducible refine And.intro rfl ?_ | with_reducible refine And.intro (by assumption) ?_ | with_reducible refine cTe (by assumption) ?_ | with_reducible refine cFe (by assumption) ?_ | with_reducible refine cN (cTe (by assumption) ?_) | with_reducible refine cN (cFe (by assumption) ?_) | with_reducible refine cTe rfl ?_ | with_reducible refine cEq (by assumption) ?_ | with_reducible refine cTt ?_ | with_reducible refine cNt ?_ | with_reducible refine cF (Eq.refl false) ?_ | refine And.intro (by omega) ?_ | refine cTd (by omega) ?_ | refine cFd (by omega) ?_ | refine cN (cTd (by omega) ?_) | refine cN (cFd (by omega) ?_) | refine And.intro (by simp only [AV.size, Nat.div_one, List.length_append, List.length_singleton]; omega) ?_)
  refine ⟨fun _ _ => ?_, fun _ hy => absurd hy n2⟩
  repeat ((conv => whnf) <;> first | exact rfl | refine wI (by omega) ?_ | refine wB (by omega) ?_ | with_reducible refine And.intro rfl ?_ | with_reducible refine And.intro (by assumption) ?_ | with_reducible refine cTe (by assumption) ?_ | with_reducible refine cFe (by assumption) ?_ | with_reducible refine cN (cTe (by assumption) ?_) | with_reducible refine cN (cFe (by assumption) ?_) | with_reducible refine cTe rfl ?_ | with_reducible refine cEq (by assumption) ?_ | with_reducible refine cTt ?_ | with_reducible refine cNt ?_ | with_reducible refine cF (Eq.refl false) ?_ | refine And.intro (by omega) ?_ | refine cTd (by omega) ?_ | refine cFd (by omega) ?_ | refine cN (cTd (by omega) ?_) | refine cN (cFd (by omega) ?_) | refine And.intro (by simp only [AV.size, Nat.div_one, List.length_append, List.length_singleton]; omega) ?_)
  refine ⟨fun _ _ => ?_, fun _ hy => absurd hy n3⟩
  repeat ((conv => whnf) <;> first | exact rfl | refine wI (by omega) ?_ | refine wB (by omega) ?_ | with_reducible refine And.intro rfl ?_ | with_reducible refine And.intro (by assumption) ?_ | with_reducible refine cTe (by assumption) ?_ | with_reducible refine cFe (by assumption) ?_ | with_reducible refine cN (cTe (by assumption) ?_) | with_reducible refine cN (cFe (by assumption) ?_) | with_reducible refine cTe rfl ?_ | with_reducible refine cEq (by assumption) ?_ | with_reducible refine cTt ?_ | with_reducible refine cNt ?_ | with_reducible refine cF (Eq.refl false) ?_ | refine And.intro (by omega) ?_ | refine cTd (by omega) ?_ | refine cFd (by omega) ?_ | refine cN (cTd (by omega) ?_) | refine cN (cFd (by omega) ?_) | refine And.intro (by simp only [AV.size, Nat.div_one, List.length_append, List.length_singleton]; omega) ?_)
  refine ⟨[.isl .u8 b1], ⟨Sub.refl' _, trivial⟩, ?_⟩
  repeat ((conv => whnf) <;> first | exact rfl | refine wI (by omega) ?_ | refine wB (by omega) ?_ | with_reducible refine And.intro rfl ?_ | with_reducible refine And.intro (by assumption) ?_ | with_reducible refine cTe (by assumption) ?_ | with_reducible refine cFe (by assumption) ?_ | with_reducible refine cN (cTe (by assumption) ?_) | with_reducible refine cN (cFe (by assumption) ?_) | with_reducible refine cTe rfl ?_ | with_reducible refine cEq (by assumption) ?_ | with_reducible refine cTt ?_ | with_reducible refine cNt ?_ | with_reducible refine cF (Eq.refl false) ?_ | refine And.intro (by omega) ?_ | refine cTd (by omega) ?_ | refine cFd (by omega) ?_ | refine cN (cTd (by omega) ?_) | refine cN (cFd (by omega) ?_) | refine And.intro (by simp only [AV.size, Nat.div_one, List.length_append, List.length_singleton]; omega) ?_)
  (conv => whnf)
  refine cF rfl ?_
  repeat ((conv => whnf) <;> first | exact rfl | refine wI (by omega) ?_ | refine wB (by omega) ?_ | with_reducible refine And.intro rfl ?_ | with_reducible refine And.intro (by assumption) ?_ | with_reducible refine cTe (by assumption) ?_ | with_reducible refine cFe (by assumption) ?_ | with_reducible refine cN (cTe (by assumption) ?_) | with_reducible refine cN (cFe (by assumption) ?_) | with_reducible refine cTe rfl ?_ | with_reducible refine cEq (by assumption) ?_ | with_reducible refine cTt ?_ | with_reducible refine cNt ?_ | with_reducible refine cF (Eq.refl false) ?_ | refine And.intro (by omega) ?_ | refine cTd (by omega) ?_ | refine cFd (by omega) ?_ | refine cN (cTd (by omega) ?_) | refine cN (cFd (by omega) ?_) | refine And.intro (by simp only [AV.size, Nat.div_one, List.length_append, List.length_singleton]; omega) ?_)
 ·have n1 : DecOK (b1 ++ [128]) := (each_ok lb1).2 ⟨hP, .inr rfl, hI, fun g => h0 g.1⟩
  repeat ((conv => whnf) <;> first | exact rfl | refine wI (by omega) ?_ | refine wB (by omega) ?_ | with_reducible refine And.intro rfl ?_ | with_reducible refine And.intro (by assumption) ?_ | with_reducible refine cTe (by assumption) ?_ | with_reducible refine cFe (by assumption) ?_ | with_reducible refine cN (cTe (by assumption) ?_) | with_reducible refine cN (cFe (by assumption) ?_) | with_reducible refine cTe rfl ?_ | with_reducible refine cEq (by assumption) ?_ | with_reducible refine cTt ?_ | with_reducible refine cNt ?_ | with_reducible refine cF (Eq.refl false) ?_ | refine And.intro (by omega) ?_ | refine cTd (by omega) ?_ | refine cFd (by omega) ?_ | refine cN (cTd (by omega) ?_) | refine cN (cFd (by omega) ?_) | refine And.intro (by simp only [AV.size, Nat.div_one, List.length_append, List.length_singleton]; omega) ?_)
  refine ⟨fun _ hn => absurd n0 hn, fun _ _ => ?_⟩
  repeat ((conv => whnf) <;> first | exact rfl | refine wI (by omega) ?_ | refine wB (by omega) ?_ | with_reducible refine And.intro rfl ?_ | with_reducible refine And.intro (by assumption) ?_ | with_reducible refine cTe (by assumption) ?_ | with_reducible refine cFe (by assumption) ?_ | with_reducible refine cN (cTe (by assumption) ?_) | with_reducible refine cN (cFe (by assumption) ?_) | with_reducible refine cTe rfl ?_ | with_reducible refine cEq (by assumption) ?_ | with_reducible refine cTt ?_ | with_reducible refine cNt ?_ | with_reducible refine cF (Eq.refl false) ?_ | refine And.intro (by omega) ?_ | refine cTd (by omega) ?_ | refine cFd (by omega) ?_ | refine cN (cTd (by omega) ?_) | refine cN (cFd (by omega) ?_) | refine And.intro (by simp only [AV.size, Nat.div_one, List.length_append, List.length_singleton]; omega) ?_)
  refine ⟨fun _ hn => absurd n1 hn, fun _ _ => ?_⟩
  repeat ((conv => whnf) <;> first | exact rfl | refine wI (by omega) ?_ | refine wB (by omega) ?_ | with_reducible refine And.intro rfl ?_ | with_reducible refine And.intro (by assumption) ?_ | with_reducible refine cTe (by assumption) ?_ | with_reducible refine cFe (by assumption) ?_ | with_reducible refine cN (cTe (by assumption) ?_) | with_reducible refine cN (cFe (by assumption) ?_) | with_reducible refine cTe rfl ?_ | with_reducible refine cEq (by assumption) ?_ | with_reducible refine cTt ?_ | with_reducible refine cNt ?_ | with_reducible refine cF (Eq.refl false) ?_ | refine And.intro (by omega) ?_ | refine cTd (by omega) ?_ | refine cFd (by omega) ?_ | refine cN (cTd (by omega) ?_) | refine cN (cFd (by omega) ?_) | refine And.intro (by simp only [AV.size, Nat.div_one, List.length_append, List.length_singleton]; omega) ?_)
  refine ⟨fun _ _ => ?_, fun _ hy => absurd hy n2⟩
  repeat ((conv => whnf) <;> first | exact rfl | refine wI (by omega) ?_ | refine wB (by omega) ?_ | with_reducible refine And.intro rfl ?_ | with_reducible refine And.intro (by assumption) ?_ | with_reducible refine cTe (by assumption) ?_ | with_reducible refine cFe (by assumption) ?_ | with_reducible refine cN (cTe (by assumption) ?_) | with_reducible refine cN (cFe (by assumption) ?_) | with_reducible refine cTe rfl ?_ | with_reducible refine cEq (by assumption) ?_ | with_reducible refine cTt ?_ | with_reducible refine cNt ?_ | with_reducible refine cF (Eq.refl false) ?_ | refine And.intro (by omega) ?_ | refine cTd (by omega) ?_ | refine cFd (by omega) ?_ | refine cN (cTd (by omega) ?_) | refine cN (cFd (by omega) ?_) | refine And.intro (by simp only [AV.size, Nat.div_one, List.length_append, List.length_singleton]; omega) ?_)
  refine ⟨fun _ _ => ?_, fun _ hy => absurd hy n3⟩
  repeat ((conv => whnf) <;> first | exact rfl | refine wI (by omega) ?_ | refine wB (by omega) ?_ | with_reducible refine And.intro rfl ?_ | with_reducible refine And.intro (by assumption) ?_ | with_reducible refine cTe (by assumption) ?_ | with_reducible refine cFe (by assumption) ?_ | with_reducible refine cN (cTe (by assumption) ?_) | with_reducible refine cN (cFe (by assumption) ?_) | with_reducible refine cTe rfl ?_ | with_reducible refine cEq (by assumption) ?_ | with_reducible refine cTt ?_ | with_reducible refine cNt ?_ | with_reducible refine cF (Eq.refl false) ?_ | refine And.intro (by omega) ?_ | refine cTd (by omega) ?_ | refine cFd (by omega) ?_ | refine cN (cTd (by omega) ?_) | refine cN (cFd (by omega) ?_) | refine And.intro (by simp only [AV.size, Nat.div_one, List.length_append, List.length_singleton]; omega) ?_)
  refine ⟨[.isl .u8 b1], ⟨Sub.refl' _, trivial⟩, ?_⟩
  repeat ((conv => whnf) <;> first | exact rfl | refine wI (by omega) ?_ | refine wB (by omega) ?_ | with_reducible refine And.intro rfl ?_ | with_reducible refine And.intro (by assumption) ?_ | with_reducible refine cTe (by assumption) ?_ | with_reducible refine cFe (by assumption) ?_ | with_reducible refine cN (cTe (by assumption) ?_) | with_reducible refine cN (cFe (by assumption) ?_) | with_reducible refine cTe rfl ?_ | with_reducible refine cEq (by assumption) ?_ | with_reducible refine cTt ?_ | with_reducible refine cNt ?_ | with_reducible refine cF (Eq.refl false) ?_ | refine And.intro (by omega) ?_ | refine cTd (by omega) ?_ | refine cFd (by omega) ?_ | refine cN (cTd (by omega) ?_) | refine cN (cFd (by omega) ?_) | refine And.intro (by simp only [AV.size, Nat.div_one, List.length_append, List.length_singleton]; omega) ?_)
  (conv => whnf)
  refine cF rfl ?_
  repeat ((conv => whnf) <;> first | exact rfl | refine wI (by omega) ?_ | refine wB (by omega) ?_ | with_reducible refine And.intro rfl ?_ | with_reducible refine And.intro (by assumption) ?_ | with_reducible refine cTe (by assumption) ?_ | with_reducible refine cFe (by assumption) ?_ | with_reducible refine cN (cTe (by assumption) ?_) | with_reducible refine cN (cFe (by assumption) ?_) | with_reducible refine cTe rfl ?_ | with_reducible refine cEq (by assumption) ?_ | with_reducible refine cTt ?_ | with_reducible refine cNt ?_ | with_reducible refine cF (Eq.refl false) ?_ | refine And.intro (by omega) ?_ | refine cTd (by omega) ?_ | refine cFd (by omega) ?_ | refine cN (cTd (by omega) ?_) | refine cN (cFd (by omega) ?_) | refine And.intro (by simp only [AV.size, Nat.div_one, List.length_append, List.length_singleton]; omega) ?_)
set_option maxRecDepth 100000 in
theorem ceach_any (b1 : List Int) (lb1 : b1.length = 56) (yb1 : By b1) (w : World) : Calls Try.prog 4 #[AG (ys b1)] w (OutV (.bool true) w) :=
 law_tree tblo_ok o_ceach [.agg [.whole 0 56]] [AG (ys b1)] [.ints .u8 b1] Try.func4 rfl c_ceach rfl (by intro x hx; simp only [List.mem_cons, List.not_mem_nil, or_false] at hx; subst hx <;> first | exact ok_arr rfl lb1) ⟨_, _, rfl, arr_val b1, rfl⟩ g_ceach (aw_ceach b1 lb1 yb1)
end Go.Proofs.Ytmhpagceheekcaa
