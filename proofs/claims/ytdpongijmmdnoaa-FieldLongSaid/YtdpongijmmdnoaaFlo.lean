/- FieldLong -/
import Derived.Test.YtdpongijmmdnoaaJ11
import Derived.Test.YtdpongijmmdnoaaJ13
import Derived.Test.YtdpongijmmdnoaaOpi
set_option linter.unusedSimpArgs false
set_option linter.unusedVariables false
namespace Go.Proofs.Ytdpongijmmdnoaa
open Go.RowKit FdP FdP.Ch
def tPlace : Trans := fun zs Q => match zs with
 | [.int .i64 n, .int .i64 m] => (I64 n ∧ 0 < m ∧ m ≤ 1000) ∧ ∀ j : Int, 0 ≤ j → j < m → Q (.int .i64 j)
 | _ => False
theorem tmod_bd {n m : Int} (h : 0 < m) : -m < n.tmod m ∧ n.tmod m < m := by
 by_cases hn : 0 ≤ n
 ·rw [Int.tmod_eq_emod_of_nonneg hn]
  have h1 := Int.emod_nonneg n (show m ≠ 0 by omega)
  have h2 := Int.emod_lt_of_pos n h
  omega
 ·have e : n.tmod m = -((-n).tmod m) := by rw [Int.neg_tmod]; omega
  rw [e, Int.tmod_eq_emod_of_nonneg (by omega)]
  have h1 := Int.emod_nonneg (-n) (show m ≠ 0 by omega)
  have h2 := Int.emod_lt_of_pos (-n) h
  omega
def elA (x : F) : AV := .el x
def fgA (x : F) : AV := .fg x
theorem szs_app (es : List AV) (x : AV) : (AV.agg (es ++ [x])).size = (AV.agg es).size + x.size := by
 show AV.sizes (es ++ [x]) = AV.sizes es + x.size
 induction es with
 | nil => show x.size + 0 = 0 + x.size; omega
 | cons y es ih => show y.size + AV.sizes (es ++ [x]) = y.size + AV.sizes es + x.size; omega
theorem els_size (xs : List F) : (AV.agg (xs.map elA)).size = 8 * xs.length := by
 induction xs with
 | nil => rfl
 | cons x xs ih =>
  show 8 + (AV.agg (xs.map elA)).size = _
  rw [ih, List.length_cons]; omega
theorem fgs_size (xs : List F) : (AV.agg (xs.map fgA)).size = 16 * xs.length := by
 induction xs with
 | nil => rfl
 | cons x xs ih =>
  show 16 + (AV.agg (xs.map fgA)).size = _
  rw [ih, List.length_cons]; omega
theorem els_sz (xs : List F) : ∀ x ∈ xs.map elA, x.size = 8 := fun x hx => by obtain ⟨y, _, rfl⟩ := List.mem_map.1 hx; rfl
theorem fgs_sz (xs : List F) : ∀ x ∈ xs.map fgA, x.size = 16 := fun x hx => by obtain ⟨y, _, rfl⟩ := List.mem_map.1 hx; rfl
theorem els_push (xs : List F) (w : F) : xs.map elA ++ [AV.el w] = (xs ++ [w]).map elA := by rw [List.map_append]; rfl
theorem fgs_push (xs : List F) (w : F) : xs.map fgA ++ [AV.fg w] = (xs ++ [w]).map fgA := by rw [List.map_append]; rfl
theorem els_get {xs : List F} {j : Int} (h0 : 0 ≤ j) (h : j < xs.length) : (xs.map elA).getD j.toNat .any = .el (xs.getD j.toNat 0) := by
 rw [List.getD_eq_getElem?_getD, List.getElem?_map, List.getD_eq_getElem?_getD, List.getElem?_eq_getElem (by omega)]; rfl
theorem fgs_get {xs : List F} {j : Int} (h0 : 0 ≤ j) (h : j < xs.length) : (xs.map fgA).getD j.toNat .any = .fg (xs.getD j.toNat 0) := by
 rw [List.getD_eq_getElem?_getD, List.getElem?_map, List.getD_eq_getElem?_getD, List.getElem?_eq_getElem (by omega)]; rfl
theorem els_fact (xs : List F) (w : F) : (AV.agg (xs.map elA ++ [one [AV.el w]])).size = 8 * xs.length + 8 ∧ (AV.agg (xs.map elA ++ [one [AV.el w]])).size / 8 = xs.length + 1 ∧ (xs.map elA ++ [one [AV.el w]]).length = xs.length + 1 ∧
 (xs.map elA ++ [one [AV.el w]]).getD ((((AV.agg (xs.map elA ++ [one [AV.el w]])).size / 8 : Nat) : Int) - 1).toNat .any = .el w ∧ (∀ x ∈ xs.map elA ++ [one [AV.el w]], x.size = 8) := by
 have h1 : (AV.agg (xs.map elA ++ [one [AV.el w]])).size = 8 * xs.length + 8 := by rw [szs_app, els_size]; rfl
 refine ⟨h1, by rw [h1]; omega, by simp, ?_, by show ∀ x ∈ xs.map elA ++ [AV.el w], x.size = 8; rw [els_push]; exact els_sz _⟩
 rw [h1, show (((8 * xs.length + 8) / 8 : Nat) : Int) - 1 = ((xs.length : Nat) : Int) by omega, Int.toNat_natCast, List.getD_eq_getElem?_getD, List.getElem?_append_right (by simp)]
 simp [one]
theorem fgs_fact (xs : List F) (w : F) : (AV.agg (xs.map fgA ++ [one [AV.fg w]])).size = 16 * xs.length + 16 ∧ (AV.agg (xs.map fgA ++ [one [AV.fg w]])).size / 16 = xs.length + 1 ∧ (xs.map fgA ++ [one [AV.fg w]]).length = xs.length + 1 ∧
 (xs.map fgA ++ [one [AV.fg w]]).getD ((((AV.agg (xs.map fgA ++ [one [AV.fg w]])).size / 16 : Nat) : Int) - 1).toNat .any = .fg w ∧ (∀ x ∈ xs.map fgA ++ [one [AV.fg w]], x.size = 16) := by
 have h1 : (AV.agg (xs.map fgA ++ [one [AV.fg w]])).size = 16 * xs.length + 16 := by rw [szs_app, fgs_size]; rfl
 refine ⟨h1, by rw [h1]; omega, by simp, ?_, by show ∀ x ∈ xs.map fgA ++ [AV.fg w], x.size = 16; rw [fgs_push]; exact fgs_sz _⟩
 rw [h1, show (((16 * xs.length + 16) / 16 : Nat) : Int) - 1 = ((xs.length : Nat) : Int) by omega, Int.toNat_natCast, List.getD_eq_getElem?_getD, List.getElem?_append_right (by simp)]
 simp [one]
def caG (es : List Ca) (k : Nat) : Ca := es.getD k ⟨0, 0, 0, 0⟩
theorem caG_mem {es : List Ca} {k : Nat} (h : k < es.length) : caG es k ∈ es := by
 unfold caG; rw [List.getD_eq_getElem?_getD, List.getElem?_eq_getElem h]; exact List.getElem_mem h
theorem caG_get {es : List Ca} {k : Nat} (h : k < es.length) : (es.map caA).getD (k : Int).toNat .any = caA (caG es k) := by
 rw [List.getD_eq_getElem?_getD, show (k : Int).toNat = k from rfl, List.getElem?_map, List.getElem?_eq_getElem h]
 unfold caG; rw [List.getD_eq_getElem?_getD, List.getElem?_eq_getElem h]; rfl
theorem zsFl {n n' m m' : Nat} {l l' k k' : List AV} {i i' : Int} (hn : n = n') (hl : l = l') (hm : m = m') (hk : k = k') (hi : i = i') : [AV.row n, .agg l, .row m, .agg k, .int .i64 i] = [.row n', .agg l', .row m', .agg k', .int .i64 i'] := by rw [hn, hl, hm, hk, hi]
def tfNil : Tab := []
theorem tfNil_ok : tfNil.OK Try.prog := tab_nil _
def o_place : Orc := { ans := [(7, oV), (9, oV), (11, oV)], lps := [] }
def t_place : Tree :=
 .calc (.binOp .rem 3 (.tmp 5) (.tmp 6) 3) 3 [(5, qv 0), (6, qv 1)] ([], []) (qv 2) 1 <|
 .calc (.binOp .add 3 (.tmp 7) (.tmp 8) 3) 3 [(7, qv 2), (8, qv 1)] ([], []) (qv 3) 1 <|
 .calc (.binOp .rem 3 (.tmp 9) (.tmp 10) 3) 3 [(9, qv 3), (10, qv 1)] ([], []) (qv 4) 1 <|
 .ret ([], []) (qv 4)
theorem c_place : compF Try.prog Try.f40 o_place (Try.f40.body.getD .skip) (symIn [.atom (.var 0), .atom (.var 1)] Try.f40.ntmps 2) = some t_place := by kernel_rfl
theorem g_place : goodC Try.prog o_place.ords (Try.f40.body.getD .skip) = true := by kernel_rfl
def tb_place : FuncId × Trans := (40, tPlace)
set_option maxRecDepth 100000 in
theorem aw_place : ∀ zs Q, tb_place.2 zs Q → bindLs 0 [.atom (.var 0), .atom (.var 1)] zs fun ae => bif Nat.beq ae.length 2 then AWp Try.prog tfNil Q t_place [] ae else False := by
 intro zs Q h
 replace h : tPlace zs Q := h
 unfold tPlace at h
 split at h
 case h_2 => exact h.elim
 rename_i n m
 obtain ⟨⟨hn, h0, h1⟩, h⟩ := h
 have hb := tmod_bd (n := n) h0
 repeat ((conv => whnf) <;> first | with_reducible first | refine wI (by omega) ?_ | refine wR (by omega) ?_ | refine And.intro rfl ?_ | rfl | refine And.intro ‹_› ?_ | refine cTe ‹_› ?_ | refine cFe ‹_› ?_ | refine cN (cTe ‹_› ?_) | refine cN (cFe ‹_› ?_) | refine cTe rfl ?_ | refine cEq ‹_› ?_ | refine cTt ?_ | refine cNt ?_ | refine cF (Eq.refl false) ?_ | refine cN (cF (Eq.refl false) ?_) | refine cTd (by omega) ?_ | refine cFd (by omega) ?_ | refine cN (cTd (by omega) ?_) | refine cN (cFd (by omega) ?_) | refine And.intro (by omega) ?_ | refine And.intro (Eq.refl true) ?_)
 intro r hr _
 rw [← hr] at hb
 clear hr
 have q1 := Int.emod_nonneg (r + m) (show m ≠ 0 by omega)
 have q2 := Int.emod_lt_of_pos (r + m) h0
 have h := h _ q1 q2
 repeat ((conv => whnf) <;> first | with_reducible first | refine wI (by omega) ?_ | refine wR (by omega) ?_ | refine And.intro rfl ?_ | rfl | refine And.intro ‹_› ?_ | refine cTe ‹_› ?_ | refine cFe ‹_› ?_ | refine cN (cTe ‹_› ?_) | refine cN (cFe ‹_› ?_) | refine cTe rfl ?_ | refine cEq ‹_› ?_ | refine cTt ?_ | refine cNt ?_ | refine cF (Eq.refl false) ?_ | refine cN (cF (Eq.refl false) ?_) | refine cTd (by omega) ?_ | refine cFd (by omega) ?_ | refine cN (cTd (by omega) ?_) | refine cN (cFd (by omega) ?_) | refine And.intro (by omega) ?_ | refine And.intro (Eq.refl true) ?_)
 (conv => whnf)
 exact h
theorem tb_place_ok : Con Try.prog tb_place.1 tb_place.2 := con_tree tfNil_ok o_place [.atom (.var 0), .atom (.var 1)] 2 Try.func40 rfl c_place aw_place g_place
def tfA : Tab := tb_made :: tb_plain :: tb_is :: tb_awake4 :: tb_place :: tb_add :: tb_sub :: tb_mul :: tb_square :: tb_neg :: tb_times :: tb_radd :: tb_rsub :: tb_rmul :: tb_rneg :: tb_rint :: []
theorem tfA_ok : tfA.OK Try.prog := tab_cons tb_made_ok <| tab_cons tb_plain_ok <| tab_cons tb_is_ok <| tab_cons tb_awake4_ok <| tab_cons tb_place_ok <| tab_cons tb_add_ok <| tab_cons tb_sub_ok <| tab_cons tb_mul_ok <| tab_cons tb_square_ok <| tab_cons tb_neg_ok <| tab_cons tb_times_ok <| tab_cons tb_radd_ok <| tab_cons tb_rsub_ok <| tab_cons tb_rmul_ok <| tab_cons tb_rneg_ok <| tab_cons tb_rint_ok <| tab_nil _
def o_flong : Orc := { ans := [(17, oA 56), (18, .two ⟨.tup [.agg [.whole 0 8], .atom (.const (.bool true))], 1, []⟩ ⟨.tup [.agg [.whole 0 8], .atom (.const (.bool false))], 1, []⟩), (22, oA 56), (23, .two ⟨.tup [.agg [.whole 0 8], .atom (.const (.bool true))], 1, []⟩ ⟨.tup [.agg [.whole 0 8], .atom (.const (.bool false))], 1, []⟩), (27, oV), (30, oV), (31, oV), (34, oV), (35, oB), (36, oV), (40, oV), (42, oB), (43, oV), (44, oA 8), (45, oA 8), (47, oA 56), (48, oA 16), (49, oA 56), (50, oA 16), (54, oV), (55, oB), (60, oV), (61, oV), (62, oV), (64, oV), (65, oV), (68, oV), (69, oV), (70, oV), (72, oV), (73, oV), (76, oV), (77, oV), (78, oV), (107, oB), (111, oV), (112, oA 8), (115, oV), (116, oA 8), (117, oA 8), (119, oV), (123, oV), (124, oA 16), (127, oV), (128, oA 16), (129, oA 16), (131, oV), (133, oB), (137, oV), (138, oA 8), (141, oV), (142, oA 8), (143, oA 8), (145, oV), (149, oV), (150, oA 16), (153, oV), (154, oA 16), (155, oA 16), (157, oV), (159, oB), (163, oV), (164, oA 8), (167, oV), (168, oA 8), (169, oA 8), (171, oV), (175, oV), (176, oA 16), (179, oV), (180, oA 16), (181, oA 16), (183, oV), (185, oB), (189, oV), (190, oA 8), (191, oA 8), (193, oV), (197, oV), (198, oA 16), (201, oV), (202, oA 16), (203, oA 16), (205, oV), (207, oB), (211, oV), (212, oA 8), (213, oA 8), (215, oV), (219, oV), (220, oA 16), (221, oA 16), (223, oV), (82, oV), (83, oA 8), (86, oV), (87, oV), (88, oV), (89, oA 8), (91, oV), (95, oV), (96, oA 16), (99, oV), (100, oV), (101, oV), (102, oA 16), (103, oA 16), (105, oV), (226, oV), (227, oV), (228, oV), (229, oA 8), (232, oV), (233, oV), (234, oV), (235, oA 16), (236, oB), (237, oV), (57, oV), (238, oB)], lps := [(0, [.row 11 27 8, .row 12 31 16, .slot 13 [.one]])], ords := [(6, [.quiet 0, .quiet 2, .call 1 [], .call 3 [], .make 4 [], .pure 5]), (16, [.pure 0, .pure 1, .pure 2, .quiet 3, .quiet 4, .pure 5, .pure 6, .quiet 7, .quiet 8, .call 9 [], .make 10 [], .last 11, .last 12]), (17, [.pure 0, .pure 1, .pure 2, .quiet 3, .quiet 4, .pure 5, .pure 6, .quiet 7, .quiet 8, .call 9 [], .make 10 [], .last 11, .last 12]), (19, [.pure 0, .pure 1, .pure 2, .quiet 3, .quiet 4, .pure 5, .pure 6, .quiet 7, .quiet 8, .call 9 [], .make 10 [], .last 11, .last 12]), (20, [.pure 0, .pure 1, .pure 2, .quiet 3, .quiet 4, .pure 5, .pure 6, .quiet 7, .quiet 8, .call 9 [], .make 10 [], .last 11, .last 12]), (22, [.pure 0, .pure 1, .pure 2, .quiet 3, .quiet 4, .pure 5, .pure 6, .quiet 7, .quiet 8, .call 9 [], .make 10 [], .last 11, .last 12]), (23, [.pure 0, .pure 1, .pure 2, .quiet 3, .quiet 4, .pure 5, .pure 6, .quiet 7, .quiet 8, .call 9 [], .make 10 [], .last 11, .last 12]), (26, [.pure 0, .pure 1, .pure 2, .quiet 3, .quiet 4, .pure 5, .pure 6, .quiet 7, .quiet 8, .call 9 [], .make 10 [], .last 11, .last 12]), (13, [.pure 0, .pure 1, .pure 2, .quiet 3, .quiet 4, .pure 5, .pure 6, .quiet 7, .quiet 8, .quiet 9, .call 10 [], .make 11 [], .last 12, .last 13]), (14, [.pure 0, .pure 1, .pure 2, .quiet 3, .quiet 4, .pure 5, .pure 6, .quiet 7, .quiet 8, .quiet 9, .call 10 [], .call 11 [], .make 12 [], .last 13, .last 14]), (30, [.pure 0, .pure 1, .quiet 2, .quiet 3, .quiet 4, .quiet 5, .pure 6, .pure 7, .quiet 8, .quiet 9, .quiet 10, .quiet 11, .call 12 [], .quiet 13])], rws := [46, 51] }
def t_flong : Tree :=
 .new <|
 .new <|
 .call2 11 [.agg [.whole 0 56]] ([], []) (.tup [.agg [.whole 3 8], .atom (.const (.bool true))]) 1 [] (
 .new <|
 .call2 11 [.agg [.whole 1 56]] ([], []) (.tup [.agg [.whole 4 8], .atom (.const (.bool true))]) 1 [] (
 .new <|
 .calc (.call { callee := .builtin .len, args := #[.tmp 33], argTypes := #[60] }) 3 [(33, qv 2)] ([], []) (qv 5) 1 <|
 .calc2 (.binOp .gtr 3 (.tmp 34) (.const (.int .i64 40)) 3) 4 [(34, qv 5)] ([], []) qT 0 (
 .call2 20 [] ([], []) qT 0 [] (
 .ret ([], []) qT) qF 0 [] <|
 .ret ([], []) qF) qF 0 <|
 .mkr [.whole 3 8, .whole 4 8] 8 <|
 .call 12 [.agg [.whole 0 56]] ([], []) (.leaf (.agg [.whole 8 16])) 1 [] <|
 .call 12 [.agg [.whole 1 56]] ([], []) (.leaf (.agg [.whole 9 16])) 1 [] <|
 .mkr [.whole 8 16, .whole 9 16] 16 <|
 .loop [.atom (.var 6), .agg [.rest 7], .atom (.var 10), .agg [.rest 11], .atom (.const (.int .i64 0))] [.one, .row, .one, .row, .one] <|
 .calc (.call { callee := .builtin .len, args := #[.tmp 53], argTypes := #[60] }) 3 [(53, qv 2)] ([], []) (qv 17) 1 <|
 .calc2 (.binOp .lss 3 (.tmp 52) (.tmp 54) 3) 4 [(52, qv 16), (54, qv 17)] ([], []) qT 0 (
 .calc (.indexAddr 60 (.tmp 58) (.tmp 59)) 0 [(58, qv 2), (59, qv 16)] ([], []) (qv 18) 1 <|
 .calc (.fieldAddr 65 (.tmp 60) 1) 0 [(60, qv 18)] ([], []) (qv 19) 1 <|
 .calc (.load 3 (.tmp 61)) 3 [(61, qv 19)] ([], []) (qv 20) 1 <|
 .calc (.call { callee := .builtin .len, args := #[.tmp 63], argTypes := #[61] }) 3 [(63, qv 12)] ([([.whole 0 56], 23), ([.whole 1 56], 23), ([.whole 3 8], 27), ([.whole 4 8], 27)], [⟨12, 13, 27, 8⟩, ⟨14, 15, 31, 16⟩]) (qv 21) 1 <|
 .call 40 [.atom (.var 20), .atom (.var 21)] ([], []) (qv 22) 1 [] <|
 .calc (.indexAddr 60 (.tmp 66) (.tmp 67)) 0 [(66, qv 2), (67, qv 16)] ([], []) (qv 23) 1 <|
 .calc (.fieldAddr 65 (.tmp 68) 2) 0 [(68, qv 23)] ([], []) (qv 24) 1 <|
 .calc (.load 3 (.tmp 69)) 3 [(69, qv 24)] ([], []) (qv 25) 1 <|
 .calc (.call { callee := .builtin .len, args := #[.tmp 71], argTypes := #[61] }) 3 [(71, qv 12)] ([([.whole 0 56], 23), ([.whole 1 56], 23), ([.whole 3 8], 27), ([.whole 4 8], 27)], [⟨12, 13, 27, 8⟩, ⟨14, 15, 31, 16⟩]) (qv 26) 1 <|
 .call 40 [.atom (.var 25), .atom (.var 26)] ([], []) (qv 27) 1 [] <|
 .calc (.indexAddr 60 (.tmp 74) (.tmp 75)) 0 [(74, qv 2), (75, qv 16)] ([], []) (qv 28) 1 <|
 .calc (.fieldAddr 65 (.tmp 76) 0) 0 [(76, qv 28)] ([], []) (qv 29) 1 <|
 .calc (.load 3 (.tmp 77)) 3 [(77, qv 29)] ([], []) (qv 30) 1 <|
 .calc2 (.binOp .eql 3 (.tmp 78) (.const (.int .i64 0)) 3) 4 [(78, qv 30)] ([], []) qT 0 (
 .boundx 22 12 <|
 .ldi [.rest 13] 0 22 8 8 true <|
 .boundx 27 12 <|
 .ldi [.rest 13] 0 27 8 8 true <|
 .call 14 [.agg [.whole 31 8], .agg [.whole 32 8]] ([], []) (.leaf (.agg [.whole 33 8])) 1 [] <|
 .new <|
 .app (some 13) [.whole 33 8] 8 <|
 .boundx 22 14 <|
 .ldi [.rest 15] 0 22 16 16 true <|
 .boundx 27 14 <|
 .ldi [.rest 15] 0 27 16 16 true <|
 .call 15 [.agg [.whole 36 16], .agg [.whole 37 16]] ([], []) (.leaf (.agg [.whole 38 16])) 1 [] <|
 .new <|
 .app (some 15) [.whole 38 16] 16 <|
 .calc (.call { callee := .builtin .len, args := #[.tmp 225], argTypes := #[61] }) 3 [(225, qv 34)] ([([.whole 0 56], 23), ([.whole 1 56], 23), ([.whole 3 8], 27), ([.whole 4 8], 27), ([.whole 33 8], 27), ([.whole 38 16], 31)], [⟨34, 35, 27, 8⟩, ⟨39, 40, 31, 16⟩]) (qv 41) 1 <|
 .calc (.binOp .sub 3 (.tmp 226) (.const (.int .i64 1)) 3) 3 [(226, qv 41)] ([], []) (qv 42) 1 <|
 .boundx 42 34 <|
 .ldi [.rest 35] 0 42 8 8 true <|
 .calc (.call { callee := .builtin .len, args := #[.tmp 231], argTypes := #[62] }) 3 [(231, qv 39)] ([([.whole 0 56], 23), ([.whole 1 56], 23), ([.whole 3 8], 27), ([.whole 4 8], 27), ([.whole 33 8], 27), ([.whole 38 16], 31)], [⟨34, 35, 27, 8⟩, ⟨39, 40, 31, 16⟩]) (qv 44) 1 <|
 .calc (.binOp .sub 3 (.tmp 232) (.const (.int .i64 1)) 3) 3 [(232, qv 44)] ([], []) (qv 45) 1 <|
 .boundx 45 39 <|
 .ldi [.rest 40] 0 45 16 16 true <|
 .call2 13 [.agg [.whole 43 8], .agg [.whole 46 16]] ([], []) qT 0 [] (
 .calc (.binOp .add 3 (.tmp 56) (.const (.int .i64 1)) 3) 3 [(56, qv 16)] ([], []) (qv 47) 1 <|
 .again 0 [.atom (.var 34), .agg [.rest 35], .atom (.var 39), .agg [.rest 40], .atom (.var 47)]) qF 0 [] <|
 .ret ([], []) qF) qF 0 <|
 .calc2 (.binOp .eql 3 (.tmp 78) (.const (.int .i64 1)) 3) 4 [(78, qv 30)] ([], []) qT 0 (
 .boundx 22 12 <|
 .ldi [.rest 13] 0 22 8 8 true <|
 .boundx 27 12 <|
 .ldi [.rest 13] 0 27 8 8 true <|
 .call 16 [.agg [.whole 31 8], .agg [.whole 32 8]] ([], []) (.leaf (.agg [.whole 33 8])) 1 [] <|
 .new <|
 .app (some 13) [.whole 33 8] 8 <|
 .boundx 22 14 <|
 .ldi [.rest 15] 0 22 16 16 true <|
 .boundx 27 14 <|
 .ldi [.rest 15] 0 27 16 16 true <|
 .call 17 [.agg [.whole 36 16], .agg [.whole 37 16]] ([], []) (.leaf (.agg [.whole 38 16])) 1 [] <|
 .new <|
 .app (some 15) [.whole 38 16] 16 <|
 .calc (.call { callee := .builtin .len, args := #[.tmp 225], argTypes := #[61] }) 3 [(225, qv 34)] ([([.whole 0 56], 23), ([.whole 1 56], 23), ([.whole 3 8], 27), ([.whole 4 8], 27), ([.whole 33 8], 27), ([.whole 38 16], 31)], [⟨34, 35, 27, 8⟩, ⟨39, 40, 31, 16⟩]) (qv 41) 1 <|
 .calc (.binOp .sub 3 (.tmp 226) (.const (.int .i64 1)) 3) 3 [(226, qv 41)] ([], []) (qv 42) 1 <|
 .boundx 42 34 <|
 .ldi [.rest 35] 0 42 8 8 true <|
 .calc (.call { callee := .builtin .len, args := #[.tmp 231], argTypes := #[62] }) 3 [(231, qv 39)] ([([.whole 0 56], 23), ([.whole 1 56], 23), ([.whole 3 8], 27), ([.whole 4 8], 27), ([.whole 33 8], 27), ([.whole 38 16], 31)], [⟨34, 35, 27, 8⟩, ⟨39, 40, 31, 16⟩]) (qv 44) 1 <|
 .calc (.binOp .sub 3 (.tmp 232) (.const (.int .i64 1)) 3) 3 [(232, qv 44)] ([], []) (qv 45) 1 <|
 .boundx 45 39 <|
 .ldi [.rest 40] 0 45 16 16 true <|
 .call2 13 [.agg [.whole 43 8], .agg [.whole 46 16]] ([], []) qT 0 [] (
 .calc (.binOp .add 3 (.tmp 56) (.const (.int .i64 1)) 3) 3 [(56, qv 16)] ([], []) (qv 47) 1 <|
 .again 0 [.atom (.var 34), .agg [.rest 35], .atom (.var 39), .agg [.rest 40], .atom (.var 47)]) qF 0 [] <|
 .ret ([], []) qF) qF 0 <|
 .calc2 (.binOp .eql 3 (.tmp 78) (.const (.int .i64 2)) 3) 4 [(78, qv 30)] ([], []) qT 0 (
 .boundx 22 12 <|
 .ldi [.rest 13] 0 22 8 8 true <|
 .boundx 27 12 <|
 .ldi [.rest 13] 0 27 8 8 true <|
 .call 34 [.agg [.whole 31 8], .agg [.whole 32 8]] ([], []) (.leaf (.agg [.whole 33 8])) 1 [] <|
 .new <|
 .app (some 13) [.whole 33 8] 8 <|
 .boundx 22 14 <|
 .ldi [.rest 15] 0 22 16 16 true <|
 .boundx 27 14 <|
 .ldi [.rest 15] 0 27 16 16 true <|
 .call 37 [.agg [.whole 36 16], .agg [.whole 37 16]] ([], []) (.leaf (.agg [.whole 38 16])) 1 [] <|
 .new <|
 .app (some 15) [.whole 38 16] 16 <|
 .calc (.call { callee := .builtin .len, args := #[.tmp 225], argTypes := #[61] }) 3 [(225, qv 34)] ([([.whole 0 56], 23), ([.whole 1 56], 23), ([.whole 3 8], 27), ([.whole 4 8], 27), ([.whole 33 8], 27), ([.whole 38 16], 31)], [⟨34, 35, 27, 8⟩, ⟨39, 40, 31, 16⟩]) (qv 41) 1 <|
 .calc (.binOp .sub 3 (.tmp 226) (.const (.int .i64 1)) 3) 3 [(226, qv 41)] ([], []) (qv 42) 1 <|
 .boundx 42 34 <|
 .ldi [.rest 35] 0 42 8 8 true <|
 .calc (.call { callee := .builtin .len, args := #[.tmp 231], argTypes := #[62] }) 3 [(231, qv 39)] ([([.whole 0 56], 23), ([.whole 1 56], 23), ([.whole 3 8], 27), ([.whole 4 8], 27), ([.whole 33 8], 27), ([.whole 38 16], 31)], [⟨34, 35, 27, 8⟩, ⟨39, 40, 31, 16⟩]) (qv 44) 1 <|
 .calc (.binOp .sub 3 (.tmp 232) (.const (.int .i64 1)) 3) 3 [(232, qv 44)] ([], []) (qv 45) 1 <|
 .boundx 45 39 <|
 .ldi [.rest 40] 0 45 16 16 true <|
 .call2 13 [.agg [.whole 43 8], .agg [.whole 46 16]] ([], []) qT 0 [] (
 .calc (.binOp .add 3 (.tmp 56) (.const (.int .i64 1)) 3) 3 [(56, qv 16)] ([], []) (qv 47) 1 <|
 .again 0 [.atom (.var 34), .agg [.rest 35], .atom (.var 39), .agg [.rest 40], .atom (.var 47)]) qF 0 [] <|
 .ret ([], []) qF) qF 0 <|
 .calc2 (.binOp .eql 3 (.tmp 78) (.const (.int .i64 3)) 3) 4 [(78, qv 30)] ([], []) qT 0 (
 .boundx 22 12 <|
 .ldi [.rest 13] 0 22 8 8 true <|
 .call 38 [.agg [.whole 31 8]] ([], []) (.leaf (.agg [.whole 32 8])) 1 [] <|
 .new <|
 .app (some 13) [.whole 32 8] 8 <|
 .boundx 22 14 <|
 .ldi [.rest 15] 0 22 16 16 true <|
 .boundx 22 14 <|
 .ldi [.rest 15] 0 22 16 16 true <|
 .call 37 [.agg [.whole 35 16], .agg [.whole 36 16]] ([], []) (.leaf (.agg [.whole 37 16])) 1 [] <|
 .new <|
 .app (some 15) [.whole 37 16] 16 <|
 .calc (.call { callee := .builtin .len, args := #[.tmp 225], argTypes := #[61] }) 3 [(225, qv 33)] ([([.whole 0 56], 23), ([.whole 1 56], 23), ([.whole 3 8], 27), ([.whole 4 8], 27), ([.whole 32 8], 27), ([.whole 37 16], 31)], [⟨33, 34, 27, 8⟩, ⟨38, 39, 31, 16⟩]) (qv 40) 1 <|
 .calc (.binOp .sub 3 (.tmp 226) (.const (.int .i64 1)) 3) 3 [(226, qv 40)] ([], []) (qv 41) 1 <|
 .boundx 41 33 <|
 .ldi [.rest 34] 0 41 8 8 true <|
 .calc (.call { callee := .builtin .len, args := #[.tmp 231], argTypes := #[62] }) 3 [(231, qv 38)] ([([.whole 0 56], 23), ([.whole 1 56], 23), ([.whole 3 8], 27), ([.whole 4 8], 27), ([.whole 32 8], 27), ([.whole 37 16], 31)], [⟨33, 34, 27, 8⟩, ⟨38, 39, 31, 16⟩]) (qv 43) 1 <|
 .calc (.binOp .sub 3 (.tmp 232) (.const (.int .i64 1)) 3) 3 [(232, qv 43)] ([], []) (qv 44) 1 <|
 .boundx 44 38 <|
 .ldi [.rest 39] 0 44 16 16 true <|
 .call2 13 [.agg [.whole 42 8], .agg [.whole 45 16]] ([], []) qT 0 [] (
 .calc (.binOp .add 3 (.tmp 56) (.const (.int .i64 1)) 3) 3 [(56, qv 16)] ([], []) (qv 46) 1 <|
 .again 0 [.atom (.var 33), .agg [.rest 34], .atom (.var 38), .agg [.rest 39], .atom (.var 46)]) qF 0 [] <|
 .ret ([], []) qF) qF 0 <|
 .calc2 (.binOp .eql 3 (.tmp 78) (.const (.int .i64 4)) 3) 4 [(78, qv 30)] ([], []) qT 0 (
 .boundx 22 12 <|
 .ldi [.rest 13] 0 22 8 8 true <|
 .call 18 [.agg [.whole 31 8]] ([], []) (.leaf (.agg [.whole 32 8])) 1 [] <|
 .new <|
 .app (some 13) [.whole 32 8] 8 <|
 .boundx 22 14 <|
 .ldi [.rest 15] 0 22 16 16 true <|
 .call 19 [.agg [.whole 35 16]] ([], []) (.leaf (.agg [.whole 36 16])) 1 [] <|
 .new <|
 .app (some 15) [.whole 36 16] 16 <|
 .calc (.call { callee := .builtin .len, args := #[.tmp 225], argTypes := #[61] }) 3 [(225, qv 33)] ([([.whole 0 56], 23), ([.whole 1 56], 23), ([.whole 3 8], 27), ([.whole 4 8], 27), ([.whole 32 8], 27), ([.whole 36 16], 31)], [⟨33, 34, 27, 8⟩, ⟨37, 38, 31, 16⟩]) (qv 39) 1 <|
 .calc (.binOp .sub 3 (.tmp 226) (.const (.int .i64 1)) 3) 3 [(226, qv 39)] ([], []) (qv 40) 1 <|
 .boundx 40 33 <|
 .ldi [.rest 34] 0 40 8 8 true <|
 .calc (.call { callee := .builtin .len, args := #[.tmp 231], argTypes := #[62] }) 3 [(231, qv 37)] ([([.whole 0 56], 23), ([.whole 1 56], 23), ([.whole 3 8], 27), ([.whole 4 8], 27), ([.whole 32 8], 27), ([.whole 36 16], 31)], [⟨33, 34, 27, 8⟩, ⟨37, 38, 31, 16⟩]) (qv 42) 1 <|
 .calc (.binOp .sub 3 (.tmp 232) (.const (.int .i64 1)) 3) 3 [(232, qv 42)] ([], []) (qv 43) 1 <|
 .boundx 43 37 <|
 .ldi [.rest 38] 0 43 16 16 true <|
 .call2 13 [.agg [.whole 41 8], .agg [.whole 44 16]] ([], []) qT 0 [] (
 .calc (.binOp .add 3 (.tmp 56) (.const (.int .i64 1)) 3) 3 [(56, qv 16)] ([], []) (qv 45) 1 <|
 .again 0 [.atom (.var 33), .agg [.rest 34], .atom (.var 37), .agg [.rest 38], .atom (.var 45)]) qF 0 [] <|
 .ret ([], []) qF) qF 0 <|
 .boundx 22 12 <|
 .ldi [.rest 13] 0 22 8 8 true <|
 .calc (.indexAddr 60 (.tmp 84) (.tmp 85)) 0 [(84, qv 2), (85, qv 16)] ([], []) (qv 32) 1 <|
 .calc (.fieldAddr 65 (.tmp 86) 3) 0 [(86, qv 32)] ([], []) (qv 33) 1 <|
 .calc (.load 3 (.tmp 87)) 3 [(87, qv 33)] ([], []) (qv 34) 1 <|
 .call 39 [.agg [.whole 31 8], .atom (.var 34)] ([], []) (.leaf (.agg [.whole 35 8])) 1 [] <|
 .new <|
 .app (some 13) [.whole 35 8] 8 <|
 .boundx 22 14 <|
 .ldi [.rest 15] 0 22 16 16 true <|
 .calc (.indexAddr 60 (.tmp 97) (.tmp 98)) 0 [(97, qv 2), (98, qv 16)] ([], []) (qv 39) 1 <|
 .calc (.fieldAddr 65 (.tmp 99) 3) 0 [(99, qv 39)] ([], []) (qv 40) 1 <|
 .calc (.load 3 (.tmp 100)) 3 [(100, qv 40)] ([], []) (qv 41) 1 <|
 .call 36 [.atom (.var 41)] ([], []) (.leaf (.agg [.whole 42 16])) 1 [] <|
 .call 37 [.agg [.whole 38 16], .agg [.whole 42 16]] ([], []) (.leaf (.agg [.whole 43 16])) 1 [] <|
 .new <|
 .app (some 15) [.whole 43 16] 16 <|
 .calc (.call { callee := .builtin .len, args := #[.tmp 225], argTypes := #[61] }) 3 [(225, qv 36)] ([([.whole 0 56], 23), ([.whole 1 56], 23), ([.whole 3 8], 27), ([.whole 4 8], 27), ([.whole 35 8], 27), ([.whole 43 16], 31)], [⟨36, 37, 27, 8⟩, ⟨44, 45, 31, 16⟩]) (qv 46) 1 <|
 .calc (.binOp .sub 3 (.tmp 226) (.const (.int .i64 1)) 3) 3 [(226, qv 46)] ([], []) (qv 47) 1 <|
 .boundx 47 36 <|
 .ldi [.rest 37] 0 47 8 8 true <|
 .calc (.call { callee := .builtin .len, args := #[.tmp 231], argTypes := #[62] }) 3 [(231, qv 44)] ([([.whole 0 56], 23), ([.whole 1 56], 23), ([.whole 3 8], 27), ([.whole 4 8], 27), ([.whole 35 8], 27), ([.whole 43 16], 31)], [⟨36, 37, 27, 8⟩, ⟨44, 45, 31, 16⟩]) (qv 49) 1 <|
 .calc (.binOp .sub 3 (.tmp 232) (.const (.int .i64 1)) 3) 3 [(232, qv 49)] ([], []) (qv 50) 1 <|
 .boundx 50 44 <|
 .ldi [.rest 45] 0 50 16 16 true <|
 .call2 13 [.agg [.whole 48 8], .agg [.whole 51 16]] ([], []) qT 0 [] (
 .calc (.binOp .add 3 (.tmp 56) (.const (.int .i64 1)) 3) 3 [(56, qv 16)] ([], []) (qv 52) 1 <|
 .again 0 [.atom (.var 36), .agg [.rest 37], .atom (.var 44), .agg [.rest 45], .atom (.var 52)]) qF 0 [] <|
 .ret ([], []) qF) qF 0 <|
 .call2 20 [] ([], []) qT 0 [] (
 .ret ([], []) qT) qF 0 [] <|
 .ret ([], []) qF) (.tup [.agg [.whole 4 8], .atom (.const (.bool false))]) 1 [] <|
 .new <|
 .ret ([], []) qF) (.tup [.agg [.whole 3 8], .atom (.const (.bool false))]) 1 [] <|
 .new <|
 .call2 11 [.agg [.whole 1 56]] ([], []) (.tup [.agg [.whole 4 8], .atom (.const (.bool true))]) 1 [] (
 .new <|
 .ret ([], []) qF) (.tup [.agg [.whole 4 8], .atom (.const (.bool false))]) 1 [] <|
 .new <|
 .ret ([], []) qF
theorem c_flong : compF Try.prog Try.f9 o_flong (Try.f9.body.getD .skip) (symIn [.agg [.whole 0 56], .agg [.whole 1 56], .atom (.var 2)] Try.f9.ntmps 3) = some t_flong := by kernel_rfl
theorem g_flong : goodC Try.prog o_flong.ords (Try.f9.body.getD .skip) = true := by kernel_rfl
set_option maxRecDepth 100000 in
set_option maxHeartbeats 1000000 in
theorem aw_flong (b1 : List Int) (lb1 : b1.length = 56) (yb1 : By b1) (b2 : List Int) (lb2 : b2.length = 56) (yb2 : By b2) (e3 : List Ca) (ye3 : ∀ e ∈ e3, e.ok) : AWp Try.prog tfA (fun a => a = .bool true) t_flong [] [.ints .u8 b1, .ints .u8 b2, .sl 4 (e3.map caA)] := by
 have m1 := And.intro lb1 yb1
 have m2 := And.intro lb2 yb2
 by_cases a1 : (e3.length : Int) > 40
 ·have hll : (e3.map caA).length = e3.length := List.length_map _
  repeat ((conv => whnf) <;> first | with_reducible first | refine wI (by omega) ?_ | refine And.intro rfl ?_ | rfl | refine And.intro ‹_› ?_ | refine cTe ‹_› ?_ | refine cFe ‹_› ?_ | refine cN (cTe ‹_› ?_) | refine cN (cFe ‹_› ?_) | refine cTe rfl ?_ | refine cEq ‹_› ?_ | refine cTt ?_ | refine cNt ?_ | refine cF (Eq.refl false) ?_ | refine cN (cF (Eq.refl false) ?_) | refine cTd (by omega) ?_ | refine cFd (by omega) ?_ | refine cN (cTd (by omega) ?_) | refine cN (cFd (by omega) ?_) | refine And.intro (by omega) ?_ | refine And.intro (Eq.refl true) ?_ | refine And.intro (Eq.refl (1 : Nat)) ?_)
 have hll : (e3.map caA).length = e3.length := List.length_map _
 repeat ((conv => whnf) <;> first | with_reducible first | refine wI (by omega) ?_ | refine And.intro rfl ?_ | rfl | refine And.intro ‹_› ?_ | refine cTe ‹_› ?_ | refine cFe ‹_› ?_ | refine cN (cTe ‹_› ?_) | refine cN (cFe ‹_› ?_) | refine cTe rfl ?_ | refine cEq ‹_› ?_ | refine cTt ?_ | refine cNt ?_ | refine cF (Eq.refl false) ?_ | refine cN (cF (Eq.refl false) ?_) | refine cTd (by omega) ?_ | refine cFd (by omega) ?_ | refine cN (cTd (by omega) ?_) | refine cN (cFd (by omega) ?_) | refine And.intro (by omega) ?_ | refine And.intro (Eq.refl true) ?_ | refine And.intro (Eq.refl (1 : Nat)) ?_)
 refine ⟨Nat × List F, fun s zs => ∃ i xs, s = (i, xs) ∧ i ≤ e3.length ∧ xs.length = i + 2 ∧ zs = [.row xs.length, .agg (xs.map elA), .row xs.length, .agg (xs.map fgA), .int .i64 (i : Int)], fun s => e3.length - s.1, (0, [z (bval b1), z (bval b2)]), ?_, ?_⟩
 ·(conv => whnf)
  refine ⟨_, Subs.refl' _, _, _, rfl, Nat.zero_le _, rfl, zsFl ?_ rfl ?_ rfl rfl⟩
  ·show (AV.agg ([z (bval b1), z (bval b2)].map elA)).size / 8 = 2
   rw [els_size]; show 8 * 2 / 8 = 2; decide
  ·show (AV.agg ([z (bval b1), z (bval b2)].map fgA)).size / 16 = 2
   rw [fgs_size]; show 16 * 2 / 16 = 2; decide
 rintro _ _ ⟨i, xs, rfl, hi, hxl, rfl⟩
 by_cases hlt : i < e3.length
 ·have hg := caG_get hlt
  have hok := ye3 _ (caG_mem hlt)
  generalize caG e3 i = c at *
  obtain ⟨d, a, b, n⟩ := c
  replace hok : I64 d ∧ I64 a ∧ I64 b ∧ I64 n := hok
  have h1 : I64 a ∧ (0 : Int) < (xs.length : Int) ∧ (xs.length : Int) ≤ 1000 := ⟨hok.2.1, by omega, by omega⟩
  have h2 : I64 b ∧ (0 : Int) < (xs.length : Int) ∧ (xs.length : Int) ≤ 1000 := ⟨hok.2.2.1, by omega, by omega⟩
  have h3 := hok.2.2.2
  have hel : (xs.map elA).length = xs.length := List.length_map _
  repeat ((conv => whnf) <;> first | with_reducible first | refine wI (by omega) ?_ | refine And.intro rfl ?_ | rfl | refine And.intro ‹_› ?_ | refine cTe ‹_› ?_ | refine cFe ‹_› ?_ | refine cN (cTe ‹_› ?_) | refine cN (cFe ‹_› ?_) | refine cTe rfl ?_ | refine cEq ‹_› ?_ | refine cTt ?_ | refine cNt ?_ | refine cF (Eq.refl false) ?_ | refine cN (cF (Eq.refl false) ?_) | refine cTd (by omega) ?_ | refine cFd (by omega) ?_ | refine cN (cTd (by omega) ?_) | refine cN (cFd (by omega) ?_) | refine And.intro (by omega) ?_ | refine And.intro (Eq.refl true) ?_ | refine And.intro (Eq.refl (1 : Nat)) ?_)
  refine ⟨_, hg, ?_⟩
  repeat ((conv => whnf) <;> first | with_reducible first | refine wI (by omega) ?_ | refine And.intro rfl ?_ | rfl | refine And.intro ‹_› ?_ | refine cTe ‹_› ?_ | refine cFe ‹_› ?_ | refine cN (cTe ‹_› ?_) | refine cN (cFe ‹_› ?_) | refine cTe rfl ?_ | refine cEq ‹_› ?_ | refine cTt ?_ | refine cNt ?_ | refine cF (Eq.refl false) ?_ | refine cN (cF (Eq.refl false) ?_) | refine cTd (by omega) ?_ | refine cFd (by omega) ?_ | refine cN (cTd (by omega) ?_) | refine cN (cFd (by omega) ?_) | refine And.intro (by omega) ?_ | refine And.intro (Eq.refl true) ?_ | refine And.intro (Eq.refl (1 : Nat)) ?_)
  intro j j0 j1
  repeat ((conv => whnf) <;> first | with_reducible first | refine wI (by omega) ?_ | refine And.intro rfl ?_ | rfl | refine And.intro ‹_› ?_ | refine cTe ‹_› ?_ | refine cFe ‹_› ?_ | refine cN (cTe ‹_› ?_) | refine cN (cFe ‹_› ?_) | refine cTe rfl ?_ | refine cEq ‹_› ?_ | refine cTt ?_ | refine cNt ?_ | refine cF (Eq.refl false) ?_ | refine cN (cF (Eq.refl false) ?_) | refine cTd (by omega) ?_ | refine cFd (by omega) ?_ | refine cN (cTd (by omega) ?_) | refine cN (cFd (by omega) ?_) | refine And.intro (by omega) ?_ | refine And.intro (Eq.refl true) ?_ | refine And.intro (Eq.refl (1 : Nat)) ?_)
  refine ⟨_, hg, ?_⟩
  repeat ((conv => whnf) <;> first | with_reducible first | refine wI (by omega) ?_ | refine And.intro rfl ?_ | rfl | refine And.intro ‹_› ?_ | refine cTe ‹_› ?_ | refine cFe ‹_› ?_ | refine cN (cTe ‹_› ?_) | refine cN (cFe ‹_› ?_) | refine cTe rfl ?_ | refine cEq ‹_› ?_ | refine cTt ?_ | refine cNt ?_ | refine cF (Eq.refl false) ?_ | refine cN (cF (Eq.refl false) ?_) | refine cTd (by omega) ?_ | refine cFd (by omega) ?_ | refine cN (cTd (by omega) ?_) | refine cN (cFd (by omega) ?_) | refine And.intro (by omega) ?_ | refine And.intro (Eq.refl true) ?_ | refine And.intro (Eq.refl (1 : Nat)) ?_)
  intro k k0 k1
  repeat ((conv => whnf) <;> first | with_reducible first | refine wI (by omega) ?_ | refine And.intro rfl ?_ | rfl | refine And.intro ‹_› ?_ | refine cTe ‹_› ?_ | refine cFe ‹_› ?_ | refine cN (cTe ‹_› ?_) | refine cN (cFe ‹_› ?_) | refine cTe rfl ?_ | refine cEq ‹_› ?_ | refine cTt ?_ | refine cNt ?_ | refine cF (Eq.refl false) ?_ | refine cN (cF (Eq.refl false) ?_) | refine cTd (by omega) ?_ | refine cFd (by omega) ?_ | refine cN (cTd (by omega) ?_) | refine cN (cFd (by omega) ?_) | refine And.intro (by omega) ?_ | refine And.intro (Eq.refl true) ?_ | refine And.intro (Eq.refl (1 : Nat)) ?_)
  refine ⟨_, hg, ?_⟩
  by_cases d0 : d = 0
  ·obtain ⟨p1, p2, p3, p4, p5⟩ := els_fact xs ((fun x1 x2 => x1 + x2) (xs.getD j.toNat 0) (xs.getD k.toNat 0))
   obtain ⟨s1, s2, s3, s4, s5⟩ := fgs_fact xs ((fun x1 x2 => x1 + x2) (xs.getD j.toNat 0) (xs.getD k.toNat 0))
   repeat ((conv => whnf) <;> first | with_reducible first | refine wI (by omega) ?_ | refine And.intro rfl ?_ | rfl | refine And.intro ‹_› ?_ | refine cTe ‹_› ?_ | refine cFe ‹_› ?_ | refine cN (cTe ‹_› ?_) | refine cN (cFe ‹_› ?_) | refine cTe rfl ?_ | refine cEq ‹_› ?_ | refine cTt ?_ | refine cNt ?_ | refine cF (Eq.refl false) ?_ | refine cN (cF (Eq.refl false) ?_) | refine cTd (by omega) ?_ | refine cFd (by omega) ?_ | refine cN (cTd (by omega) ?_) | refine cN (cFd (by omega) ?_) | refine And.intro (by omega) ?_ | refine And.intro (Eq.refl true) ?_ | refine And.intro (Eq.refl (1 : Nat)) ?_)
   refine ⟨els_sz xs, by rw [List.length_map]; omega, _, els_get j0 j1, rfl, ?_⟩
   repeat ((conv => whnf) <;> first | with_reducible first | refine wI (by omega) ?_ | refine And.intro rfl ?_ | rfl | refine And.intro ‹_› ?_ | refine cTe ‹_› ?_ | refine cFe ‹_› ?_ | refine cN (cTe ‹_› ?_) | refine cN (cFe ‹_› ?_) | refine cTe rfl ?_ | refine cEq ‹_› ?_ | refine cTt ?_ | refine cNt ?_ | refine cF (Eq.refl false) ?_ | refine cN (cF (Eq.refl false) ?_) | refine cTd (by omega) ?_ | refine cFd (by omega) ?_ | refine cN (cTd (by omega) ?_) | refine cN (cFd (by omega) ?_) | refine And.intro (by omega) ?_ | refine And.intro (Eq.refl true) ?_ | refine And.intro (Eq.refl (1 : Nat)) ?_)
   refine ⟨els_sz xs, by rw [List.length_map]; omega, _, els_get k0 k1, rfl, ?_⟩
   repeat ((conv => whnf) <;> first | with_reducible first | refine wI (by omega) ?_ | refine And.intro rfl ?_ | rfl | refine And.intro ‹_› ?_ | refine cTe ‹_› ?_ | refine cFe ‹_› ?_ | refine cN (cTe ‹_› ?_) | refine cN (cFe ‹_› ?_) | refine cTe rfl ?_ | refine cEq ‹_› ?_ | refine cTt ?_ | refine cNt ?_ | refine cF (Eq.refl false) ?_ | refine cN (cF (Eq.refl false) ?_) | refine cTd (by omega) ?_ | refine cFd (by omega) ?_ | refine cN (cTd (by omega) ?_) | refine cN (cFd (by omega) ?_) | refine And.intro (by omega) ?_ | refine And.intro (Eq.refl true) ?_ | refine And.intro (Eq.refl (1 : Nat)) ?_)
   refine ⟨fgs_sz xs, by rw [List.length_map]; omega, _, fgs_get j0 j1, rfl, ?_⟩
   repeat ((conv => whnf) <;> first | with_reducible first | refine wI (by omega) ?_ | refine And.intro rfl ?_ | rfl | refine And.intro ‹_› ?_ | refine cTe ‹_› ?_ | refine cFe ‹_› ?_ | refine cN (cTe ‹_› ?_) | refine cN (cFe ‹_› ?_) | refine cTe rfl ?_ | refine cEq ‹_› ?_ | refine cTt ?_ | refine cNt ?_ | refine cF (Eq.refl false) ?_ | refine cN (cF (Eq.refl false) ?_) | refine cTd (by omega) ?_ | refine cFd (by omega) ?_ | refine cN (cTd (by omega) ?_) | refine cN (cFd (by omega) ?_) | refine And.intro (by omega) ?_ | refine And.intro (Eq.refl true) ?_ | refine And.intro (Eq.refl (1 : Nat)) ?_)
   refine ⟨fgs_sz xs, by rw [List.length_map]; omega, _, fgs_get k0 k1, rfl, ?_⟩
   repeat ((conv => whnf) <;> first | with_reducible first | refine wI (by omega) ?_ | refine And.intro rfl ?_ | rfl | refine And.intro ‹_› ?_ | refine cTe ‹_› ?_ | refine cFe ‹_› ?_ | refine cN (cTe ‹_› ?_) | refine cN (cFe ‹_› ?_) | refine cTe rfl ?_ | refine cEq ‹_› ?_ | refine cTt ?_ | refine cNt ?_ | refine cF (Eq.refl false) ?_ | refine cN (cF (Eq.refl false) ?_) | refine cTd (by omega) ?_ | refine cFd (by omega) ?_ | refine cN (cTd (by omega) ?_) | refine cN (cFd (by omega) ?_) | refine And.intro (by omega) ?_ | refine And.intro (Eq.refl true) ?_ | refine And.intro (Eq.refl (1 : Nat)) ?_)
   refine ⟨_, p4, rfl, ?_⟩
   repeat ((conv => whnf) <;> first | with_reducible first | refine wI (by omega) ?_ | refine And.intro rfl ?_ | rfl | refine And.intro ‹_› ?_ | refine cTe ‹_› ?_ | refine cFe ‹_› ?_ | refine cN (cTe ‹_› ?_) | refine cN (cFe ‹_› ?_) | refine cTe rfl ?_ | refine cEq ‹_› ?_ | refine cTt ?_ | refine cNt ?_ | refine cF (Eq.refl false) ?_ | refine cN (cF (Eq.refl false) ?_) | refine cTd (by omega) ?_ | refine cFd (by omega) ?_ | refine cN (cTd (by omega) ?_) | refine cN (cFd (by omega) ?_) | refine And.intro (by omega) ?_ | refine And.intro (Eq.refl true) ?_ | refine And.intro (Eq.refl (1 : Nat)) ?_)
   refine ⟨_, s4, rfl, ?_⟩
   repeat ((conv => whnf) <;> first | with_reducible first | refine wI (by omega) ?_ | refine And.intro rfl ?_ | rfl | refine And.intro ‹_› ?_ | refine cTe ‹_› ?_ | refine cFe ‹_› ?_ | refine cN (cTe ‹_› ?_) | refine cN (cFe ‹_› ?_) | refine cTe rfl ?_ | refine cEq ‹_› ?_ | refine cTt ?_ | refine cNt ?_ | refine cF (Eq.refl false) ?_ | refine cN (cF (Eq.refl false) ?_) | refine cTd (by omega) ?_ | refine cFd (by omega) ?_ | refine cN (cTd (by omega) ?_) | refine cN (cFd (by omega) ?_) | refine And.intro (by omega) ?_ | refine And.intro (Eq.refl true) ?_ | refine And.intro (Eq.refl (1 : Nat)) ?_)
   (conv => whnf)
   exact ⟨_, Subs.refl' _, (i + 1, xs ++ [(fun x1 x2 => x1 + x2) (xs.getD j.toNat 0) (xs.getD k.toNat 0)]), ⟨_, _, rfl, hlt, by rw [List.length_append]; show xs.length + 1 = i + 1 + 2; omega, zsFl (by rw [List.length_append]; exact p2) (els_push xs _) (by rw [List.length_append]; exact s2) (fgs_push xs _) (by show (i : Int) + 1 = ((i + 1 : Nat) : Int); omega)⟩, by show e3.length - (i + 1) < e3.length - i; omega⟩
  by_cases d1 : d = 1
  ·obtain ⟨p1, p2, p3, p4, p5⟩ := els_fact xs ((fun x1 x2 => x1 - x2) (xs.getD j.toNat 0) (xs.getD k.toNat 0))
   obtain ⟨s1, s2, s3, s4, s5⟩ := fgs_fact xs ((fun x1 x2 => x1 - x2) (xs.getD j.toNat 0) (xs.getD k.toNat 0))
   repeat ((conv => whnf) <;> first | with_reducible first | refine wI (by omega) ?_ | refine And.intro rfl ?_ | rfl | refine And.intro ‹_› ?_ | refine cTe ‹_› ?_ | refine cFe ‹_› ?_ | refine cN (cTe ‹_› ?_) | refine cN (cFe ‹_› ?_) | refine cTe rfl ?_ | refine cEq ‹_› ?_ | refine cTt ?_ | refine cNt ?_ | refine cF (Eq.refl false) ?_ | refine cN (cF (Eq.refl false) ?_) | refine cTd (by omega) ?_ | refine cFd (by omega) ?_ | refine cN (cTd (by omega) ?_) | refine cN (cFd (by omega) ?_) | refine And.intro (by omega) ?_ | refine And.intro (Eq.refl true) ?_ | refine And.intro (Eq.refl (1 : Nat)) ?_)
   refine ⟨els_sz xs, by rw [List.length_map]; omega, _, els_get j0 j1, rfl, ?_⟩
   repeat ((conv => whnf) <;> first | with_reducible first | refine wI (by omega) ?_ | refine And.intro rfl ?_ | rfl | refine And.intro ‹_› ?_ | refine cTe ‹_› ?_ | refine cFe ‹_› ?_ | refine cN (cTe ‹_› ?_) | refine cN (cFe ‹_› ?_) | refine cTe rfl ?_ | refine cEq ‹_› ?_ | refine cTt ?_ | refine cNt ?_ | refine cF (Eq.refl false) ?_ | refine cN (cF (Eq.refl false) ?_) | refine cTd (by omega) ?_ | refine cFd (by omega) ?_ | refine cN (cTd (by omega) ?_) | refine cN (cFd (by omega) ?_) | refine And.intro (by omega) ?_ | refine And.intro (Eq.refl true) ?_ | refine And.intro (Eq.refl (1 : Nat)) ?_)
   refine ⟨els_sz xs, by rw [List.length_map]; omega, _, els_get k0 k1, rfl, ?_⟩
   repeat ((conv => whnf) <;> first | with_reducible first | refine wI (by omega) ?_ | refine And.intro rfl ?_ | rfl | refine And.intro ‹_› ?_ | refine cTe ‹_› ?_ | refine cFe ‹_› ?_ | refine cN (cTe ‹_› ?_) | refine cN (cFe ‹_› ?_) | refine cTe rfl ?_ | refine cEq ‹_› ?_ | refine cTt ?_ | refine cNt ?_ | refine cF (Eq.refl false) ?_ | refine cN (cF (Eq.refl false) ?_) | refine cTd (by omega) ?_ | refine cFd (by omega) ?_ | refine cN (cTd (by omega) ?_) | refine cN (cFd (by omega) ?_) | refine And.intro (by omega) ?_ | refine And.intro (Eq.refl true) ?_ | refine And.intro (Eq.refl (1 : Nat)) ?_)
   refine ⟨fgs_sz xs, by rw [List.length_map]; omega, _, fgs_get j0 j1, rfl, ?_⟩
   repeat ((conv => whnf) <;> first | with_reducible first | refine wI (by omega) ?_ | refine And.intro rfl ?_ | rfl | refine And.intro ‹_› ?_ | refine cTe ‹_› ?_ | refine cFe ‹_› ?_ | refine cN (cTe ‹_› ?_) | refine cN (cFe ‹_› ?_) | refine cTe rfl ?_ | refine cEq ‹_› ?_ | refine cTt ?_ | refine cNt ?_ | refine cF (Eq.refl false) ?_ | refine cN (cF (Eq.refl false) ?_) | refine cTd (by omega) ?_ | refine cFd (by omega) ?_ | refine cN (cTd (by omega) ?_) | refine cN (cFd (by omega) ?_) | refine And.intro (by omega) ?_ | refine And.intro (Eq.refl true) ?_ | refine And.intro (Eq.refl (1 : Nat)) ?_)
   refine ⟨fgs_sz xs, by rw [List.length_map]; omega, _, fgs_get k0 k1, rfl, ?_⟩
   repeat ((conv => whnf) <;> first | with_reducible first | refine wI (by omega) ?_ | refine And.intro rfl ?_ | rfl | refine And.intro ‹_› ?_ | refine cTe ‹_› ?_ | refine cFe ‹_› ?_ | refine cN (cTe ‹_› ?_) | refine cN (cFe ‹_› ?_) | refine cTe rfl ?_ | refine cEq ‹_› ?_ | refine cTt ?_ | refine cNt ?_ | refine cF (Eq.refl false) ?_ | refine cN (cF (Eq.refl false) ?_) | refine cTd (by omega) ?_ | refine cFd (by omega) ?_ | refine cN (cTd (by omega) ?_) | refine cN (cFd (by omega) ?_) | refine And.intro (by omega) ?_ | refine And.intro (Eq.refl true) ?_ | refine And.intro (Eq.refl (1 : Nat)) ?_)
   refine ⟨_, p4, rfl, ?_⟩
   repeat ((conv => whnf) <;> first | with_reducible first | refine wI (by omega) ?_ | refine And.intro rfl ?_ | rfl | refine And.intro ‹_› ?_ | refine cTe ‹_› ?_ | refine cFe ‹_› ?_ | refine cN (cTe ‹_› ?_) | refine cN (cFe ‹_› ?_) | refine cTe rfl ?_ | refine cEq ‹_› ?_ | refine cTt ?_ | refine cNt ?_ | refine cF (Eq.refl false) ?_ | refine cN (cF (Eq.refl false) ?_) | refine cTd (by omega) ?_ | refine cFd (by omega) ?_ | refine cN (cTd (by omega) ?_) | refine cN (cFd (by omega) ?_) | refine And.intro (by omega) ?_ | refine And.intro (Eq.refl true) ?_ | refine And.intro (Eq.refl (1 : Nat)) ?_)
   refine ⟨_, s4, rfl, ?_⟩
   repeat ((conv => whnf) <;> first | with_reducible first | refine wI (by omega) ?_ | refine And.intro rfl ?_ | rfl | refine And.intro ‹_› ?_ | refine cTe ‹_› ?_ | refine cFe ‹_› ?_ | refine cN (cTe ‹_› ?_) | refine cN (cFe ‹_› ?_) | refine cTe rfl ?_ | refine cEq ‹_› ?_ | refine cTt ?_ | refine cNt ?_ | refine cF (Eq.refl false) ?_ | refine cN (cF (Eq.refl false) ?_) | refine cTd (by omega) ?_ | refine cFd (by omega) ?_ | refine cN (cTd (by omega) ?_) | refine cN (cFd (by omega) ?_) | refine And.intro (by omega) ?_ | refine And.intro (Eq.refl true) ?_ | refine And.intro (Eq.refl (1 : Nat)) ?_)
   (conv => whnf)
   exact ⟨_, Subs.refl' _, (i + 1, xs ++ [(fun x1 x2 => x1 - x2) (xs.getD j.toNat 0) (xs.getD k.toNat 0)]), ⟨_, _, rfl, hlt, by rw [List.length_append]; show xs.length + 1 = i + 1 + 2; omega, zsFl (by rw [List.length_append]; exact p2) (els_push xs _) (by rw [List.length_append]; exact s2) (fgs_push xs _) (by show (i : Int) + 1 = ((i + 1 : Nat) : Int); omega)⟩, by show e3.length - (i + 1) < e3.length - i; omega⟩
  by_cases d2 : d = 2
  ·obtain ⟨p1, p2, p3, p4, p5⟩ := els_fact xs ((fun x1 x2 => x1 * x2) (xs.getD j.toNat 0) (xs.getD k.toNat 0))
   obtain ⟨s1, s2, s3, s4, s5⟩ := fgs_fact xs ((fun x1 x2 => x1 * x2) (xs.getD j.toNat 0) (xs.getD k.toNat 0))
   repeat ((conv => whnf) <;> first | with_reducible first | refine wI (by omega) ?_ | refine And.intro rfl ?_ | rfl | refine And.intro ‹_› ?_ | refine cTe ‹_› ?_ | refine cFe ‹_› ?_ | refine cN (cTe ‹_› ?_) | refine cN (cFe ‹_› ?_) | refine cTe rfl ?_ | refine cEq ‹_› ?_ | refine cTt ?_ | refine cNt ?_ | refine cF (Eq.refl false) ?_ | refine cN (cF (Eq.refl false) ?_) | refine cTd (by omega) ?_ | refine cFd (by omega) ?_ | refine cN (cTd (by omega) ?_) | refine cN (cFd (by omega) ?_) | refine And.intro (by omega) ?_ | refine And.intro (Eq.refl true) ?_ | refine And.intro (Eq.refl (1 : Nat)) ?_)
   refine ⟨els_sz xs, by rw [List.length_map]; omega, _, els_get j0 j1, rfl, ?_⟩
   repeat ((conv => whnf) <;> first | with_reducible first | refine wI (by omega) ?_ | refine And.intro rfl ?_ | rfl | refine And.intro ‹_› ?_ | refine cTe ‹_› ?_ | refine cFe ‹_› ?_ | refine cN (cTe ‹_› ?_) | refine cN (cFe ‹_› ?_) | refine cTe rfl ?_ | refine cEq ‹_› ?_ | refine cTt ?_ | refine cNt ?_ | refine cF (Eq.refl false) ?_ | refine cN (cF (Eq.refl false) ?_) | refine cTd (by omega) ?_ | refine cFd (by omega) ?_ | refine cN (cTd (by omega) ?_) | refine cN (cFd (by omega) ?_) | refine And.intro (by omega) ?_ | refine And.intro (Eq.refl true) ?_ | refine And.intro (Eq.refl (1 : Nat)) ?_)
   refine ⟨els_sz xs, by rw [List.length_map]; omega, _, els_get k0 k1, rfl, ?_⟩
   repeat ((conv => whnf) <;> first | with_reducible first | refine wI (by omega) ?_ | refine And.intro rfl ?_ | rfl | refine And.intro ‹_› ?_ | refine cTe ‹_› ?_ | refine cFe ‹_› ?_ | refine cN (cTe ‹_› ?_) | refine cN (cFe ‹_› ?_) | refine cTe rfl ?_ | refine cEq ‹_› ?_ | refine cTt ?_ | refine cNt ?_ | refine cF (Eq.refl false) ?_ | refine cN (cF (Eq.refl false) ?_) | refine cTd (by omega) ?_ | refine cFd (by omega) ?_ | refine cN (cTd (by omega) ?_) | refine cN (cFd (by omega) ?_) | refine And.intro (by omega) ?_ | refine And.intro (Eq.refl true) ?_ | refine And.intro (Eq.refl (1 : Nat)) ?_)
   refine ⟨fgs_sz xs, by rw [List.length_map]; omega, _, fgs_get j0 j1, rfl, ?_⟩
   repeat ((conv => whnf) <;> first | with_reducible first | refine wI (by omega) ?_ | refine And.intro rfl ?_ | rfl | refine And.intro ‹_› ?_ | refine cTe ‹_› ?_ | refine cFe ‹_› ?_ | refine cN (cTe ‹_› ?_) | refine cN (cFe ‹_› ?_) | refine cTe rfl ?_ | refine cEq ‹_› ?_ | refine cTt ?_ | refine cNt ?_ | refine cF (Eq.refl false) ?_ | refine cN (cF (Eq.refl false) ?_) | refine cTd (by omega) ?_ | refine cFd (by omega) ?_ | refine cN (cTd (by omega) ?_) | refine cN (cFd (by omega) ?_) | refine And.intro (by omega) ?_ | refine And.intro (Eq.refl true) ?_ | refine And.intro (Eq.refl (1 : Nat)) ?_)
   refine ⟨fgs_sz xs, by rw [List.length_map]; omega, _, fgs_get k0 k1, rfl, ?_⟩
   repeat ((conv => whnf) <;> first | with_reducible first | refine wI (by omega) ?_ | refine And.intro rfl ?_ | rfl | refine And.intro ‹_› ?_ | refine cTe ‹_› ?_ | refine cFe ‹_› ?_ | refine cN (cTe ‹_› ?_) | refine cN (cFe ‹_› ?_) | refine cTe rfl ?_ | refine cEq ‹_› ?_ | refine cTt ?_ | refine cNt ?_ | refine cF (Eq.refl false) ?_ | refine cN (cF (Eq.refl false) ?_) | refine cTd (by omega) ?_ | refine cFd (by omega) ?_ | refine cN (cTd (by omega) ?_) | refine cN (cFd (by omega) ?_) | refine And.intro (by omega) ?_ | refine And.intro (Eq.refl true) ?_ | refine And.intro (Eq.refl (1 : Nat)) ?_)
   refine ⟨_, p4, rfl, ?_⟩
   repeat ((conv => whnf) <;> first | with_reducible first | refine wI (by omega) ?_ | refine And.intro rfl ?_ | rfl | refine And.intro ‹_› ?_ | refine cTe ‹_› ?_ | refine cFe ‹_› ?_ | refine cN (cTe ‹_› ?_) | refine cN (cFe ‹_› ?_) | refine cTe rfl ?_ | refine cEq ‹_› ?_ | refine cTt ?_ | refine cNt ?_ | refine cF (Eq.refl false) ?_ | refine cN (cF (Eq.refl false) ?_) | refine cTd (by omega) ?_ | refine cFd (by omega) ?_ | refine cN (cTd (by omega) ?_) | refine cN (cFd (by omega) ?_) | refine And.intro (by omega) ?_ | refine And.intro (Eq.refl true) ?_ | refine And.intro (Eq.refl (1 : Nat)) ?_)
   refine ⟨_, s4, rfl, ?_⟩
   repeat ((conv => whnf) <;> first | with_reducible first | refine wI (by omega) ?_ | refine And.intro rfl ?_ | rfl | refine And.intro ‹_› ?_ | refine cTe ‹_› ?_ | refine cFe ‹_› ?_ | refine cN (cTe ‹_› ?_) | refine cN (cFe ‹_› ?_) | refine cTe rfl ?_ | refine cEq ‹_› ?_ | refine cTt ?_ | refine cNt ?_ | refine cF (Eq.refl false) ?_ | refine cN (cF (Eq.refl false) ?_) | refine cTd (by omega) ?_ | refine cFd (by omega) ?_ | refine cN (cTd (by omega) ?_) | refine cN (cFd (by omega) ?_) | refine And.intro (by omega) ?_ | refine And.intro (Eq.refl true) ?_ | refine And.intro (Eq.refl (1 : Nat)) ?_)
   (conv => whnf)
   exact ⟨_, Subs.refl' _, (i + 1, xs ++ [(fun x1 x2 => x1 * x2) (xs.getD j.toNat 0) (xs.getD k.toNat 0)]), ⟨_, _, rfl, hlt, by rw [List.length_append]; show xs.length + 1 = i + 1 + 2; omega, zsFl (by rw [List.length_append]; exact p2) (els_push xs _) (by rw [List.length_append]; exact s2) (fgs_push xs _) (by show (i : Int) + 1 = ((i + 1 : Nat) : Int); omega)⟩, by show e3.length - (i + 1) < e3.length - i; omega⟩
  by_cases d3 : d = 3
  ·obtain ⟨p1, p2, p3, p4, p5⟩ := els_fact xs ((fun x => x * x) (xs.getD j.toNat 0))
   obtain ⟨s1, s2, s3, s4, s5⟩ := fgs_fact xs ((fun x1 x2 => x1 * x2) (xs.getD j.toNat 0) (xs.getD j.toNat 0))
   repeat ((conv => whnf) <;> first | with_reducible first | refine wI (by omega) ?_ | refine And.intro rfl ?_ | rfl | refine And.intro ‹_› ?_ | refine cTe ‹_› ?_ | refine cFe ‹_› ?_ | refine cN (cTe ‹_› ?_) | refine cN (cFe ‹_› ?_) | refine cTe rfl ?_ | refine cEq ‹_› ?_ | refine cTt ?_ | refine cNt ?_ | refine cF (Eq.refl false) ?_ | refine cN (cF (Eq.refl false) ?_) | refine cTd (by omega) ?_ | refine cFd (by omega) ?_ | refine cN (cTd (by omega) ?_) | refine cN (cFd (by omega) ?_) | refine And.intro (by omega) ?_ | refine And.intro (Eq.refl true) ?_ | refine And.intro (Eq.refl (1 : Nat)) ?_)
   refine ⟨els_sz xs, by rw [List.length_map]; omega, _, els_get j0 j1, rfl, ?_⟩
   repeat ((conv => whnf) <;> first | with_reducible first | refine wI (by omega) ?_ | refine And.intro rfl ?_ | rfl | refine And.intro ‹_› ?_ | refine cTe ‹_› ?_ | refine cFe ‹_› ?_ | refine cN (cTe ‹_› ?_) | refine cN (cFe ‹_› ?_) | refine cTe rfl ?_ | refine cEq ‹_› ?_ | refine cTt ?_ | refine cNt ?_ | refine cF (Eq.refl false) ?_ | refine cN (cF (Eq.refl false) ?_) | refine cTd (by omega) ?_ | refine cFd (by omega) ?_ | refine cN (cTd (by omega) ?_) | refine cN (cFd (by omega) ?_) | refine And.intro (by omega) ?_ | refine And.intro (Eq.refl true) ?_ | refine And.intro (Eq.refl (1 : Nat)) ?_)
   refine ⟨fgs_sz xs, by rw [List.length_map]; omega, _, fgs_get j0 j1, rfl, ?_⟩
   repeat ((conv => whnf) <;> first | with_reducible first | refine wI (by omega) ?_ | refine And.intro rfl ?_ | rfl | refine And.intro ‹_› ?_ | refine cTe ‹_› ?_ | refine cFe ‹_› ?_ | refine cN (cTe ‹_› ?_) | refine cN (cFe ‹_› ?_) | refine cTe rfl ?_ | refine cEq ‹_› ?_ | refine cTt ?_ | refine cNt ?_ | refine cF (Eq.refl false) ?_ | refine cN (cF (Eq.refl false) ?_) | refine cTd (by omega) ?_ | refine cFd (by omega) ?_ | refine cN (cTd (by omega) ?_) | refine cN (cFd (by omega) ?_) | refine And.intro (by omega) ?_ | refine And.intro (Eq.refl true) ?_ | refine And.intro (Eq.refl (1 : Nat)) ?_)
   refine ⟨fgs_sz xs, by rw [List.length_map]; omega, _, fgs_get j0 j1, rfl, ?_⟩
   repeat ((conv => whnf) <;> first | with_reducible first | refine wI (by omega) ?_ | refine And.intro rfl ?_ | rfl | refine And.intro ‹_› ?_ | refine cTe ‹_› ?_ | refine cFe ‹_› ?_ | refine cN (cTe ‹_› ?_) | refine cN (cFe ‹_› ?_) | refine cTe rfl ?_ | refine cEq ‹_› ?_ | refine cTt ?_ | refine cNt ?_ | refine cF (Eq.refl false) ?_ | refine cN (cF (Eq.refl false) ?_) | refine cTd (by omega) ?_ | refine cFd (by omega) ?_ | refine cN (cTd (by omega) ?_) | refine cN (cFd (by omega) ?_) | refine And.intro (by omega) ?_ | refine And.intro (Eq.refl true) ?_ | refine And.intro (Eq.refl (1 : Nat)) ?_)
   refine ⟨_, p4, rfl, ?_⟩
   repeat ((conv => whnf) <;> first | with_reducible first | refine wI (by omega) ?_ | refine And.intro rfl ?_ | rfl | refine And.intro ‹_› ?_ | refine cTe ‹_› ?_ | refine cFe ‹_› ?_ | refine cN (cTe ‹_› ?_) | refine cN (cFe ‹_› ?_) | refine cTe rfl ?_ | refine cEq ‹_› ?_ | refine cTt ?_ | refine cNt ?_ | refine cF (Eq.refl false) ?_ | refine cN (cF (Eq.refl false) ?_) | refine cTd (by omega) ?_ | refine cFd (by omega) ?_ | refine cN (cTd (by omega) ?_) | refine cN (cFd (by omega) ?_) | refine And.intro (by omega) ?_ | refine And.intro (Eq.refl true) ?_ | refine And.intro (Eq.refl (1 : Nat)) ?_)
   refine ⟨_, s4, rfl, ?_⟩
   repeat ((conv => whnf) <;> first | with_reducible first | refine wI (by omega) ?_ | refine And.intro rfl ?_ | rfl | refine And.intro ‹_› ?_ | refine cTe ‹_› ?_ | refine cFe ‹_› ?_ | refine cN (cTe ‹_› ?_) | refine cN (cFe ‹_› ?_) | refine cTe rfl ?_ | refine cEq ‹_› ?_ | refine cTt ?_ | refine cNt ?_ | refine cF (Eq.refl false) ?_ | refine cN (cF (Eq.refl false) ?_) | refine cTd (by omega) ?_ | refine cFd (by omega) ?_ | refine cN (cTd (by omega) ?_) | refine cN (cFd (by omega) ?_) | refine And.intro (by omega) ?_ | refine And.intro (Eq.refl true) ?_ | refine And.intro (Eq.refl (1 : Nat)) ?_)
   (conv => whnf)
   exact ⟨_, Subs.refl' _, (i + 1, xs ++ [(fun x => x * x) (xs.getD j.toNat 0)]), ⟨_, _, rfl, hlt, by rw [List.length_append]; show xs.length + 1 = i + 1 + 2; omega, zsFl (by rw [List.length_append]; exact p2) (els_push xs _) (by rw [List.length_append]; exact s2) (fgs_push xs _) (by show (i : Int) + 1 = ((i + 1 : Nat) : Int); omega)⟩, by show e3.length - (i + 1) < e3.length - i; omega⟩
  by_cases d4 : d = 4
  ·obtain ⟨p1, p2, p3, p4, p5⟩ := els_fact xs ((fun x => -x) (xs.getD j.toNat 0))
   obtain ⟨s1, s2, s3, s4, s5⟩ := fgs_fact xs ((fun x => -x) (xs.getD j.toNat 0))
   repeat ((conv => whnf) <;> first | with_reducible first | refine wI (by omega) ?_ | refine And.intro rfl ?_ | rfl | refine And.intro ‹_› ?_ | refine cTe ‹_› ?_ | refine cFe ‹_› ?_ | refine cN (cTe ‹_› ?_) | refine cN (cFe ‹_› ?_) | refine cTe rfl ?_ | refine cEq ‹_› ?_ | refine cTt ?_ | refine cNt ?_ | refine cF (Eq.refl false) ?_ | refine cN (cF (Eq.refl false) ?_) | refine cTd (by omega) ?_ | refine cFd (by omega) ?_ | refine cN (cTd (by omega) ?_) | refine cN (cFd (by omega) ?_) | refine And.intro (by omega) ?_ | refine And.intro (Eq.refl true) ?_ | refine And.intro (Eq.refl (1 : Nat)) ?_)
   refine ⟨els_sz xs, by rw [List.length_map]; omega, _, els_get j0 j1, rfl, ?_⟩
   repeat ((conv => whnf) <;> first | with_reducible first | refine wI (by omega) ?_ | refine And.intro rfl ?_ | rfl | refine And.intro ‹_› ?_ | refine cTe ‹_› ?_ | refine cFe ‹_› ?_ | refine cN (cTe ‹_› ?_) | refine cN (cFe ‹_› ?_) | refine cTe rfl ?_ | refine cEq ‹_› ?_ | refine cTt ?_ | refine cNt ?_ | refine cF (Eq.refl false) ?_ | refine cN (cF (Eq.refl false) ?_) | refine cTd (by omega) ?_ | refine cFd (by omega) ?_ | refine cN (cTd (by omega) ?_) | refine cN (cFd (by omega) ?_) | refine And.intro (by omega) ?_ | refine And.intro (Eq.refl true) ?_ | refine And.intro (Eq.refl (1 : Nat)) ?_)
   refine ⟨fgs_sz xs, by rw [List.length_map]; omega, _, fgs_get j0 j1, rfl, ?_⟩
   repeat ((conv => whnf) <;> first | with_reducible first | refine wI (by omega) ?_ | refine And.intro rfl ?_ | rfl | refine And.intro ‹_› ?_ | refine cTe ‹_› ?_ | refine cFe ‹_› ?_ | refine cN (cTe ‹_› ?_) | refine cN (cFe ‹_› ?_) | refine cTe rfl ?_ | refine cEq ‹_› ?_ | refine cTt ?_ | refine cNt ?_ | refine cF (Eq.refl false) ?_ | refine cN (cF (Eq.refl false) ?_) | refine cTd (by omega) ?_ | refine cFd (by omega) ?_ | refine cN (cTd (by omega) ?_) | refine cN (cFd (by omega) ?_) | refine And.intro (by omega) ?_ | refine And.intro (Eq.refl true) ?_ | refine And.intro (Eq.refl (1 : Nat)) ?_)
   refine ⟨_, p4, rfl, ?_⟩
   repeat ((conv => whnf) <;> first | with_reducible first | refine wI (by omega) ?_ | refine And.intro rfl ?_ | rfl | refine And.intro ‹_› ?_ | refine cTe ‹_› ?_ | refine cFe ‹_› ?_ | refine cN (cTe ‹_› ?_) | refine cN (cFe ‹_› ?_) | refine cTe rfl ?_ | refine cEq ‹_› ?_ | refine cTt ?_ | refine cNt ?_ | refine cF (Eq.refl false) ?_ | refine cN (cF (Eq.refl false) ?_) | refine cTd (by omega) ?_ | refine cFd (by omega) ?_ | refine cN (cTd (by omega) ?_) | refine cN (cFd (by omega) ?_) | refine And.intro (by omega) ?_ | refine And.intro (Eq.refl true) ?_ | refine And.intro (Eq.refl (1 : Nat)) ?_)
   refine ⟨_, s4, rfl, ?_⟩
   repeat ((conv => whnf) <;> first | with_reducible first | refine wI (by omega) ?_ | refine And.intro rfl ?_ | rfl | refine And.intro ‹_› ?_ | refine cTe ‹_› ?_ | refine cFe ‹_› ?_ | refine cN (cTe ‹_› ?_) | refine cN (cFe ‹_› ?_) | refine cTe rfl ?_ | refine cEq ‹_› ?_ | refine cTt ?_ | refine cNt ?_ | refine cF (Eq.refl false) ?_ | refine cN (cF (Eq.refl false) ?_) | refine cTd (by omega) ?_ | refine cFd (by omega) ?_ | refine cN (cTd (by omega) ?_) | refine cN (cFd (by omega) ?_) | refine And.intro (by omega) ?_ | refine And.intro (Eq.refl true) ?_ | refine And.intro (Eq.refl (1 : Nat)) ?_)
   (conv => whnf)
   exact ⟨_, Subs.refl' _, (i + 1, xs ++ [(fun x => -x) (xs.getD j.toNat 0)]), ⟨_, _, rfl, hlt, by rw [List.length_append]; show xs.length + 1 = i + 1 + 2; omega, zsFl (by rw [List.length_append]; exact p2) (els_push xs _) (by rw [List.length_append]; exact s2) (fgs_push xs _) (by show (i : Int) + 1 = ((i + 1 : Nat) : Int); omega)⟩, by show e3.length - (i + 1) < e3.length - i; omega⟩
  obtain ⟨p1, p2, p3, p4, p5⟩ := els_fact xs ((fun x n => x * z n) (xs.getD j.toNat 0) (Ca.mk d a b n).n)
  obtain ⟨s1, s2, s3, s4, s5⟩ := fgs_fact xs ((fun x1 x2 => x1 * x2) (xs.getD j.toNat 0) (z (Ca.mk d a b n).n))
  repeat ((conv => whnf) <;> first | with_reducible first | refine wI (by omega) ?_ | refine And.intro rfl ?_ | rfl | refine And.intro ‹_› ?_ | refine cTe ‹_› ?_ | refine cFe ‹_› ?_ | refine cN (cTe ‹_› ?_) | refine cN (cFe ‹_› ?_) | refine cTe rfl ?_ | refine cEq ‹_› ?_ | refine cTt ?_ | refine cNt ?_ | refine cF (Eq.refl false) ?_ | refine cN (cF (Eq.refl false) ?_) | refine cTd (by omega) ?_ | refine cFd (by omega) ?_ | refine cN (cTd (by omega) ?_) | refine cN (cFd (by omega) ?_) | refine And.intro (by omega) ?_ | refine And.intro (Eq.refl true) ?_ | refine And.intro (Eq.refl (1 : Nat)) ?_)
  refine ⟨els_sz xs, by rw [List.length_map]; omega, _, els_get j0 j1, rfl, ?_⟩
  repeat ((conv => whnf) <;> first | with_reducible first | refine wI (by omega) ?_ | refine And.intro rfl ?_ | rfl | refine And.intro ‹_› ?_ | refine cTe ‹_› ?_ | refine cFe ‹_› ?_ | refine cN (cTe ‹_› ?_) | refine cN (cFe ‹_› ?_) | refine cTe rfl ?_ | refine cEq ‹_› ?_ | refine cTt ?_ | refine cNt ?_ | refine cF (Eq.refl false) ?_ | refine cN (cF (Eq.refl false) ?_) | refine cTd (by omega) ?_ | refine cFd (by omega) ?_ | refine cN (cTd (by omega) ?_) | refine cN (cFd (by omega) ?_) | refine And.intro (by omega) ?_ | refine And.intro (Eq.refl true) ?_ | refine And.intro (Eq.refl (1 : Nat)) ?_)
  refine ⟨_, hg, ?_⟩
  repeat ((conv => whnf) <;> first | with_reducible first | refine wI (by omega) ?_ | refine And.intro rfl ?_ | rfl | refine And.intro ‹_› ?_ | refine cTe ‹_› ?_ | refine cFe ‹_› ?_ | refine cN (cTe ‹_› ?_) | refine cN (cFe ‹_› ?_) | refine cTe rfl ?_ | refine cEq ‹_› ?_ | refine cTt ?_ | refine cNt ?_ | refine cF (Eq.refl false) ?_ | refine cN (cF (Eq.refl false) ?_) | refine cTd (by omega) ?_ | refine cFd (by omega) ?_ | refine cN (cTd (by omega) ?_) | refine cN (cFd (by omega) ?_) | refine And.intro (by omega) ?_ | refine And.intro (Eq.refl true) ?_ | refine And.intro (Eq.refl (1 : Nat)) ?_)
  refine ⟨fgs_sz xs, by rw [List.length_map]; omega, _, fgs_get j0 j1, rfl, ?_⟩
  repeat ((conv => whnf) <;> first | with_reducible first | refine wI (by omega) ?_ | refine And.intro rfl ?_ | rfl | refine And.intro ‹_› ?_ | refine cTe ‹_› ?_ | refine cFe ‹_› ?_ | refine cN (cTe ‹_› ?_) | refine cN (cFe ‹_› ?_) | refine cTe rfl ?_ | refine cEq ‹_› ?_ | refine cTt ?_ | refine cNt ?_ | refine cF (Eq.refl false) ?_ | refine cN (cF (Eq.refl false) ?_) | refine cTd (by omega) ?_ | refine cFd (by omega) ?_ | refine cN (cTd (by omega) ?_) | refine cN (cFd (by omega) ?_) | refine And.intro (by omega) ?_ | refine And.intro (Eq.refl true) ?_ | refine And.intro (Eq.refl (1 : Nat)) ?_)
  refine ⟨_, hg, ?_⟩
  repeat ((conv => whnf) <;> first | with_reducible first | refine wI (by omega) ?_ | refine And.intro rfl ?_ | rfl | refine And.intro ‹_› ?_ | refine cTe ‹_› ?_ | refine cFe ‹_› ?_ | refine cN (cTe ‹_› ?_) | refine cN (cFe ‹_› ?_) | refine cTe rfl ?_ | refine cEq ‹_› ?_ | refine cTt ?_ | refine cNt ?_ | refine cF (Eq.refl false) ?_ | refine cN (cF (Eq.refl false) ?_) | refine cTd (by omega) ?_ | refine cFd (by omega) ?_ | refine cN (cTd (by omega) ?_) | refine cN (cFd (by omega) ?_) | refine And.intro (by omega) ?_ | refine And.intro (Eq.refl true) ?_ | refine And.intro (Eq.refl (1 : Nat)) ?_)
  refine ⟨_, p4, rfl, ?_⟩
  repeat ((conv => whnf) <;> first | with_reducible first | refine wI (by omega) ?_ | refine And.intro rfl ?_ | rfl | refine And.intro ‹_› ?_ | refine cTe ‹_› ?_ | refine cFe ‹_› ?_ | refine cN (cTe ‹_› ?_) | refine cN (cFe ‹_› ?_) | refine cTe rfl ?_ | refine cEq ‹_› ?_ | refine cTt ?_ | refine cNt ?_ | refine cF (Eq.refl false) ?_ | refine cN (cF (Eq.refl false) ?_) | refine cTd (by omega) ?_ | refine cFd (by omega) ?_ | refine cN (cTd (by omega) ?_) | refine cN (cFd (by omega) ?_) | refine And.intro (by omega) ?_ | refine And.intro (Eq.refl true) ?_ | refine And.intro (Eq.refl (1 : Nat)) ?_)
  refine ⟨_, s4, rfl, ?_⟩
  repeat ((conv => whnf) <;> first | with_reducible first | refine wI (by omega) ?_ | refine And.intro rfl ?_ | rfl | refine And.intro ‹_› ?_ | refine cTe ‹_› ?_ | refine cFe ‹_› ?_ | refine cN (cTe ‹_› ?_) | refine cN (cFe ‹_› ?_) | refine cTe rfl ?_ | refine cEq ‹_› ?_ | refine cTt ?_ | refine cNt ?_ | refine cF (Eq.refl false) ?_ | refine cN (cF (Eq.refl false) ?_) | refine cTd (by omega) ?_ | refine cFd (by omega) ?_ | refine cN (cTd (by omega) ?_) | refine cN (cFd (by omega) ?_) | refine And.intro (by omega) ?_ | refine And.intro (Eq.refl true) ?_ | refine And.intro (Eq.refl (1 : Nat)) ?_)
  (conv => whnf)
  exact ⟨_, Subs.refl' _, (i + 1, xs ++ [(fun x n => x * z n) (xs.getD j.toNat 0) (Ca.mk d a b n).n]), ⟨_, _, rfl, hlt, by rw [List.length_append]; show xs.length + 1 = i + 1 + 2; omega, zsFl (by rw [List.length_append]; exact p2) (els_push xs _) (by rw [List.length_append]; exact s2) (fgs_push xs _) (by show (i : Int) + 1 = ((i + 1 : Nat) : Int); omega)⟩, by show e3.length - (i + 1) < e3.length - i; omega⟩
 ·obtain rfl : i = e3.length := by omega
  repeat ((conv => whnf) <;> first | with_reducible first | refine wI (by omega) ?_ | refine And.intro rfl ?_ | rfl | refine And.intro ‹_› ?_ | refine cTe ‹_› ?_ | refine cFe ‹_› ?_ | refine cN (cTe ‹_› ?_) | refine cN (cFe ‹_› ?_) | refine cTe rfl ?_ | refine cEq ‹_› ?_ | refine cTt ?_ | refine cNt ?_ | refine cF (Eq.refl false) ?_ | refine cN (cF (Eq.refl false) ?_) | refine cTd (by omega) ?_ | refine cFd (by omega) ?_ | refine cN (cTd (by omega) ?_) | refine cN (cFd (by omega) ?_) | refine And.intro (by omega) ?_ | refine And.intro (Eq.refl true) ?_ | refine And.intro (Eq.refl (1 : Nat)) ?_)
set_option maxRecDepth 100000 in
theorem flong_any (b1 : List Int) (lb1 : b1.length = 56) (yb1 : By b1) (b2 : List Int) (lb2 : b2.length = 56) (yb2 : By b2) (e3 : List Ca) (ye3 : ∀ e ∈ e3, e.ok) (v3 : Value) (w : World) (s3 : Sv4 w v3 e3) : Calls Try.prog 9 #[AG (ys b1), AG (ys b2), v3] w (OutV (.bool true) w) :=
 law_tree tfA_ok o_flong [.agg [.whole 0 56], .agg [.whole 1 56], .atom (.var 2)] [AG (ys b1), AG (ys b2), v3] [.ints .u8 b1, .ints .u8 b2, .sl 4 (e3.map caA)] Try.func9 rfl c_flong rfl (by intro x hx; simp only [List.mem_cons, List.not_mem_nil, or_false] at hx; rcases hx with rfl | rfl | rfl <;> first | exact ok_arr rfl lb1 | exact ok_arr rfl lb2 | exact ok_one rfl s3.2) ⟨_, _, rfl, arr_val b1, ⟨_, _, rfl, arr_val b2, ⟨_, _, rfl, s3.1, rfl⟩⟩⟩ g_flong (aw_flong b1 lb1 yb1 b2 lb2 yb2 e3 ye3)
end Go.Proofs.Ytdpongijmmdnoaa
