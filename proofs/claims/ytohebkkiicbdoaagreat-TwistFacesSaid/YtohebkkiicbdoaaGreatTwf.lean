/- Chapter 13: TwistFaces -/
import Derived.Test.YtohebkkiicbdoaaGreatTwc
import Derived.Test.YtohebkkiicbdoaaGreatMls
set_option linter.unusedSimpArgs false
set_option linter.unusedVariables false
namespace Go.Proofs.YtohebkkiicbdoaaGreat
open Go.RowKit FdP FdP.Ch
theorem To_add {p q : G} (hu : uT p = uT q) (hv : vT p = vT q) (r : G) : uT (p + r) = uT (q + r) ∧ vT (p + r) = vT (q + r) := by
  rw [← ad_u p r, ← ad_v p r, ← ad_u q r, ← ad_v q r, hu, hv]; exact ⟨rfl, rfl⟩
theorem mulG_4 (g : G) : mulG 4 g = (g + g) + (g + g) := by rw [show 4 = 2 + 2 from rfl, mulG_add, mulG_two]
theorem face1 {p q : G} (hu : uT p = uT q) (hv : vT p = vT q) : mulG 4 (p + -q) = 0 := by
  obtain ⟨e1, e2⟩ := To_add hu hv (-q)
  rw [G.add_neg] at e1 e2
  have h1 := bk_u (p + -q)
  have h2 := bk_v (p + -q)
  rw [e1, e2, bk_u 0] at h1
  rw [e1, e2, bk_v 0] at h2
  rw [mulG_4]
  have : (0 : G) + 0 + (0 + 0) = 0 := by rw [G.add_zero, G.add_zero]
  rw [this] at h1 h2
  exact Ed.ext' h1.symm h2.symm
theorem tn_a {a : F} (h : a = -a) : 2 * a = 0 := by grind
theorem tn_b {x y : F} (h : x * y = 0) : x = 0 ∨ y = 0 := by
  by_cases e : x = 0
  · exact .inl e
  · by_cases e' : y = 0
    · exact .inr e'
    · exact absurd h (mul_ne e e')
theorem tn_c (x y c : F) (h : x * x + y * y = 1 + c * ((x * x) * (y * y))) (h' : x * y = 0) : y * y + x * x = 1 := by
  have e : (x * x) * (y * y) = (x * y) * (x * y) := by grind
  rw [e, h', tn_6, tz', ta] at h
  rw [← h]; exact tq_s _ _
theorem neg_x (g : G) : (-g).x = -g.x := rfl
theorem face2 {h : G} (h4 : (h + h) + (h + h) = 0) : uT h = z 0 ∧ vT h = z 1 := by
  have hD := G.neg_uniq h4
  have hx : (h + h).x = (-(h + h)).x := congrArg (fun g : G => g.x) hD
  rw [neg_x] at hx
  have x0 : (h + h).x = 0 := by
    rcases tn_b (tn_a hx) with e | e
    · exact absurd e two_ne
    · exact e
  have hd := (dblG h).1
  rw [x0, tn_6] at hd
  have hxy : h.x * h.y = 0 := by
    rcases tn_b hd.symm with e | e
    · exact absurd e two_ne
    · exact e
  have hB := tn_c _ _ _ h.on hxy
  rw [uT_eq, vT_eq, z_zero, z_one]
  unfold tuG tvG tuF tvF
  rw [hxy, hB, tz', tn_6]
  exact ⟨rfl, v_one⟩
theorem faces (p q : G) : (uT p = uT q ∧ vT p = vT q) ↔ mulG 4 (p + -q) = 0 := by
  constructor
  · exact fun h => face1 h.1 h.2
  · intro h
    rw [mulG_4] at h
    obtain ⟨e1, e2⟩ := face2 h
    obtain ⟨g1, g2⟩ := To_add (p := p + -q) (q := 0) (by rw [e1]; exact uT_01.1.symm) (by rw [e2]; exact uT_01.2.symm) q
    rw [G.zero_add, show p + -q + q = p by rw [G.assoc, G.neg_add, G.add_zero]] at g1 g2
    exact ⟨g1, g2⟩
theorem To_tor (p : G) (n : Nat) : uT (p + mulG n TG) = uT p ∧ vT (p + mulG n TG) = vT p := by
  rw [faces, G.comm p, G.sub_add, ← mulG_mul, Nat.mul_comm, mulG_mul, TG_four, mulG_zero']
theorem tor_on {a b : F} {n : Nat} (h : (mulG n TG).x = a ∧ (mulG n TG).y = b) (p : G) :
    (z (bval (byF a)) * z (bval (byF a)) + z (bval (byF b)) * z (bval (byF b)) = 1 + cd * ((z (bval (byF a)) * z (bval (byF a))) * (z (bval (byF b)) * z (bval (byF b))))) ∧
    uT (p + ofP (z (bval (byF a))) (z (bval (byF b)))) = uT p ∧ vT (p + ofP (z (bval (byF a))) (z (bval (byF b)))) = vT p := by
  rw [byF_z, byF_z, ← h.1, ← h.2, ofP_eq]
  exact ⟨(mulG n TG).on, To_tor p n⟩
theorem zG_4 (g : G) : zG 4 g = mulG 4 g := rfl
def twQ : Tab := tb_awake13 :: tb_spots13 :: tb_tor0 :: tb_rbyI :: tb_fof :: tb_pof :: tb_padd :: tb_pneg :: tb_tto :: tb_teq :: tb_pid :: tb_peq :: tb_msmall :: []
theorem twQ_ok : twQ.OK Tryz.prog := tab_cons tb_awake13_ok <| tab_cons tb_spots13_ok <| tab_cons tb_tor0_ok <| tab_cons tb_rbyI_ok <| tab_cons tb_fof_ok <| tab_cons tb_pof_ok <| tab_cons tb_padd_ok <| tab_cons tb_pneg_ok <| tab_cons tb_tto_ok <| tab_cons tb_teq_ok <| tab_cons tb_pid_ok <| tab_cons tb_peq_ok <| tab_cons tb_msmall_ok <| tab_nil _
theorem zsFa {i i' : Int} (h : i = i') : [AV.bool false, .int .i64 i] = [.bool false, .int .i64 i'] := by rw [h]
def o_faces13 : Orc := { ans := [(17, .one ⟨.leaf (.agg [.one (.var 0), .one (.var 1), .one (.var 2), .one (.var 3)]), 4, []⟩), (18, .one ⟨.tup [.agg [.whole 0 24, .whole 1 24], .agg [.whole 2 48, .whole 3 48], .atom (.var 4)], 5, []⟩), (23, oV), (24, oB), (25, oV), (26, oA 24), (27, oV), (28, oA 24), (29, oA 24), (30, oA 24), (32, oA 24), (33, .one ⟨.tup [.agg [.whole 0 24], .atom (.var 1)], 2, []⟩), (37, oB), (42, .one ⟨.leaf (.agg [.whole 0 16, .whole 1 16, .whole 2 16]), 3, []⟩), (43, oV), (44, oV), (45, .one ⟨.tup [.agg [.whole 0 8], .atom (.var 1)], 2, []⟩), (50, .one ⟨.leaf (.agg [.whole 0 16, .whole 1 16, .whole 2 16]), 3, []⟩), (51, oV), (52, oV), (53, .one ⟨.tup [.agg [.whole 0 8], .atom (.var 1)], 2, []⟩), (57, oA 8), (58, oA 8), (59, .one ⟨.tup [.agg [.whole 0 24], .atom (.var 1)], 2, []⟩), (63, oB), (66, oB), (67, oV), (70, oB), (71, oV), (73, oV), (74, oA 24), (75, oA 24), (76, oA 24), (77, .one ⟨.leaf (.agg [.whole 0 8, .whole 1 8]), 2, []⟩), (78, oV), (79, oA 24), (80, .one ⟨.leaf (.agg [.whole 0 8, .whole 1 8]), 2, []⟩), (81, oB), (82, oV), (83, oV), (39, oV), (85, oB), (87, oV), (88, oA 24), (89, .one ⟨.leaf (.agg [.whole 0 8, .whole 1 8]), 2, []⟩), (90, oV), (91, oA 24), (92, .one ⟨.leaf (.agg [.whole 0 8, .whole 1 8]), 2, []⟩), (93, oB), (94, oA 24), (95, oA 24), (96, oB), (97, oB), (98, oV), (100, oB), (101, oV)], lps := [(0, [.slot 2 [.one], .slot 9 [.one]])], ords := [(4, [.quiet 0, .quiet 1, .quiet 2, .quiet 3, .call 4 [6], .call 5 [6], .make 6 [], .last 7]), (12, [.pure 0, .quiet 1, .pure 2, .pure 3, .quiet 4, .quiet 5, .pure 6, .pure 7, .quiet 8, .quiet 9, .pure 10, .quiet 11, .quiet 12, .quiet 13, .quiet 16, .quiet 17, .call 14 [], .call 15 [], .call 18 [], .call 19 [], .quiet 20, .quiet 21]), (14, [.pure 0, .quiet 1, .pure 2, .quiet 3, .quiet 4, .quiet 6, .quiet 7, .quiet 10, .call 5 [], .call 8 [], .call 9 [], .call 11 [], .call 12 [], .quiet 13, .quiet 14, .pure 15, .call 16 [], .quiet 17, .pure 18])] }
def t_faces13 : Tree :=
 .new <|
 .call 4 [.agg [.one (.var 0), .one (.var 1), .one (.var 2), .one (.var 3)]] ([], []) (.tup [.agg [.whole 4 24, .whole 5 24], .agg [.whole 6 48, .whole 7 48], .atom (.var 8)]) 5 [] <|
 .new <|
 .new <|
 .calc (.unOp .not 4 (.tmp 22)) 4 [(22, qv 8)] ([], []) (qv 9) 1 <|
 .ite (.var 9) (
 .call2 5 [] ([], []) qT 0 [] (
 .ret ([], []) qT) qF 0 [] <|
 .ret ([], []) qF) <|
 .call 7 [.agg [.whole 5 24]] ([], []) (.leaf (.agg [.whole 10 24])) 1 [] <|
 .call 6 [.agg [.whole 4 24], .agg [.whole 10 24]] ([], []) (.leaf (.agg [.whole 11 24])) 1 [] <|
 .new <|
 .call 8 [.atom (.const (.int .i64 4)), .agg [.whole 11 24]] ([], []) (.tup [.agg [.whole 12 24], .atom (.var 13)]) 2 [] <|
 .new <|
 .loop [.atom (.const (.bool false)), .atom (.const (.int .i64 0))] [.one, .one] <|
 .calc2 (.binOp .lss 3 (.tmp 36) (.const (.int .i64 4)) 3) 4 [(36, qv 15)] ([], []) qT 0 (
 .call 11 [.atom (.var 15)] ([], []) (.leaf (.agg [.whole 16 16, .whole 17 16, .whole 18 16])) 3 [] <|
 .call 10 [.agg [.whole 16 16]] ([], []) (qv 19) 1 [] <|
 .call 9 [.atom (.var 19)] ([], []) (.tup [.agg [.whole 20 8], .atom (.var 21)]) 2 [] <|
 .new <|
 .call 11 [.atom (.var 15)] ([], []) (.leaf (.agg [.whole 22 16, .whole 23 16, .whole 24 16])) 3 [] <|
 .call 10 [.agg [.whole 23 16]] ([], []) (qv 25) 1 [] <|
 .call 9 [.atom (.var 25)] ([], []) (.tup [.agg [.whole 26 8], .atom (.var 27)]) 2 [] <|
 .new <|
 .call 12 [.agg [.whole 20 8], .agg [.whole 26 8]] ([], []) (.tup [.agg [.whole 28 24], .atom (.var 29)]) 2 [] <|
 .new <|
 .calc2 (.binOp .neq 43 (.tmp 62) (.const (.int .i64 0)) 43) 4 [(62, qv 21)] ([], []) qT 0 (
 .ret ([], []) qF) qF 0 <|
 .calc2 (.binOp .neq 43 (.tmp 65) (.const (.int .i64 0)) 43) 4 [(65, qv 27)] ([], []) qT 0 (
 .ret ([], []) qF) qF 0 <|
 .calc2 (.binOp .neq 43 (.tmp 69) (.const (.int .i64 0)) 43) 4 [(69, qv 29)] ([], []) qT 0 (
 .ret ([], []) qF) qF 0 <|
 .call 6 [.agg [.whole 4 24], .agg [.whole 28 24]] ([], []) (.leaf (.agg [.whole 30 24])) 1 [] <|
 .call 14 [.agg [.whole 30 24]] ([], []) (.leaf (.agg [.whole 31 8, .whole 32 8])) 2 [] <|
 .call 14 [.agg [.whole 4 24]] ([], []) (.leaf (.agg [.whole 33 8, .whole 34 8])) 2 [] <|
 .call2 13 [.agg [.whole 31 8, .whole 32 8], .agg [.whole 33 8, .whole 34 8]] ([], []) qT 0 [] (
 .calc (.binOp .add 3 (.tmp 38) (.const (.int .i64 1)) 3) 3 [(38, qv 15)] ([], []) (qv 35) 1 <|
 .again 0 [.atom (.var 14), .atom (.var 35)]) qF 0 [] <|
 .ret ([], []) qF) qF 0 <|
 .calc2 (.binOp .eql 43 (.tmp 84) (.const (.int .i64 0)) 43) 4 [(84, qv 13)] ([], []) qT 0 (
 .call 14 [.agg [.whole 4 24]] ([], []) (.leaf (.agg [.whole 16 8, .whole 17 8])) 2 [] <|
 .call 14 [.agg [.whole 5 24]] ([], []) (.leaf (.agg [.whole 18 8, .whole 19 8])) 2 [] <|
 .call2 13 [.agg [.whole 16 8, .whole 17 8], .agg [.whole 18 8, .whole 19 8]] ([], []) qT 0 [] (
 .call 16 [] ([], []) (.leaf (.agg [.whole 20 24])) 1 [] <|
 .call2 15 [.agg [.whole 12 24], .agg [.whole 20 24]] ([], []) qT 0 [] (
 .calc2 (.binOp .eql 4 (.tmp 93) (.tmp 96) 4) 4 [(93, .leaf (.atom (.const (.bool true)))), (96, .leaf (.atom (.const (.bool true))))] ([], []) qT 0 (
 .call2 5 [] ([], []) qT 0 [] (
 .ret ([], []) qT) qF 0 [] <|
 .ret ([], []) qF) qF 0 <|
 .ret ([], []) qF) qF 0 [] <|
 .calc2 (.binOp .eql 4 (.tmp 93) (.tmp 96) 4) 4 [(93, .leaf (.atom (.const (.bool true)))), (96, .leaf (.atom (.const (.bool false))))] ([], []) qT 0 (
 .call2 5 [] ([], []) qT 0 [] (
 .ret ([], []) qT) qF 0 [] <|
 .ret ([], []) qF) qF 0 <|
 .ret ([], []) qF) qF 0 [] <|
 .call 16 [] ([], []) (.leaf (.agg [.whole 20 24])) 1 [] <|
 .call2 15 [.agg [.whole 12 24], .agg [.whole 20 24]] ([], []) qT 0 [] (
 .calc2 (.binOp .eql 4 (.tmp 93) (.tmp 96) 4) 4 [(93, .leaf (.atom (.const (.bool false)))), (96, .leaf (.atom (.const (.bool true))))] ([], []) qT 0 (
 .call2 5 [] ([], []) qT 0 [] (
 .ret ([], []) qT) qF 0 [] <|
 .ret ([], []) qF) qF 0 <|
 .ret ([], []) qF) qF 0 [] <|
 .calc2 (.binOp .eql 4 (.tmp 93) (.tmp 96) 4) 4 [(93, .leaf (.atom (.const (.bool false)))), (96, .leaf (.atom (.const (.bool false))))] ([], []) qT 0 (
 .call2 5 [] ([], []) qT 0 [] (
 .ret ([], []) qT) qF 0 [] <|
 .ret ([], []) qF) qF 0 <|
 .ret ([], []) qF) qF 0 <|
 .ret ([], []) qF
theorem c_faces13 : compF Tryz.prog Tryz.f3 o_faces13 (Tryz.f3.body.getD .skip) (symIn [.agg [.one (.var 0), .one (.var 1), .one (.var 2), .one (.var 3)]] Tryz.f3.ntmps 4) = some t_faces13 := by kernel_rfl
theorem g_faces13 : goodC Tryz.prog o_faces13.ords (Tryz.f3.body.getD .skip) = true := by kernel_rfl
set_option maxRecDepth 100000 in
set_option maxHeartbeats 1000000 in
theorem aw_faces13 (b1 : List Int) (yb1 : By b1) (n1 : Int) (r1 : I64 n1) (c1 : List Int) (yc1 : By c1) (m1 : Int) (q1 : I64 m1) : AWp Tryz.prog twQ (fun a => a = .bool true) t_faces13 [] [.isl .u8 b1, .int .i64 n1, .isl .u8 c1, .int .i64 m1] := by
  have mb : By b1 ∧ By c1 := ⟨yb1, yc1⟩
  by_cases hok : spOK2 b1 n1 ∧ spOK2 c1 m1
  case neg => repeat ((conv => whnf) <;> first | with_reducible first | refine wI (by omega) ?_ | refine And.intro rfl ?_ | rfl | refine And.intro ‹_› ?_ | refine cTe ‹_› ?_ | refine cFe ‹_› ?_ | refine cN (cTe ‹_› ?_) | refine cN (cFe ‹_› ?_) | refine cTe rfl ?_ | refine cEq ‹_› ?_ | refine cTt ?_ | refine cNt ?_ | refine cF (Eq.refl false) ?_ | refine cN (cF (Eq.refl false) ?_) | refine cTd (by omega) ?_ | refine cFd (by omega) ?_ | refine cN (cTd (by omega) ?_) | refine cN (cFd (by omega) ?_) | refine And.intro (by omega) ?_ | refine And.intro (Eq.refl true) ?_)
  repeat ((conv => whnf) <;> first | with_reducible first | refine wI (by omega) ?_ | refine And.intro rfl ?_ | rfl | refine And.intro ‹_› ?_ | refine cTe ‹_› ?_ | refine cFe ‹_› ?_ | refine cN (cTe ‹_› ?_) | refine cN (cFe ‹_› ?_) | refine cTe rfl ?_ | refine cEq ‹_› ?_ | refine cTt ?_ | refine cNt ?_ | refine cF (Eq.refl false) ?_ | refine cN (cF (Eq.refl false) ?_) | refine cTd (by omega) ?_ | refine cFd (by omega) ?_ | refine cN (cTd (by omega) ?_) | refine cN (cFd (by omega) ?_) | refine And.intro (by omega) ?_ | refine And.intro (Eq.refl true) ?_)
  generalize spP b1 n1 = p
  generalize spP c1 m1 = q
  have i4 : I64 4 := by unfold I64; omega
  repeat ((conv => whnf) <;> first | with_reducible first | refine wI (by omega) ?_ | refine And.intro rfl ?_ | rfl | refine And.intro ‹_› ?_ | refine cTe ‹_› ?_ | refine cFe ‹_› ?_ | refine cN (cTe ‹_› ?_) | refine cN (cFe ‹_› ?_) | refine cTe rfl ?_ | refine cEq ‹_› ?_ | refine cTt ?_ | refine cNt ?_ | refine cF (Eq.refl false) ?_ | refine cN (cF (Eq.refl false) ?_) | refine cTd (by omega) ?_ | refine cFd (by omega) ?_ | refine cN (cTd (by omega) ?_) | refine cN (cFd (by omega) ?_) | refine And.intro (by omega) ?_ | refine And.intro (Eq.refl true) ?_)
  intro _ _
  repeat ((conv => whnf) <;> first | with_reducible first | refine wI (by omega) ?_ | refine And.intro rfl ?_ | rfl | refine And.intro ‹_› ?_ | refine cTe ‹_› ?_ | refine cFe ‹_› ?_ | refine cN (cTe ‹_› ?_) | refine cN (cFe ‹_› ?_) | refine cTe rfl ?_ | refine cEq ‹_› ?_ | refine cTt ?_ | refine cNt ?_ | refine cF (Eq.refl false) ?_ | refine cN (cF (Eq.refl false) ?_) | refine cTd (by omega) ?_ | refine cFd (by omega) ?_ | refine cN (cTd (by omega) ?_) | refine cN (cFd (by omega) ?_) | refine And.intro (by omega) ?_ | refine And.intro (Eq.refl true) ?_)
  refine ⟨Nat, fun i zs => i ≤ 4 ∧ zs = [.bool false, .int .i64 (i : Int)], fun i => 4 - i, 0, ?_, ?_⟩
  · (conv => whnf)
    exact ⟨_, Subs.refl' _, by omega, zsFa rfl⟩
  rintro i _ ⟨hi, rfl⟩
  rcases (by omega : i = 0 ∨ i = 1 ∨ i = 2 ∨ i = 3 ∨ i = 4) with rfl | rfl | rfl | rfl | rfl
  · obtain ⟨c1, c2⟩ := tor_on T0_xy p
    have l1 := byF_len (z 0)
    have l2 := byF_len (z 1)
    have y1 : (byF (z 0)).length = 56 ∧ By (byF (z 0)) := ⟨byF_len _, byF_by _⟩
    have y2 : (byF (z 1)).length = 56 ∧ By (byF (z 1)) := ⟨byF_len _, byF_by _⟩
    repeat ((conv => whnf) <;> first | with_reducible first | refine wI (by omega) ?_ | refine And.intro rfl ?_ | rfl | refine And.intro ‹_› ?_ | refine cTe ‹_› ?_ | refine cFe ‹_› ?_ | refine cN (cTe ‹_› ?_) | refine cN (cFe ‹_› ?_) | refine cTe rfl ?_ | refine cEq ‹_› ?_ | refine cTt ?_ | refine cNt ?_ | refine cF (Eq.refl false) ?_ | refine cN (cF (Eq.refl false) ?_) | refine cTd (by omega) ?_ | refine cFd (by omega) ?_ | refine cN (cTd (by omega) ?_) | refine cN (cFd (by omega) ?_) | refine And.intro (by omega) ?_ | refine And.intro (Eq.refl true) ?_)
    refine ⟨fun _ => ?_, fun hh => absurd hh (by omega), fun hh => absurd hh (by omega), fun hh => absurd hh (by omega), by omega, by omega⟩
    repeat ((conv => whnf) <;> first | with_reducible first | refine wI (by omega) ?_ | refine And.intro rfl ?_ | rfl | refine And.intro ‹_› ?_ | refine cTe ‹_› ?_ | refine cFe ‹_› ?_ | refine cN (cTe ‹_› ?_) | refine cN (cFe ‹_› ?_) | refine cTe rfl ?_ | refine cEq ‹_› ?_ | refine cTt ?_ | refine cNt ?_ | refine cF (Eq.refl false) ?_ | refine cN (cF (Eq.refl false) ?_) | refine cTd (by omega) ?_ | refine cFd (by omega) ?_ | refine cN (cTd (by omega) ?_) | refine cN (cFd (by omega) ?_) | refine And.intro (by omega) ?_ | refine And.intro (Eq.refl true) ?_)
    refine ⟨fun _ => ?_, fun hh => absurd hh (by omega), fun hh => absurd hh (by omega), fun hh => absurd hh (by omega), by omega, by omega⟩
    repeat ((conv => whnf) <;> first | with_reducible first | refine wI (by omega) ?_ | refine And.intro rfl ?_ | rfl | refine And.intro ‹_› ?_ | refine cTe ‹_› ?_ | refine cFe ‹_› ?_ | refine cN (cTe ‹_› ?_) | refine cN (cFe ‹_› ?_) | refine cTe rfl ?_ | refine cEq ‹_› ?_ | refine cTt ?_ | refine cNt ?_ | refine cF (Eq.refl false) ?_ | refine cN (cF (Eq.refl false) ?_) | refine cTd (by omega) ?_ | refine cFd (by omega) ?_ | refine cN (cTd (by omega) ?_) | refine cN (cFd (by omega) ?_) | refine And.intro (by omega) ?_ | refine And.intro (Eq.refl true) ?_)
    (conv => whnf)
    exact ⟨_, Subs.refl' _, 1, ⟨by omega, zsFa rfl⟩, by show 4 - 1 < 4 - 0; omega⟩
  · obtain ⟨c1, c2⟩ := tor_on T1_xy p
    have l1 := byF_len (z 1)
    have l2 := byF_len (z 0)
    have y1 : (byF (z 1)).length = 56 ∧ By (byF (z 1)) := ⟨byF_len _, byF_by _⟩
    have y2 : (byF (z 0)).length = 56 ∧ By (byF (z 0)) := ⟨byF_len _, byF_by _⟩
    repeat ((conv => whnf) <;> first | with_reducible first | refine wI (by omega) ?_ | refine And.intro rfl ?_ | rfl | refine And.intro ‹_› ?_ | refine cTe ‹_› ?_ | refine cFe ‹_› ?_ | refine cN (cTe ‹_› ?_) | refine cN (cFe ‹_› ?_) | refine cTe rfl ?_ | refine cEq ‹_› ?_ | refine cTt ?_ | refine cNt ?_ | refine cF (Eq.refl false) ?_ | refine cN (cF (Eq.refl false) ?_) | refine cTd (by omega) ?_ | refine cFd (by omega) ?_ | refine cN (cTd (by omega) ?_) | refine cN (cFd (by omega) ?_) | refine And.intro (by omega) ?_ | refine And.intro (Eq.refl true) ?_)
    refine ⟨fun _ => ?_, fun hh => absurd hh (by omega), fun hh => absurd hh (by omega), by omega, by omega⟩
    repeat ((conv => whnf) <;> first | with_reducible first | refine wI (by omega) ?_ | refine And.intro rfl ?_ | rfl | refine And.intro ‹_› ?_ | refine cTe ‹_› ?_ | refine cFe ‹_› ?_ | refine cN (cTe ‹_› ?_) | refine cN (cFe ‹_› ?_) | refine cTe rfl ?_ | refine cEq ‹_› ?_ | refine cTt ?_ | refine cNt ?_ | refine cF (Eq.refl false) ?_ | refine cN (cF (Eq.refl false) ?_) | refine cTd (by omega) ?_ | refine cFd (by omega) ?_ | refine cN (cTd (by omega) ?_) | refine cN (cFd (by omega) ?_) | refine And.intro (by omega) ?_ | refine And.intro (Eq.refl true) ?_)
    refine ⟨fun _ => ?_, fun hh => absurd hh (by omega), fun hh => absurd hh (by omega), by omega, by omega⟩
    repeat ((conv => whnf) <;> first | with_reducible first | refine wI (by omega) ?_ | refine And.intro rfl ?_ | rfl | refine And.intro ‹_› ?_ | refine cTe ‹_› ?_ | refine cFe ‹_› ?_ | refine cN (cTe ‹_› ?_) | refine cN (cFe ‹_› ?_) | refine cTe rfl ?_ | refine cEq ‹_› ?_ | refine cTt ?_ | refine cNt ?_ | refine cF (Eq.refl false) ?_ | refine cN (cF (Eq.refl false) ?_) | refine cTd (by omega) ?_ | refine cFd (by omega) ?_ | refine cN (cTd (by omega) ?_) | refine cN (cFd (by omega) ?_) | refine And.intro (by omega) ?_ | refine And.intro (Eq.refl true) ?_)
    (conv => whnf)
    exact ⟨_, Subs.refl' _, 2, ⟨by omega, zsFa rfl⟩, by show 4 - 2 < 4 - 1; omega⟩
  · obtain ⟨c1, c2⟩ := tor_on T2_xy p
    have l1 := byF_len (z 0)
    have l2 := byF_len (-(z 1))
    have y1 : (byF (z 0)).length = 56 ∧ By (byF (z 0)) := ⟨byF_len _, byF_by _⟩
    have y2 : (byF (-(z 1))).length = 56 ∧ By (byF (-(z 1))) := ⟨byF_len _, byF_by _⟩
    repeat ((conv => whnf) <;> first | with_reducible first | refine wI (by omega) ?_ | refine And.intro rfl ?_ | rfl | refine And.intro ‹_› ?_ | refine cTe ‹_› ?_ | refine cFe ‹_› ?_ | refine cN (cTe ‹_› ?_) | refine cN (cFe ‹_› ?_) | refine cTe rfl ?_ | refine cEq ‹_› ?_ | refine cTt ?_ | refine cNt ?_ | refine cF (Eq.refl false) ?_ | refine cN (cF (Eq.refl false) ?_) | refine cTd (by omega) ?_ | refine cFd (by omega) ?_ | refine cN (cTd (by omega) ?_) | refine cN (cFd (by omega) ?_) | refine And.intro (by omega) ?_ | refine And.intro (Eq.refl true) ?_)
    refine ⟨fun _ => ?_, fun hh => absurd hh (by omega), by omega, by omega⟩
    repeat ((conv => whnf) <;> first | with_reducible first | refine wI (by omega) ?_ | refine And.intro rfl ?_ | rfl | refine And.intro ‹_› ?_ | refine cTe ‹_› ?_ | refine cFe ‹_› ?_ | refine cN (cTe ‹_› ?_) | refine cN (cFe ‹_› ?_) | refine cTe rfl ?_ | refine cEq ‹_› ?_ | refine cTt ?_ | refine cNt ?_ | refine cF (Eq.refl false) ?_ | refine cN (cF (Eq.refl false) ?_) | refine cTd (by omega) ?_ | refine cFd (by omega) ?_ | refine cN (cTd (by omega) ?_) | refine cN (cFd (by omega) ?_) | refine And.intro (by omega) ?_ | refine And.intro (Eq.refl true) ?_)
    refine ⟨fun _ => ?_, fun hh => absurd hh (by omega), by omega, by omega⟩
    repeat ((conv => whnf) <;> first | with_reducible first | refine wI (by omega) ?_ | refine And.intro rfl ?_ | rfl | refine And.intro ‹_› ?_ | refine cTe ‹_› ?_ | refine cFe ‹_› ?_ | refine cN (cTe ‹_› ?_) | refine cN (cFe ‹_› ?_) | refine cTe rfl ?_ | refine cEq ‹_› ?_ | refine cTt ?_ | refine cNt ?_ | refine cF (Eq.refl false) ?_ | refine cN (cF (Eq.refl false) ?_) | refine cTd (by omega) ?_ | refine cFd (by omega) ?_ | refine cN (cTd (by omega) ?_) | refine cN (cFd (by omega) ?_) | refine And.intro (by omega) ?_ | refine And.intro (Eq.refl true) ?_)
    (conv => whnf)
    exact ⟨_, Subs.refl' _, 3, ⟨by omega, zsFa rfl⟩, by show 4 - 3 < 4 - 2; omega⟩
  · obtain ⟨c1, c2⟩ := tor_on T3_xy p
    have l1 := byF_len (-(z 1))
    have l2 := byF_len (z 0)
    have y1 : (byF (-(z 1))).length = 56 ∧ By (byF (-(z 1))) := ⟨byF_len _, byF_by _⟩
    have y2 : (byF (z 0)).length = 56 ∧ By (byF (z 0)) := ⟨byF_len _, byF_by _⟩
    repeat ((conv => whnf) <;> first | with_reducible first | refine wI (by omega) ?_ | refine And.intro rfl ?_ | rfl | refine And.intro ‹_› ?_ | refine cTe ‹_› ?_ | refine cFe ‹_› ?_ | refine cN (cTe ‹_› ?_) | refine cN (cFe ‹_› ?_) | refine cTe rfl ?_ | refine cEq ‹_› ?_ | refine cTt ?_ | refine cNt ?_ | refine cF (Eq.refl false) ?_ | refine cN (cF (Eq.refl false) ?_) | refine cTd (by omega) ?_ | refine cFd (by omega) ?_ | refine cN (cTd (by omega) ?_) | refine cN (cFd (by omega) ?_) | refine And.intro (by omega) ?_ | refine And.intro (Eq.refl true) ?_)
    refine ⟨fun _ => ?_, by omega, by omega⟩
    repeat ((conv => whnf) <;> first | with_reducible first | refine wI (by omega) ?_ | refine And.intro rfl ?_ | rfl | refine And.intro ‹_› ?_ | refine cTe ‹_› ?_ | refine cFe ‹_› ?_ | refine cN (cTe ‹_› ?_) | refine cN (cFe ‹_› ?_) | refine cTe rfl ?_ | refine cEq ‹_› ?_ | refine cTt ?_ | refine cNt ?_ | refine cF (Eq.refl false) ?_ | refine cN (cF (Eq.refl false) ?_) | refine cTd (by omega) ?_ | refine cFd (by omega) ?_ | refine cN (cTd (by omega) ?_) | refine cN (cFd (by omega) ?_) | refine And.intro (by omega) ?_ | refine And.intro (Eq.refl true) ?_)
    refine ⟨fun _ => ?_, by omega, by omega⟩
    repeat ((conv => whnf) <;> first | with_reducible first | refine wI (by omega) ?_ | refine And.intro rfl ?_ | rfl | refine And.intro ‹_› ?_ | refine cTe ‹_› ?_ | refine cFe ‹_› ?_ | refine cN (cTe ‹_› ?_) | refine cN (cFe ‹_› ?_) | refine cTe rfl ?_ | refine cEq ‹_› ?_ | refine cTt ?_ | refine cNt ?_ | refine cF (Eq.refl false) ?_ | refine cN (cF (Eq.refl false) ?_) | refine cTd (by omega) ?_ | refine cFd (by omega) ?_ | refine cN (cTd (by omega) ?_) | refine cN (cFd (by omega) ?_) | refine And.intro (by omega) ?_ | refine And.intro (Eq.refl true) ?_)
    (conv => whnf)
    exact ⟨_, Subs.refl' _, 4, ⟨by omega, zsFa rfl⟩, by show 4 - 4 < 4 - 3; omega⟩
  have hf := faces p q
  rw [← zG_4] at hf
  by_cases g1 : uT p = uT q ∧ vT p = vT q
  · have g2 := hf.1 g1
    repeat ((conv => whnf) <;> first | with_reducible first | refine wI (by omega) ?_ | refine And.intro rfl ?_ | rfl | refine And.intro ‹_› ?_ | refine cTe ‹_› ?_ | refine cFe ‹_› ?_ | refine cN (cTe ‹_› ?_) | refine cN (cFe ‹_› ?_) | refine cTe rfl ?_ | refine cEq ‹_› ?_ | refine cTt ?_ | refine cNt ?_ | refine cF (Eq.refl false) ?_ | refine cN (cF (Eq.refl false) ?_) | refine cTd (by omega) ?_ | refine cFd (by omega) ?_ | refine cN (cTd (by omega) ?_) | refine cN (cFd (by omega) ?_) | refine And.intro (by omega) ?_ | refine And.intro (Eq.refl true) ?_)
    (conv => whnf)
    refine cT rfl ?_
    repeat ((conv => whnf) <;> first | with_reducible first | refine wI (by omega) ?_ | refine And.intro rfl ?_ | rfl | refine And.intro ‹_› ?_ | refine cTe ‹_› ?_ | refine cFe ‹_› ?_ | refine cN (cTe ‹_› ?_) | refine cN (cFe ‹_› ?_) | refine cTe rfl ?_ | refine cEq ‹_› ?_ | refine cTt ?_ | refine cNt ?_ | refine cF (Eq.refl false) ?_ | refine cN (cF (Eq.refl false) ?_) | refine cTd (by omega) ?_ | refine cFd (by omega) ?_ | refine cN (cTd (by omega) ?_) | refine cN (cFd (by omega) ?_) | refine And.intro (by omega) ?_ | refine And.intro (Eq.refl true) ?_)
  · have g2 := fun g => g1 (hf.2 g)
    repeat ((conv => whnf) <;> first | with_reducible first | refine wI (by omega) ?_ | refine And.intro rfl ?_ | rfl | refine And.intro ‹_› ?_ | refine cTe ‹_› ?_ | refine cFe ‹_› ?_ | refine cN (cTe ‹_› ?_) | refine cN (cFe ‹_› ?_) | refine cTe rfl ?_ | refine cEq ‹_› ?_ | refine cTt ?_ | refine cNt ?_ | refine cF (Eq.refl false) ?_ | refine cN (cF (Eq.refl false) ?_) | refine cTd (by omega) ?_ | refine cFd (by omega) ?_ | refine cN (cTd (by omega) ?_) | refine cN (cFd (by omega) ?_) | refine And.intro (by omega) ?_ | refine And.intro (Eq.refl true) ?_)
    (conv => whnf)
    refine cT rfl ?_
    repeat ((conv => whnf) <;> first | with_reducible first | refine wI (by omega) ?_ | refine And.intro rfl ?_ | rfl | refine And.intro ‹_› ?_ | refine cTe ‹_› ?_ | refine cFe ‹_› ?_ | refine cN (cTe ‹_› ?_) | refine cN (cFe ‹_› ?_) | refine cTe rfl ?_ | refine cEq ‹_› ?_ | refine cTt ?_ | refine cNt ?_ | refine cF (Eq.refl false) ?_ | refine cN (cF (Eq.refl false) ?_) | refine cTd (by omega) ?_ | refine cFd (by omega) ?_ | refine cN (cTd (by omega) ?_) | refine cN (cFd (by omega) ?_) | refine And.intro (by omega) ?_ | refine And.intro (Eq.refl true) ?_)
set_option maxRecDepth 100000 in
theorem faces13_any (b1 : List Int) (yb1 : By b1) (v1 : Value) (n1 : Int) (r1 : I64 n1) (c1 : List Int) (yc1 : By c1) (u1 : Value) (m1 : Int) (q1 : I64 m1) (w : World) (s1 : Bv w v1 b1) (z1 : Bv w u1 c1) : Calls Tryz.prog 3 #[AG [v1, .int .i64 n1, u1, .int .i64 m1]] w (OutV (.bool true) w) :=
  law_tree twQ_ok o_faces13 [.agg [.one (.var 0), .one (.var 1), .one (.var 2), .one (.var 3)]] [v1, .int .i64 n1, u1, .int .i64 m1] [.isl .u8 b1, .int .i64 n1, .isl .u8 c1, .int .i64 m1] Tryz.func3 rfl c_faces13 (by simp [Leaf.den, catS, Seg.den, Atom.den, cellsAt, AG, Value.cells]) (by intro x hx; simp only [List.mem_cons, List.not_mem_nil, or_false] at hx; subst hx <;> first | exact ok_four (v := v1) (v' := .int .i64 n1) (u := u1) (u' := .int .i64 m1) rfl (bv_one s1) rfl rfl rfl (bv_one z1) rfl rfl) ⟨_, _, rfl, bv_val s1, _, _, rfl, int_val n1, _, _, rfl, bv_val z1, _, _, rfl, int_val m1, rfl⟩ g_faces13 (aw_faces13 b1 yb1 n1 r1 c1 yc1 m1 q1)
end Go.Proofs.YtohebkkiicbdoaaGreat
