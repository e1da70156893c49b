/- RootSums -/
import Derived.Test.YtohjkkmgcibemaaNwb
import Derived.Test.YtohjkkmgcibemaaRfw
import Derived.Test.YtohjkkmgcibemaaRtd
import Derived.Test.YtohjkkmgcibemaaOph
set_option linter.unusedSimpArgs false
set_option linter.unusedVariables false
namespace Go.Proofs.Ytohjkkmgcibemaa
open Go.RowKit FdP FdP.Ch
def tSubN (g : Trans) : Trans := fun zs Q => ∃ ys, Subs zs ys ∧ g ys Q
theorem con_tSubN {P : Program} {f : FuncId} {g : Trans} (h : Con P f g) : Con P f (tSubN g) := fun w x vals zs Q hx hv hg => by
 obtain ⟨ys, h1, h2⟩ := hg
 exact h w x vals ys Q hx (h1.ok hv) h2
def tb_addWS : FuncId × Trans := (tb_addW.1, tSubN tb_addW.2)
theorem tb_addWS_ok : Con Try.prog tb_addWS.1 tb_addWS.2 := con_tSubN tb_addW_ok
theorem sub_nilW : Sub (.val (.slice none 0 0)) (.isl .u64 []) := by
 intro β v hv
 obtain rfl := hv.val_inv
 exact valR0.mk1 rfl ⟨_, rfl, none, 0, rfl, Nat.le_refl _, rfl, fun h => absurd h (by simp)⟩
theorem w3_lt {l : List Int} (h : W64 l) (hk : l.length ≤ 3) : nW l < 256 ^ 24 :=
 Nat.lt_of_lt_of_le (nW_lt h) (Nat.le_trans (Nat.pow_le_pow_right (by omega) hk) (by decide))
theorem digB_val {N k : Nat} (h : N < 256 ^ k) : nval (digB N k) = N := by rw [nval_digB, Nat.mod_eq_of_lt h]
def twF : Tab := tb_powE0 :: tb_made :: tb_awake5 :: tb_bytesW :: tb_addWS :: tb_mulW :: tb_ofW :: tb_wordsE :: tb_mul :: tb_equal :: []
theorem twF_ok : twF.OK Try.prog := tab_cons tb_powE0_ok <| tab_cons tb_made_ok <| tab_cons tb_awake5_ok <| tab_cons tb_bytesW_ok <| tab_cons tb_addWS_ok <| tab_cons tb_mulW_ok <| tab_cons tb_ofW_ok <| tab_cons tb_wordsE_ok <| tab_cons tb_mul_ok <| tab_cons tb_equal_ok <| tab_nil _
def o_rootsums : Orc := { ans := [(19, oA 56), (20, .two ⟨.tup [.agg [.whole 0 8], .atom (.const (.bool true))], 1, []⟩ ⟨.tup [.agg [.whole 0 8], .atom (.const (.bool false))], 1, []⟩), (24, oV), (27, oV), (28, oB), (29, oV), (32, oV), (33, oB), (34, oV), (37, oB), (38, oV), (41, .one ⟨.tup [.atom (.var 0), .atom (.var 1)], 2, []⟩), (46, .one ⟨.tup [.atom (.var 0), .atom (.var 1)], 2, []⟩), (52, oV), (53, .one ⟨.tup [.atom (.var 0), .atom (.var 1)], 2, []⟩), (59, oV), (60, .one ⟨.tup [.atom (.var 0), .atom (.var 1)], 2, []⟩), (64, oB), (67, oB), (68, oV), (71, oB), (72, oV), (75, oB), (76, oV), (79, oV), (81, oV), (82, oB), (83, oV), (84, oV), (85, oA 8), (87, oA 8), (88, oA 8), (90, oA 8), (91, oA 8), (92, oA 8), (94, oA 8), (95, oA 8), (96, oB), (98, oA 8), (100, oA 8), (101, oA 8), (103, oA 8), (104, oB), (105, oV), (107, oB), (108, oV)], lps := [], ords := [(11, [.quiet 0, .pure 1, .quiet 3, .quiet 4, .pure 5, .call 2 [], .call 6 [], .call 7 [], .call 8 [], .pure 9, .quiet 10, .pure 11, .quiet 13, .pure 14, .call 12 [], .call 15 [], .call 16 [], .quiet 17, .pure 18, .call 19 [], .quiet 20, .pure 21])] }
def t_rootsums : Tree :=
 .new <|
 .call2 11 [.agg [.whole 0 56]] ([], []) (.tup [.agg [.whole 3 8], .atom (.const (.bool true))]) 1 [] (
 .new <|
 .calc (.call { callee := .builtin .len, args := #[.tmp 26], argTypes := #[57] }) 3 [(26, qv 1)] ([], []) (qv 4) 1 <|
 .calc2 (.binOp .gtr 3 (.tmp 27) (.const (.int .i64 3)) 3) 4 [(27, qv 4)] ([], []) qT 0 (
 .call2 16 [] ([], []) qT 0 [] (
 .ret ([], []) qT) qF 0 [] <|
 .ret ([], []) qF) qF 0 <|
 .calc (.call { callee := .builtin .len, args := #[.tmp 31], argTypes := #[57] }) 3 [(31, qv 2)] ([], []) (qv 5) 1 <|
 .calc2 (.binOp .gtr 3 (.tmp 32) (.const (.int .i64 3)) 3) 4 [(32, qv 5)] ([], []) qT 0 (
 .call2 16 [] ([], []) qT 0 [] (
 .ret ([], []) qT) qF 0 [] <|
 .ret ([], []) qF) qF 0 <|
 .call 33 [.atom (.var 1), .atom (.const (.int .i64 24))] ([], []) (.tup [.atom (.var 6), .atom (.var 7)]) 2 [] <|
 .call 33 [.atom (.var 2), .atom (.const (.int .i64 24))] ([], []) (.tup [.atom (.var 8), .atom (.var 9)]) 2 [] <|
 .call 34 [.atom (.var 1), .atom (.var 2)] ([], []) (qv 10) 1 [] <|
 .call 33 [.atom (.var 10), .atom (.const (.int .i64 25))] ([], []) (.tup [.atom (.var 11), .atom (.var 12)]) 2 [] <|
 .call 35 [.atom (.var 1), .atom (.var 2)] ([], []) (qv 13) 1 [] <|
 .call 33 [.atom (.var 13), .atom (.const (.int .i64 48))] ([], []) (.tup [.atom (.var 14), .atom (.var 15)]) 2 [] <|
 .calc2 (.binOp .neq 30 (.tmp 63) (.const (.int .i64 0)) 30) 4 [(63, qv 7)] ([], []) qT 0 (
 .ret ([], []) qF) qF 0 <|
 .calc2 (.binOp .neq 30 (.tmp 66) (.const (.int .i64 0)) 30) 4 [(66, qv 9)] ([], []) qT 0 (
 .ret ([], []) qF) qF 0 <|
 .calc2 (.binOp .neq 30 (.tmp 70) (.const (.int .i64 0)) 30) 4 [(70, qv 12)] ([], []) qT 0 (
 .ret ([], []) qF) qF 0 <|
 .calc2 (.binOp .neq 30 (.tmp 74) (.const (.int .i64 0)) 30) 4 [(74, qv 15)] ([], []) qT 0 (
 .ret ([], []) qF) qF 0 <|
 .call 37 [.atom (.var 6)] ([], []) (qv 16) 1 [] <|
 .call 34 [.atom (.var 1), .atom (.const (.slice none 0 0))] ([], []) (qv 17) 1 [] <|
 .call2 36 [.atom (.var 16), .atom (.var 17)] ([], []) qT 0 [] (
 .call 31 [.agg [.whole 3 8], .atom (.var 6)] ([], []) (.leaf (.agg [.whole 18 8])) 1 [] <|
 .new <|
 .call 31 [.agg [.whole 3 8], .atom (.var 11)] ([], []) (.leaf (.agg [.whole 19 8])) 1 [] <|
 .call 31 [.agg [.whole 3 8], .atom (.var 8)] ([], []) (.leaf (.agg [.whole 20 8])) 1 [] <|
 .call 20 [.agg [.whole 18 8], .agg [.whole 20 8]] ([], []) (.leaf (.agg [.whole 21 8])) 1 [] <|
 .call2 21 [.agg [.whole 19 8], .agg [.whole 21 8]] ([], []) qT 0 [] (
 .call 31 [.agg [.whole 3 8], .atom (.var 14)] ([], []) (.leaf (.agg [.whole 22 8])) 1 [] <|
 .call 31 [.agg [.whole 18 8], .atom (.var 8)] ([], []) (.leaf (.agg [.whole 23 8])) 1 [] <|
 .call2 21 [.agg [.whole 22 8], .agg [.whole 23 8]] ([], []) qT 0 [] (
 .call2 16 [] ([], []) qT 0 [] (
 .ret ([], []) qT) qF 0 [] <|
 .ret ([], []) qF) qF 0 [] <|
 .ret ([], []) qF) qF 0 [] <|
 .ret ([], []) qF) qF 0 [] <|
 .ret ([], []) qF) (.tup [.agg [.whole 3 8], .atom (.const (.bool false))]) 1 [] <|
 .new <|
 .ret ([], []) qF
theorem c_rootsums : compF Try.prog Try.f10 o_rootsums (Try.f10.body.getD .skip) (symIn [.agg [.whole 0 56], .atom (.var 1), .atom (.var 2)] Try.f10.ntmps 3) = some t_rootsums := by kernel_rfl
theorem g_rootsums : goodC Try.prog o_rootsums.ords (Try.f10.body.getD .skip) = true := by kernel_rfl
set_option maxRecDepth 100000 in
set_option maxHeartbeats 1000000 in
theorem aw_rootsums (b1 : List Int) (lb1 : b1.length = 56) (yb1 : By b1) (b2 : List Int) (yb2 : W64 b2) (b3 : List Int) (yb3 : W64 b3) : AWp Try.prog twF (fun a => a = .bool true) t_rootsums [] [.ints .u8 b1, .isl .u64 b2, .isl .u64 b3] := by
 have m1 := And.intro lb1 yb1
 by_cases a1 : (b2.length : Int) > 3
 ·repeat ((conv => whnf) <;> first | with_reducible first | refine wI (by omega) ?_ | refine And.intro rfl ?_ | rfl | refine And.intro ‹_› ?_ | refine cTe ‹_› ?_ | refine cFe ‹_› ?_ | refine cN (cTe ‹_› ?_) | refine cN (cFe ‹_› ?_) | refine cTe rfl ?_ | refine cEq ‹_› ?_ | refine cTt ?_ | refine cNt ?_ | refine cF (Eq.refl false) ?_ | refine cN (cF (Eq.refl false) ?_) | refine cTd (by omega) ?_ | refine cFd (by omega) ?_ | refine cN (cTd (by omega) ?_) | refine cN (cFd (by omega) ?_) | refine And.intro (fun hh : Option.isSome none = true => by cases hh) ?_ | refine And.intro (by omega) ?_ | refine And.intro (Eq.refl true) ?_)
 by_cases a2 : (b3.length : Int) > 3
 ·repeat ((conv => whnf) <;> first | with_reducible first | refine wI (by omega) ?_ | refine And.intro rfl ?_ | rfl | refine And.intro ‹_› ?_ | refine cTe ‹_› ?_ | refine cFe ‹_› ?_ | refine cN (cTe ‹_› ?_) | refine cN (cFe ‹_› ?_) | refine cTe rfl ?_ | refine cEq ‹_› ?_ | refine cTt ?_ | refine cNt ?_ | refine cF (Eq.refl false) ?_ | refine cN (cF (Eq.refl false) ?_) | refine cTd (by omega) ?_ | refine cFd (by omega) ?_ | refine cN (cTd (by omega) ?_) | refine cN (cFd (by omega) ?_) | refine And.intro (fun hh : Option.isSome none = true => by cases hh) ?_ | refine And.intro (by omega) ?_ | refine And.intro (Eq.refl true) ?_)
 have q2 := w3_lt yb2 (by omega)
 have q3 := w3_lt yb3 (by omega)
 have qs : nW b2 + nW b3 < 256 ^ 25 := by
  have : (256 : Nat) ^ 24 + 256 ^ 24 ≤ 256 ^ 25 := by decide
  omega
 have qp : nW b2 * nW b3 < 256 ^ 48 := by
  have := Nat.mul_lt_mul'' q2 q3
  exact Nat.lt_of_lt_of_le this (by decide)
 have ls : (wdN (nW b2 + nW b3)).length ≤ 4 := wdN_len (Nat.lt_of_lt_of_le qs (by decide))
 have lp : (wdN (nW b2 * nW b3)).length ≤ 6 := wdN_len (Nat.lt_of_lt_of_le qp (by decide))
 have A1 : W64 b2 ∧ b2.length ≤ 10000 ∧ (0 : Int) ≤ 24 ∧ (24 : Int) ≤ 65536 ∧ nW b2 < 256 ^ (24 : Int).toNat := ⟨yb2, by omega, by omega, by omega, q2⟩
 have A2 : W64 b3 ∧ b3.length ≤ 10000 ∧ (0 : Int) ≤ 24 ∧ (24 : Int) ≤ 65536 ∧ nW b3 < 256 ^ (24 : Int).toNat := ⟨yb3, by omega, by omega, by omega, q3⟩
 have A3 : W64 b2 ∧ W64 b3 ∧ b2.length ≤ 10000 ∧ b3.length ≤ 10000 := ⟨yb2, yb3, by omega, by omega⟩
 have es := nW_wdN (nW b2 + nW b3)
 have ep := nW_wdN (nW b2 * nW b3)
 have A4 : W64 (wdN (nW b2 + nW b3)) ∧ (wdN (nW b2 + nW b3)).length ≤ 10000 ∧ (0 : Int) ≤ 25 ∧ (25 : Int) ≤ 65536 ∧ nW (wdN (nW b2 + nW b3)) < 256 ^ (25 : Int).toNat := ⟨wdN_W64 _, by omega, by omega, by omega, by rw [es]; exact qs⟩
 have A5 : W64 (wdN (nW b2 * nW b3)) ∧ (wdN (nW b2 * nW b3)).length ≤ 10000 ∧ (0 : Int) ≤ 48 ∧ (48 : Int) ≤ 65536 ∧ nW (wdN (nW b2 * nW b3)) < 256 ^ (48 : Int).toNat := ⟨wdN_W64 _, by omega, by omega, by omega, by rw [ep]; exact qp⟩
 have lb : ∀ N k, k ≤ 50 → By (digB N k) ∧ (digB N k).length ≤ 100000 := fun N k hk => ⟨digB_by N k, by rw [digB_len]; omega⟩
 have B1 := lb (nW b2) (24 : Int).toNat (by decide)
 have B2 := lb (nW b3) (24 : Int).toNat (by decide)
 have B3 := lb (nW (wdN (nW b2 + nW b3))) (25 : Int).toNat (by decide)
 have B4 := lb (nW (wdN (nW b2 * nW b3))) (48 : Int).toNat (by decide)
 have v1 : nval (digB (nW b2) (24 : Int).toNat) = nW b2 := digB_val q2
 have v2 : nval (digB (nW b3) (24 : Int).toNat) = nW b3 := digB_val q3
 have v3 : nval (digB (nW (wdN (nW b2 + nW b3))) (25 : Int).toNat) = nW b2 + nW b3 := by rw [es]; exact digB_val qs
 have v4 : nval (digB (nW (wdN (nW b2 * nW b3))) (48 : Int).toNat) = nW b2 * nW b3 := by rw [ep]; exact digB_val qp
 have A6 : W64 b2 ∧ W64 [] ∧ b2.length ≤ 10000 ∧ ([] : List Int).length ≤ 10000 := ⟨yb2, W64.nil, by omega, by decide⟩
 have A7 : wdN (nval (digB (nW b2) (24 : Int).toNat)) = wdN (nW b2 + nW []) ∧ (wdN (nval (digB (nW b2) (24 : Int).toNat))).length ≤ 100000 := by
  rw [v1]
  exact ⟨rfl, by have := wdN_len (n := nW b2) (k := 3) (Nat.lt_of_lt_of_le q2 (by decide)); omega⟩
 generalize hx : z (bval b1) = x
 have e1 : x ^ nval (digB (nW (wdN (nW b2 + nW b3))) (25 : Int).toNat) = x ^ nval (digB (nW b2) (24 : Int).toNat) * x ^ nval (digB (nW b3) (24 : Int).toNat) := by rw [v1, v2, v3, pow_add]
 have e2 : x ^ nval (digB (nW (wdN (nW b2 * nW b3))) (48 : Int).toNat) = (x ^ nval (digB (nW b2) (24 : Int).toNat)) ^ nval (digB (nW b3) (24 : Int).toNat) := by rw [v1, v2, v4, pow_mul]
 subst hx
 clear qs qp es ep v1 v2 v3 v4 q2 q3
 repeat ((conv => whnf) <;> first | with_reducible first | refine wI (by omega) ?_ | refine And.intro rfl ?_ | rfl | refine And.intro ‹_› ?_ | refine cTe ‹_› ?_ | refine cFe ‹_› ?_ | refine cN (cTe ‹_› ?_) | refine cN (cFe ‹_› ?_) | refine cTe rfl ?_ | refine cEq ‹_› ?_ | refine cTt ?_ | refine cNt ?_ | refine cF (Eq.refl false) ?_ | refine cN (cF (Eq.refl false) ?_) | refine cTd (by omega) ?_ | refine cFd (by omega) ?_ | refine cN (cTd (by omega) ?_) | refine cN (cFd (by omega) ?_) | refine And.intro (fun hh : Option.isSome none = true => by cases hh) ?_ | refine And.intro (by omega) ?_ | refine And.intro (Eq.refl true) ?_)
 refine ⟨[.isl .u64 b2, .isl .u64 b3], ⟨Sub.refl' _, Sub.refl' _, trivial⟩, ?_⟩
 repeat ((conv => whnf) <;> first | with_reducible first | refine wI (by omega) ?_ | refine And.intro rfl ?_ | rfl | refine And.intro ‹_› ?_ | refine cTe ‹_› ?_ | refine cFe ‹_› ?_ | refine cN (cTe ‹_› ?_) | refine cN (cFe ‹_› ?_) | refine cTe rfl ?_ | refine cEq ‹_› ?_ | refine cTt ?_ | refine cNt ?_ | refine cF (Eq.refl false) ?_ | refine cN (cF (Eq.refl false) ?_) | refine cTd (by omega) ?_ | refine cFd (by omega) ?_ | refine cN (cTd (by omega) ?_) | refine cN (cFd (by omega) ?_) | refine And.intro (fun hh : Option.isSome none = true => by cases hh) ?_ | refine And.intro (by omega) ?_ | refine And.intro (Eq.refl true) ?_)
 refine ⟨[.isl .u64 b2, .isl .u64 []], ⟨Sub.refl' _, sub_nilW, trivial⟩, ?_⟩
 repeat ((conv => whnf) <;> first | with_reducible first | refine wI (by omega) ?_ | refine And.intro rfl ?_ | rfl | refine And.intro ‹_› ?_ | refine cTe ‹_› ?_ | refine cFe ‹_› ?_ | refine cN (cTe ‹_› ?_) | refine cN (cFe ‹_› ?_) | refine cTe rfl ?_ | refine cEq ‹_› ?_ | refine cTt ?_ | refine cNt ?_ | refine cF (Eq.refl false) ?_ | refine cN (cF (Eq.refl false) ?_) | refine cTd (by omega) ?_ | refine cFd (by omega) ?_ | refine cN (cTd (by omega) ?_) | refine cN (cFd (by omega) ?_) | refine And.intro (fun hh : Option.isSome none = true => by cases hh) ?_ | refine And.intro (by omega) ?_ | refine And.intro (Eq.refl true) ?_)
set_option maxRecDepth 100000 in
theorem rootsums_any (b1 : List Int) (lb1 : b1.length = 56) (yb1 : By b1) (b2 : List Int) (yb2 : W64 b2) (v2 : Value) (b3 : List Int) (yb3 : W64 b3) (v3 : Value) (w : World) (s2 : Wv w v2 b2) (s3 : Wv w v3 b3) : Calls Try.prog 10 #[AG (ys b1), v2, v3] w (OutV (.bool true) w) :=
 law_tree twF_ok o_rootsums [.agg [.whole 0 56], .atom (.var 1), .atom (.var 2)] [AG (ys b1), v2, v3] [.ints .u8 b1, .isl .u64 b2, .isl .u64 b3] Try.func10 rfl c_rootsums rfl (by intro x hx; simp only [List.mem_cons, List.not_mem_nil, or_false] at hx; rcases hx with rfl | rfl | rfl <;> first | exact ok_arr rfl lb1 | exact ok_one rfl (wv_one s2) | exact ok_one rfl (wv_one s3)) ⟨_, _, rfl, arr_val b1, ⟨_, _, rfl, wv_val s2, ⟨_, _, rfl, wv_val s3, rfl⟩⟩⟩ g_rootsums (aw_rootsums b1 lb1 yb1 b2 yb2 b3 yb3)
end Go.Proofs.Ytohjkkmgcibemaa
