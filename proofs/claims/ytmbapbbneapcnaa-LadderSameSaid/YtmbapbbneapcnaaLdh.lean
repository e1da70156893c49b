/- Chapter 10: LadderSame -/
import Derived.Test.YtmbapbbneapcnaaLde
set_option linter.unusedSimpArgs false
set_option linter.unusedVariables false
namespace Go.Proofs.Ytmbapbbneapcnaa
open Go.RowKit FdP FdP.Ch
def SubF (a b : AV) : Prop := ∀ base β v, valF base β a v → valF base β b v
theorem SubF.refl' (a : AV) : SubF a a := fun _ _ _ h => h
theorem con_subF {P : Program} {fn : FuncId} {g g' : Trans} (hc : Con P fn g) (h : ∀ zs Q, g' zs Q → g zs (fun a => ∃ b, SubF a b ∧ Q b)) : Con P fn g' := fun w x vals zs Q hx hv hg =>
  (hc w x vals zs _ hx hv (h zs Q hg)).mono fun e w' ⟨v, a, e1, e2, ⟨b, hs, hq⟩, hF⟩ => ⟨v, b, e1, hs _ _ _ e2, hq, hF⟩
theorem subF_nil {T : TypeId} {sz : Nat} {k : IntKind} {l : List AV} : SubF (.tup (.own T sz (.agg []) :: l)) (.tup (.own T sz (.ints k []) :: l)) := by
  rintro base β v ⟨vs, e, u, us, e', h1, h2⟩
  refine ⟨vs, e, u, us, e', ?_, h2⟩
  obtain ⟨h3, h4⟩ := h1
  refine ⟨?_, h4⟩
  obtain ⟨v0, n, xs, q1, q2, q3, q4⟩ := h3.cell rfl
  refine valR0.mk1 rfl ⟨v0, n, xs, q1, q2, q3, ?_⟩
  have q5 : cellsRs β none [] xs := q4
  simp only [cellsRs] at q5
  subst q5
  rfl
def tLBO : Trans := fun zs Q => match zs with
  | [.ints .u8 l] => l.length = 56 ∧ Q (.own 5 1 (.ints .u8 l))
  | _ => False
def tX448O0 : Trans := fun zs Q => match zs with
  | [.isl .u8 k, .isl .u8 u] => (By k ∧ By u ∧ k.length = 56 ∧ u.length = 56) ∧ (xU k u = 0 → Q (.tup [.own 5 1 (.agg []), .int .i64 15])) ∧ (¬ xU k u = 0 → Q (.tup [.own 5 1 (.ints .u8 (byF (xU k u))), .int .i64 0]))
  | _ => False
/-- bytes of an element; none of 0 -/
noncomputable def xB (r : F) : List Int := if r = 0 then [] else byF r
noncomputable def xE (r : F) : Int := if r = 0 then 15 else 0
theorem xB_len (r : F) : (xB r).length ≤ 1000000 := by unfold xB; split; exact Nat.zero_le _; rw [byF_len]; omega
def tX448O : Trans := fun zs Q => match zs with
  | [.isl .u8 k, .isl .u8 u] => (By k ∧ By u ∧ k.length = 56 ∧ u.length = 56) ∧ Q (.tup [.own 5 1 (.ints .u8 (xB (xU k u))), .int .i64 (xE (xU k u))])
  | _ => False
def o_lbO : Orc := { ans := [(5, .one ⟨.leaf (.atom (.var 0)), 1, []⟩), (6, .one ⟨.leaf (.atom (.var 0)), 1, []⟩)], lps := [], own := true }
def t_lbO : Tree :=
  .new <|
  .app none [.whole 0 56] 1 <|
  .reto ([([.whole 0 56], 23)], [⟨1, 2, 5, 1⟩]) (.leaf (.atom (.var 1)))
theorem c_lbO : compF Try.prog Try.f19 o_lbO (Try.f19.body.getD .skip) (symIn [.agg [.whole 0 56]] Try.f19.ntmps 1) = some t_lbO := by kernel_rfl
theorem g_lbO : goodC Try.prog o_lbO.ords (Try.f19.body.getD .skip) = true := by kernel_rfl
def tb_lbO : FuncId × Trans := (19, tLBO)
set_option maxRecDepth 100000 in
theorem aw_lbO : ∀ zs Q, tb_lbO.2 zs Q → bindLs 0 [.agg [.whole 0 56]] zs fun ae => bif Nat.beq ae.length 1 then AWp Try.prog tabNil Q t_lbO [] ae else False := by
  intro zs Q h
  replace h : tLBO zs Q := h
  unfold tLBO at h
  split at h
  case h_2 => exact h.elim
  rename_i l
  obtain ⟨hl, h⟩ := h
  have hs : (AV.ints .u8 l).size ≤ 1000000 := by show l.length ≤ 1000000; omega
  repeat ((conv => whnf) <;> first | with_reducible rfl | with_reducible refine And.intro (by assumption) ?_ | with_reducible refine cTe (by assumption) ?_ | with_reducible refine cFe (by assumption) ?_ | with_reducible refine cN (cTe (by assumption) ?_) | with_reducible refine cN (cFe (by assumption) ?_) | with_reducible refine cTe rfl ?_ | with_reducible refine cEq (by assumption) ?_ | with_reducible refine cTt ?_ | with_reducible refine cNt ?_ | with_reducible refine cF (Eq.refl false) ?_ | with_reducible refine cN (cF (Eq.refl false) ?_) | with_reducible refine cTd (by omega) ?_ | with_reducible refine cFd (by omega) ?_ | with_reducible refine cN (cTd (by omega) ?_) | with_reducible refine cN (cFd (by omega) ?_) | with_reducible refine And.intro (fun hh : Option.isSome none = true => by cases hh) ?_ | with_reducible refine And.intro (by omega) ?_)
  (conv => whnf)
  exact h
theorem tb_lbO_ok : Con Try.prog tb_lbO.1 tb_lbO.2 := con_tree tabNil_ok o_lbO [.agg [.whole 0 56]] 1 Try.func19 rfl c_lbO aw_lbO g_lbO
def tjQ : Tab := tb_sized :: tb_clamp :: tb_fof2 :: tb_ladder :: tb_zero :: tb_byO :: []
theorem tjQ_ok : tjQ.OK Try.prog := tab_cons tb_sized_ok <| tab_cons tb_clamp_ok <| tab_cons tb_fof2_ok <| tab_cons tb_ladder_ok <| tab_cons tb_zero_ok <| tab_cons tb_byO_ok <| tab_nil _
def o_x448o0 : Orc := { ans := [(13, .two ⟨.leaf (.atom (.const (.bool true))), 0, []⟩ ⟨.leaf (.atom (.const (.bool false))), 0, []⟩), (14, .one ⟨.leaf (.atom (.var 0)), 1, []⟩), (17, .one ⟨.tup [.atom (.var 0), .atom (.var 1)], 2, []⟩), (21, .two ⟨.leaf (.atom (.const (.bool true))), 0, []⟩ ⟨.leaf (.atom (.const (.bool false))), 0, []⟩), (25, .one ⟨.tup [.agg [.whole 0 8], .atom (.var 1)], 2, []⟩), (29, .two ⟨.leaf (.atom (.const (.bool true))), 0, []⟩ ⟨.leaf (.atom (.const (.bool false))), 0, []⟩), (33, .one ⟨.leaf (.agg [.whole 0 8]), 1, []⟩), (34, .one ⟨.tup [.agg [.whole 0 8], .atom (.var 1)], 2, []⟩), (39, .two ⟨.leaf (.atom (.const (.bool true))), 0, []⟩ ⟨.leaf (.atom (.const (.bool false))), 0, []⟩), (42, .one ⟨.leaf (.agg [.whole 0 8]), 1, []⟩), (43, .two ⟨.leaf (.atom (.const (.bool true))), 0, []⟩ ⟨.leaf (.atom (.const (.bool false))), 0, []⟩), (44, .one ⟨.leaf (.agg [.whole 0 8]), 1, []⟩), (45, .fresh ⟨.leaf (.atom (.var 0)), 2, []⟩ ⟨0, 1, 5, 1⟩)], lps := [], own := true }
def t_x448o0 : Tree :=
  .new <|
  .call2 51 [.atom (.slc 0 0 2 2)] ([([.one (.var 0), .one (.var 1)], 44)], []) (.leaf (.atom (.const (.bool true)))) 0 [] (
    .call 52 [.atom (.var 0)] ([], []) (.tup [.atom (.var 2), .atom (.var 3)]) 2 [] <|
    .calc2 (.binOp .neq 45 (.tmp 20) (.const (.int .i64 0)) 45) 4 [(20, .leaf (.atom (.var 3)))] ([], []) (.leaf (.atom (.const (.bool true)))) 0 (
      .reto ([], []) (.tup [.atom (.const (.slice none 0 0)), .atom (.var 3)])) (.leaf (.atom (.const (.bool false)))) 0 <|
    .call 34 [.atom (.var 1)] ([], []) (.tup [.agg [.whole 4 8], .atom (.var 5)]) 2 [] <|
    .new <|
    .calc2 (.binOp .neq 45 (.tmp 28) (.const (.int .i64 0)) 45) 4 [(28, .leaf (.atom (.var 5)))] ([], []) (.leaf (.atom (.const (.bool true)))) 0 (
      .reto ([], []) (.tup [.atom (.const (.slice none 0 0)), .atom (.var 5)])) (.leaf (.atom (.const (.bool false)))) 0 <|
    .call 16 [.atom (.var 2), .agg [.whole 4 8]] ([], []) (.tup [.agg [.whole 6 8], .atom (.var 7)]) 2 [] <|
    .new <|
    .calc2 (.binOp .neq 45 (.tmp 38) (.const (.int .i64 0)) 45) 4 [(38, .leaf (.atom (.var 7)))] ([], []) (.leaf (.atom (.const (.bool true)))) 0 (
      .reto ([], []) (.tup [.atom (.const (.slice none 0 0)), .atom (.var 7)])) (.leaf (.atom (.const (.bool false)))) 0 <|
    .call2 17 [.agg [.whole 6 8]] ([], []) (.leaf (.atom (.const (.bool true)))) 0 [] (
      .reto ([], []) (.tup [.atom (.const (.slice none 0 0)), .atom (.const (.int .i64 15))])) (.leaf (.atom (.const (.bool false)))) 0 [] <|
    .callr 20 [.agg [.whole 6 8]] ([], []) (.leaf (.atom (.var 8))) 2 ⟨8, 9, 5, 1⟩ <|
    .reto ([([.one (.var 0), .one (.var 1)], 44), ([.whole 4 8], 29), ([.whole 6 8], 29)], [⟨8, 9, 5, 1⟩]) (.tup [.atom (.var 8), .atom (.const (.int .i64 0))])) (.leaf (.atom (.const (.bool false)))) 0 [] <|
  .reto ([], []) (.tup [.atom (.const (.slice none 0 0)), .atom (.const (.int .i64 11))])
theorem c_x448o0 : compF Try.prog Try.f21 o_x448o0 (Try.f21.body.getD .skip) (symIn [.atom (.var 0), .atom (.var 1)] Try.f21.ntmps 2) = some t_x448o0 := by kernel_rfl
theorem g_x448o0 : goodC Try.prog o_x448o0.ords (Try.f21.body.getD .skip) = true := by kernel_rfl
def tb_x448o0 : FuncId × Trans := (21, tX448O0)
set_option maxRecDepth 100000 in
theorem aw_x448o0 : ∀ zs Q, tb_x448o0.2 zs Q → bindLs 0 [.atom (.var 0), .atom (.var 1)] zs fun ae => bif Nat.beq ae.length 2 then AWp Try.prog tjQ Q t_x448o0 [] ae else False := by
  intro zs Q h
  replace h : tX448O0 zs Q := h
  unfold tX448O0 at h
  split at h
  case h_2 => exact h.elim
  rename_i k u
  obtain ⟨⟨hb, hu, lk, lu⟩, h1, h2⟩ := h
  have ml : k.length ≤ 100000 ∧ u.length ≤ 100000 := ⟨by omega, by omega⟩
  rw [xU_eq] at h1 h2
  have mk : By k ∧ k.length = 56 := ⟨hb, lk⟩
  have lc := clampL_len k
  have mc : By (clampL k) ∧ (clampL k).length ≤ 100000 := ⟨clampL_by hb, by omega⟩
  by_cases hz : ladU (z (bval u)) (nval (clampL k)) = 0
  · have h' := h1 hz
    repeat ((conv => whnf) <;> first | exact rfl | refine wI (by omega) ?_ | refine wB (by omega) ?_ | refine wR (by omega) ?_ | refine wQ (by omega) ?_ | with_reducible refine And.intro rfl ?_ | with_reducible refine And.intro (by assumption) ?_ | with_reducible refine cTe (by assumption) ?_ | with_reducible refine cFe (by assumption) ?_ | with_reducible refine cN (cTe (by assumption) ?_) | with_reducible refine cN (cFe (by assumption) ?_) | with_reducible refine cTe rfl ?_ | with_reducible refine cEq (by assumption) ?_ | with_reducible refine cTt ?_ | with_reducible refine cNt ?_ | with_reducible refine cF (Eq.refl false) ?_ | refine And.intro (fun hh => by first | (cases hh; done) | rfl) ?_ | refine And.intro (by omega) ?_ | refine cTd (by omega) ?_ | refine cFd (by omega) ?_ | refine cN (cTd (by omega) ?_) | refine cN (cFd (by omega) ?_) | refine And.intro (by simp only [AV.size, Nat.div_one, List.length_append, List.length_singleton]; omega) ?_)
    refine And.intro ⟨rfl, Nat.zero_lt_one⟩ ?_
    repeat ((conv => whnf) <;> first | exact rfl | refine wI (by omega) ?_ | refine wB (by omega) ?_ | refine wR (by omega) ?_ | refine wQ (by omega) ?_ | with_reducible refine And.intro rfl ?_ | with_reducible refine And.intro (by assumption) ?_ | with_reducible refine cTe (by assumption) ?_ | with_reducible refine cFe (by assumption) ?_ | with_reducible refine cN (cTe (by assumption) ?_) | with_reducible refine cN (cFe (by assumption) ?_) | with_reducible refine cTe rfl ?_ | with_reducible refine cEq (by assumption) ?_ | with_reducible refine cTt ?_ | with_reducible refine cNt ?_ | with_reducible refine cF (Eq.refl false) ?_ | refine And.intro (fun hh => by first | (cases hh; done) | rfl) ?_ | refine And.intro (by omega) ?_ | refine cTd (by omega) ?_ | refine cFd (by omega) ?_ | refine cN (cTd (by omega) ?_) | refine cN (cFd (by omega) ?_) | refine And.intro (by simp only [AV.size, Nat.div_one, List.length_append, List.length_singleton]; omega) ?_)
    intro _
    repeat ((conv => whnf) <;> first | exact rfl | refine wI (by omega) ?_ | refine wB (by omega) ?_ | refine wR (by omega) ?_ | refine wQ (by omega) ?_ | with_reducible refine And.intro rfl ?_ | with_reducible refine And.intro (by assumption) ?_ | with_reducible refine cTe (by assumption) ?_ | with_reducible refine cFe (by assumption) ?_ | with_reducible refine cN (cTe (by assumption) ?_) | with_reducible refine cN (cFe (by assumption) ?_) | with_reducible refine cTe rfl ?_ | with_reducible refine cEq (by assumption) ?_ | with_reducible refine cTt ?_ | with_reducible refine cNt ?_ | with_reducible refine cF (Eq.refl false) ?_ | refine And.intro (fun hh => by first | (cases hh; done) | rfl) ?_ | refine And.intro (by omega) ?_ | refine cTd (by omega) ?_ | refine cFd (by omega) ?_ | refine cN (cTd (by omega) ?_) | refine cN (cFd (by omega) ?_) | refine And.intro (by simp only [AV.size, Nat.div_one, List.length_append, List.length_singleton]; omega) ?_)
    (conv => whnf)
    exact ⟨_, _, h'⟩
  · have h' := h2 hz
    repeat ((conv => whnf) <;> first | exact rfl | refine wI (by omega) ?_ | refine wB (by omega) ?_ | refine wR (by omega) ?_ | refine wQ (by omega) ?_ | with_reducible refine And.intro rfl ?_ | with_reducible refine And.intro (by assumption) ?_ | with_reducible refine cTe (by assumption) ?_ | with_reducible refine cFe (by assumption) ?_ | with_reducible refine cN (cTe (by assumption) ?_) | with_reducible refine cN (cFe (by assumption) ?_) | with_reducible refine cTe rfl ?_ | with_reducible refine cEq (by assumption) ?_ | with_reducible refine cTt ?_ | with_reducible refine cNt ?_ | with_reducible refine cF (Eq.refl false) ?_ | refine And.intro (fun hh => by first | (cases hh; done) | rfl) ?_ | refine And.intro (by omega) ?_ | refine cTd (by omega) ?_ | refine cFd (by omega) ?_ | refine cN (cTd (by omega) ?_) | refine cN (cFd (by omega) ?_) | refine And.intro (by simp only [AV.size, Nat.div_one, List.length_append, List.length_singleton]; omega) ?_)
    refine And.intro ⟨rfl, Nat.zero_lt_one⟩ ?_
    repeat ((conv => whnf) <;> first | exact rfl | refine wI (by omega) ?_ | refine wB (by omega) ?_ | refine wR (by omega) ?_ | refine wQ (by omega) ?_ | with_reducible refine And.intro rfl ?_ | with_reducible refine And.intro (by assumption) ?_ | with_reducible refine cTe (by assumption) ?_ | with_reducible refine cFe (by assumption) ?_ | with_reducible refine cN (cTe (by assumption) ?_) | with_reducible refine cN (cFe (by assumption) ?_) | with_reducible refine cTe rfl ?_ | with_reducible refine cEq (by assumption) ?_ | with_reducible refine cTt ?_ | with_reducible refine cNt ?_ | with_reducible refine cF (Eq.refl false) ?_ | refine And.intro (fun hh => by first | (cases hh; done) | rfl) ?_ | refine And.intro (by omega) ?_ | refine cTd (by omega) ?_ | refine cFd (by omega) ?_ | refine cN (cTd (by omega) ?_) | refine cN (cFd (by omega) ?_) | refine And.intro (by simp only [AV.size, Nat.div_one, List.length_append, List.length_singleton]; omega) ?_)
    intro _
    repeat ((conv => whnf) <;> first | exact rfl | refine wI (by omega) ?_ | refine wB (by omega) ?_ | refine wR (by omega) ?_ | refine wQ (by omega) ?_ | with_reducible refine And.intro rfl ?_ | with_reducible refine And.intro (by assumption) ?_ | with_reducible refine cTe (by assumption) ?_ | with_reducible refine cFe (by assumption) ?_ | with_reducible refine cN (cTe (by assumption) ?_) | with_reducible refine cN (cFe (by assumption) ?_) | with_reducible refine cTe rfl ?_ | with_reducible refine cEq (by assumption) ?_ | with_reducible refine cTt ?_ | with_reducible refine cNt ?_ | with_reducible refine cF (Eq.refl false) ?_ | refine And.intro (fun hh => by first | (cases hh; done) | rfl) ?_ | refine And.intro (by omega) ?_ | refine cTd (by omega) ?_ | refine cFd (by omega) ?_ | refine cN (cTd (by omega) ?_) | refine cN (cFd (by omega) ?_) | refine And.intro (by simp only [AV.size, Nat.div_one, List.length_append, List.length_singleton]; omega) ?_)
    (conv => whnf)
    exact h'
theorem tb_x448o0_ok : Con Try.prog tb_x448o0.1 tb_x448o0.2 := con_tree tjQ_ok o_x448o0 [.atom (.var 0), .atom (.var 1)] 2 Try.func21 rfl c_x448o0 aw_x448o0 g_x448o0
def tb_x448O : FuncId × Trans := (tb_x448o0.1, tX448O)
theorem tb_x448O_ok : Con Try.prog tb_x448O.1 tb_x448O.2 := con_subF tb_x448o0_ok (by
  intro zs Q h
  replace h : tX448O zs Q := h
  unfold tX448O at h
  split at h
  case h_2 => exact h.elim
  rename_i k u
  obtain ⟨hm, h⟩ := h
  refine ⟨hm, fun hz => ⟨_, subF_nil (k := .u8), ?_⟩, fun hz => ⟨_, SubF.refl' _, ?_⟩⟩
  · rw [hz] at h
    unfold xB xE at h
    rw [if_pos rfl, if_pos rfl] at h
    exact h
  · unfold xB xE at h
    rw [if_neg hz, if_neg hz] at h
    exact h)
theorem nval_four (l : List Int) (h : By l) : nval (l ++ [0, 0, 0, 0]) = nval l := by
  unfold nval; rw [bval_app]
  have : bval [0, 0, 0, 0] = 0 := by decide
  rw [this, Int.mul_zero, Int.add_zero]
theorem clampL_eq {k : List Int} {x y : Int} (hk : k.length = 56) (hx : x / 4 = k.getD 0 0 / 4) (hy : y % 128 = k.getD 55 0 % 128) : clampL ((k.set 0 x).set 55 y) = clampL k := by
  have e0 : ((k.set 0 x).set 55 y).getD 0 0 = x := by simp [List.getD, List.getElem?_set, hk]
  have e1 : ((k.set 0 x).set 55 y).getD 55 0 = y := by simp [List.getD, List.getElem?_set, hk]
  unfold clampL
  rw [e0, e1, hx, hy]
  apply List.ext_getElem?
  intro i
  simp only [List.getElem?_set, List.length_set]
  by_cases h0 : 0 = i
  · subst h0; simp [hk]
  · by_cases h5 : 55 = i
    · subst h5; simp [hk]
    · simp [h0, h5]
theorem xU_clamp {k k' u : List Int} (h : clampL k' = clampL k) : xU k' u = xU k u := by rw [xU_eq, xU_eq, h]
theorem getD_set_at {l : List Int} {i : Nat} (h : l.length = 56) (v : Int) (hi : i < 56 := by omega) : (l.set i v).getD i 0 = v := by simp [List.getD, List.getElem?_set, h, hi]
def tjR : Tab := tb_awake10 :: tb_made :: tb_lbO :: tb_ladder :: tb_equal :: tb_byI :: tb_x448O :: tb_bytesEq :: []
theorem tjR_ok : tjR.OK Try.prog := tab_cons tb_awake10_ok <| tab_cons tb_made_ok <| tab_cons tb_lbO_ok <| tab_cons tb_ladder_ok <| tab_cons tb_equal_ok <| tab_cons tb_byI_ok <| tab_cons tb_x448O_ok <| tab_cons tb_bytesEq_ok <| tab_nil _
def o_lsame : Orc := { ans := [(21, .one ⟨.leaf (.agg [.whole 0 56]), 1, []⟩), (22, .fresh ⟨.leaf (.atom (.var 0)), 2, []⟩ ⟨0, 1, 5, 1⟩), (24, .one ⟨.leaf (.agg [.whole 0 56]), 1, []⟩), (25, .one ⟨.tup [.agg [.whole 0 8], .atom (.const (.bool true))], 1, []⟩), (29, .one ⟨.leaf (.atom (.var 0)), 1, []⟩), (32, .one ⟨.leaf (.atom (.var 0)), 1, []⟩), (35, .one ⟨.leaf (.atom (.var 0)), 1, []⟩), (38, .one ⟨.leaf (.agg [.whole 0 8]), 1, []⟩), (39, .one ⟨.tup [.agg [.whole 0 8], .atom (.var 1)], 2, []⟩), (44, .one ⟨.leaf (.agg [.whole 0 8]), 1, []⟩), (45, .one ⟨.tup [.agg [.whole 0 8], .atom (.var 1)], 2, []⟩), (48, .one ⟨.leaf (.agg [.whole 0 56]), 1, []⟩), (49, .fresh ⟨.leaf (.atom (.var 0)), 2, []⟩ ⟨0, 1, 5, 1⟩), (50, .one ⟨.leaf (.agg [.whole 0 8]), 1, []⟩), (51, .one ⟨.leaf (.atom (.var 0)), 1, []⟩), (55, .fresh ⟨.tup [.atom (.var 0), .atom (.var 2)], 3, []⟩ ⟨0, 1, 5, 1⟩), (61, .fresh ⟨.tup [.atom (.var 0), .atom (.var 2)], 3, []⟩ ⟨0, 1, 5, 1⟩), (65, .two ⟨.leaf (.atom (.const (.bool true))), 0, []⟩ ⟨.leaf (.atom (.const (.bool false))), 0, []⟩), (68, .two ⟨.leaf (.atom (.const (.bool true))), 0, []⟩ ⟨.leaf (.atom (.const (.bool false))), 0, []⟩), (69, .one ⟨.leaf (.atom (.var 0)), 1, []⟩), (71, .one ⟨.leaf (.agg [.whole 0 8]), 1, []⟩), (72, .one ⟨.leaf (.agg [.whole 0 8]), 1, []⟩), (73, .two ⟨.leaf (.atom (.const (.bool true))), 0, []⟩ ⟨.leaf (.atom (.const (.bool false))), 0, []⟩), (74, .one ⟨.leaf (.atom (.var 0)), 1, []⟩), (75, .one ⟨.leaf (.atom (.var 0)), 1, []⟩), (79, .two ⟨.leaf (.atom (.const (.bool true))), 0, []⟩ ⟨.leaf (.atom (.const (.bool false))), 0, []⟩), (80, .one ⟨.leaf (.atom (.var 0)), 1, []⟩), (84, .two ⟨.leaf (.atom (.const (.bool true))), 0, []⟩ ⟨.leaf (.atom (.const (.bool false))), 0, []⟩), (85, .one ⟨.leaf (.atom (.var 0)), 1, []⟩), (86, .one ⟨.leaf (.atom (.var 0)), 1, []⟩), (89, .one ⟨.leaf (.agg [.whole 0 56]), 1, []⟩), (90, .fresh ⟨.leaf (.atom (.var 0)), 2, []⟩ ⟨0, 1, 5, 1⟩), (91, .two ⟨.leaf (.atom (.const (.bool true))), 0, []⟩ ⟨.leaf (.atom (.const (.bool false))), 0, []⟩), (92, .one ⟨.leaf (.atom (.var 0)), 1, []⟩), (93, .one ⟨.leaf (.atom (.var 0)), 1, []⟩), (96, .one ⟨.leaf (.agg [.whole 0 56]), 1, []⟩), (97, .fresh ⟨.leaf (.atom (.var 0)), 2, []⟩ ⟨0, 1, 5, 1⟩), (98, .two ⟨.leaf (.atom (.const (.bool true))), 0, []⟩ ⟨.leaf (.atom (.const (.bool false))), 0, []⟩), (99, .one ⟨.leaf (.atom (.var 0)), 1, []⟩), (100, .one ⟨.leaf (.atom (.var 0)), 1, []⟩), (103, .one ⟨.leaf (.atom (.var 0)), 1, []⟩), (104, .one ⟨.leaf (.atom (.var 0)), 1, []⟩), (105, .one ⟨.leaf (.atom (.var 0)), 1, []⟩), (106, .one ⟨.leaf (.atom (.var 0)), 1, []⟩), (107, .one ⟨.leaf (.atom (.var 0)), 1, []⟩), (109, .one ⟨.leaf (.atom (.var 0)), 1, []⟩), (110, .one ⟨.leaf (.atom (.var 0)), 1, []⟩), (111, .one ⟨.leaf (.atom (.var 0)), 1, []⟩), (112, .one ⟨.leaf (.atom (.var 0)), 1, []⟩), (113, .one ⟨.leaf (.atom (.var 0)), 1, []⟩), (116, .one ⟨.leaf (.atom (.var 0)), 1, []⟩), (117, .one ⟨.leaf (.atom (.var 0)), 1, []⟩), (118, .one ⟨.leaf (.atom (.var 0)), 1, []⟩), (119, .one ⟨.leaf (.atom (.var 0)), 1, []⟩), (120, .one ⟨.leaf (.atom (.var 0)), 1, []⟩), (121, .one ⟨.leaf (.atom (.var 0)), 1, []⟩), (122, .one ⟨.leaf (.atom (.var 0)), 1, []⟩), (123, .one ⟨.leaf (.atom (.var 0)), 1, []⟩), (125, .one ⟨.leaf (.atom (.var 0)), 1, []⟩), (126, .one ⟨.leaf (.atom (.var 0)), 1, []⟩), (127, .one ⟨.leaf (.atom (.var 0)), 1, []⟩), (128, .two ⟨.leaf (.atom (.const (.bool true))), 0, []⟩ ⟨.leaf (.atom (.const (.bool false))), 0, []⟩), (130, .one ⟨.leaf (.atom (.var 0)), 1, []⟩), (131, .one ⟨.leaf (.atom (.var 0)), 1, []⟩), (132, .one ⟨.leaf (.atom (.var 0)), 1, []⟩), (133, .one ⟨.leaf (.atom (.var 0)), 1, []⟩), (134, .one ⟨.leaf (.atom (.var 0)), 1, []⟩), (138, .fresh ⟨.tup [.atom (.var 0), .atom (.var 2)], 3, []⟩ ⟨0, 1, 5, 1⟩), (143, .two ⟨.leaf (.atom (.const (.bool true))), 0, []⟩ ⟨.leaf (.atom (.const (.bool false))), 0, []⟩), (147, .two ⟨.leaf (.atom (.const (.bool true))), 0, []⟩ ⟨.leaf (.atom (.const (.bool false))), 0, []⟩), (148, .one ⟨.leaf (.atom (.var 0)), 1, []⟩), (150, .two ⟨.leaf (.atom (.const (.bool true))), 0, []⟩ ⟨.leaf (.atom (.const (.bool false))), 0, []⟩), (151, .one ⟨.leaf (.atom (.var 0)), 1, []⟩)], lps := [], ords := [(16, [.pure 0, .pure 1, .quiet 2, .quiet 3, .quiet 4, .quiet 5, .quiet 6, .pure 7, .quiet 8, .quiet 9, .quiet 10, .quiet 11, .quiet 12, .last 13]), (18, [.quiet 0, .quiet 1, .quiet 2, .pure 3, .quiet 4, .quiet 5, .quiet 6, .quiet 7])], keep := [0, 1, 2, 3, 4, 5, 6, 7, 8, 9, 10, 11, 12, 13, 14, 15, 16, 17, 18, 19, 20, 21, 22, 23, 24, 25, 26, 27, 28, 29, 30, 31, 32, 33, 34, 35, 36, 37, 38, 39, 40, 41, 42, 43, 44, 45, 46, 47, 48, 49, 50, 51, 52, 53, 54, 55, 56, 57, 58, 59, 60, 61, 62, 63, 64, 65, 66, 67, 68, 69, 70, 71, 72, 73, 74, 75, 76, 77, 78, 79, 80, 81, 82, 83, 84, 85, 86, 87, 88, 89, 90, 91, 92, 93, 94, 95, 96, 97, 98, 99, 100, 101, 102, 103, 104, 105, 106, 107, 108, 109, 110, 111, 112, 113, 114, 115, 116, 117, 118, 119, 120, 121, 122, 123, 124, 125, 126, 127, 128, 129, 130, 131, 132, 133, 134, 135, 136, 137, 138, 139, 140, 141, 142, 143, 144, 145, 146, 147, 148, 149, 150, 151, 152, 153, 154, 155, 156, 157, 158, 159, 160, 161, 162, 163, 164, 165, 166, 167, 168, 169, 170, 171, 172, 173, 174, 175, 176, 177, 178, 179, 180, 181, 182, 183, 184, 185, 186, 187, 188, 189, 190, 191, 192, 193, 194, 195, 196, 197, 198, 199] }
def t_lsame : Tree :=
  .new <|
  .new <|
  .callr 19 [.agg [.whole 0 56]] ([], []) (.leaf (.atom (.var 2))) 2 ⟨2, 3, 5, 1⟩ <|
  .call 10 [.agg [.whole 1 56]] ([], []) (.tup [.agg [.whole 4 8], .atom (.const (.bool true))]) 1 [] <|
  .new <|
  .boundc 0 2 <|
  .app none [.rest 3] 1 <|
  .new <|
  .app (some 6) [.one (.const (.int .u8 0)), .one (.const (.int .u8 0)), .one (.const (.int .u8 0)), .one (.const (.int .u8 0))] 1 <|
  .call 16 [.atom (.var 2), .agg [.whole 4 8]] ([([.whole 0 56], 23), ([.whole 1 56], 23), ([.whole 4 8], 29), ([.one (.const (.int .u8 0)), .one (.const (.int .u8 0)), .one (.const (.int .u8 0)), .one (.const (.int .u8 0))], 5)], [⟨2, 3, 5, 1⟩, ⟨7, 8, 5, 1⟩]) (.tup [.agg [.whole 9 8], .atom (.var 10)]) 2 [] <|
  .new <|
  .call 16 [.atom (.var 7), .agg [.whole 4 8]] ([([.whole 0 56], 23), ([.whole 1 56], 23), ([.whole 4 8], 29), ([.one (.const (.int .u8 0)), .one (.const (.int .u8 0)), .one (.const (.int .u8 0)), .one (.const (.int .u8 0))], 5), ([.whole 9 8], 29)], [⟨2, 3, 5, 1⟩, ⟨7, 8, 5, 1⟩]) (.tup [.agg [.whole 11 8], .atom (.var 12)]) 2 [] <|
  .new <|
  .callr 19 [.agg [.whole 1 56]] ([], []) (.leaf (.atom (.var 13))) 2 ⟨13, 14, 5, 1⟩ <|
  .call 20 [.agg [.whole 4 8]] ([], []) (.leaf (.atom (.var 15))) 1 [] <|
  .callr 21 [.atom (.var 2), .atom (.var 13)] ([([.whole 0 56], 23), ([.whole 1 56], 23), ([.whole 4 8], 29), ([.one (.const (.int .u8 0)), .one (.const (.int .u8 0)), .one (.const (.int .u8 0)), .one (.const (.int .u8 0))], 5), ([.whole 9 8], 29), ([.whole 11 8], 29)], [⟨2, 3, 5, 1⟩, ⟨7, 8, 5, 1⟩, ⟨13, 14, 5, 1⟩]) (.tup [.atom (.var 16), .atom (.var 18)]) 3 ⟨16, 17, 5, 1⟩ <|
  .callr 21 [.atom (.var 2), .atom (.var 15)] ([([.whole 0 56], 23), ([.whole 1 56], 23), ([.whole 4 8], 29), ([.one (.const (.int .u8 0)), .one (.const (.int .u8 0)), .one (.const (.int .u8 0)), .one (.const (.int .u8 0))], 5), ([.whole 9 8], 29), ([.whole 11 8], 29)], [⟨2, 3, 5, 1⟩, ⟨7, 8, 5, 1⟩, ⟨13, 14, 5, 1⟩, ⟨16, 17, 5, 1⟩]) (.tup [.atom (.var 19), .atom (.var 21)]) 3 ⟨19, 20, 5, 1⟩ <|
  .calc2 (.binOp .neq 45 (.tmp 64) (.const (.int .i64 0)) 45) 4 [(64, .leaf (.atom (.var 10)))] ([], []) (.leaf (.atom (.const (.bool true)))) 0 (
    .ret ([], []) (.leaf (.atom (.const (.bool false))))) (.leaf (.atom (.const (.bool false)))) 0 <|
  .calc2 (.binOp .neq 45 (.tmp 67) (.const (.int .i64 0)) 45) 4 [(67, .leaf (.atom (.var 12)))] ([], []) (.leaf (.atom (.const (.bool true)))) 0 (
    .ret ([], []) (.leaf (.atom (.const (.bool false))))) (.leaf (.atom (.const (.bool false)))) 0 <|
  .call2 22 [.agg [.whole 9 8], .agg [.whole 11 8]] ([], []) (.leaf (.atom (.const (.bool true)))) 0 [] (
    .calc2 (.binOp .neq 45 (.tmp 77) (.tmp 78) 45) 4 [(77, .leaf (.atom (.var 18))), (78, .leaf (.atom (.var 21)))] ([], []) (.leaf (.atom (.const (.bool true)))) 0 (
      .ret ([], []) (.leaf (.atom (.const (.bool false))))) (.leaf (.atom (.const (.bool false)))) 0 <|
    .call2 23 [.atom (.var 16), .atom (.var 19)] ([([.whole 0 56], 23), ([.whole 1 56], 23), ([.whole 4 8], 29), ([.one (.const (.int .u8 0)), .one (.const (.int .u8 0)), .one (.const (.int .u8 0)), .one (.const (.int .u8 0))], 5), ([.whole 9 8], 29), ([.whole 11 8], 29)], [⟨2, 3, 5, 1⟩, ⟨7, 8, 5, 1⟩, ⟨13, 14, 5, 1⟩, ⟨16, 17, 5, 1⟩, ⟨19, 20, 5, 1⟩]) (.leaf (.atom (.const (.bool true)))) 0 [] (
      .callr 19 [.agg [.whole 0 56]] ([], []) (.leaf (.atom (.var 22))) 2 ⟨22, 23, 5, 1⟩ <|
      .call2 23 [.atom (.var 2), .atom (.var 22)] ([([.whole 0 56], 23), ([.whole 1 56], 23), ([.whole 4 8], 29), ([.one (.const (.int .u8 0)), .one (.const (.int .u8 0)), .one (.const (.int .u8 0)), .one (.const (.int .u8 0))], 5), ([.whole 9 8], 29), ([.whole 11 8], 29)], [⟨2, 3, 5, 1⟩, ⟨7, 8, 5, 1⟩, ⟨13, 14, 5, 1⟩, ⟨16, 17, 5, 1⟩, ⟨19, 20, 5, 1⟩, ⟨22, 23, 5, 1⟩]) (.leaf (.atom (.const (.bool true)))) 0 [] (
        .callr 19 [.agg [.whole 1 56]] ([], []) (.leaf (.atom (.var 24))) 2 ⟨24, 25, 5, 1⟩ <|
        .call2 23 [.atom (.var 13), .atom (.var 24)] ([([.whole 0 56], 23), ([.whole 1 56], 23), ([.whole 4 8], 29), ([.one (.const (.int .u8 0)), .one (.const (.int .u8 0)), .one (.const (.int .u8 0)), .one (.const (.int .u8 0))], 5), ([.whole 9 8], 29), ([.whole 11 8], 29)], [⟨2, 3, 5, 1⟩, ⟨7, 8, 5, 1⟩, ⟨13, 14, 5, 1⟩, ⟨16, 17, 5, 1⟩, ⟨19, 20, 5, 1⟩, ⟨22, 23, 5, 1⟩, ⟨24, 25, 5, 1⟩]) (.leaf (.atom (.const (.bool true)))) 0 [] (
          .boundc 0 2 <|
          .ldi [.rest 3] 0 2 0 1 false <|
          .calc (.binOp .quo 5 (.tmp 104) (.const (.int .u8 4)) 5) 5 [(104, .leaf (.atom (.var 26)))] ([], []) (.leaf (.atom (.var 27))) 1 <|
          .calc (.binOp .mul 5 (.tmp 105) (.const (.int .u8 4)) 5) 5 [(105, .leaf (.atom (.var 27)))] ([], []) (.leaf (.atom (.var 28))) 1 <|
          .calc (.binOp .add 5 (.tmp 106) (.const (.int .u8 3)) 5) 5 [(106, .leaf (.atom (.var 28)))] ([], []) (.leaf (.atom (.var 29))) 1 <|
          .boundc 0 2 <|
          .ldi [.rest 3] 0 2 0 1 false <|
          .calc (.binOp .rem 5 (.tmp 110) (.const (.int .u8 4)) 5) 5 [(110, .leaf (.atom (.var 30)))] ([], []) (.leaf (.atom (.var 31))) 1 <|
          .calc (.binOp .sub 5 (.tmp 107) (.tmp 111) 5) 5 [(107, .leaf (.atom (.var 29))), (111, .leaf (.atom (.var 31)))] ([], []) (.leaf (.atom (.var 32))) 1 <|
          .boundc 0 2 <|
          .sti [.rest 3] 0 2 0 1 [.one (.var 32)] <|
          .boundc 55 2 <|
          .ldi [.rest 33] 55 2 0 1 false <|
          .calc (.binOp .add 5 (.tmp 117) (.const (.int .u8 128)) 5) 5 [(117, .leaf (.atom (.var 34)))] ([], []) (.leaf (.atom (.var 35))) 1 <|
          .calc (.binOp .rem 5 (.tmp 118) (.const (.int .u8 255)) 5) 5 [(118, .leaf (.atom (.var 35)))] ([], []) (.leaf (.atom (.var 36))) 1 <|
          .boundc 55 2 <|
          .sti [.rest 33] 55 2 0 1 [.one (.var 36)] <|
          .calc (.binOp .rem 5 (.tmp 122) (.const (.int .u8 128)) 5) 5 [(122, .leaf (.atom (.cell 0 55)))] ([], []) (.leaf (.atom (.var 38))) 1 <|
          .boundc 55 2 <|
          .ldi [.rest 37] 55 2 0 1 false <|
          .calc (.binOp .rem 5 (.tmp 126) (.const (.int .u8 128)) 5) 5 [(126, .leaf (.atom (.var 39)))] ([], []) (.leaf (.atom (.var 40))) 1 <|
          .calc2 (.binOp .neq 5 (.tmp 123) (.tmp 127) 5) 4 [(123, .leaf (.atom (.var 38))), (127, .leaf (.atom (.var 40)))] ([], []) (.leaf (.atom (.const (.bool true)))) 0 (
            .calc (.binOp .rem 5 (.tmp 131) (.const (.int .u8 128)) 5) 5 [(131, .leaf (.atom (.cell 0 55)))] ([], []) (.leaf (.atom (.var 41))) 1 <|
            .calc (.binOp .add 5 (.tmp 132) (.const (.int .u8 128)) 5) 5 [(132, .leaf (.atom (.var 41)))] ([], []) (.leaf (.atom (.var 42))) 1 <|
            .boundc 55 2 <|
            .sti [.rest 37] 55 2 0 1 [.one (.var 42)] <|
            .callr 21 [.atom (.var 2), .atom (.var 13)] ([([.whole 0 56], 23), ([.whole 1 56], 23), ([.whole 4 8], 29), ([.one (.const (.int .u8 0)), .one (.const (.int .u8 0)), .one (.const (.int .u8 0)), .one (.const (.int .u8 0))], 5), ([.whole 9 8], 29), ([.whole 11 8], 29)], [⟨7, 8, 5, 1⟩, ⟨13, 14, 5, 1⟩, ⟨16, 17, 5, 1⟩, ⟨19, 20, 5, 1⟩, ⟨22, 23, 5, 1⟩, ⟨24, 25, 5, 1⟩, ⟨2, 43, 5, 1⟩]) (.tup [.atom (.var 44), .atom (.var 46)]) 3 ⟨44, 45, 5, 1⟩ <|
            .calc2 (.binOp .eql 45 (.tmp 141) (.tmp 142) 45) 4 [(141, .leaf (.atom (.var 46))), (142, .leaf (.atom (.var 18)))] ([], []) (.leaf (.atom (.const (.bool true)))) 0 (
              .call2 23 [.atom (.var 16), .atom (.var 44)] ([([.whole 0 56], 23), ([.whole 1 56], 23), ([.whole 4 8], 29), ([.one (.const (.int .u8 0)), .one (.const (.int .u8 0)), .one (.const (.int .u8 0)), .one (.const (.int .u8 0))], 5), ([.whole 9 8], 29), ([.whole 11 8], 29)], [⟨7, 8, 5, 1⟩, ⟨13, 14, 5, 1⟩, ⟨16, 17, 5, 1⟩, ⟨19, 20, 5, 1⟩, ⟨22, 23, 5, 1⟩, ⟨24, 25, 5, 1⟩, ⟨2, 43, 5, 1⟩, ⟨44, 45, 5, 1⟩]) (.leaf (.atom (.const (.bool true)))) 0 [] (
                .call2 15 [] ([], []) (.leaf (.atom (.const (.bool true)))) 0 [] (
                  .ret ([], []) (.leaf (.atom (.const (.bool true))))) (.leaf (.atom (.const (.bool false)))) 0 [] <|
                .ret ([], []) (.leaf (.atom (.const (.bool false))))) (.leaf (.atom (.const (.bool false)))) 0 [] <|
              .ret ([], []) (.leaf (.atom (.const (.bool false))))) (.leaf (.atom (.const (.bool false)))) 0 <|
            .ret ([], []) (.leaf (.atom (.const (.bool false))))) (.leaf (.atom (.const (.bool false)))) 0 <|
          .callr 21 [.atom (.var 2), .atom (.var 13)] ([([.whole 0 56], 23), ([.whole 1 56], 23), ([.whole 4 8], 29), ([.one (.const (.int .u8 0)), .one (.const (.int .u8 0)), .one (.const (.int .u8 0)), .one (.const (.int .u8 0))], 5), ([.whole 9 8], 29), ([.whole 11 8], 29)], [⟨7, 8, 5, 1⟩, ⟨13, 14, 5, 1⟩, ⟨16, 17, 5, 1⟩, ⟨19, 20, 5, 1⟩, ⟨22, 23, 5, 1⟩, ⟨24, 25, 5, 1⟩, ⟨2, 37, 5, 1⟩]) (.tup [.atom (.var 41), .atom (.var 43)]) 3 ⟨41, 42, 5, 1⟩ <|
          .calc2 (.binOp .eql 45 (.tmp 141) (.tmp 142) 45) 4 [(141, .leaf (.atom (.var 43))), (142, .leaf (.atom (.var 18)))] ([], []) (.leaf (.atom (.const (.bool true)))) 0 (
            .call2 23 [.atom (.var 16), .atom (.var 41)] ([([.whole 0 56], 23), ([.whole 1 56], 23), ([.whole 4 8], 29), ([.one (.const (.int .u8 0)), .one (.const (.int .u8 0)), .one (.const (.int .u8 0)), .one (.const (.int .u8 0))], 5), ([.whole 9 8], 29), ([.whole 11 8], 29)], [⟨7, 8, 5, 1⟩, ⟨13, 14, 5, 1⟩, ⟨16, 17, 5, 1⟩, ⟨19, 20, 5, 1⟩, ⟨22, 23, 5, 1⟩, ⟨24, 25, 5, 1⟩, ⟨2, 37, 5, 1⟩, ⟨41, 42, 5, 1⟩]) (.leaf (.atom (.const (.bool true)))) 0 [] (
              .call2 15 [] ([], []) (.leaf (.atom (.const (.bool true)))) 0 [] (
                .ret ([], []) (.leaf (.atom (.const (.bool true))))) (.leaf (.atom (.const (.bool false)))) 0 [] <|
              .ret ([], []) (.leaf (.atom (.const (.bool false))))) (.leaf (.atom (.const (.bool false)))) 0 [] <|
            .ret ([], []) (.leaf (.atom (.const (.bool false))))) (.leaf (.atom (.const (.bool false)))) 0 <|
          .ret ([], []) (.leaf (.atom (.const (.bool false))))) (.leaf (.atom (.const (.bool false)))) 0 [] <|
        .ret ([], []) (.leaf (.atom (.const (.bool false))))) (.leaf (.atom (.const (.bool false)))) 0 [] <|
      .ret ([], []) (.leaf (.atom (.const (.bool false))))) (.leaf (.atom (.const (.bool false)))) 0 [] <|
    .ret ([], []) (.leaf (.atom (.const (.bool false))))) (.leaf (.atom (.const (.bool false)))) 0 [] <|
  .ret ([], []) (.leaf (.atom (.const (.bool false))))
theorem c_lsame : compF Try.prog Try.f5 o_lsame (Try.f5.body.getD .skip) (symIn [.agg [.whole 0 56], .agg [.whole 1 56]] Try.f5.ntmps 2) = some t_lsame := by kernel_rfl
theorem g_lsame : goodC Try.prog o_lsame.ords (Try.f5.body.getD .skip) = true := by kernel_rfl
set_option maxRecDepth 100000 in
set_option maxHeartbeats 1000000 in
theorem aw_lsame (b1 : List Int) (lb1 : b1.length = 56) (yb1 : By b1) (b2 : List Int) (lb2 : b2.length = 56) (yb2 : By b2) : AWp Try.prog tjR (fun a => a = .bool true) t_lsame [] [.ints .u8 b1, .ints .u8 b2] := by
  have m1 := And.intro lb1 yb1
  have m2 := And.intro lb2 yb2
  have e1 : ladU (z (bval b2)) (nval b1) = ladU (z (bval b2)) (nval (b1 ++ ([0] ++ ([0] ++ ([0] ++ [0]))))) := by rw [← nval_four b1 yb1]; rfl
  have e2 : xU b1 (byF (z (bval b2))) = xU b1 b2 := by rw [xU_eq, xU_eq, byF_z]
  have lf := byF_len (z (bval b2))
  have es : (AV.ints .u8 b1).size = 56 := lb1
  have es2 : (AV.ints .u8 (b1 ++ ([0] ++ ([0] ++ ([0] ++ [0]))))).size = 60 := by show (b1 ++ ([0] ++ ([0] ++ ([0] ++ [0])))).length = 60; rw [List.length_append, lb1]; rfl
  have l4 : (b1 ++ ([0] ++ ([0] ++ ([0] ++ [0])))).length = 60 := es2
  have y4 : By (b1 ++ ([0] ++ ([0] ++ ([0] ++ [0])))) := fun x hx => by
    rcases List.mem_append.1 hx with hx | hx
    · exact yb1 x hx
    · have hx' : x ∈ [0, 0, 0, 0] := hx
      simp only [List.mem_cons, List.not_mem_nil, or_false, or_self] at hx'; omega
  have q1 : By b1 ∧ b1.length ≤ 100000 := ⟨yb1, by omega⟩
  have q2 : By (b1 ++ ([0] ++ ([0] ++ ([0] ++ [0])))) ∧ (b1 ++ ([0] ++ ([0] ++ ([0] ++ [0])))).length ≤ 100000 := ⟨y4, by omega⟩
  have q3 : By b1 ∧ By b2 ∧ b1.length = 56 ∧ b2.length = 56 := ⟨yb1, yb2, lb1, lb2⟩
  have q4 : By b1 ∧ By (byF (z (bval b2))) ∧ b1.length = 56 ∧ (byF (z (bval b2))).length = 56 := ⟨yb1, byF_by _, lb1, lf⟩
  have q5 := xB_len (xU b1 b2)
  have q6 : b1.length ≤ 1000000 := by omega
  have q7 : b2.length ≤ 1000000 := by omega
  repeat ((conv => whnf) <;> first | with_reducible refine wI (by omega) ?_ | with_reducible refine wB (by omega) ?_ | with_reducible refine wR (by omega) ?_ | with_reducible refine wQ (by omega) ?_ | refine And.intro (Eq.refl true) ?_ | refine And.intro (Eq.refl (1 : Nat)) ?_ | with_reducible refine And.intro rfl ?_ | with_reducible rfl | with_reducible refine And.intro (by assumption) ?_ | with_reducible refine cTe (by assumption) ?_ | with_reducible refine cFe (by assumption) ?_ | with_reducible refine cN (cTe (by assumption) ?_) | with_reducible refine cN (cFe (by assumption) ?_) | with_reducible refine cTe rfl ?_ | with_reducible refine cEq (by assumption) ?_ | with_reducible refine cTt ?_ | with_reducible refine cNt ?_ | with_reducible refine cF (Eq.refl false) ?_ | with_reducible refine cN (cF (Eq.refl false) ?_) | with_reducible refine cTd (by omega) ?_ | with_reducible refine cFd (by omega) ?_ | with_reducible refine cN (cTd (by omega) ?_) | with_reducible refine cN (cFd (by omega) ?_) | with_reducible refine And.intro (fun hh : Option.isSome none = true => by cases hh) ?_ | with_reducible refine And.intro (by omega) ?_)
  have eE : xE (xU b1 b2) = xE (xU b1 (byF (z (bval b2)))) := by rw [e2]
  have eB : xB (xU b1 b2) = xB (xU b1 (byF (z (bval b2)))) := by rw [e2]
  have g0 := by_getD' yb1 (0 + Int.toNat 0 * 0)
  have y1 : By (b1.set (0 + Int.toNat 0 * 0) (b1.getD (0 + Int.toNat 0 * 0) 0 / 4 * 4 + 3 - b1.getD (0 + Int.toNat 0 * 0) 0 % 4)) := by_set yb1 _ (by omega)
  have l1 : (b1.set (0 + Int.toNat 0 * 0) (b1.getD (0 + Int.toNat 0 * 0) 0 / 4 * 4 + 3 - b1.getD (0 + Int.toNat 0 * 0) 0 % 4)).length = 56 := by rw [List.length_set]; exact lb1
  have g1 := by_getD' y1 (55 + Int.toNat 0 * 0)
  intro _
  repeat ((conv => whnf) <;> first | with_reducible refine wI (by omega) ?_ | with_reducible refine wB (by omega) ?_ | with_reducible refine wR (by omega) ?_ | with_reducible refine wQ (by omega) ?_ | refine And.intro (Eq.refl true) ?_ | refine And.intro (Eq.refl (1 : Nat)) ?_ | with_reducible refine And.intro rfl ?_ | with_reducible rfl | with_reducible refine And.intro (by assumption) ?_ | with_reducible refine cTe (by assumption) ?_ | with_reducible refine cFe (by assumption) ?_ | with_reducible refine cN (cTe (by assumption) ?_) | with_reducible refine cN (cFe (by assumption) ?_) | with_reducible refine cTe rfl ?_ | with_reducible refine cEq (by assumption) ?_ | with_reducible refine cTt ?_ | with_reducible refine cNt ?_ | with_reducible refine cF (Eq.refl false) ?_ | with_reducible refine cN (cF (Eq.refl false) ?_) | with_reducible refine cTd (by omega) ?_ | with_reducible refine cFd (by omega) ?_ | with_reducible refine cN (cTd (by omega) ?_) | with_reducible refine cN (cFd (by omega) ?_) | with_reducible refine And.intro (fun hh : Option.isSome none = true => by cases hh) ?_ | with_reducible refine And.intro (by omega) ?_)
  intro _
  repeat ((conv => whnf) <;> first | with_reducible refine wI (by omega) ?_ | with_reducible refine wB (by omega) ?_ | with_reducible refine wR (by omega) ?_ | with_reducible refine wQ (by omega) ?_ | refine And.intro (Eq.refl true) ?_ | refine And.intro (Eq.refl (1 : Nat)) ?_ | with_reducible refine And.intro rfl ?_ | with_reducible rfl | with_reducible refine And.intro (by assumption) ?_ | with_reducible refine cTe (by assumption) ?_ | with_reducible refine cFe (by assumption) ?_ | with_reducible refine cN (cTe (by assumption) ?_) | with_reducible refine cN (cFe (by assumption) ?_) | with_reducible refine cTe rfl ?_ | with_reducible refine cEq (by assumption) ?_ | with_reducible refine cTt ?_ | with_reducible refine cNt ?_ | with_reducible refine cF (Eq.refl false) ?_ | with_reducible refine cN (cF (Eq.refl false) ?_) | with_reducible refine cTd (by omega) ?_ | with_reducible refine cFd (by omega) ?_ | with_reducible refine cN (cTd (by omega) ?_) | with_reducible refine cN (cFd (by omega) ?_) | with_reducible refine And.intro (fun hh : Option.isSome none = true => by cases hh) ?_ | with_reducible refine And.intro (by omega) ?_)
  intro r q hr h0 h1
  have y2 : By ((b1.set (0 + Int.toNat 0 * 0) (b1.getD (0 + Int.toNat 0 * 0) 0 / 4 * 4 + 3 - b1.getD (0 + Int.toNat 0 * 0) 0 % 4)).set (55 + Int.toNat 0 * 0) (r % 255)) := by_set y1 _ (by omega)
  have l2 : ((b1.set (0 + Int.toNat 0 * 0) (b1.getD (0 + Int.toNat 0 * 0) 0 / 4 * 4 + 3 - b1.getD (0 + Int.toNat 0 * 0) 0 % 4)).set (55 + Int.toNat 0 * 0) (r % 255)).length = 56 := by rw [List.length_set]; exact l1
  have g2 := by_getD' y2 (55 + Int.toNat 0 * 0)
  have g5 := by_getD' yb1 55
  by_cases hne : b1.getD 55 0 % 128 = ((b1.set (0 + Int.toNat 0 * 0) (b1.getD (0 + Int.toNat 0 * 0) 0 / 4 * 4 + 3 - b1.getD (0 + Int.toNat 0 * 0) 0 % 4)).set (55 + Int.toNat 0 * 0) (r % 255)).getD (55 + Int.toNat 0 * 0) 0 % 128
  · have ec : clampL ((b1.set (0 + Int.toNat 0 * 0) (b1.getD (0 + Int.toNat 0 * 0) 0 / 4 * 4 + 3 - b1.getD (0 + Int.toNat 0 * 0) 0 % 4)).set (55 + Int.toNat 0 * 0) (r % 255)) = clampL b1 := clampL_eq lb1 (x := (b1.getD (0 + Int.toNat 0 * 0) 0 / 4 * 4 + 3 - b1.getD (0 + Int.toNat 0 * 0) 0 % 4)) (y := r % 255) (show (b1.getD (0 + Int.toNat 0 * 0) 0 / 4 * 4 + 3 - b1.getD (0 + Int.toNat 0 * 0) 0 % 4) / 4 = b1.getD (0 + Int.toNat 0 * 0) 0 / 4 by omega) (by rw [hne]; congr 1; exact (getD_set_at l1 _).symm)
    have ex := xU_clamp (u := b2) ec
    have qk : By ((b1.set (0 + Int.toNat 0 * 0) (b1.getD (0 + Int.toNat 0 * 0) 0 / 4 * 4 + 3 - b1.getD (0 + Int.toNat 0 * 0) 0 % 4)).set (55 + Int.toNat 0 * 0) (r % 255)) ∧ By b2 ∧ ((b1.set (0 + Int.toNat 0 * 0) (b1.getD (0 + Int.toNat 0 * 0) 0 / 4 * 4 + 3 - b1.getD (0 + Int.toNat 0 * 0) 0 % 4)).set (55 + Int.toNat 0 * 0) (r % 255)).length = 56 ∧ b2.length = 56 := ⟨y2, yb2, l2, lb2⟩
    have fE : xE (xU ((b1.set (0 + Int.toNat 0 * 0) (b1.getD (0 + Int.toNat 0 * 0) 0 / 4 * 4 + 3 - b1.getD (0 + Int.toNat 0 * 0) 0 % 4)).set (55 + Int.toNat 0 * 0) (r % 255)) b2) = xE (xU b1 b2) := by rw [ex]
    have fB : xB (xU b1 b2) = xB (xU ((b1.set (0 + Int.toNat 0 * 0) (b1.getD (0 + Int.toNat 0 * 0) 0 / 4 * 4 + 3 - b1.getD (0 + Int.toNat 0 * 0) 0 % 4)).set (55 + Int.toNat 0 * 0) (r % 255)) b2) := by rw [ex]
    repeat ((conv => whnf) <;> first | with_reducible refine wI (by omega) ?_ | with_reducible refine wB (by omega) ?_ | with_reducible refine wR (by omega) ?_ | with_reducible refine wQ (by omega) ?_ | refine And.intro (Eq.refl true) ?_ | refine And.intro (Eq.refl (1 : Nat)) ?_ | with_reducible refine And.intro rfl ?_ | with_reducible rfl | with_reducible refine And.intro (by assumption) ?_ | with_reducible refine cTe (by assumption) ?_ | with_reducible refine cFe (by assumption) ?_ | with_reducible refine cN (cTe (by assumption) ?_) | with_reducible refine cN (cFe (by assumption) ?_) | with_reducible refine cTe rfl ?_ | with_reducible refine cEq (by assumption) ?_ | with_reducible refine cTt ?_ | with_reducible refine cNt ?_ | with_reducible refine cF (Eq.refl false) ?_ | with_reducible refine cN (cF (Eq.refl false) ?_) | with_reducible refine cTd (by omega) ?_ | with_reducible refine cFd (by omega) ?_ | with_reducible refine cN (cTd (by omega) ?_) | with_reducible refine cN (cFd (by omega) ?_) | with_reducible refine And.intro (fun hh : Option.isSome none = true => by cases hh) ?_ | with_reducible refine And.intro (by omega) ?_)
  · have y3 : By (((b1.set (0 + Int.toNat 0 * 0) (b1.getD (0 + Int.toNat 0 * 0) 0 / 4 * 4 + 3 - b1.getD (0 + Int.toNat 0 * 0) 0 % 4)).set (55 + Int.toNat 0 * 0) (r % 255)).set (55 + Int.toNat 0 * 0) (b1.getD 55 0 % 128 + 128)) := by_set y2 _ (by omega)
    have l3 : (((b1.set (0 + Int.toNat 0 * 0) (b1.getD (0 + Int.toNat 0 * 0) 0 / 4 * 4 + 3 - b1.getD (0 + Int.toNat 0 * 0) 0 % 4)).set (55 + Int.toNat 0 * 0) (r % 255)).set (55 + Int.toNat 0 * 0) (b1.getD 55 0 % 128 + 128)).length = 56 := by rw [List.length_set]; exact l2
    have ec : clampL (((b1.set (0 + Int.toNat 0 * 0) (b1.getD (0 + Int.toNat 0 * 0) 0 / 4 * 4 + 3 - b1.getD (0 + Int.toNat 0 * 0) 0 % 4)).set (55 + Int.toNat 0 * 0) (r % 255)).set (55 + Int.toNat 0 * 0) (b1.getD 55 0 % 128 + 128)) = clampL b1 := by rw [List.set_set]; exact clampL_eq lb1 (x := (b1.getD (0 + Int.toNat 0 * 0) 0 / 4 * 4 + 3 - b1.getD (0 + Int.toNat 0 * 0) 0 % 4)) (y := b1.getD 55 0 % 128 + 128) (show (b1.getD (0 + Int.toNat 0 * 0) 0 / 4 * 4 + 3 - b1.getD (0 + Int.toNat 0 * 0) 0 % 4) / 4 = b1.getD (0 + Int.toNat 0 * 0) 0 / 4 by omega) (by omega)
    have ex := xU_clamp (u := b2) ec
    have qk : By (((b1.set (0 + Int.toNat 0 * 0) (b1.getD (0 + Int.toNat 0 * 0) 0 / 4 * 4 + 3 - b1.getD (0 + Int.toNat 0 * 0) 0 % 4)).set (55 + Int.toNat 0 * 0) (r % 255)).set (55 + Int.toNat 0 * 0) (b1.getD 55 0 % 128 + 128)) ∧ By b2 ∧ (((b1.set (0 + Int.toNat 0 * 0) (b1.getD (0 + Int.toNat 0 * 0) 0 / 4 * 4 + 3 - b1.getD (0 + Int.toNat 0 * 0) 0 % 4)).set (55 + Int.toNat 0 * 0) (r % 255)).set (55 + Int.toNat 0 * 0) (b1.getD 55 0 % 128 + 128)).length = 56 ∧ b2.length = 56 := ⟨y3, yb2, l3, lb2⟩
    have fE : xE (xU (((b1.set (0 + Int.toNat 0 * 0) (b1.getD (0 + Int.toNat 0 * 0) 0 / 4 * 4 + 3 - b1.getD (0 + Int.toNat 0 * 0) 0 % 4)).set (55 + Int.toNat 0 * 0) (r % 255)).set (55 + Int.toNat 0 * 0) (b1.getD 55 0 % 128 + 128)) b2) = xE (xU b1 b2) := by rw [ex]
    have fB : xB (xU b1 b2) = xB (xU (((b1.set (0 + Int.toNat 0 * 0) (b1.getD (0 + Int.toNat 0 * 0) 0 / 4 * 4 + 3 - b1.getD (0 + Int.toNat 0 * 0) 0 % 4)).set (55 + Int.toNat 0 * 0) (r % 255)).set (55 + Int.toNat 0 * 0) (b1.getD 55 0 % 128 + 128)) b2) := by rw [ex]
    repeat ((conv => whnf) <;> first | with_reducible refine wI (by omega) ?_ | with_reducible refine wB (by omega) ?_ | with_reducible refine wR (by omega) ?_ | with_reducible refine wQ (by omega) ?_ | refine And.intro (Eq.refl true) ?_ | refine And.intro (Eq.refl (1 : Nat)) ?_ | with_reducible refine And.intro rfl ?_ | with_reducible rfl | with_reducible refine And.intro (by assumption) ?_ | with_reducible refine cTe (by assumption) ?_ | with_reducible refine cFe (by assumption) ?_ | with_reducible refine cN (cTe (by assumption) ?_) | with_reducible refine cN (cFe (by assumption) ?_) | with_reducible refine cTe rfl ?_ | with_reducible refine cEq (by assumption) ?_ | with_reducible refine cTt ?_ | with_reducible refine cNt ?_ | with_reducible refine cF (Eq.refl false) ?_ | with_reducible refine cN (cF (Eq.refl false) ?_) | with_reducible refine cTd (by omega) ?_ | with_reducible refine cFd (by omega) ?_ | with_reducible refine cN (cTd (by omega) ?_) | with_reducible refine cN (cFd (by omega) ?_) | with_reducible refine And.intro (fun hh : Option.isSome none = true => by cases hh) ?_ | with_reducible refine And.intro (by omega) ?_)
set_option maxRecDepth 100000 in
theorem lsame_any (b1 : List Int) (lb1 : b1.length = 56) (yb1 : By b1) (b2 : List Int) (lb2 : b2.length = 56) (yb2 : By b2) (w : World) : Calls Try.prog 5 #[AG (ys b1), AG (ys b2)] w (OutV (.bool true) w) :=
  law_tree tjR_ok o_lsame [.agg [.whole 0 56], .agg [.whole 1 56]] [AG (ys b1), AG (ys b2)] [.ints .u8 b1, .ints .u8 b2] Try.func5 rfl c_lsame rfl (by intro x hx; simp only [List.mem_cons, List.not_mem_nil, or_false] at hx; rcases hx with rfl | rfl <;> first | exact ok_arr rfl lb1 | exact ok_arr rfl lb2) ⟨_, _, rfl, arr_val b1, ⟨_, _, rfl, arr_val b2, rfl⟩⟩ g_lsame (aw_lsame b1 lb1 yb1 b2 lb2 yb2)
end Go.Proofs.Ytmbapbbneapcnaa
