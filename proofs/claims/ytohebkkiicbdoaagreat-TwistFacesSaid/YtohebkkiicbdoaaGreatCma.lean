/- Spots of chapters 11 to 13 -/
import Derived.Test.YtohebkkiicbdoaaGreatCdb
set_option linter.unusedSimpArgs false
set_option linter.unusedVariables false
namespace Go.Proofs.YtohebkkiicbdoaaGreat
open Go.RowKit FdP FdP.Ch
def SubF (a b : AV) : Prop := ∀ base β v, valF base β a v → valF base β b v
theorem SubF.refl' (a : AV) : SubF a a := fun _ _ _ h => h
theorem con_subF {P : Program} {fn : FuncId} {g g' : Trans} (hc : Con P fn g) (h : ∀ zs Q, g' zs Q → g zs (fun a => ∃ b, SubF a b ∧ Q b)) : Con P fn g' := fun w x vals zs Q hx hv hg =>
  (hc w x vals zs _ hx hv (h zs Q hg)).mono fun e w' ⟨v, a, e1, e2, ⟨b, hs, hq⟩, hF⟩ => ⟨v, b, e1, hs _ _ _ e2, hq, hF⟩
theorem subF_fpt {g : G} {x y : F} (hx : g.x = x) (hy : g.y = y) : SubF (.agg [.fg x, .fg y, .fg (z 1)]) (.ob (.fpt g)) := by
  subst hx hy
  intro base β v hv
  have hv' : valR0 β (.agg [.fg g.x, .fg g.y, .fg (z 1)]) v := hv
  exact (way_fpt.shuts (b := .agg [.fg g.x, .fg g.y, .fg (z 1)]) ⟨_, _, _, rfl, Rep.of g⟩ hv'.notup).2
theorem TGz_x : TG.x = z 1 ∧ TG.y = z 0 := by rw [z_one, z_zero]; exact ⟨rfl, rfl⟩
theorem T0_xy : (mulG 0 TG).x = z 0 ∧ (mulG 0 TG).y = z 1 := by rw [z_one, z_zero]; exact ⟨rfl, rfl⟩
theorem T1_xy : (mulG 1 TG).x = z 1 ∧ (mulG 1 TG).y = z 0 := by rw [mulG_one]; exact TGz_x
theorem T2_xy : (mulG 2 TG).x = z 0 ∧ (mulG 2 TG).y = -(z 1) := by
  rw [mulG_two]; obtain ⟨h1, h2⟩ := add_TG TG
  rw [h1, h2, TGz_x.1, TGz_x.2]; exact ⟨rfl, rfl⟩
theorem T3_xy : (mulG 3 TG).x = -(z 1) ∧ (mulG 3 TG).y = z 0 := by
  obtain ⟨h1, h2⟩ := add_TG (mulG 2 TG)
  have e : mulG 3 TG = mulG 2 TG + TG := rfl
  rw [e, h1, h2, T2_xy.1, T2_xy.2, z_zero]
  exact ⟨rfl, neg_zero'⟩
def tTor0 : Trans := fun zs Q => match zs with
  | [.int .i64 n] => (n = 0 → Q (.agg [.fg (z 0), .fg (z 1), .fg (z 1)])) ∧ (n = 1 → Q (.agg [.fg (z 1), .fg (z 0), .fg (z 1)])) ∧ (n = 2 → Q (.agg [.fg (z 0), .fg (-(z 1)), .fg (z 1)])) ∧ (n = 3 → Q (.agg [.fg (-(z 1)), .fg (z 0), .fg (z 1)])) ∧ 0 ≤ n ∧ n ≤ 3
  | _ => False
def tTor : Trans := fun zs Q => match zs with
  | [.int .i64 n] => (0 ≤ n ∧ n ≤ 3) ∧ Q (.ob (.fpt (mulG n.toNat TG)))
  | _ => False
theorem sg_ex : ∃ f : List Int → Int → G, ∀ l n, f l n = mulG (nval l) BG + mulG n.toNat TG := ⟨_, fun _ _ => rfl⟩
noncomputable def sgG : List Int → Int → G := sg_ex.choose
theorem sgG_eq (l : List Int) (n : Int) : sgG l n = mulG (nval l) BG + mulG n.toNat TG := sg_ex.choose_spec l n
def tMade11 : Trans := fun zs Q => match zs with
  | [.agg [.isl .u8 l, .int .i64 n]] => By l ∧ (¬ (l.length ≤ 57 ∧ 0 ≤ n ∧ n ≤ 3) → Q (.tup [.ob (.pt 0), .ob (.fpt 0), .bool false])) ∧ (l.length ≤ 57 → 0 ≤ n → n ≤ 3 → Q (.tup [.ob (.pt (sgG l n)), .ob (.fpt (sgG l n)), .bool true]))
  | _ => False
def tcA : Tab := tb_rint :: tb_rneg :: []
theorem tcA_ok : tcA.OK Tryz.prog := tab_cons tb_rint_ok <| tab_cons tb_rneg_ok <| tab_nil _
def o_tor0 : Orc := { ans := [(5, oA 16), (6, oA 16), (9, oB), (10, oA 16), (11, oA 16), (12, oA 16), (15, oB), (16, oA 16), (17, oA 16), (18, oA 16), (19, oA 16), (22, oB), (23, oA 16), (24, oA 16), (25, oA 16), (26, oA 16), (28, oA 16), (29, oA 16), (30, oA 16)], lps := [], ords := [(7, [.quiet 0, .quiet 1, .quiet 3, .call 2 [], .pure 4, .last 5]), (9, [.quiet 0, .quiet 2, .quiet 3, .call 1 [], .pure 4, .last 5])] }
def t_tor0 : Tree :=
 .new <|
 .call 31 [.atom (.const (.int .i64 1))] ([], []) (.leaf (.agg [.whole 1 16])) 1 [] <|
 .new <|
 .call 31 [.atom (.const (.int .i64 0))] ([], []) (.leaf (.agg [.whole 2 16])) 1 [] <|
 .new <|
 .calc2 (.binOp .eql 3 (.tmp 7) (.const (.int .i64 1)) 3) 4 [(7, qv 0)] ([], []) qT 0 (
 .ret ([], []) (.leaf (.agg [.whole 1 16, .whole 2 16, .whole 1 16]))) qF 0 <|
 .calc2 (.binOp .eql 3 (.tmp 7) (.const (.int .i64 2)) 3) 4 [(7, qv 0)] ([], []) qT 0 (
 .call 32 [.agg [.whole 1 16]] ([], []) (.leaf (.agg [.whole 3 16])) 1 [] <|
 .ret ([], []) (.leaf (.agg [.whole 2 16, .whole 3 16, .whole 1 16]))) qF 0 <|
 .calc2 (.binOp .eql 3 (.tmp 7) (.const (.int .i64 3)) 3) 4 [(7, qv 0)] ([], []) qT 0 (
 .call 32 [.agg [.whole 1 16]] ([], []) (.leaf (.agg [.whole 3 16])) 1 [] <|
 .ret ([], []) (.leaf (.agg [.whole 3 16, .whole 2 16, .whole 1 16]))) qF 0 <|
 .ret ([], []) (.leaf (.agg [.whole 2 16, .whole 1 16, .whole 1 16]))
theorem c_tor0 : compF Tryz.prog Tryz.f11 o_tor0 (Tryz.f11.body.getD .skip) (symIn [.atom (.var 0)] Tryz.f11.ntmps 1) = some t_tor0 := by kernel_rfl
theorem g_tor0 : goodC Tryz.prog o_tor0.ords (Tryz.f11.body.getD .skip) = true := by kernel_rfl
def tb_tor0 : FuncId × Trans := (11, tTor0)
set_option maxRecDepth 100000 in
theorem aw_tor0 : ∀ zs Q, tb_tor0.2 zs Q → bindLs 0 [.atom (.var 0)] zs fun ae => bif Nat.beq ae.length 1 then AWp Tryz.prog tcA Q t_tor0 [] ae else False := by
  intro zs Q h
  replace h : tTor0 zs Q := h
  unfold tTor0 at h
  split at h
  case h_2 => exact h.elim
  rename_i n
  obtain ⟨h0, h1, h2, h3, hn⟩ := h
  have i1 : I64 1 := by unfold I64; omega
  have i0 : I64 0 := by unfold I64; omega
  rcases (by omega : n = 0 ∨ n = 1 ∨ n = 2 ∨ n = 3) with rfl | rfl | rfl | rfl
  · have h := h0 rfl
    repeat ((conv => whnf) <;> first | exact rfl | refine wI (by omega) ?_ | with_reducible refine And.intro rfl ?_ | with_reducible refine And.intro (by assumption) ?_ | with_reducible refine cTe (by assumption) ?_ | with_reducible refine cFe (by assumption) ?_ | with_reducible refine cN (cTe (by assumption) ?_) | with_reducible refine cN (cFe (by assumption) ?_) | with_reducible refine cTe rfl ?_ | with_reducible refine cEq (by assumption) ?_ | with_reducible refine cTt ?_ | with_reducible refine cNt ?_ | with_reducible refine cF (Eq.refl false) ?_ | refine And.intro (Eq.refl true) ?_ | refine And.intro (by omega) ?_ | refine cTd (by omega) ?_ | refine cFd (by omega) ?_ | refine cN (cTd (by omega) ?_) | refine cN (cFd (by omega) ?_) | refine And.intro (by simp only [AV.size, Nat.div_one, List.length_append, List.length_singleton]; omega) ?_)
    (conv => whnf)
    exact h
  · have h := h1 rfl
    repeat ((conv => whnf) <;> first | exact rfl | refine wI (by omega) ?_ | with_reducible refine And.intro rfl ?_ | with_reducible refine And.intro (by assumption) ?_ | with_reducible refine cTe (by assumption) ?_ | with_reducible refine cFe (by assumption) ?_ | with_reducible refine cN (cTe (by assumption) ?_) | with_reducible refine cN (cFe (by assumption) ?_) | with_reducible refine cTe rfl ?_ | with_reducible refine cEq (by assumption) ?_ | with_reducible refine cTt ?_ | with_reducible refine cNt ?_ | with_reducible refine cF (Eq.refl false) ?_ | refine And.intro (Eq.refl true) ?_ | refine And.intro (by omega) ?_ | refine cTd (by omega) ?_ | refine cFd (by omega) ?_ | refine cN (cTd (by omega) ?_) | refine cN (cFd (by omega) ?_) | refine And.intro (by simp only [AV.size, Nat.div_one, List.length_append, List.length_singleton]; omega) ?_)
    (conv => whnf)
    exact h
  · have h := h2 rfl
    repeat ((conv => whnf) <;> first | exact rfl | refine wI (by omega) ?_ | with_reducible refine And.intro rfl ?_ | with_reducible refine And.intro (by assumption) ?_ | with_reducible refine cTe (by assumption) ?_ | with_reducible refine cFe (by assumption) ?_ | with_reducible refine cN (cTe (by assumption) ?_) | with_reducible refine cN (cFe (by assumption) ?_) | with_reducible refine cTe rfl ?_ | with_reducible refine cEq (by assumption) ?_ | with_reducible refine cTt ?_ | with_reducible refine cNt ?_ | with_reducible refine cF (Eq.refl false) ?_ | refine And.intro (Eq.refl true) ?_ | refine And.intro (by omega) ?_ | refine cTd (by omega) ?_ | refine cFd (by omega) ?_ | refine cN (cTd (by omega) ?_) | refine cN (cFd (by omega) ?_) | refine And.intro (by simp only [AV.size, Nat.div_one, List.length_append, List.length_singleton]; omega) ?_)
    (conv => whnf)
    exact h
  · have h := h3 rfl
    repeat ((conv => whnf) <;> first | exact rfl | refine wI (by omega) ?_ | with_reducible refine And.intro rfl ?_ | with_reducible refine And.intro (by assumption) ?_ | with_reducible refine cTe (by assumption) ?_ | with_reducible refine cFe (by assumption) ?_ | with_reducible refine cN (cTe (by assumption) ?_) | with_reducible refine cN (cFe (by assumption) ?_) | with_reducible refine cTe rfl ?_ | with_reducible refine cEq (by assumption) ?_ | with_reducible refine cTt ?_ | with_reducible refine cNt ?_ | with_reducible refine cF (Eq.refl false) ?_ | refine And.intro (Eq.refl true) ?_ | refine And.intro (by omega) ?_ | refine cTd (by omega) ?_ | refine cFd (by omega) ?_ | refine cN (cTd (by omega) ?_) | refine cN (cFd (by omega) ?_) | refine And.intro (by simp only [AV.size, Nat.div_one, List.length_append, List.length_singleton]; omega) ?_)
    (conv => whnf)
    exact h
theorem tb_tor0_ok : Con Tryz.prog tb_tor0.1 tb_tor0.2 := con_tree tcA_ok o_tor0 [.atom (.var 0)] 1 Tryz.func11 rfl c_tor0 aw_tor0 g_tor0
def tb_tor : FuncId × Trans := (tb_tor0.1, tTor)
theorem tb_tor_ok : Con Tryz.prog tb_tor.1 tb_tor.2 := con_subF tb_tor0_ok (by
  intro zs Q h
  replace h : tTor zs Q := h
  unfold tTor at h
  split at h
  case h_2 => exact h.elim
  rename_i n
  obtain ⟨hn, h⟩ := h
  refine ⟨fun e => ?_, fun e => ?_, fun e => ?_, fun e => ?_, hn⟩
  · subst e; exact ⟨_, subF_fpt T0_xy.1 T0_xy.2, h⟩
  · subst e; exact ⟨_, subF_fpt T1_xy.1 T1_xy.2, h⟩
  · subst e; exact ⟨_, subF_fpt T2_xy.1 T2_xy.2, h⟩
  · subst e; exact ⟨_, subF_fpt T3_xy.1 T3_xy.2, h⟩)
def tcB : Tab := tb_pid :: tb_rpid :: tb_rpbase :: tb_rptimes :: tb_tor :: tb_rpadd :: tb_renc :: tb_decP :: []
theorem tcB_ok : tcB.OK Tryz.prog := tab_cons tb_pid_ok <| tab_cons tb_rpid_ok <| tab_cons tb_rpbase_ok <| tab_cons tb_rptimes_ok <| tab_cons tb_tor_ok <| tab_cons tb_rpadd_ok <| tab_cons tb_renc_ok <| tab_cons tb_decP_ok <| tab_nil _
def o_made11 : Orc := { ans := [(8, oV), (9, oV), (10, oV), (11, oB), (13, oV), (14, oV), (15, oB), (16, oV), (18, oV), (19, oV), (20, oB), (21, oV), (22, oA 24), (23, oA 48), (24, oV), (25, oV), (26, oA 48), (27, oA 48), (28, oV), (29, oV), (30, oA 48), (31, oA 48), (33, oA 48), (34, oV), (35, .one ⟨.tup [.agg [.whole 0 24], .atom (.var 1)], 2, []⟩), (38, oA 24), (39, oA 48), (41, oB)], lps := [], ords := [(3, [.quiet 0, .quiet 1, .quiet 4, .quiet 5, .call 2 [8], .call 3 [8], .call 6 [8], .call 7 [8], .make 8 [], .last 9])], alls := [5] }
def t_made11 : Tree :=
 .new <|
 .new <|
 .new <|
 .calc (.call { callee := .builtin .len, args := #[.tmp 9], argTypes := #[22] }) 3 [(9, qv 0)] ([], []) (qv 2) 1 <|
 .calc2 (.binOp .gtr 3 (.tmp 10) (.const (.int .i64 57)) 3) 4 [(10, qv 2)] ([], []) qT 0 (
 .call 16 [] ([], []) (.leaf (.agg [.whole 3 24])) 1 [] <|
 .call 36 [] ([], []) (.leaf (.agg [.whole 4 48])) 1 [] <|
 .ret ([], []) (.tup [.agg [.whole 3 24], .agg [.whole 4 48], .atom (.const (.bool false))])) qF 0 <|
 .calc2 (.binOp .lss 3 (.tmp 14) (.const (.int .i64 0)) 3) 4 [(14, qv 1)] ([], []) qT 0 (
 .call 16 [] ([], []) (.leaf (.agg [.whole 3 24])) 1 [] <|
 .call 36 [] ([], []) (.leaf (.agg [.whole 4 48])) 1 [] <|
 .ret ([], []) (.tup [.agg [.whole 3 24], .agg [.whole 4 48], .atom (.const (.bool false))])) qF 0 <|
 .calc2 (.binOp .gtr 3 (.tmp 19) (.const (.int .i64 3)) 3) 4 [(19, qv 1)] ([], []) qT 0 (
 .call 16 [] ([], []) (.leaf (.agg [.whole 3 24])) 1 [] <|
 .call 36 [] ([], []) (.leaf (.agg [.whole 4 48])) 1 [] <|
 .ret ([], []) (.tup [.agg [.whole 3 24], .agg [.whole 4 48], .atom (.const (.bool false))])) qF 0 <|
 .call 39 [] ([], []) (.leaf (.agg [.whole 3 48])) 1 [] <|
 .call 38 [.atom (.var 0), .agg [.whole 3 48]] ([], []) (.leaf (.agg [.whole 4 48])) 1 [] <|
 .call 11 [.atom (.var 1)] ([], []) (.leaf (.agg [.whole 5 48])) 1 [] <|
 .call 37 [.agg [.whole 4 48], .agg [.whole 5 48]] ([], []) (.leaf (.agg [.whole 6 48])) 1 [] <|
 .new <|
 .call 41 [.agg [.whole 6 48]] ([], []) (qv 7) 1 [] <|
 .call 40 [.atom (.var 7)] ([], []) (.tup [.agg [.whole 8 24], .atom (.var 9)]) 2 [] <|
 .new <|
 .both (
 .both (
 .both (
 .both (
 .calc2 (.binOp .eql 43 (.tmp 40) (.const (.int .i64 0)) 43) 4 [(40, qv 9)] ([], []) qT 0 (
 .ret ([], []) (.tup [.agg [.whole 8 24], .agg [.whole 6 48], .atom (.const (.bool true))])) qF 0 <|
 .ret ([], []) (.tup [.agg [.whole 8 24], .agg [.whole 6 48], .atom (.const (.bool false))])) <|
 .both (
 .calc2 (.binOp .eql 43 (.tmp 40) (.const (.int .i64 0)) 43) 4 [(40, qv 9)] ([], []) qT 0 (
 .ret ([], []) (.tup [.agg [.whole 8 24], .agg [.whole 6 48], .atom (.const (.bool true))])) qF 0 <|
 .ret ([], []) (.tup [.agg [.whole 8 24], .agg [.whole 6 48], .atom (.const (.bool false))])) <|
 .calc2 (.binOp .eql 43 (.tmp 40) (.const (.int .i64 0)) 43) 4 [(40, qv 9)] ([], []) qT 0 (
 .ret ([], []) (.tup [.agg [.whole 8 24], .agg [.whole 6 48], .atom (.const (.bool true))])) qF 0 <|
 .ret ([], []) (.tup [.agg [.whole 8 24], .agg [.whole 6 48], .atom (.const (.bool false))])) <|
 .both (
 .both (
 .calc2 (.binOp .eql 43 (.tmp 40) (.const (.int .i64 0)) 43) 4 [(40, qv 9)] ([], []) qT 0 (
 .ret ([], []) (.tup [.agg [.whole 8 24], .agg [.whole 6 48], .atom (.const (.bool true))])) qF 0 <|
 .ret ([], []) (.tup [.agg [.whole 8 24], .agg [.whole 6 48], .atom (.const (.bool false))])) <|
 .calc2 (.binOp .eql 43 (.tmp 40) (.const (.int .i64 0)) 43) 4 [(40, qv 9)] ([], []) qT 0 (
 .ret ([], []) (.tup [.agg [.whole 8 24], .agg [.whole 6 48], .atom (.const (.bool true))])) qF 0 <|
 .ret ([], []) (.tup [.agg [.whole 8 24], .agg [.whole 6 48], .atom (.const (.bool false))])) <|
 .calc2 (.binOp .eql 43 (.tmp 40) (.const (.int .i64 0)) 43) 4 [(40, qv 9)] ([], []) qT 0 (
 .ret ([], []) (.tup [.agg [.whole 8 24], .agg [.whole 6 48], .atom (.const (.bool true))])) qF 0 <|
 .ret ([], []) (.tup [.agg [.whole 8 24], .agg [.whole 6 48], .atom (.const (.bool false))])) <|
 .both (
 .both (
 .both (
 .calc2 (.binOp .eql 43 (.tmp 40) (.const (.int .i64 0)) 43) 4 [(40, qv 9)] ([], []) qT 0 (
 .ret ([], []) (.tup [.agg [.whole 8 24], .agg [.whole 6 48], .atom (.const (.bool true))])) qF 0 <|
 .ret ([], []) (.tup [.agg [.whole 8 24], .agg [.whole 6 48], .atom (.const (.bool false))])) <|
 .both (
 .calc2 (.binOp .eql 43 (.tmp 40) (.const (.int .i64 0)) 43) 4 [(40, qv 9)] ([], []) qT 0 (
 .ret ([], []) (.tup [.agg [.whole 8 24], .agg [.whole 6 48], .atom (.const (.bool true))])) qF 0 <|
 .ret ([], []) (.tup [.agg [.whole 8 24], .agg [.whole 6 48], .atom (.const (.bool false))])) <|
 .calc2 (.binOp .eql 43 (.tmp 40) (.const (.int .i64 0)) 43) 4 [(40, qv 9)] ([], []) qT 0 (
 .ret ([], []) (.tup [.agg [.whole 8 24], .agg [.whole 6 48], .atom (.const (.bool true))])) qF 0 <|
 .ret ([], []) (.tup [.agg [.whole 8 24], .agg [.whole 6 48], .atom (.const (.bool false))])) <|
 .both (
 .calc2 (.binOp .eql 43 (.tmp 40) (.const (.int .i64 0)) 43) 4 [(40, qv 9)] ([], []) qT 0 (
 .both (
 .ret ([], []) (.tup [.agg [.whole 8 24], .agg [.whole 6 48], .atom (.const (.bool true))])) <|
 .ret ([], []) (.tup [.agg [.whole 8 24], .agg [.whole 6 48], .atom (.const (.bool true))])) qF 0 <|
 .both (
 .ret ([], []) (.tup [.agg [.whole 8 24], .agg [.whole 6 48], .atom (.const (.bool false))])) <|
 .ret ([], []) (.tup [.agg [.whole 8 24], .agg [.whole 6 48], .atom (.const (.bool false))])) <|
 .both (
 .both (
 .calc2 (.binOp .eql 43 (.tmp 40) (.const (.int .i64 0)) 43) 4 [(40, qv 9)] ([], []) qT 0 (
 .ret ([], []) (.tup [.agg [.whole 8 24], .agg [.whole 6 48], .atom (.const (.bool true))])) qF 0 <|
 .ret ([], []) (.tup [.agg [.whole 8 24], .agg [.whole 6 48], .atom (.const (.bool false))])) <|
 .calc2 (.binOp .eql 43 (.tmp 40) (.const (.int .i64 0)) 43) 4 [(40, qv 9)] ([], []) qT 0 (
 .ret ([], []) (.tup [.agg [.whole 8 24], .agg [.whole 6 48], .atom (.const (.bool true))])) qF 0 <|
 .ret ([], []) (.tup [.agg [.whole 8 24], .agg [.whole 6 48], .atom (.const (.bool false))])) <|
 .calc2 (.binOp .eql 43 (.tmp 40) (.const (.int .i64 0)) 43) 4 [(40, qv 9)] ([], []) qT 0 (
 .ret ([], []) (.tup [.agg [.whole 8 24], .agg [.whole 6 48], .atom (.const (.bool true))])) qF 0 <|
 .ret ([], []) (.tup [.agg [.whole 8 24], .agg [.whole 6 48], .atom (.const (.bool false))])) <|
 .both (
 .both (
 .both (
 .calc2 (.binOp .eql 43 (.tmp 40) (.const (.int .i64 0)) 43) 4 [(40, qv 9)] ([], []) qT 0 (
 .ret ([], []) (.tup [.agg [.whole 8 24], .agg [.whole 6 48], .atom (.const (.bool true))])) qF 0 <|
 .ret ([], []) (.tup [.agg [.whole 8 24], .agg [.whole 6 48], .atom (.const (.bool false))])) <|
 .calc2 (.binOp .eql 43 (.tmp 40) (.const (.int .i64 0)) 43) 4 [(40, qv 9)] ([], []) qT 0 (
 .ret ([], []) (.tup [.agg [.whole 8 24], .agg [.whole 6 48], .atom (.const (.bool true))])) qF 0 <|
 .ret ([], []) (.tup [.agg [.whole 8 24], .agg [.whole 6 48], .atom (.const (.bool false))])) <|
 .calc2 (.binOp .eql 43 (.tmp 40) (.const (.int .i64 0)) 43) 4 [(40, qv 9)] ([], []) qT 0 (
 .ret ([], []) (.tup [.agg [.whole 8 24], .agg [.whole 6 48], .atom (.const (.bool true))])) qF 0 <|
 .ret ([], []) (.tup [.agg [.whole 8 24], .agg [.whole 6 48], .atom (.const (.bool false))])) <|
 .both (
 .both (
 .calc2 (.binOp .eql 43 (.tmp 40) (.const (.int .i64 0)) 43) 4 [(40, qv 9)] ([], []) qT 0 (
 .ret ([], []) (.tup [.agg [.whole 8 24], .agg [.whole 6 48], .atom (.const (.bool true))])) qF 0 <|
 .ret ([], []) (.tup [.agg [.whole 8 24], .agg [.whole 6 48], .atom (.const (.bool false))])) <|
 .calc2 (.binOp .eql 43 (.tmp 40) (.const (.int .i64 0)) 43) 4 [(40, qv 9)] ([], []) qT 0 (
 .ret ([], []) (.tup [.agg [.whole 8 24], .agg [.whole 6 48], .atom (.const (.bool true))])) qF 0 <|
 .ret ([], []) (.tup [.agg [.whole 8 24], .agg [.whole 6 48], .atom (.const (.bool false))])) <|
 .calc2 (.binOp .eql 43 (.tmp 40) (.const (.int .i64 0)) 43) 4 [(40, qv 9)] ([], []) qT 0 (
 .ret ([], []) (.tup [.agg [.whole 8 24], .agg [.whole 6 48], .atom (.const (.bool true))])) qF 0 <|
 .ret ([], []) (.tup [.agg [.whole 8 24], .agg [.whole 6 48], .atom (.const (.bool false))])) <|
 .both (
 .both (
 .both (
 .both (
 .calc2 (.binOp .eql 43 (.tmp 40) (.const (.int .i64 0)) 43) 4 [(40, qv 9)] ([], []) qT 0 (
 .ret ([], []) (.tup [.agg [.whole 8 24], .agg [.whole 6 48], .atom (.const (.bool true))])) qF 0 <|
 .ret ([], []) (.tup [.agg [.whole 8 24], .agg [.whole 6 48], .atom (.const (.bool false))])) <|
 .both (
 .calc2 (.binOp .eql 43 (.tmp 40) (.const (.int .i64 0)) 43) 4 [(40, qv 9)] ([], []) qT 0 (
 .ret ([], []) (.tup [.agg [.whole 8 24], .agg [.whole 6 48], .atom (.const (.bool true))])) qF 0 <|
 .ret ([], []) (.tup [.agg [.whole 8 24], .agg [.whole 6 48], .atom (.const (.bool false))])) <|
 .calc2 (.binOp .eql 43 (.tmp 40) (.const (.int .i64 0)) 43) 4 [(40, qv 9)] ([], []) qT 0 (
 .ret ([], []) (.tup [.agg [.whole 8 24], .agg [.whole 6 48], .atom (.const (.bool true))])) qF 0 <|
 .ret ([], []) (.tup [.agg [.whole 8 24], .agg [.whole 6 48], .atom (.const (.bool false))])) <|
 .both (
 .both (
 .calc2 (.binOp .eql 43 (.tmp 40) (.const (.int .i64 0)) 43) 4 [(40, qv 9)] ([], []) qT 0 (
 .ret ([], []) (.tup [.agg [.whole 8 24], .agg [.whole 6 48], .atom (.const (.bool true))])) qF 0 <|
 .ret ([], []) (.tup [.agg [.whole 8 24], .agg [.whole 6 48], .atom (.const (.bool false))])) <|
 .calc2 (.binOp .eql 43 (.tmp 40) (.const (.int .i64 0)) 43) 4 [(40, qv 9)] ([], []) qT 0 (
 .ret ([], []) (.tup [.agg [.whole 8 24], .agg [.whole 6 48], .atom (.const (.bool true))])) qF 0 <|
 .ret ([], []) (.tup [.agg [.whole 8 24], .agg [.whole 6 48], .atom (.const (.bool false))])) <|
 .calc2 (.binOp .eql 43 (.tmp 40) (.const (.int .i64 0)) 43) 4 [(40, qv 9)] ([], []) qT 0 (
 .ret ([], []) (.tup [.agg [.whole 8 24], .agg [.whole 6 48], .atom (.const (.bool true))])) qF 0 <|
 .ret ([], []) (.tup [.agg [.whole 8 24], .agg [.whole 6 48], .atom (.const (.bool false))])) <|
 .both (
 .both (
 .calc2 (.binOp .eql 43 (.tmp 40) (.const (.int .i64 0)) 43) 4 [(40, qv 9)] ([], []) qT 0 (
 .ret ([], []) (.tup [.agg [.whole 8 24], .agg [.whole 6 48], .atom (.const (.bool true))])) qF 0 <|
 .ret ([], []) (.tup [.agg [.whole 8 24], .agg [.whole 6 48], .atom (.const (.bool false))])) <|
 .both (
 .calc2 (.binOp .eql 43 (.tmp 40) (.const (.int .i64 0)) 43) 4 [(40, qv 9)] ([], []) qT 0 (
 .ret ([], []) (.tup [.agg [.whole 8 24], .agg [.whole 6 48], .atom (.const (.bool true))])) qF 0 <|
 .ret ([], []) (.tup [.agg [.whole 8 24], .agg [.whole 6 48], .atom (.const (.bool false))])) <|
 .calc2 (.binOp .eql 43 (.tmp 40) (.const (.int .i64 0)) 43) 4 [(40, qv 9)] ([], []) qT 0 (
 .ret ([], []) (.tup [.agg [.whole 8 24], .agg [.whole 6 48], .atom (.const (.bool true))])) qF 0 <|
 .ret ([], []) (.tup [.agg [.whole 8 24], .agg [.whole 6 48], .atom (.const (.bool false))])) <|
 .calc2 (.binOp .eql 43 (.tmp 40) (.const (.int .i64 0)) 43) 4 [(40, qv 9)] ([], []) qT 0 (
 .ret ([], []) (.tup [.agg [.whole 8 24], .agg [.whole 6 48], .atom (.const (.bool true))])) qF 0 <|
 .ret ([], []) (.tup [.agg [.whole 8 24], .agg [.whole 6 48], .atom (.const (.bool false))])) <|
 .both (
 .both (
 .both (
 .calc2 (.binOp .eql 43 (.tmp 40) (.const (.int .i64 0)) 43) 4 [(40, qv 9)] ([], []) qT 0 (
 .ret ([], []) (.tup [.agg [.whole 8 24], .agg [.whole 6 48], .atom (.const (.bool true))])) qF 0 <|
 .ret ([], []) (.tup [.agg [.whole 8 24], .agg [.whole 6 48], .atom (.const (.bool false))])) <|
 .both (
 .calc2 (.binOp .eql 43 (.tmp 40) (.const (.int .i64 0)) 43) 4 [(40, qv 9)] ([], []) qT 0 (
 .ret ([], []) (.tup [.agg [.whole 8 24], .agg [.whole 6 48], .atom (.const (.bool true))])) qF 0 <|
 .ret ([], []) (.tup [.agg [.whole 8 24], .agg [.whole 6 48], .atom (.const (.bool false))])) <|
 .calc2 (.binOp .eql 43 (.tmp 40) (.const (.int .i64 0)) 43) 4 [(40, qv 9)] ([], []) qT 0 (
 .ret ([], []) (.tup [.agg [.whole 8 24], .agg [.whole 6 48], .atom (.const (.bool true))])) qF 0 <|
 .ret ([], []) (.tup [.agg [.whole 8 24], .agg [.whole 6 48], .atom (.const (.bool false))])) <|
 .both (
 .calc2 (.binOp .eql 43 (.tmp 40) (.const (.int .i64 0)) 43) 4 [(40, qv 9)] ([], []) qT 0 (
 .both (
 .ret ([], []) (.tup [.agg [.whole 8 24], .agg [.whole 6 48], .atom (.const (.bool true))])) <|
 .ret ([], []) (.tup [.agg [.whole 8 24], .agg [.whole 6 48], .atom (.const (.bool true))])) qF 0 <|
 .both (
 .ret ([], []) (.tup [.agg [.whole 8 24], .agg [.whole 6 48], .atom (.const (.bool false))])) <|
 .ret ([], []) (.tup [.agg [.whole 8 24], .agg [.whole 6 48], .atom (.const (.bool false))])) <|
 .both (
 .both (
 .calc2 (.binOp .eql 43 (.tmp 40) (.const (.int .i64 0)) 43) 4 [(40, qv 9)] ([], []) qT 0 (
 .ret ([], []) (.tup [.agg [.whole 8 24], .agg [.whole 6 48], .atom (.const (.bool true))])) qF 0 <|
 .ret ([], []) (.tup [.agg [.whole 8 24], .agg [.whole 6 48], .atom (.const (.bool false))])) <|
 .calc2 (.binOp .eql 43 (.tmp 40) (.const (.int .i64 0)) 43) 4 [(40, qv 9)] ([], []) qT 0 (
 .ret ([], []) (.tup [.agg [.whole 8 24], .agg [.whole 6 48], .atom (.const (.bool true))])) qF 0 <|
 .ret ([], []) (.tup [.agg [.whole 8 24], .agg [.whole 6 48], .atom (.const (.bool false))])) <|
 .calc2 (.binOp .eql 43 (.tmp 40) (.const (.int .i64 0)) 43) 4 [(40, qv 9)] ([], []) qT 0 (
 .ret ([], []) (.tup [.agg [.whole 8 24], .agg [.whole 6 48], .atom (.const (.bool true))])) qF 0 <|
 .ret ([], []) (.tup [.agg [.whole 8 24], .agg [.whole 6 48], .atom (.const (.bool false))])) <|
 .both (
 .both (
 .both (
 .calc2 (.binOp .eql 43 (.tmp 40) (.const (.int .i64 0)) 43) 4 [(40, qv 9)] ([], []) qT 0 (
 .ret ([], []) (.tup [.agg [.whole 8 24], .agg [.whole 6 48], .atom (.const (.bool true))])) qF 0 <|
 .ret ([], []) (.tup [.agg [.whole 8 24], .agg [.whole 6 48], .atom (.const (.bool false))])) <|
 .both (
 .calc2 (.binOp .eql 43 (.tmp 40) (.const (.int .i64 0)) 43) 4 [(40, qv 9)] ([], []) qT 0 (
 .ret ([], []) (.tup [.agg [.whole 8 24], .agg [.whole 6 48], .atom (.const (.bool true))])) qF 0 <|
 .ret ([], []) (.tup [.agg [.whole 8 24], .agg [.whole 6 48], .atom (.const (.bool false))])) <|
 .calc2 (.binOp .eql 43 (.tmp 40) (.const (.int .i64 0)) 43) 4 [(40, qv 9)] ([], []) qT 0 (
 .ret ([], []) (.tup [.agg [.whole 8 24], .agg [.whole 6 48], .atom (.const (.bool true))])) qF 0 <|
 .ret ([], []) (.tup [.agg [.whole 8 24], .agg [.whole 6 48], .atom (.const (.bool false))])) <|
 .calc2 (.binOp .eql 43 (.tmp 40) (.const (.int .i64 0)) 43) 4 [(40, qv 9)] ([], []) qT 0 (
 .ret ([], []) (.tup [.agg [.whole 8 24], .agg [.whole 6 48], .atom (.const (.bool true))])) qF 0 <|
 .ret ([], []) (.tup [.agg [.whole 8 24], .agg [.whole 6 48], .atom (.const (.bool false))])) <|
 .calc2 (.binOp .eql 43 (.tmp 40) (.const (.int .i64 0)) 43) 4 [(40, qv 9)] ([], []) qT 0 (
 .both (
 .both (
 .ret ([], []) (.tup [.agg [.whole 8 24], .agg [.whole 6 48], .atom (.const (.bool true))])) <|
 .ret ([], []) (.tup [.agg [.whole 8 24], .agg [.whole 6 48], .atom (.const (.bool true))])) <|
 .ret ([], []) (.tup [.agg [.whole 8 24], .agg [.whole 6 48], .atom (.const (.bool true))])) qF 0 <|
 .both (
 .both (
 .ret ([], []) (.tup [.agg [.whole 8 24], .agg [.whole 6 48], .atom (.const (.bool false))])) <|
 .ret ([], []) (.tup [.agg [.whole 8 24], .agg [.whole 6 48], .atom (.const (.bool false))])) <|
 .ret ([], []) (.tup [.agg [.whole 8 24], .agg [.whole 6 48], .atom (.const (.bool false))])
theorem c_made11 : compF Tryz.prog Tryz.f17 o_made11 (Tryz.f17.body.getD .skip) (symIn [.agg [.one (.var 0), .one (.var 1)]] Tryz.f17.ntmps 2) = some t_made11 := by kernel_rfl
theorem g_made11 : goodC Tryz.prog o_made11.ords (Tryz.f17.body.getD .skip) = true := by kernel_rfl
def tb_made11 : FuncId × Trans := (17, tMade11)
set_option maxRecDepth 100000 in
theorem aw_made11 : ∀ zs Q, tb_made11.2 zs Q → bindLs 0 [.agg [.one (.var 0), .one (.var 1)]] zs fun ae => bif Nat.beq ae.length 2 then AWp Tryz.prog tcB Q t_made11 [] ae else False := by
  intro zs Q h
  replace h : tMade11 zs Q := h
  unfold tMade11 at h
  split at h
  case h_2 => exact h.elim
  rename_i l n
  obtain ⟨hb, h1, h2⟩ := h
  by_cases a1 : (l.length : Int) > 57
  · have h' := h1 (by omega)
    repeat ((conv => whnf) <;> first | with_reducible first | refine wI (by omega) ?_ | refine wB (by omega) ?_ | refine And.intro rfl ?_ | rfl | refine And.intro ‹_› ?_ | refine cTe ‹_› ?_ | refine cFe ‹_› ?_ | refine cN (cTe ‹_› ?_) | refine cN (cFe ‹_› ?_) | refine cTe rfl ?_ | refine cEq ‹_› ?_ | refine cTt ?_ | refine cNt ?_ | refine cF (Eq.refl false) ?_ | refine cN (cF (Eq.refl false) ?_) | refine cTd (by omega) ?_ | refine cFd (by omega) ?_ | refine cN (cTd (by omega) ?_) | refine cN (cFd (by omega) ?_) | refine And.intro (by omega) ?_ | refine And.intro (Eq.refl true) ?_)
    (conv => whnf)
    exact h'
  by_cases a2 : n < 0
  · have h' := h1 (by omega)
    repeat ((conv => whnf) <;> first | with_reducible first | refine wI (by omega) ?_ | refine wB (by omega) ?_ | refine And.intro rfl ?_ | rfl | refine And.intro ‹_› ?_ | refine cTe ‹_› ?_ | refine cFe ‹_› ?_ | refine cN (cTe ‹_› ?_) | refine cN (cFe ‹_› ?_) | refine cTe rfl ?_ | refine cEq ‹_› ?_ | refine cTt ?_ | refine cNt ?_ | refine cF (Eq.refl false) ?_ | refine cN (cF (Eq.refl false) ?_) | refine cTd (by omega) ?_ | refine cFd (by omega) ?_ | refine cN (cTd (by omega) ?_) | refine cN (cFd (by omega) ?_) | refine And.intro (by omega) ?_ | refine And.intro (Eq.refl true) ?_)
    (conv => whnf)
    exact h'
  by_cases a3 : n > 3
  · have h' := h1 (by omega)
    repeat ((conv => whnf) <;> first | with_reducible first | refine wI (by omega) ?_ | refine wB (by omega) ?_ | refine And.intro rfl ?_ | rfl | refine And.intro ‹_› ?_ | refine cTe ‹_› ?_ | refine cFe ‹_› ?_ | refine cN (cTe ‹_› ?_) | refine cN (cFe ‹_› ?_) | refine cTe rfl ?_ | refine cEq ‹_› ?_ | refine cTt ?_ | refine cNt ?_ | refine cF (Eq.refl false) ?_ | refine cN (cF (Eq.refl false) ?_) | refine cTd (by omega) ?_ | refine cFd (by omega) ?_ | refine cN (cTd (by omega) ?_) | refine cN (cFd (by omega) ?_) | refine And.intro (by omega) ?_ | refine And.intro (Eq.refl true) ?_)
    (conv => whnf)
    exact h'
  have h' := h2 (by omega) (by omega) (by omega)
  clear h1 h2
  have hm : l.length ≤ 1000 ∧ By l := ⟨by omega, hb⟩
  have hn : 0 ≤ n ∧ n ≤ 3 := ⟨by omega, by omega⟩
  have hg := sgG_eq l n
  have me := encB_len (mulG (nval l) BG + mulG n.toNat TG)
  have mb : By (encB (mulG (nval l) BG + mulG n.toNat TG)) ∧ (encB (mulG (nval l) BG + mulG n.toNat TG)).length ≤ 100000 := ⟨encB_by _, by omega⟩
  obtain ⟨k1, k2⟩ := dec_enc (mulG (nval l) BG + mulG n.toNat TG)
  generalize sgG l n = g at *
  subst hg
  repeat ((conv => whnf) <;> first | with_reducible first | refine wI (by omega) ?_ | refine wB (by omega) ?_ | refine And.intro rfl ?_ | rfl | refine And.intro ‹_› ?_ | refine cTe ‹_› ?_ | refine cFe ‹_› ?_ | refine cN (cTe ‹_› ?_) | refine cN (cFe ‹_› ?_) | refine cTe rfl ?_ | refine cEq ‹_› ?_ | refine cTt ?_ | refine cNt ?_ | refine cF (Eq.refl false) ?_ | refine cN (cF (Eq.refl false) ?_) | refine cTd (by omega) ?_ | refine cFd (by omega) ?_ | refine cN (cTd (by omega) ?_) | refine cN (cFd (by omega) ?_) | refine And.intro (by omega) ?_ | refine And.intro (Eq.refl true) ?_)
  refine ⟨fun h => absurd me h, fun _ h => absurd k1 h, fun _ _ => ?_⟩
  rw [k2]
  repeat ((conv => whnf) <;> first | with_reducible first | refine wI (by omega) ?_ | refine wB (by omega) ?_ | refine And.intro rfl ?_ | rfl | refine And.intro ‹_› ?_ | refine cTe ‹_› ?_ | refine cFe ‹_› ?_ | refine cN (cTe ‹_› ?_) | refine cN (cFe ‹_› ?_) | refine cTe rfl ?_ | refine cEq ‹_› ?_ | refine cTt ?_ | refine cNt ?_ | refine cF (Eq.refl false) ?_ | refine cN (cF (Eq.refl false) ?_) | refine cTd (by omega) ?_ | refine cFd (by omega) ?_ | refine cN (cTd (by omega) ?_) | refine cN (cFd (by omega) ?_) | refine And.intro (by omega) ?_ | refine And.intro (Eq.refl true) ?_)
  repeat' (first | exact h' | (refine And.intro ?_ ?_ <;> repeat ((conv => whnf) <;> first | with_reducible first | refine wI (by omega) ?_ | refine wB (by omega) ?_ | refine And.intro rfl ?_ | rfl | refine And.intro ‹_› ?_ | refine cTe ‹_› ?_ | refine cFe ‹_› ?_ | refine cN (cTe ‹_› ?_) | refine cN (cFe ‹_› ?_) | refine cTe rfl ?_ | refine cEq ‹_› ?_ | refine cTt ?_ | refine cNt ?_ | refine cF (Eq.refl false) ?_ | refine cN (cF (Eq.refl false) ?_) | refine cTd (by omega) ?_ | refine cFd (by omega) ?_ | refine cN (cTd (by omega) ?_) | refine cN (cFd (by omega) ?_) | refine And.intro (by omega) ?_ | refine And.intro (Eq.refl true) ?_)))
theorem tb_made11_ok : Con Tryz.prog tb_made11.1 tb_made11.2 := con_tree tcB_ok o_made11 [.agg [.one (.var 0), .one (.var 1)]] 2 Tryz.func17 rfl c_made11 aw_made11 g_made11
end Go.Proofs.YtohebkkiicbdoaaGreat
