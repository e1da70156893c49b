/- Table.Mult -/
import Derived.Test.YtamgmkeoaaaliaaGreatDgb
import Derived.Test.YtamgmkeoaaaliaaGreatCmc
set_option linter.unusedSimpArgs false
set_option linter.unusedVariables false
namespace Go.Proofs.YtamgmkeoaaaliaaGreat
open Go.RowKit FdP FdP.Ch
def tTMulT : Trans := fun zs Q => match zs with
  | [.ref (.agg [.sl 24 es, .int .i64 t, .int .i64 s]), .isl .u8 b] => ∃ p : G, es = (tabL (qN p t s) t.toNat).map ptA ∧ (By b ∧ b.length ≤ 100000 ∧ 1 ≤ t ∧ t ≤ 7 ∧ 1 ≤ s ∧ s ≤ 64) ∧
    (¬ (b.length : Int) = s → Q (.tup [ptA 0, .int .i64 11])) ∧ ((b.length : Int) = s → Q (.tup [ptA (mulG (nval b) p), .int .i64 0]))
  | _ => False
theorem zsP2 {g g' : G} (h : g = g') : [ptA g] = [ptA g'] := by rw [h]
theorem comb_step {N m i t : Nat} (p : G) (hi : i < m) : mulG (colV N m (i + 1) t) p + mulG (colV N m (i + 1) t) p + mulG (colW N m i t) p = mulG (colV N m i t) p := by
  rw [colV_step N hi, ← mulG_add, ← mulG_add]; congr 1; omega
def tcS : Tab := tb_pid :: tb_dcolumns :: tb_tlook :: tb_pdbl :: tb_padd :: []
theorem tcS_ok : tcS.OK Tryz.prog := tab_cons tb_pid_ok <| tab_cons tb_dcolumns_ok <| tab_cons tb_tlook_ok <| tab_cons tb_pdbl_ok <| tab_cons tb_padd_ok <| tab_nil _
def o_tmul : Orc := { ans := [(14, oV), (15, oB), (16, .one ⟨.leaf (.agg [.whole 0 24]), 1, []⟩), (19, oV), (20, oV), (21, oV), (22, oV), (23, oV), (24, oB), (25, .one ⟨.leaf (.agg [.whole 0 24]), 1, []⟩), (28, oV), (29, oV), (30, oV), (31, oV), (32, .one ⟨.tup [.atom (.var 0), .atom (.var 1)], 2, []⟩), (36, oB), (37, .one ⟨.leaf (.agg [.whole 0 24]), 1, []⟩), (39, .one ⟨.leaf (.agg [.whole 0 24]), 1, []⟩), (41, oV), (45, oV), (47, .one ⟨.tup [.agg [.whole 0 24], .atom (.var 1)], 2, []⟩), (51, oB), (52, .one ⟨.leaf (.agg [.whole 0 24]), 1, []⟩), (54, .one ⟨.leaf (.agg [.whole 0 24]), 1, []⟩), (55, .one ⟨.leaf (.agg [.whole 0 24]), 1, []⟩), (56, .one ⟨.leaf (.agg [.whole 0 24]), 1, []⟩), (57, .one ⟨.leaf (.agg [.whole 0 24]), 1, []⟩), (58, .one ⟨.leaf (.agg [.whole 0 24]), 1, []⟩)], lps := [], inl := [(41, { ans := [], lps := [] })], rng := some (64, [.blk 3 [.agg 24]]) }
def t_tmul : Tree :=
  .new <|
  .new <|
  .new <|
  .calc2 (.binOp .eql 40 (.tmp 14) (.const (.pointer none)) 40) 4 [(14, .leaf (.atom (.var 0)))] ([], []) (.leaf (.atom (.const (.bool true)))) 0 (
    .call 10 [] ([], []) (.leaf (.agg [.whole 2 24])) 1 [] <|
    .ret ([], []) (.tup [.agg [.whole 2 24], .atom (.const (.int .i64 2))])) (.leaf (.atom (.const (.bool false)))) 0 <|
  .calc (.call { callee := .builtin .len, args := #[.tmp 18], argTypes := #[22] }) 3 [(18, .leaf (.atom (.var 1)))] ([], []) (.leaf (.atom (.var 2))) 1 <|
  .calc (.nilCheck (.tmp 20)) 0 [(20, .leaf (.atom (.var 0)))] ([], []) (.leaf (.atom (.var 3))) 1 <|
  .calc (.fieldAddr 65 (.tmp 21) 2) 0 [(21, .leaf (.atom (.var 3)))] ([], []) (.leaf (.atom (.var 4))) 1 <|
  .calc (.load 3 (.tmp 22)) 3 [(22, .leaf (.atom (.var 4)))] ([], []) (.leaf (.atom (.var 5))) 1 <|
  .calc2 (.binOp .neq 3 (.tmp 19) (.tmp 23) 3) 4 [(19, .leaf (.atom (.var 2))), (23, .leaf (.atom (.var 5)))] ([], []) (.leaf (.atom (.const (.bool true)))) 0 (
    .call 10 [] ([], []) (.leaf (.agg [.whole 6 24])) 1 [] <|
    .ret ([], []) (.tup [.agg [.whole 6 24], .atom (.const (.int .i64 11))])) (.leaf (.atom (.const (.bool false)))) 0 <|
  .calc (.nilCheck (.tmp 28)) 0 [(28, .leaf (.atom (.var 0)))] ([], []) (.leaf (.atom (.var 6))) 1 <|
  .calc (.fieldAddr 65 (.tmp 29) 1) 0 [(29, .leaf (.atom (.var 6)))] ([], []) (.leaf (.atom (.var 7))) 1 <|
  .calc (.load 3 (.tmp 30)) 3 [(30, .leaf (.atom (.var 7)))] ([], []) (.leaf (.atom (.var 8))) 1 <|
  .call 26 [.atom (.var 1), .atom (.var 8)] ([], []) (.tup [.atom (.var 9), .atom (.var 10)]) 2 [] <|
  .calc2 (.binOp .neq 41 (.tmp 35) (.const (.int .i64 0)) 41) 4 [(35, .leaf (.atom (.var 10)))] ([], []) (.leaf (.atom (.const (.bool true)))) 0 (
    .call 10 [] ([], []) (.leaf (.agg [.whole 11 24])) 1 [] <|
    .ret ([], []) (.tup [.agg [.whole 11 24], .atom (.var 10)])) (.leaf (.atom (.const (.bool false)))) 0 <|
  .call 10 [] ([], []) (.leaf (.agg [.whole 11 24])) 1 [] <|
  .new <|
  .new <|
  .rng 9 [.agg [.whole 11 24]] [.agg 24] (
    .call 19 [.atom (.var 0), .atom (.var 14)] ([], []) (.tup [.agg [.whole 15 24], .atom (.var 16)]) 2 [] <|
    .new <|
    .calc2 (.binOp .neq 41 (.tmp 50) (.const (.int .i64 0)) 41) 4 [(50, .leaf (.atom (.var 16)))] ([], []) (.leaf (.atom (.const (.bool true)))) 0 (
      .call 10 [] ([], []) (.leaf (.agg [.whole 17 24])) 1 [] <|
      .ret ([], []) (.tup [.agg [.whole 17 24], .atom (.var 16)])) (.leaf (.atom (.const (.bool false)))) 0 <|
    .call 28 [.agg [.whole 12 24]] ([], []) (.leaf (.agg [.whole 17 24])) 1 [] <|
    .call 21 [.agg [.whole 17 24], .agg [.whole 15 24]] ([], []) (.leaf (.agg [.whole 18 24])) 1 [] <|
    .again 0 [.agg [.whole 18 24]]) <|
  .ret ([], []) (.tup [.agg [.whole 12 24], .atom (.const (.int .i64 0))])
theorem c_tmul : compF Tryz.prog Tryz.f7 o_tmul (Tryz.f7.body.getD .skip) (symIn [.atom (.var 0), .atom (.var 1)] Tryz.f7.ntmps 2) = some t_tmul := by kernel_rfl
theorem g_tmul : goodC Tryz.prog o_tmul.ords (Tryz.f7.body.getD .skip) = true := by kernel_rfl
def tb_tmul : FuncId × Trans := (7, tTMulT)
set_option maxRecDepth 100000 in
theorem aw_tmul : ∀ zs Q, tb_tmul.2 zs Q → bindLs 0 [.atom (.var 0), .atom (.var 1)] zs fun ae => bif Nat.beq ae.length 2 then AWp Tryz.prog tcS Q t_tmul [] ae else False := by
  intro zs Q h
  replace h : tTMulT zs Q := h
  unfold tTMulT at h
  split at h
  case h_2 => exact h.elim
  rename_i es t s b
  obtain ⟨p, rfl, ⟨hb, hl, h1, h2, h3, h4⟩, h5, h6⟩ := h
  by_cases a1 : (b.length : Int) = s
  case neg =>
    have h := h5 a1
    repeat ((conv => whnf) <;> first | with_reducible first | refine wI (by omega) ?_ | refine wB (by omega) ?_ | refine And.intro rfl ?_ | rfl | refine And.intro ‹_› ?_ | refine cTe ‹_› ?_ | refine cFe ‹_› ?_ | refine cN (cTe ‹_› ?_) | refine cN (cFe ‹_› ?_) | refine cTe rfl ?_ | refine cEq ‹_› ?_ | refine cTt ?_ | refine cNt ?_ | refine cF (Eq.refl false) ?_ | refine cN (cF (Eq.refl false) ?_) | refine cTd (by omega) ?_ | refine cFd (by omega) ?_ | refine cN (cTd (by omega) ?_) | refine cN (cFd (by omega) ?_) | refine And.intro (by omega) ?_ | refine And.intro (Eq.refl true) ?_)
    (conv => whnf)
    exact h
  have h := h6 a1
  clear h5 h6
  have hc : By b ∧ b.length ≤ 64 ∧ 1 ≤ t ∧ t ≤ 8 := ⟨hb, by omega, h1, by omega⟩
  repeat ((conv => whnf) <;> first | with_reducible first | refine wI (by omega) ?_ | refine wB (by omega) ?_ | refine And.intro rfl ?_ | rfl | refine And.intro ‹_› ?_ | refine cTe ‹_› ?_ | refine cFe ‹_› ?_ | refine cN (cTe ‹_› ?_) | refine cN (cFe ‹_› ?_) | refine cTe rfl ?_ | refine cEq ‹_› ?_ | refine cTt ?_ | refine cNt ?_ | refine cF (Eq.refl false) ?_ | refine cN (cF (Eq.refl false) ?_) | refine cTd (by omega) ?_ | refine cFd (by omega) ?_ | refine cN (cTd (by omega) ?_) | refine cN (cFd (by omega) ?_) | refine And.intro (by omega) ?_ | refine And.intro (Eq.refl true) ?_)
  (conv => whnf)
  have hN := nD_cover hb h1
  have hap : apN t s = nD b t := by unfold apN nD; rw [a1]
  have hmb : nD b t ≤ 600 := by
    have q2 : (8 * (b.length : Int) + t - 1) / t ≤ 8 * (b.length : Int) + t - 1 := Int.ediv_le_self _ (by omega)
    unfold nD; omega
  have hxl := coL_len (nval b) (nD b t) t.toNat (nD b t)
  have hxg := coL_get (nval b) (nD b t) t.toNat (nD b t)
  have hall := colV_all (N := nval b) (m := nD b t) (t := t.toNat) (by rw [Nat.mul_comm]; exact hN)
  have htop := colV_top (nval b) (nD b t) t.toNat
  have htl := tabL_len (qN p t s) t.toNat
  have h2t : 2 ^ t.toNat ≤ 2 ^ 7 := Nat.pow_le_pow_right (by omega) (by omega)
  have htg := tabL_get (qN p t s) t.toNat
  have hwor := sumB_wor p (nD b t)
  have hqn : qN p t s = fun j => mulG (2 ^ (nD b t * j)) p := by funext j; unfold qN; rw [hap]
  have hww := fun i => wor_win (nval b) (nD b t) i t.toNat t.toNat (Nat.le_refl _)
  have hwl := fun i => winN_lt (nval b) i (nD b t) t.toNat
  generalize hX : coL (nval b) (nD b t) t.toNat (nD b t) = X at *
  generalize hL : tabL (qN p t s) t.toNat = L at *
  generalize hm : nD b t = m at *
  refine ⟨by omega, fun k zs => k ≤ m ∧ zs = [ptA (mulG (colV (nval b) m (m - k) t.toNat) p)], ?_, ?_, ?_⟩
  · (conv => whnf)
    exact ⟨_, Subs.refl' _, Nat.zero_le _, zsP2 (by rw [Nat.sub_zero, htop]; rfl)⟩
  · rintro k _ hk ⟨hk2, rfl⟩
    have hd := hxg (m - 1 - k) (by omega)
    have e1 : X.length - 1 - k = m - 1 - k := by omega
    have hst := comb_step (N := nval b) (m := m) (i := m - 1 - k) (t := t.toNat) p (by omega)
    have hw1 := hwl (m - 1 - k)
    have hw2 := hww (m - 1 - k)
    rw [e1, hd, show m - k = m - 1 - k + 1 by omega]
    have ek : m - (k + 1) = m - 1 - k := by omega
    have hgd : L.getD (winN (nval b) (m - 1 - k) m t.toNat) 0 = mulG (colW (nval b) m (m - 1 - k) t.toNat) p := by
      rw [htg _ hw1, hqn, hwor, hw2]
    rw [← hgd] at hst
    generalize winN (nval b) (m - 1 - k) m t.toNat = d at *
    generalize mulG (colV (nval b) m (m - 1 - k + 1) t.toNat) p = x at *
    have hdn : ((d : Int)).toNat = d := rfl
    have hI : I64 (d : Int) := by unfold I64; omega
    repeat ((conv => whnf) <;> first | with_reducible first | refine wI (by omega) ?_ | refine wB (by omega) ?_ | refine And.intro rfl ?_ | rfl | refine And.intro ‹_› ?_ | refine cTe ‹_› ?_ | refine cFe ‹_› ?_ | refine cN (cTe ‹_› ?_) | refine cN (cFe ‹_› ?_) | refine cTe rfl ?_ | refine cEq ‹_› ?_ | refine cTt ?_ | refine cNt ?_ | refine cF (Eq.refl false) ?_ | refine cN (cF (Eq.refl false) ?_) | refine cTd (by omega) ?_ | refine cFd (by omega) ?_ | refine cN (cTd (by omega) ?_) | refine cN (cFd (by omega) ?_) | refine And.intro (by omega) ?_ | refine And.intro (Eq.refl true) ?_)
    refine ⟨L, rfl, by omega, fun hh => absurd ⟨by omega, by omega⟩ hh, fun _ _ => ?_⟩
    repeat ((conv => whnf) <;> first | with_reducible first | refine wI (by omega) ?_ | refine wB (by omega) ?_ | refine And.intro rfl ?_ | rfl | refine And.intro ‹_› ?_ | refine cTe ‹_› ?_ | refine cFe ‹_› ?_ | refine cN (cTe ‹_› ?_) | refine cN (cFe ‹_› ?_) | refine cTe rfl ?_ | refine cEq ‹_› ?_ | refine cTt ?_ | refine cNt ?_ | refine cF (Eq.refl false) ?_ | refine cN (cF (Eq.refl false) ?_) | refine cTd (by omega) ?_ | refine cFd (by omega) ?_ | refine cN (cTd (by omega) ?_) | refine cN (cFd (by omega) ?_) | refine And.intro (by omega) ?_ | refine And.intro (Eq.refl true) ?_)
    (conv => whnf)
    exact ⟨_, Subs.refl' _, by omega, zsP2 (by rw [ek, ← hst]; rfl)⟩
  · rintro _ ⟨_, rfl⟩
    rw [hxl, Nat.sub_self, hall]
    repeat ((conv => whnf) <;> first | with_reducible first | refine wI (by omega) ?_ | refine wB (by omega) ?_ | refine And.intro rfl ?_ | rfl | refine And.intro ‹_› ?_ | refine cTe ‹_› ?_ | refine cFe ‹_› ?_ | refine cN (cTe ‹_› ?_) | refine cN (cFe ‹_› ?_) | refine cTe rfl ?_ | refine cEq ‹_› ?_ | refine cTt ?_ | refine cNt ?_ | refine cF (Eq.refl false) ?_ | refine cN (cF (Eq.refl false) ?_) | refine cTd (by omega) ?_ | refine cFd (by omega) ?_ | refine cN (cTd (by omega) ?_) | refine cN (cFd (by omega) ?_) | refine And.intro (by omega) ?_ | refine And.intro (Eq.refl true) ?_)
    (conv => whnf)
    exact h
theorem tb_tmul_ok : Con Tryz.prog tb_tmul.1 tb_tmul.2 := con_tree tcS_ok o_tmul [.atom (.var 0), .atom (.var 1)] 2 Tryz.func7 rfl c_tmul aw_tmul g_tmul (hbk := rng_one rfl isBack)
end Go.Proofs.YtamgmkeoaaaliaaGreat
