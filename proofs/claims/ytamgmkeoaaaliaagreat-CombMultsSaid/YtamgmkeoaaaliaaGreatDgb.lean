/- Columns -/
import Derived.Test.YtamgmkeoaaaliaaGreatDgc
import Derived.Test.YtamgmkeoaaaliaaGreatDga
set_option linter.unusedSimpArgs false
set_option linter.unusedVariables false
namespace Go.Proofs.YtamgmkeoaaaliaaGreat
open Go.RowKit FdP FdP.Ch
def tColumns : Trans := fun zs Q => match zs with
  | [.isl .u8 b, .int .i64 w] => (By b ∧ b.length ≤ 64 ∧ 1 ≤ w ∧ w ≤ 8) ∧ Q (.tup [.isl .i64 (coL (nval b) (nD b w) w.toNat (nD b w)), .int .i64 0])
  | _ => False
def tdC : Tab := tb_rdbit :: tb_dcheck :: tb_dseveral :: []
theorem tdC_ok : tdC.OK Tryz.prog := tab_cons tb_rdbit_ok <| tab_cons tb_dcheck_ok <| tab_cons tb_dseveral_ok <| tab_nil _
def o_dcolumns : Orc := { ans := [(14, oV), (16, oB), (19, oV), (22, oV), (25, oB), (32, oV), (34, oV), (35, oV)], lps := [(0, [.row 9 3 1, .slot 24 [.one]])], inl := [(19, { ans := [], lps := [] }), (32, { ans := [(13, oB), (20, oV), (21, oV), (22, oV), (24, oV), (25, oV), (26, oV)], lps := [(0, [.stay 4 5 3 1, .slot 9 [.one], .slot 12 [.one]])] })] }
def t_dcolumns : Tree :=
  .new <|
  .call 60 [.atom (.var 0), .atom (.const (.int .i64 1)), .atom (.slc 0 0 1 1)] ([([.one (.var 1)], 3)], []) (.leaf (.atom (.var 2))) 1 [] <|
  .calc2 (.binOp .neq 41 (.tmp 15) (.const (.int .i64 0)) 41) 4 [(15, .leaf (.atom (.var 2)))] ([], []) (.leaf (.atom (.const (.bool true)))) 0 (
    .ret ([], []) (.tup [.atom (.const (.slice none 0 0)), .atom (.var 2)])) (.leaf (.atom (.const (.bool false)))) 0 <|
  .new <|
  .call 62 [.atom (.var 0), .atom (.var 1)] ([], []) (.leaf (.atom (.var 3))) 1 [] <|
  .loop [.atom (.const (.slice none 0 0)), .agg [], .atom (.const (.int .i64 0))] [.one, .row, .one] <|
  .calc2 (.binOp .lss 3 (.tmp 24) (.tmp 23) 3) 4 [(24, .leaf (.atom (.var 6))), (23, .leaf (.atom (.var 3)))] ([], []) (.leaf (.atom (.const (.bool true)))) 0 (
    .loop [.atom (.const (.int .i64 0)), .atom (.const (.int .i64 0))] [.one, .one] <|
    .calc2 (.binOp .lss 3 (.tmp 12) (.tmp 11) 3) 4 [(12, .leaf (.atom (.var 8))), (11, .leaf (.atom (.var 1)))] ([], []) (.leaf (.atom (.const (.bool true)))) 0 (
      .calc (.binOp .mul 3 (.tmp 18) (.tmp 19) 3) 3 [(18, .leaf (.atom (.var 8))), (19, .leaf (.atom (.var 3)))] ([], []) (.leaf (.atom (.var 9))) 1 <|
      .calc (.binOp .add 3 (.tmp 17) (.tmp 20) 3) 3 [(17, .leaf (.atom (.var 6))), (20, .leaf (.atom (.var 9)))] ([], []) (.leaf (.atom (.var 10))) 1 <|
      .call 88 [.atom (.var 10), .atom (.ptr 1 0)] ([([.one (.var 1)], 3), ([.one (.var 0)], 22)], [⟨4, 5, 3, 1⟩]) (.leaf (.atom (.var 11))) 1 [] <|
      .calc (.binOp .shl 3 (.tmp 22) (.tmp 23) 3) 3 [(22, .leaf (.atom (.var 11))), (23, .leaf (.atom (.var 8)))] ([], []) (.leaf (.atom (.var 12))) 1 <|
      .calc (.binOp .or 3 (.tmp 15) (.tmp 24) 3) 3 [(15, .leaf (.atom (.var 7))), (24, .leaf (.atom (.var 12)))] ([], []) (.leaf (.atom (.var 13))) 1 <|
      .calc (.binOp .add 3 (.tmp 12) (.const (.int .i64 1)) 3) 3 [(12, .leaf (.atom (.var 8)))] ([], []) (.leaf (.atom (.var 14))) 1 <|
      .again 1 [.atom (.var 13), .atom (.var 14)]) (.leaf (.atom (.const (.bool false)))) 0 <|
    .new <|
    .app (some 5) [.one (.var 7)] 1 <|
    .calc (.binOp .add 3 (.tmp 24) (.const (.int .i64 1)) 3) 3 [(24, .leaf (.atom (.var 6)))] ([], []) (.leaf (.atom (.var 11))) 1 <|
    .again 0 [.atom (.var 9), .agg [.rest 10], .atom (.var 11)]) (.leaf (.atom (.const (.bool false)))) 0 <|
  .ret ([([.one (.var 1)], 3), ([.one (.var 0)], 22)], [⟨4, 5, 3, 1⟩]) (.tup [.atom (.var 4), .atom (.const (.int .i64 0))])
theorem c_dcolumns : compF Tryz.prog Tryz.f26 o_dcolumns (Tryz.f26.body.getD .skip) (symIn [.atom (.var 0), .atom (.var 1)] Tryz.f26.ntmps 2) = some t_dcolumns := by kernel_rfl
theorem g_dcolumns : goodC Tryz.prog o_dcolumns.ords (Tryz.f26.body.getD .skip) = true := by kernel_rfl
def tb_dcolumns : FuncId × Trans := (26, tColumns)
set_option maxRecDepth 100000 in
theorem aw_dcolumns : ∀ zs Q, tb_dcolumns.2 zs Q → bindLs 0 [.atom (.var 0), .atom (.var 1)] zs fun ae => bif Nat.beq ae.length 2 then AWp Tryz.prog tdC Q t_dcolumns [] ae else False := by
  intro zs Q h
  replace h : tColumns zs Q := h
  unfold tColumns at h
  split at h
  case h_2 => exact h.elim
  rename_i b w
  obtain ⟨⟨hb, hl, h1, h2⟩, h⟩ := h
  have q1 : 0 ≤ (8 * (b.length : Int) + w - 1) / w := Int.ediv_nonneg (by omega) (by omega)
  have q2 : (8 * (b.length : Int) + w - 1) / w ≤ 8 * (b.length : Int) + w - 1 := Int.ediv_le_self _ (by omega)
  have hm : (8 * (b.length : Int) + w - 1) / w = ((nD b w : Nat) : Int) := by unfold nD; omega
  have hlen : b.length ≤ 1000 ∧ 1 ≤ w ∧ w ≤ 8 := ⟨by omega, h1, h2⟩
  have hl0 : b.length ≤ 100000 := by omega
  repeat ((conv => whnf) <;> first | with_reducible first | refine wI (by omega) ?_ | refine wB (by omega) ?_ | refine And.intro rfl ?_ | rfl | refine And.intro ‹_› ?_ | refine cTe ‹_› ?_ | refine cFe ‹_› ?_ | refine cN (cTe ‹_› ?_) | refine cN (cFe ‹_› ?_) | refine cTe rfl ?_ | refine cEq ‹_› ?_ | refine cTt ?_ | refine cNt ?_ | refine cF (Eq.refl false) ?_ | refine cN (cF (Eq.refl false) ?_) | refine cTd (by omega) ?_ | refine cFd (by omega) ?_ | refine cN (cTd (by omega) ?_) | refine cN (cFd (by omega) ?_) | refine And.intro (fun hh : Option.isSome none = true => by cases hh) ?_ | refine And.intro (by omega) ?_ | refine And.intro (Eq.refl true) ?_ | refine And.intro (Eq.refl (1 : Nat)) ?_)
  intro _ _ _
  rw [hm] at q1 q2
  repeat ((conv => whnf) <;> first | with_reducible first | refine wI (by omega) ?_ | refine wB (by omega) ?_ | refine And.intro rfl ?_ | rfl | refine And.intro ‹_› ?_ | refine cTe ‹_› ?_ | refine cFe ‹_› ?_ | refine cN (cTe ‹_› ?_) | refine cN (cFe ‹_› ?_) | refine cTe rfl ?_ | refine cEq ‹_› ?_ | refine cTt ?_ | refine cNt ?_ | refine cF (Eq.refl false) ?_ | refine cN (cF (Eq.refl false) ?_) | refine cTd (by omega) ?_ | refine cFd (by omega) ?_ | refine cN (cTd (by omega) ?_) | refine cN (cFd (by omega) ?_) | refine And.intro (fun hh : Option.isSome none = true => by cases hh) ?_ | refine And.intro (by omega) ?_ | refine And.intro (Eq.refl true) ?_ | refine And.intro (Eq.refl (1 : Nat)) ?_)
  generalize (8 * (b.length : Int) + w - 1) / w = mm at *
  subst hm
  generalize nD b w = m at *
  refine ⟨Nat, fun i zs => i ≤ m ∧ zs = [.row i, .ints .i64 (coL (nval b) m w.toNat i), .int .i64 (i : Int)], fun i => m - i, 0, ?_, ?_⟩
  · (conv => whnf)
    exact ⟨[.row 0, .ints .i64 [], .int .i64 0], ⟨sub_row0, sub_agg0 _, Sub.refl' _, trivial⟩, Nat.zero_le _, zsRI rfl rfl rfl⟩
  rintro i _ ⟨hi, rfl⟩
  by_cases hlt : i < m
  · repeat ((conv => whnf) <;> first | with_reducible first | refine wI (by omega) ?_ | refine wB (by omega) ?_ | refine And.intro rfl ?_ | rfl | refine And.intro ‹_› ?_ | refine cTe ‹_› ?_ | refine cFe ‹_› ?_ | refine cN (cTe ‹_› ?_) | refine cN (cFe ‹_› ?_) | refine cTe rfl ?_ | refine cEq ‹_› ?_ | refine cTt ?_ | refine cNt ?_ | refine cF (Eq.refl false) ?_ | refine cN (cF (Eq.refl false) ?_) | refine cTd (by omega) ?_ | refine cFd (by omega) ?_ | refine cN (cTd (by omega) ?_) | refine cN (cFd (by omega) ?_) | refine And.intro (fun hh : Option.isSome none = true => by cases hh) ?_ | refine And.intro (by omega) ?_ | refine And.intro (Eq.refl true) ?_ | refine And.intro (Eq.refl (1 : Nat)) ?_)
    refine ⟨Nat, fun k zs => k ≤ w.toNat ∧ zs = [.int .i64 (winN (nval b) i m k : Nat), .int .i64 (k : Int)], fun k => w.toNat - k, 0, ?_, ?_⟩
    · (conv => whnf)
      exact ⟨_, Subs.refl' _, Nat.zero_le _, rfl⟩
    rintro k _ ⟨hk, rfl⟩
    by_cases hlk : k < w.toNat
    · have hp : (k : Int) * (m : Int) ≤ 8 * 600 := Int.mul_le_mul (by omega) (by omega) (by omega) (by omega)
      have hp0 : 0 ≤ (k : Int) * (m : Int) := Int.mul_nonneg (by omega) (by omega)
      have hbd : By b ∧ b.length ≤ 100 ∧ 0 ≤ (i : Int) + (k : Int) * (m : Int) ∧ (i : Int) + (k : Int) * (m : Int) ≤ 100000 := ⟨hb, by omega, by omega, by omega⟩
      have he : ((i : Int) + (k : Int) * (m : Int)).toNat = i + k * m := by rw [← Int.natCast_mul, ← Int.natCast_add]; rfl
      have hw := win_i64 (N := nval b) (fr := i) (st := m) (k := k) (b := ((nval b / 2 ^ ((i : Int) + (k : Int) * (m : Int)).toNat % 2 : Nat) : Int)) (by omega) (by rw [he])
      repeat ((conv => whnf) <;> first | with_reducible first | refine wI (by omega) ?_ | refine wB (by omega) ?_ | refine And.intro rfl ?_ | rfl | refine And.intro ‹_› ?_ | refine cTe ‹_› ?_ | refine cFe ‹_› ?_ | refine cN (cTe ‹_› ?_) | refine cN (cFe ‹_› ?_) | refine cTe rfl ?_ | refine cEq ‹_› ?_ | refine cTt ?_ | refine cNt ?_ | refine cF (Eq.refl false) ?_ | refine cN (cF (Eq.refl false) ?_) | refine cTd (by omega) ?_ | refine cFd (by omega) ?_ | refine cN (cTd (by omega) ?_) | refine cN (cFd (by omega) ?_) | refine And.intro (fun hh : Option.isSome none = true => by cases hh) ?_ | refine And.intro (by omega) ?_ | refine And.intro (Eq.refl true) ?_ | refine And.intro (Eq.refl (1 : Nat)) ?_)
      (conv => whnf)
      exact ⟨_, Subs.refl' _, k + 1, ⟨by omega, zsI2 hw (by omega)⟩, by show w.toNat - (k + 1) < w.toNat - k; omega⟩
    · obtain rfl : k = w.toNat := by omega
      have ll := coL_len (nval b) m w.toNat i
      have ls := coL_s (nval b) m w.toNat i
      have e1 : (AV.ints .i64 (coL (nval b) m w.toNat i ++ [((winN (nval b) i m w.toNat : Nat) : Int)])).size = i + 1 := by rw [← ls]; exact coL_len _ _ _ _
      repeat ((conv => whnf) <;> first | with_reducible first | refine wI (by omega) ?_ | refine wB (by omega) ?_ | refine And.intro rfl ?_ | rfl | refine And.intro ‹_› ?_ | refine cTe ‹_› ?_ | refine cFe ‹_› ?_ | refine cN (cTe ‹_› ?_) | refine cN (cFe ‹_› ?_) | refine cTe rfl ?_ | refine cEq ‹_› ?_ | refine cTt ?_ | refine cNt ?_ | refine cF (Eq.refl false) ?_ | refine cN (cF (Eq.refl false) ?_) | refine cTd (by omega) ?_ | refine cFd (by omega) ?_ | refine cN (cTd (by omega) ?_) | refine cN (cFd (by omega) ?_) | refine And.intro (fun hh : Option.isSome none = true => by cases hh) ?_ | refine And.intro (by omega) ?_ | refine And.intro (Eq.refl true) ?_ | refine And.intro (Eq.refl (1 : Nat)) ?_)
      (conv => whnf)
      exact ⟨_, Subs.refl' _, i + 1, ⟨by omega, zsRI (by rw [e1]; omega) ls.symm (by omega)⟩, by show m - (i + 1) < m - i; omega⟩
  · obtain rfl : i = m := by omega
    repeat ((conv => whnf) <;> first | with_reducible first | refine wI (by omega) ?_ | refine wB (by omega) ?_ | refine And.intro rfl ?_ | rfl | refine And.intro ‹_› ?_ | refine cTe ‹_› ?_ | refine cFe ‹_› ?_ | refine cN (cTe ‹_› ?_) | refine cN (cFe ‹_› ?_) | refine cTe rfl ?_ | refine cEq ‹_› ?_ | refine cTt ?_ | refine cNt ?_ | refine cF (Eq.refl false) ?_ | refine cN (cF (Eq.refl false) ?_) | refine cTd (by omega) ?_ | refine cFd (by omega) ?_ | refine cN (cTd (by omega) ?_) | refine cN (cFd (by omega) ?_) | refine And.intro (fun hh : Option.isSome none = true => by cases hh) ?_ | refine And.intro (by omega) ?_ | refine And.intro (Eq.refl true) ?_ | refine And.intro (Eq.refl (1 : Nat)) ?_)
    (conv => whnf)
    exact h
theorem tb_dcolumns_ok : Con Tryz.prog tb_dcolumns.1 tb_dcolumns.2 := con_tree tdC_ok o_dcolumns [.atom (.var 0), .atom (.var 1)] 2 Tryz.func26 rfl c_dcolumns aw_dcolumns g_dcolumns
end Go.Proofs.YtamgmkeoaaaliaaGreat
