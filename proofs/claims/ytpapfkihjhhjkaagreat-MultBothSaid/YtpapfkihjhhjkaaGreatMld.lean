/- Naf -/
import Derived.Test.YtpapfkihjhhjkaaGreatNfp
import Derived.Test.YtpapfkihjhhjkaaGreatMlb
set_option linter.unusedSimpArgs false
set_option linter.unusedVariables false
namespace Go.Proofs.YtpapfkihjhhjkaaGreat
open Go.RowKit FdP FdP.Ch
def tNaf : Trans := fun zs Q => match zs with
  | [.isl .u8 b, .int .i64 w] => (By b ∧ b.length ≤ 64 ∧ w = 5) ∧ (∀ X, X.length = 8 * b.length + 1 → (∀ d ∈ X, dgOK d) → hZ X = nval b → Q (.tup [.isl .i64 X, .int .i64 0]))
  | _ => False
def tAtD : Trans := fun zs Q => match zs with
  | [.isl .i64 X, .int .i64 i] => (0 ≤ i ∧ X.length ≤ 100000) ∧ Q (.int .i64 (X.getD i.toNat 0))
  | _ => False
theorem zsN {X X' : List Int} {o o' i i' : Int} (h1 : X = X') (h2 : o = o') (h3 : i = i') : [AV.ints .i64 X, .int .i64 o, .int .i64 i] = [.ints .i64 X', .int .i64 o', .int .i64 i'] := by rw [h1, h2, h3]
def oddL (p : G) : List G := mtL p (p + p) 8
def tOdd : Trans := fun zs Q => match zs with
  | [.ob (.pt p)] => Q (.sl 24 ((oddL p).map ptA))
  | _ => False
def tPut : Trans := fun zs Q => match zs with
  | [.ob (.pt g), .sl 24 es, .int .i64 d] => ∃ p, es = (oddL p).map ptA ∧ dgOK d ∧ Q (ptA (g + zG d p))
  | _ => False
theorem odd_get (p : G) {k : Nat} (h : k < 8) : (oddL p).getD k 0 = mulG (2 * k + 1) p := by
  unfold oddL
  rw [mtL_get _ _ _ _ h, mulG_sum, ← mulG_add, G.comm, show mulG (2 * k + 1) p = mulG (k + k) p + mulG 1 p from by rw [← mulG_add]; congr 1; omega, mulG_one]
theorem odd_pos (p : G) {d : Int} (h : dgOK d) (h0 : d > 0) : (d / 2).toNat < (oddL p).length ∧ (oddL p).getD (d / 2).toNat 0 = zG d p := by
  have hd : d % 2 = 1 ∧ d < 16 := by rcases h with h | h <;> omega
  have hl : (oddL p).length = 8 := mtL_len _ _ _
  refine ⟨by omega, ?_⟩
  rw [odd_get p (by omega)]
  unfold zG
  rw [if_pos (by omega)]
  congr 1; omega
theorem odd_neg (p : G) {d : Int} (h : dgOK d) (h0 : d < 0) : ((0 - d) / 2).toNat < (oddL p).length ∧ -(oddL p).getD ((0 - d) / 2).toNat 0 = zG d p := by
  have hd : d % 2 = 1 ∧ -16 < d := by rcases h with h | h <;> omega
  have hl : (oddL p).length = 8 := mtL_len _ _ _
  refine ⟨by omega, ?_⟩
  rw [odd_get p (by omega)]
  unfold zG
  rw [if_neg (by omega)]
  congr 2; omega
theorem pts_getN {gs : List G} {k : Nat} (h : k < gs.length) : (gs.map ptA).getD k .any = ptA (gs.getD k 0) := by
  rw [List.getD_eq_getElem?_getD]; exact congrArg (fun o => Option.getD o AV.any) (pts_get h)
def tmF : Tab := tb_rdbit :: tb_dcheck :: []
theorem tmF_ok : tmF.OK Tryz.prog := tab_cons tb_rdbit_ok <| tab_cons tb_dcheck_ok <| tab_nil _
def o_naf : Orc := { ans := [(15, oV), (17, oB), (20, oV), (22, oV), (23, oV), (24, oV), (25, oV), (28, oV), (29, oB), (32, oV), (34, oV), (35, oV), (36, oB), (38, oV), (42, oV), (44, oV), (47, oV), (48, oV), (54, oV), (55, oV), (56, oV), (59, oV)], lps := [(0, [.cont 8 3 1, .slot 9 [.one], .slot 10 [.one]])], rws := [25], inl := [(20, { ans := [], lps := [] }), (42, { ans := [(13, oB), (20, oV), (21, oV), (22, oV), (24, oV), (25, oV), (26, oV)], lps := [(0, [.stay 6 8 3 1, .slot 9 [.one], .slot 12 [.one]])] })] }
def t_naf : Tree :=
 .new <|
 .call 73 [.atom (.var 0), .atom (.const (.int .i64 2)), .atom (.slc 0 0 1 1)] ([([.one (.var 1)], 3)], []) (qv 2) 1 [] <|
 .calc2 (.binOp .neq 38 (.tmp 16) (.const (.int .i64 0)) 38) 4 [(16, qv 2)] ([], []) qT 0 (
 .ret ([], []) (.tup [.atom (.const (.slice none 0 0)), .atom (.var 2)])) qF 0 <|
 .new <|
 .calc (.call { callee := .builtin .len, args := #[.tmp 21], argTypes := #[22] }) 3 [(21, qv 0)] ([], []) (qv 3) 1 <|
 .calc (.binOp .mul 3 (.const (.int .i64 8)) (.tmp 22) 3) 3 [(22, qv 3)] ([], []) (qv 4) 1 <|
 .calc (.binOp .add 3 (.tmp 23) (.const (.int .i64 1)) 3) 3 [(23, qv 4)] ([], []) (qv 5) 1 <|
 .mkx 5 [.int .i64 0] <|
 .loop [.agg [.rest 7], .atom (.const (.int .i64 0)), .atom (.const (.int .i64 0))] [.row, .one, .one] <|
 .calc (.call { callee := .builtin .len, args := #[.tmp 27], argTypes := #[80] }) 3 [(27, qv 6)] ([([.one (.var 1)], 3), ([.one (.var 0)], 22)], [⟨6, 8, 3, 1⟩]) (qv 11) 1 <|
 .calc2 (.binOp .lss 3 (.tmp 26) (.tmp 28) 3) 4 [(26, qv 10), (28, qv 11)] ([], []) qT 0 (
 .call 101 [.atom (.var 10), .atom (.ptr 1 0)] ([([.one (.var 1)], 3), ([.one (.var 0)], 22)], [⟨6, 8, 3, 1⟩]) (qv 12) 1 [] <|
 .calc (.binOp .add 3 (.tmp 32) (.tmp 33) 3) 3 [(32, qv 12), (33, qv 9)] ([], []) (qv 13) 1 <|
 .calc (.binOp .and 3 (.tmp 34) (.const (.int .i64 1)) 3) 3 [(34, qv 13)] ([], []) (qv 14) 1 <|
 .calc2 (.binOp .eql 3 (.tmp 35) (.const (.int .i64 0)) 3) 4 [(35, qv 14)] ([], []) qT 0 (
 .calc (.binOp .add 3 (.tmp 37) (.const (.int .i64 1)) 3) 3 [(37, qv 10)] ([], []) (qv 15) 1 <|
 .again 0 [.agg [.rest 8], .atom (.var 9), .atom (.var 15)]) qF 0 <|
 .loop [.atom (.const (.int .i64 0)), .atom (.const (.int .i64 0))] [.one, .one] <|
 .calc2 (.binOp .lss 3 (.tmp 12) (.tmp 11) 3) 4 [(12, qv 16), (11, qv 1)] ([], []) qT 0 (
 .calc (.binOp .mul 3 (.tmp 18) (.tmp 19) 3) 3 [(18, qv 16), (19, .leaf (.atom (.const (.int .i64 1))))] ([], []) (qv 17) 1 <|
 .calc (.binOp .add 3 (.tmp 17) (.tmp 20) 3) 3 [(17, qv 10), (20, qv 17)] ([], []) (qv 18) 1 <|
 .call 101 [.atom (.var 18), .atom (.ptr 1 0)] ([([.one (.var 1)], 3), ([.one (.var 0)], 22)], [⟨6, 8, 3, 1⟩]) (qv 19) 1 [] <|
 .calc (.binOp .shl 3 (.tmp 22) (.tmp 23) 3) 3 [(22, qv 19), (23, qv 16)] ([], []) (qv 20) 1 <|
 .calc (.binOp .or 3 (.tmp 15) (.tmp 24) 3) 3 [(15, qv 15), (24, qv 20)] ([], []) (qv 21) 1 <|
 .calc (.binOp .add 3 (.tmp 12) (.const (.int .i64 1)) 3) 3 [(12, qv 16)] ([], []) (qv 22) 1 <|
 .again 1 [.atom (.var 21), .atom (.var 22)]) qF 0 <|
 .calc (.binOp .add 3 (.tmp 42) (.tmp 43) 3) 3 [(42, qv 15), (43, qv 9)] ([], []) (qv 17) 1 <|
 .calc (.binOp .sub 3 (.tmp 46) (.const (.int .i64 1)) 3) 3 [(46, qv 1)] ([], []) (qv 18) 1 <|
 .calc (.binOp .shr 3 (.tmp 45) (.tmp 47) 3) 3 [(45, qv 17), (47, qv 18)] ([], []) (qv 19) 1 <|
 .calc (.binOp .shl 3 (.tmp 52) (.tmp 53) 3) 3 [(52, qv 19), (53, qv 1)] ([], []) (qv 20) 1 <|
 .calc (.binOp .sub 3 (.tmp 51) (.tmp 54) 3) 3 [(51, qv 17), (54, qv 20)] ([], []) (qv 21) 1 <|
 .boundx 10 6 <|
 .sti [.rest 8] 0 10 1 1 [.one (.var 21)] <|
 .calc (.binOp .add 3 (.tmp 57) (.tmp 58) 3) 3 [(57, qv 10), (58, qv 1)] ([], []) (qv 23) 1 <|
 .again 0 [.agg [.rest 22], .atom (.var 19), .atom (.var 23)]) qF 0 <|
 .ret ([([.one (.var 1)], 3), ([.one (.var 0)], 22)], [⟨6, 8, 3, 1⟩]) (.tup [.atom (.var 6), .atom (.const (.int .i64 0))])
theorem c_naf : compF Tryz.prog Tryz.f41 o_naf (Tryz.f41.body.getD .skip) (symIn [.atom (.var 0), .atom (.var 1)] Tryz.f41.ntmps 2) = some t_naf := by kernel_rfl
theorem g_naf : goodC Tryz.prog o_naf.ords (Tryz.f41.body.getD .skip) = true := by kernel_rfl
def tb_naf : FuncId × Trans := (41, tNaf)
set_option maxRecDepth 100000 in
theorem aw_naf : ∀ zs Q, tb_naf.2 zs Q → bindLs 0 [.atom (.var 0), .atom (.var 1)] zs fun ae => bif Nat.beq ae.length 2 then AWp Tryz.prog tmF Q t_naf [] ae else False := by
  intro zs Q h
  replace h : tNaf zs Q := h
  unfold tNaf at h
  split at h
  case h_2 => exact h.elim
  rename_i b w
  obtain ⟨⟨hb, hl, rfl⟩, h⟩ := h
  have hl0 : b.length ≤ 100000 := by omega
  have hN := nval_lt hb
  have h0 := nafI0 (nval b) (8 * b.length)
  have hn : (8 * (b.length : Int) + 1).toNat = 8 * b.length + 1 := by omega
  repeat ((conv => whnf) <;> first | with_reducible first | refine wI (by omega) ?_ | refine wB (by omega) ?_ | refine And.intro rfl ?_ | rfl | refine And.intro ‹_› ?_ | refine cTe ‹_› ?_ | refine cFe ‹_› ?_ | refine cN (cTe ‹_› ?_) | refine cN (cFe ‹_› ?_) | refine cTe rfl ?_ | refine cEq ‹_› ?_ | refine cTt ?_ | refine cNt ?_ | refine cF (Eq.refl false) ?_ | refine cN (cF (Eq.refl false) ?_) | refine cTd (by omega) ?_ | refine cFd (by omega) ?_ | refine cN (cTd (by omega) ?_) | refine cN (cFd (by omega) ?_) | refine And.intro (fun hh : Option.isSome none = true => by cases hh) ?_ | refine And.intro (by omega) ?_ | refine And.intro (Eq.refl true) ?_ | refine And.intro (Eq.refl (1 : Nat)) ?_)
  intro _ _ _
  repeat ((conv => whnf) <;> first | with_reducible first | refine wI (by omega) ?_ | refine wB (by omega) ?_ | refine And.intro rfl ?_ | rfl | refine And.intro ‹_› ?_ | refine cTe ‹_› ?_ | refine cFe ‹_› ?_ | refine cN (cTe ‹_› ?_) | refine cN (cFe ‹_› ?_) | refine cTe rfl ?_ | refine cEq ‹_› ?_ | refine cTt ?_ | refine cNt ?_ | refine cF (Eq.refl false) ?_ | refine cN (cF (Eq.refl false) ?_) | refine cTd (by omega) ?_ | refine cFd (by omega) ?_ | refine cN (cTd (by omega) ?_) | refine cN (cFd (by omega) ?_) | refine And.intro (fun hh : Option.isSome none = true => by cases hh) ?_ | refine And.intro (by omega) ?_ | refine And.intro (Eq.refl true) ?_ | refine And.intro (Eq.refl (1 : Nat)) ?_)
  refine ⟨Nat, fun i zs => ∃ o X, i ≤ 8 * b.length + 5 ∧ NafI (nval b) (8 * b.length) i o X ∧ zs = [.ints .i64 X, .int .i64 o, .int .i64 (i : Int)], fun i => 8 * b.length + 6 - i, 0, ?_, ?_⟩
  · (conv => whnf)
    exact ⟨_, Subs.refl' _, _, _, Nat.zero_le _, h0, zsN (by rw [hn]) rfl rfl⟩
  rintro i _ ⟨o, X, hi, hI, rfl⟩
  by_cases hlt : i ≤ 8 * b.length
  · have ho := hI.2.2.1
    have hXl : X.length = 8 * b.length + 1 := hI.1
    have hbd : By b ∧ b.length ≤ 100 ∧ 0 ≤ (i : Int) ∧ (i : Int) ≤ 100000 := ⟨hb, by omega, by omega, by omega⟩
    have hA := naf_and (x := ((nval b / 2 ^ (i : Int).toNat % 2 : Nat) : Int) + o) (by omega)
    by_cases he : bits .and .i64 (((nval b / 2 ^ (i : Int).toNat % 2 : Nat) : Int) + o) 1 = 0
    · have hE := nafE hN hI hlt (by rw [hA] at he; exact he)
      repeat ((conv => whnf) <;> first | with_reducible first | refine wI (by omega) ?_ | refine wB (by omega) ?_ | refine And.intro rfl ?_ | rfl | refine And.intro ‹_› ?_ | refine cTe ‹_› ?_ | refine cFe ‹_› ?_ | refine cN (cTe ‹_› ?_) | refine cN (cFe ‹_› ?_) | refine cTe rfl ?_ | refine cEq ‹_› ?_ | refine cTt ?_ | refine cNt ?_ | refine cF (Eq.refl false) ?_ | refine cN (cF (Eq.refl false) ?_) | refine cTd (by omega) ?_ | refine cFd (by omega) ?_ | refine cN (cTd (by omega) ?_) | refine cN (cFd (by omega) ?_) | refine And.intro (fun hh : Option.isSome none = true => by cases hh) ?_ | refine And.intro (by omega) ?_ | refine And.intro (Eq.refl true) ?_ | refine And.intro (Eq.refl (1 : Nat)) ?_)
      (conv => whnf)
      exact ⟨_, Subs.refl' _, i + 1, ⟨_, _, by omega, hE, zsN rfl rfl (by omega)⟩, by show 8 * b.length + 6 - (i + 1) < 8 * b.length + 6 - i; omega⟩
    · obtain ⟨o', d, e1, e2, e3, e4, e5, e6⟩ := naf_dig hN hlt ho (by rw [hA] at he; exact he)
      have hO := nafO hI hlt e3 e4 e5 e6
      repeat ((conv => whnf) <;> first | with_reducible first | refine wI (by omega) ?_ | refine wB (by omega) ?_ | refine And.intro rfl ?_ | rfl | refine And.intro ‹_› ?_ | refine cTe ‹_› ?_ | refine cFe ‹_› ?_ | refine cN (cTe ‹_› ?_) | refine cN (cFe ‹_› ?_) | refine cTe rfl ?_ | refine cEq ‹_› ?_ | refine cTt ?_ | refine cNt ?_ | refine cF (Eq.refl false) ?_ | refine cN (cF (Eq.refl false) ?_) | refine cTd (by omega) ?_ | refine cFd (by omega) ?_ | refine cN (cTd (by omega) ?_) | refine cN (cFd (by omega) ?_) | refine And.intro (fun hh : Option.isSome none = true => by cases hh) ?_ | refine And.intro (by omega) ?_ | refine And.intro (Eq.refl true) ?_ | refine And.intro (Eq.refl (1 : Nat)) ?_)
      refine ⟨Nat, fun k zs => k ≤ 5 ∧ zs = [.int .i64 (winN (nval b) i 1 k : Nat), .int .i64 (k : Int)], fun k => 5 - k, 0, ?_, ?_⟩
      · (conv => whnf)
        exact ⟨_, Subs.refl' _, Nat.zero_le _, rfl⟩
      rintro k _ ⟨hk, rfl⟩
      by_cases hlk : k < 5
      · have hbk : By b ∧ b.length ≤ 100 ∧ 0 ≤ (i : Int) + (k : Int) * 1 ∧ (i : Int) + (k : Int) * 1 ≤ 100000 := ⟨hb, by omega, by omega, by omega⟩
        have hw := win_i64 (N := nval b) (fr := i) (st := 1) (k := k) (b := ((nval b / 2 ^ ((i : Int) + (k : Int) * 1).toNat % 2 : Nat) : Int)) (by omega) (by congr 4 <;> omega)
        repeat ((conv => whnf) <;> first | with_reducible first | refine wI (by omega) ?_ | refine wB (by omega) ?_ | refine And.intro rfl ?_ | rfl | refine And.intro ‹_› ?_ | refine cTe ‹_› ?_ | refine cFe ‹_› ?_ | refine cN (cTe ‹_› ?_) | refine cN (cFe ‹_› ?_) | refine cTe rfl ?_ | refine cEq ‹_› ?_ | refine cTt ?_ | refine cNt ?_ | refine cF (Eq.refl false) ?_ | refine cN (cF (Eq.refl false) ?_) | refine cTd (by omega) ?_ | refine cFd (by omega) ?_ | refine cN (cTd (by omega) ?_) | refine cN (cFd (by omega) ?_) | refine And.intro (fun hh : Option.isSome none = true => by cases hh) ?_ | refine And.intro (by omega) ?_ | refine And.intro (Eq.refl true) ?_ | refine And.intro (Eq.refl (1 : Nat)) ?_)
        (conv => whnf)
        exact ⟨_, Subs.refl' _, k + 1, ⟨by omega, zsI2 hw (by omega)⟩, by show 5 - (k + 1) < 5 - k; omega⟩
      · obtain rfl : k = 5 := by omega
        have hwl : winN (nval b) i 1 5 < 32 := winN_lt (nval b) i 1 5
        have k0 : 0 + (i : Int).toNat * 1 = i := by omega
        have e2' := e2
        rw [← e1] at e2'
        have f1 : -16 < d ∧ d < 16 := by rcases e4 with h | h <;> omega
        repeat ((conv => whnf) <;> first | with_reducible first | refine wI (by omega) ?_ | refine wB (by omega) ?_ | refine And.intro rfl ?_ | rfl | refine And.intro ‹_› ?_ | refine cTe ‹_› ?_ | refine cFe ‹_› ?_ | refine cN (cTe ‹_› ?_) | refine cN (cFe ‹_› ?_) | refine cTe rfl ?_ | refine cEq ‹_› ?_ | refine cTt ?_ | refine cNt ?_ | refine cF (Eq.refl false) ?_ | refine cN (cF (Eq.refl false) ?_) | refine cTd (by omega) ?_ | refine cFd (by omega) ?_ | refine cN (cTd (by omega) ?_) | refine cN (cFd (by omega) ?_) | refine And.intro (fun hh : Option.isSome none = true => by cases hh) ?_ | refine And.intro (by omega) ?_ | refine And.intro (Eq.refl true) ?_ | refine And.intro (Eq.refl (1 : Nat)) ?_)
        (conv => whnf)
        exact ⟨_, Subs.refl' _, i + 5, ⟨_, _, by omega, hO, zsN (by rw [k0, e2']) e1 (by omega)⟩, by show 8 * b.length + 6 - (i + 5) < 8 * b.length + 6 - i; omega⟩
  · obtain ⟨c1, c2, c3⟩ := nafZ hN hI hlt
    have h := h X c1 c2 c3
    repeat ((conv => whnf) <;> first | with_reducible first | refine wI (by omega) ?_ | refine wB (by omega) ?_ | refine And.intro rfl ?_ | rfl | refine And.intro ‹_› ?_ | refine cTe ‹_› ?_ | refine cFe ‹_› ?_ | refine cN (cTe ‹_› ?_) | refine cN (cFe ‹_› ?_) | refine cTe rfl ?_ | refine cEq ‹_› ?_ | refine cTt ?_ | refine cNt ?_ | refine cF (Eq.refl false) ?_ | refine cN (cF (Eq.refl false) ?_) | refine cTd (by omega) ?_ | refine cFd (by omega) ?_ | refine cN (cTd (by omega) ?_) | refine cN (cFd (by omega) ?_) | refine And.intro (fun hh : Option.isSome none = true => by cases hh) ?_ | refine And.intro (by omega) ?_ | refine And.intro (Eq.refl true) ?_ | refine And.intro (Eq.refl (1 : Nat)) ?_)
    (conv => whnf)
    exact h
theorem tb_naf_ok : Con Tryz.prog tb_naf.1 tb_naf.2 := con_tree tmF_ok o_naf [.atom (.var 0), .atom (.var 1)] 2 Tryz.func41 rfl c_naf aw_naf g_naf
def o_atd : Orc := { ans := [(7, oV), (8, oB), (11, oV), (12, oV)], lps := [] }
def t_atd : Tree :=
 .calc (.call { callee := .builtin .len, args := #[.tmp 6], argTypes := #[80] }) 3 [(6, qv 0)] ([], []) (qv 2) 1 <|
 .calc2 (.binOp .geq 3 (.tmp 5) (.tmp 7) 3) 4 [(5, qv 1), (7, qv 2)] ([], []) qT 0 (
 .ret ([], []) (.leaf (.atom (.const (.int .i64 0))))) qF 0 <|
 .calc (.indexAddr 80 (.tmp 9) (.tmp 10)) 0 [(9, qv 0), (10, qv 1)] ([], []) (qv 3) 1 <|
 .calc (.load 3 (.tmp 11)) 3 [(11, qv 3)] ([], []) (qv 4) 1 <|
 .ret ([], []) (qv 4)
theorem c_atd : compF Tryz.prog Tryz.f44 o_atd (Tryz.f44.body.getD .skip) (symIn [.atom (.var 0), .atom (.var 1)] Tryz.f44.ntmps 2) = some t_atd := by kernel_rfl
theorem g_atd : goodC Tryz.prog o_atd.ords (Tryz.f44.body.getD .skip) = true := by kernel_rfl
def tb_atd : FuncId × Trans := (44, tAtD)
set_option maxRecDepth 100000 in
theorem aw_atd : ∀ zs Q, tb_atd.2 zs Q → bindLs 0 [.atom (.var 0), .atom (.var 1)] zs fun ae => bif Nat.beq ae.length 2 then AWp Tryz.prog tmNil Q t_atd [] ae else False := by
  intro zs Q h
  replace h : tAtD zs Q := h
  unfold tAtD at h
  split at h
  case h_2 => exact h.elim
  rename_i X i
  obtain ⟨⟨h0, hl⟩, h⟩ := h
  by_cases a1 : i ≥ (X.length : Int)
  · rw [show X.getD i.toNat 0 = 0 by rw [List.getD_eq_getElem?_getD, List.getElem?_eq_none (by omega)]; rfl] at h
    repeat ((conv => whnf) <;> first | with_reducible first | refine wI (by omega) ?_ | refine And.intro rfl ?_ | rfl | refine And.intro ‹_› ?_ | refine cTe ‹_› ?_ | refine cFe ‹_› ?_ | refine cN (cTe ‹_› ?_) | refine cN (cFe ‹_› ?_) | refine cTe rfl ?_ | refine cEq ‹_› ?_ | refine cTt ?_ | refine cNt ?_ | refine cF (Eq.refl false) ?_ | refine cN (cF (Eq.refl false) ?_) | refine cTd (by omega) ?_ | refine cFd (by omega) ?_ | refine cN (cTd (by omega) ?_) | refine cN (cFd (by omega) ?_) | refine And.intro (by omega) ?_ | refine And.intro (Eq.refl true) ?_)
    (conv => whnf)
    exact h
  repeat ((conv => whnf) <;> first | with_reducible first | refine wI (by omega) ?_ | refine And.intro rfl ?_ | rfl | refine And.intro ‹_› ?_ | refine cTe ‹_› ?_ | refine cFe ‹_› ?_ | refine cN (cTe ‹_› ?_) | refine cN (cFe ‹_› ?_) | refine cTe rfl ?_ | refine cEq ‹_› ?_ | refine cTt ?_ | refine cNt ?_ | refine cF (Eq.refl false) ?_ | refine cN (cF (Eq.refl false) ?_) | refine cTd (by omega) ?_ | refine cFd (by omega) ?_ | refine cN (cTd (by omega) ?_) | refine cN (cFd (by omega) ?_) | refine And.intro (by omega) ?_ | refine And.intro (Eq.refl true) ?_)
  (conv => whnf)
  exact h
theorem tb_atd_ok : Con Tryz.prog tb_atd.1 tb_atd.2 := con_tree tmNil_ok o_atd [.atom (.var 0), .atom (.var 1)] 2 Tryz.func44 rfl c_atd aw_atd g_atd
def tmG : Tab := tb_pdbl :: tb_multiples :: []
theorem tmG_ok : tmG.OK Tryz.prog := tab_cons tb_pdbl_ok <| tab_cons tb_multiples_ok <| tab_nil _
def o_oddm : Orc := { ans := [(3, oA 24), (4, oA 24), (5, oA 24), (6, oV)], lps := [], ords := [(1, [.quiet 0, .quiet 1, .call 2 [], .call 3 [], .pure 4])] }
def t_oddm : Tree :=
 .new <|
 .call 27 [.agg [.whole 0 24]] ([], []) (.leaf (.agg [.whole 1 24])) 1 [] <|
 .call 61 [.agg [.whole 0 24], .agg [.whole 1 24], .atom (.const (.int .i64 8))] ([], []) (qv 2) 1 [] <|
 .ret ([], []) (qv 2)
theorem c_oddm : compF Tryz.prog Tryz.f42 o_oddm (Tryz.f42.body.getD .skip) (symIn [.agg [.whole 0 24]] Tryz.f42.ntmps 1) = some t_oddm := by kernel_rfl
theorem g_oddm : goodC Tryz.prog o_oddm.ords (Tryz.f42.body.getD .skip) = true := by kernel_rfl
def tb_oddm : FuncId × Trans := (42, tOdd)
set_option maxRecDepth 100000 in
theorem aw_oddm : ∀ zs Q, tb_oddm.2 zs Q → bindLs 0 [.agg [.whole 0 24]] zs fun ae => bif Nat.beq ae.length 1 then AWp Tryz.prog tmG Q t_oddm [] ae else False := by
  intro zs Q h
  replace h : tOdd zs Q := h
  unfold tOdd at h
  split at h
  case h_2 => exact h.elim
  rename_i p
  repeat ((conv => whnf) <;> first | with_reducible first | refine wI (by omega) ?_ | refine And.intro rfl ?_ | rfl | refine And.intro ‹_› ?_ | refine cTe ‹_› ?_ | refine cFe ‹_› ?_ | refine cN (cTe ‹_› ?_) | refine cN (cFe ‹_› ?_) | refine cTe rfl ?_ | refine cEq ‹_› ?_ | refine cTt ?_ | refine cNt ?_ | refine cF (Eq.refl false) ?_ | refine cN (cF (Eq.refl false) ?_) | refine cTd (by omega) ?_ | refine cFd (by omega) ?_ | refine cN (cTd (by omega) ?_) | refine cN (cFd (by omega) ?_) | refine And.intro (by omega) ?_ | refine And.intro (Eq.refl true) ?_)
  (conv => whnf)
  exact h
theorem tb_oddm_ok : Con Tryz.prog tb_oddm.1 tb_oddm.2 := con_tree tmG_ok o_oddm [.agg [.whole 0 24]] 1 Tryz.func42 rfl c_oddm aw_oddm g_oddm
def tmH : Tab := tb_padd :: tb_pneg :: []
theorem tmH_ok : tmH.OK Tryz.prog := tab_cons tb_padd_ok <| tab_cons tb_pneg_ok <| tab_nil _
def o_putm : Orc := { ans := [(9, oB), (10, oA 24), (13, oV), (14, oV), (15, oA 24), (16, oA 24), (19, oB), (20, oA 24), (23, oV), (24, oV), (25, oV), (26, oA 24), (27, oA 24), (28, oA 24), (29, oA 24)], lps := [], ords := [(2, [.quiet 0, .pure 1, .pure 2, .quiet 3, .quiet 4, .quiet 5, .call 6 [], .last 7]), (4, [.quiet 0, .pure 1, .pure 2, .quiet 3, .quiet 4, .quiet 5, .quiet 6, .call 7 [], .call 8 [], .last 9])] }
def t_putm : Tree :=
 .new <|
 .new <|
 .calc2 (.binOp .gtr 3 (.tmp 8) (.const (.int .i64 0)) 3) 4 [(8, qv 2)] ([], []) qT 0 (
 .calc (.binOp .quo 3 (.tmp 12) (.const (.int .i64 2)) 3) 3 [(12, qv 2)] ([], []) (qv 3) 1 <|
 .calc (.indexAddr 83 (.tmp 11) (.tmp 13)) 0 [(11, qv 1), (13, qv 3)] ([], []) (qv 4) 1 <|
 .calc (.load 30 (.tmp 14)) 30 [(14, qv 4)] ([], []) (.leaf (.agg [.whole 5 24])) 1 <|
 .call 26 [.agg [.whole 0 24], .agg [.whole 5 24]] ([], []) (.leaf (.agg [.whole 6 24])) 1 [] <|
 .ret ([], []) (.leaf (.agg [.whole 6 24]))) qF 0 <|
 .calc2 (.binOp .lss 3 (.tmp 18) (.const (.int .i64 0)) 3) 4 [(18, qv 2)] ([], []) qT 0 (
 .calc (.unOp .neg 3 (.tmp 22)) 3 [(22, qv 2)] ([], []) (qv 3) 1 <|
 .calc (.binOp .quo 3 (.tmp 23) (.const (.int .i64 2)) 3) 3 [(23, qv 3)] ([], []) (qv 4) 1 <|
 .calc (.indexAddr 83 (.tmp 21) (.tmp 24)) 0 [(21, qv 1), (24, qv 4)] ([], []) (qv 5) 1 <|
 .calc (.load 30 (.tmp 25)) 30 [(25, qv 5)] ([], []) (.leaf (.agg [.whole 6 24])) 1 <|
 .call 28 [.agg [.whole 6 24]] ([], []) (.leaf (.agg [.whole 7 24])) 1 [] <|
 .call 26 [.agg [.whole 0 24], .agg [.whole 7 24]] ([], []) (.leaf (.agg [.whole 8 24])) 1 [] <|
 .ret ([], []) (.leaf (.agg [.whole 8 24]))) qF 0 <|
 .ret ([], []) (.leaf (.agg [.whole 0 24]))
theorem c_putm : compF Tryz.prog Tryz.f43 o_putm (Tryz.f43.body.getD .skip) (symIn [.agg [.whole 0 24], .atom (.var 1), .atom (.var 2)] Tryz.f43.ntmps 3) = some t_putm := by kernel_rfl
theorem g_putm : goodC Tryz.prog o_putm.ords (Tryz.f43.body.getD .skip) = true := by kernel_rfl
def tb_putm : FuncId × Trans := (43, tPut)
set_option maxRecDepth 100000 in
theorem aw_putm : ∀ zs Q, tb_putm.2 zs Q → bindLs 0 [.agg [.whole 0 24], .atom (.var 1), .atom (.var 2)] zs fun ae => bif Nat.beq ae.length 3 then AWp Tryz.prog tmH Q t_putm [] ae else False := by
  intro zs Q h
  replace h : tPut zs Q := h
  unfold tPut at h
  split at h
  case h_2 => exact h.elim
  rename_i g es d
  obtain ⟨p, rfl, hd, h⟩ := h
  have hll : ((oddL p).map ptA).length = 8 := by rw [List.length_map]; exact mtL_len _ _ _
  have hdd : -16 < d ∧ d < 16 := by rcases hd with h | h <;> omega
  by_cases a1 : d > 0
  · obtain ⟨q1, q2⟩ := odd_pos p hd a1
    have hg := pts_getN q1
    repeat ((conv => whnf) <;> first | with_reducible first | refine wI (by omega) ?_ | refine wQ (by omega) ?_ | refine And.intro rfl ?_ | rfl | refine And.intro ‹_› ?_ | refine cTe ‹_› ?_ | refine cFe ‹_› ?_ | refine cN (cTe ‹_› ?_) | refine cN (cFe ‹_› ?_) | refine cTe rfl ?_ | refine cEq ‹_› ?_ | refine cTt ?_ | refine cNt ?_ | refine cF (Eq.refl false) ?_ | refine cN (cF (Eq.refl false) ?_) | refine cTd (by omega) ?_ | refine cFd (by omega) ?_ | refine cN (cTd (by omega) ?_) | refine cN (cFd (by omega) ?_) | refine And.intro (by omega) ?_ | refine And.intro (Eq.refl true) ?_)
    refine ⟨_, hg, ?_⟩
    repeat ((conv => whnf) <;> first | with_reducible first | refine wI (by omega) ?_ | refine wQ (by omega) ?_ | refine And.intro rfl ?_ | rfl | refine And.intro ‹_› ?_ | refine cTe ‹_› ?_ | refine cFe ‹_› ?_ | refine cN (cTe ‹_› ?_) | refine cN (cFe ‹_› ?_) | refine cTe rfl ?_ | refine cEq ‹_› ?_ | refine cTt ?_ | refine cNt ?_ | refine cF (Eq.refl false) ?_ | refine cN (cF (Eq.refl false) ?_) | refine cTd (by omega) ?_ | refine cFd (by omega) ?_ | refine cN (cTd (by omega) ?_) | refine cN (cFd (by omega) ?_) | refine And.intro (by omega) ?_ | refine And.intro (Eq.refl true) ?_)
    (conv => whnf)
    rw [← q2] at h
    exact h
  by_cases a2 : d < 0
  · obtain ⟨q1, q2⟩ := odd_neg p hd a2
    have hg := pts_getN q1
    repeat ((conv => whnf) <;> first | with_reducible first | refine wI (by omega) ?_ | refine wQ (by omega) ?_ | refine And.intro rfl ?_ | rfl | refine And.intro ‹_› ?_ | refine cTe ‹_› ?_ | refine cFe ‹_› ?_ | refine cN (cTe ‹_› ?_) | refine cN (cFe ‹_› ?_) | refine cTe rfl ?_ | refine cEq ‹_› ?_ | refine cTt ?_ | refine cNt ?_ | refine cF (Eq.refl false) ?_ | refine cN (cF (Eq.refl false) ?_) | refine cTd (by omega) ?_ | refine cFd (by omega) ?_ | refine cN (cTd (by omega) ?_) | refine cN (cFd (by omega) ?_) | refine And.intro (by omega) ?_ | refine And.intro (Eq.refl true) ?_)
    refine ⟨_, hg, ?_⟩
    repeat ((conv => whnf) <;> first | with_reducible first | refine wI (by omega) ?_ | refine wQ (by omega) ?_ | refine And.intro rfl ?_ | rfl | refine And.intro ‹_› ?_ | refine cTe ‹_› ?_ | refine cFe ‹_› ?_ | refine cN (cTe ‹_› ?_) | refine cN (cFe ‹_› ?_) | refine cTe rfl ?_ | refine cEq ‹_› ?_ | refine cTt ?_ | refine cNt ?_ | refine cF (Eq.refl false) ?_ | refine cN (cF (Eq.refl false) ?_) | refine cTd (by omega) ?_ | refine cFd (by omega) ?_ | refine cN (cTd (by omega) ?_) | refine cN (cFd (by omega) ?_) | refine And.intro (by omega) ?_ | refine And.intro (Eq.refl true) ?_)
    (conv => whnf)
    rw [← q2] at h
    exact h
  obtain rfl : d = 0 := by omega
  rw [zG_zero, G.add_zero] at h
  repeat ((conv => whnf) <;> first | with_reducible first | refine wI (by omega) ?_ | refine wQ (by omega) ?_ | refine And.intro rfl ?_ | rfl | refine And.intro ‹_› ?_ | refine cTe ‹_› ?_ | refine cFe ‹_› ?_ | refine cN (cTe ‹_› ?_) | refine cN (cFe ‹_› ?_) | refine cTe rfl ?_ | refine cEq ‹_› ?_ | refine cTt ?_ | refine cNt ?_ | refine cF (Eq.refl false) ?_ | refine cN (cF (Eq.refl false) ?_) | refine cTd (by omega) ?_ | refine cFd (by omega) ?_ | refine cN (cTd (by omega) ?_) | refine cN (cFd (by omega) ?_) | refine And.intro (by omega) ?_ | refine And.intro (Eq.refl true) ?_)
  (conv => whnf)
  exact h
theorem tb_putm_ok : Con Tryz.prog tb_putm.1 tb_putm.2 := con_tree tmH_ok o_putm [.agg [.whole 0 24], .atom (.var 1), .atom (.var 2)] 3 Tryz.func43 rfl c_putm aw_putm g_putm
end Go.Proofs.YtpapfkihjhhjkaaGreat
