/- Numbers in words -/
import Derived.Test.YtohjkkmgcibemaaNwq
import Derived.Test.YtohjkkmgcibemaaVr
set_option linter.unusedSimpArgs false
set_option linter.unusedVariables false
namespace Go.Proofs.Ytohjkkmgcibemaa
open Go.RowKit FdP FdP.Ch
theorem wU {e : Int} {K : Int → Prop} (h : 0 ≤ e ∧ e < 18446744073709551616) (k : K e) : ∀ r q : Int, r = e + q * 18446744073709551616 → 0 ≤ r → r < 18446744073709551616 → K r := by
 intro r q hr h1 h2
 obtain rfl : r = e := by omega
 exact k
theorem add64_ext (x y c : Int) (hx : 0 ≤ x) (hy : 0 ≤ y) (hc0 : 0 ≤ c) (hc : c ≤ 1) : ExtOK Try.prog 65 [.int .u64 x, .int .u64 y, .int .u64 c] (.tup [.int .u64 ((x + y + c) % 18446744073709551616), .int .u64 ((x + y + c) / 18446744073709551616)]) := by
 rintro β vals ⟨v0, u0, rfl, r0, v1, u1, rfl, r1, v2, u2, rfl, r2, rfl⟩
 obtain rfl := r0.int_inv
 obtain rfl := r1.int_inv
 obtain rfl := r2.int_inv
 exact ⟨_, ⟨_, rfl, _, _, rfl, valR0.mk1 rfl rfl, _, _, rfl, valR0.mk1 rfl rfl, rfl⟩, fun W => add64_call x y c hx hy hc0 hc W⟩
def tAtW : Trans := fun zs Q => match zs with
 | [.isl .u64 l, .int .i64 i] => l.length ≤ 1000000 ∧ Q (.int .u64 (atW l i))
 | _ => False
def tCutW : Trans := fun zs Q => match zs with
 | [.isl .u64 l] => (W64 l ∧ l.length ≤ 1000000) ∧ Q (.isl .u64 (wdN (nW l)))
 | _ => False
def tLen64 : Trans := fun zs Q => match zs with
 | [.int .u64 x] => (0 < x ∧ x < 18446744073709551616) ∧ ∀ k : Nat, 0 < k → k ≤ 64 → x.toNat < 2 ^ k → 2 ^ (k - 1) ≤ x.toNat → Q (.int .i64 (k : Int))
 | _ => False
def tLenW : Trans := fun zs Q => match zs with
 | [.isl .u64 l] => (W64 l ∧ l.length ≤ 1000000) ∧ ∀ k : Nat, k ≤ 64 * l.length → nW l < 2 ^ k → (k = 0 ∨ 2 ^ (k - 1) ≤ nW l) → Q (.int .i64 (k : Int))
 | _ => False
def tBytesW : Trans := fun zs Q => match zs with
 | [.isl .u64 l, .int .i64 n] => (W64 l ∧ l.length ≤ 10000 ∧ 0 ≤ n ∧ n ≤ 65536 ∧ nW l < 256 ^ n.toNat) ∧ Q (.tup [.isl .u8 (digB (nW l) n.toNat), .int .i64 0])
 | _ => False
def tAddW : Trans := fun zs Q => match zs with
 | [.isl .u64 a, .isl .u64 b] => (W64 a ∧ W64 b ∧ a.length ≤ 10000 ∧ b.length ≤ 10000) ∧ Q (.isl .u64 (wdN (nW a + nW b)))
 | _ => False
def tMulW : Trans := fun zs Q => match zs with
 | [.isl .u64 a, .isl .u64 b] => (W64 a ∧ W64 b ∧ a.length ≤ 10000 ∧ b.length ≤ 10000) ∧ Q (.isl .u64 (wdN (nW a * nW b)))
 | _ => False
def tOfW : Trans := fun zs Q => match zs with
 | [.isl .u8 b] => (By b ∧ b.length ≤ 100000) ∧ Q (.isl .u64 (wdN (nval b)))
 | _ => False
def tWordsE : Trans := fun zs Q => match zs with
 | [.isl .u64 a, .isl .u64 b] => (a = b ∧ a.length ≤ 100000) ∧ Q (.bool true)
 | _ => False
def tMul64 : Trans := fun zs Q => match zs with
 | [.int .u64 x, .int .u64 y] => ((0 ≤ x ∧ x < 18446744073709551616) ∧ 0 ≤ y ∧ y < 18446744073709551616) ∧ Q (.tup [.int .u64 (x * y / 18446744073709551616), .int .u64 (x * y % 18446744073709551616)])
 | _ => False
def tb_mul64 : FuncId × Trans := (67, tMul64)
theorem tb_mul64_ok : Con Try.prog tb_mul64.1 tb_mul64.2 := by
 intro w x vals zs Q hx hv hg
 replace hg : tMul64 zs Q := hg
 unfold tMul64 at hg
 split at hg
 ·obtain ⟨v0, u0, rfl, r0, v1, u1, rfl, r1, rfl⟩ := hv
  obtain rfl := r0.int_inv
  obtain rfl := r1.int_inv
  rename_i x0 y0
  obtain ⟨⟨h1, h2⟩, hq⟩ := hg
  exact (mul64_any _ _ h1.1 h1.2 h2.1 h2.2 w).mono fun e w' ⟨he, hF⟩ => OutA.mk (a := .tup [.int .u64 (x0 * y0 / 18446744073709551616), .int .u64 (x0 * y0 % 18446744073709551616)]) he ⟨_, rfl, _, _, rfl, valR0.mk1 rfl rfl, _, _, rfl, valR0.mk1 rfl rfl, rfl⟩ hq hF
 ·exact hg.elim
theorem zsW1 {l l' : List Int} (h : l = l') : [AV.isl .u64 l] = [.isl .u64 l'] := by rw [h]
theorem zsAdd {l l' : List Int} {c c' i i' : Int} (hl : l = l') (hc : c = c') (hi : i = i') : [AV.ints .u64 l, .int .u64 c, .int .i64 i] = [.ints .u64 l', .int .u64 c', .int .i64 i'] := by rw [hl, hc, hi]
theorem zsLi {k : IntKind} {l l' : List Int} {i i' : Int} (hl : l = l') (hi : i = i') : [AV.ints k l, .int .i64 i] = [.ints k l', .int .i64 i'] := by rw [hl, hi]
def twNil : Tab := []
theorem twNil_ok : twNil.OK Try.prog := tab_nil _
def o_atW : Orc := { ans := [(6, oB), (10, oV), (11, oB), (12, oV), (15, oV), (16, oV)], lps := [] }
def t_atW : Tree :=
 .calc2 (.binOp .lss 3 (.tmp 5) (.const (.int .i64 0)) 3) 4 [(5, qv 1)] ([], []) qT 0 (
 .ret ([], []) (.leaf (.atom (.const (.int .u64 0))))) qF 0 <|
 .calc (.call { callee := .builtin .len, args := #[.tmp 9], argTypes := #[57] }) 3 [(9, qv 0)] ([], []) (qv 2) 1 <|
 .calc2 (.binOp .geq 3 (.tmp 8) (.tmp 10) 3) 4 [(8, qv 1), (10, qv 2)] ([], []) qT 0 (
 .ret ([], []) (.leaf (.atom (.const (.int .u64 0))))) qF 0 <|
 .calc (.indexAddr 57 (.tmp 13) (.tmp 14)) 0 [(13, qv 0), (14, qv 1)] ([], []) (qv 3) 1 <|
 .calc (.load 24 (.tmp 15)) 24 [(15, qv 3)] ([], []) (qv 4) 1 <|
 .ret ([], []) (qv 4)
theorem c_atW : compF Try.prog Try.f64 o_atW (Try.f64.body.getD .skip) (symIn [.atom (.var 0), .atom (.var 1)] Try.f64.ntmps 2) = some t_atW := by kernel_rfl
theorem g_atW : goodC Try.prog o_atW.ords (Try.f64.body.getD .skip) = true := by kernel_rfl
def tb_atW : FuncId × Trans := (64, tAtW)
set_option maxRecDepth 100000 in
theorem aw_atW : ∀ zs Q, tb_atW.2 zs Q → bindLs 0 [.atom (.var 0), .atom (.var 1)] zs fun ae => bif Nat.beq ae.length 2 then AWp Try.prog twNil Q t_atW [] ae else False := by
 intro zs Q h
 replace h : tAtW zs Q := h
 unfold tAtW at h
 split at h
 case h_2 => exact h.elim
 rename_i l i
 obtain ⟨hl, h⟩ := h
 by_cases a1 : i < 0
 ·rw [show atW l i = 0 from if_pos a1] at h
  repeat ((conv => whnf) <;> first | with_reducible first | refine wI (by omega) ?_ | refine And.intro rfl ?_ | rfl | refine And.intro ‹_› ?_ | refine cTe ‹_› ?_ | refine cFe ‹_› ?_ | refine cN (cTe ‹_› ?_) | refine cN (cFe ‹_› ?_) | refine cTe rfl ?_ | refine cEq ‹_› ?_ | refine cTt ?_ | refine cNt ?_ | refine cF (Eq.refl false) ?_ | refine cN (cF (Eq.refl false) ?_) | refine cTd (by omega) ?_ | refine cFd (by omega) ?_ | refine cN (cTd (by omega) ?_) | refine cN (cFd (by omega) ?_) | refine And.intro (by omega) ?_ | refine And.intro (Eq.refl true) ?_)
  (conv => whnf)
  exact h
 rw [show atW l i = l.getD i.toNat 0 from if_neg a1] at h
 by_cases a2 : i ≥ (l.length : Int)
 ·rw [show l.getD i.toNat 0 = 0 by rw [List.getD_eq_getElem?_getD, List.getElem?_eq_none (by omega)]; rfl] at h
  repeat ((conv => whnf) <;> first | with_reducible first | refine wI (by omega) ?_ | refine And.intro rfl ?_ | rfl | refine And.intro ‹_› ?_ | refine cTe ‹_› ?_ | refine cFe ‹_› ?_ | refine cN (cTe ‹_› ?_) | refine cN (cFe ‹_› ?_) | refine cTe rfl ?_ | refine cEq ‹_› ?_ | refine cTt ?_ | refine cNt ?_ | refine cF (Eq.refl false) ?_ | refine cN (cF (Eq.refl false) ?_) | refine cTd (by omega) ?_ | refine cFd (by omega) ?_ | refine cN (cTd (by omega) ?_) | refine cN (cFd (by omega) ?_) | refine And.intro (by omega) ?_ | refine And.intro (Eq.refl true) ?_)
  (conv => whnf)
  exact h
 repeat ((conv => whnf) <;> first | with_reducible first | refine wI (by omega) ?_ | refine And.intro rfl ?_ | rfl | refine And.intro ‹_› ?_ | refine cTe ‹_› ?_ | refine cFe ‹_› ?_ | refine cN (cTe ‹_› ?_) | refine cN (cFe ‹_› ?_) | refine cTe rfl ?_ | refine cEq ‹_› ?_ | refine cTt ?_ | refine cNt ?_ | refine cF (Eq.refl false) ?_ | refine cN (cF (Eq.refl false) ?_) | refine cTd (by omega) ?_ | refine cFd (by omega) ?_ | refine cN (cTd (by omega) ?_) | refine cN (cFd (by omega) ?_) | refine And.intro (by omega) ?_ | refine And.intro (Eq.refl true) ?_)
 (conv => whnf)
 exact h
theorem tb_atW_ok : Con Try.prog tb_atW.1 tb_atW.2 := con_tree twNil_ok o_atW [.atom (.var 0), .atom (.var 1)] 2 Try.func64 rfl c_atW aw_atW g_atW
def o_cutW : Orc := { ans := [(5, oV), (6, oV), (8, oB), (12, oV), (13, oV), (14, oB), (15, oV), (19, oV)], lps := [], gto := some (0, [.slot 0 [.one]]) }
def t_cutW : Tree :=
 .loop [.atom (.var 0)] [.one] <|
 .calc (.call { callee := .builtin .len, args := #[.tmp 4], argTypes := #[57] }) 3 [(4, qv 1)] ([], []) (qv 2) 1 <|
 .calc (.binOp .sub 3 (.tmp 5) (.const (.int .i64 1)) 3) 3 [(5, qv 2)] ([], []) (qv 3) 1 <|
 .calc2 (.binOp .geq 3 (.tmp 7) (.const (.int .i64 0)) 3) 4 [(7, qv 3)] ([], []) qT 0 (
 .calc (.indexAddr 57 (.tmp 10) (.tmp 11)) 0 [(10, qv 1), (11, qv 3)] ([], []) (qv 4) 1 <|
 .calc (.load 24 (.tmp 12)) 24 [(12, qv 4)] ([], []) (qv 5) 1 <|
 .calc2 (.binOp .eql 24 (.tmp 13) (.const (.int .u64 0)) 24) 4 [(13, qv 5)] ([], []) qT 0 (
 .calc (.slice 57 (.tmp 16) none (some (.tmp 17)) (some (.tmp 18))) 57 [(16, qv 1), (17, qv 3), (18, qv 3)] ([], []) (qv 6) 1 <|
 .again 0 [.atom (.var 6)]) qF 0 <|
 .ret ([], []) (qv 1)) qF 0 <|
 .ret ([], []) (qv 1)
theorem c_cutW : compF Try.prog Try.f66 o_cutW (Try.f66.body.getD .skip) (symIn [.atom (.var 0)] Try.f66.ntmps 1) = some t_cutW := by kernel_rfl
theorem g_cutW : goodC Try.prog o_cutW.ords (Try.f66.body.getD .skip) = true := by kernel_rfl
def tb_cutW : FuncId × Trans := (66, tCutW)
set_option maxRecDepth 100000 in
theorem aw_cutW : ∀ zs Q, tb_cutW.2 zs Q → bindLs 0 [.atom (.var 0)] zs fun ae => bif Nat.beq ae.length 1 then AWp Try.prog twNil Q t_cutW [] ae else False := by
 intro zs Q h
 replace h : tCutW zs Q := h
 unfold tCutW at h
 split at h
 case h_2 => exact h.elim
 rename_i l
 obtain ⟨⟨hw, hl⟩, h⟩ := h
 repeat ((conv => whnf) <;> first | with_reducible first | refine wI (by omega) ?_ | refine And.intro rfl ?_ | rfl | refine And.intro ‹_› ?_ | refine cTe ‹_› ?_ | refine cFe ‹_› ?_ | refine cN (cTe ‹_› ?_) | refine cN (cFe ‹_› ?_) | refine cTe rfl ?_ | refine cEq ‹_› ?_ | refine cTt ?_ | refine cNt ?_ | refine cF (Eq.refl false) ?_ | refine cN (cF (Eq.refl false) ?_) | refine cTd (by omega) ?_ | refine cFd (by omega) ?_ | refine cN (cTd (by omega) ?_) | refine cN (cFd (by omega) ?_) | refine And.intro (fun hh : Option.isSome none = true => by cases hh) ?_ | refine And.intro (by omega) ?_ | refine And.intro (Eq.refl true) ?_)
 refine ⟨List Int, fun m zs => W64 m ∧ m.length ≤ l.length ∧ nW m = nW l ∧ zs = [.isl .u64 m], fun m => m.length, l, ?_, ?_⟩
 ·(conv => whnf)
  exact ⟨_, Subs.refl' _, hw, Nat.le_refl _, rfl, rfl⟩
 rintro m _ ⟨hm, hlen, hn, rfl⟩
 have hl2 : m.length ≤ 1000000 := by omega
 by_cases m0 : m.length = 0
 ·have e : wdN (nW l) = m := by rw [← hn]; exact wdN_eq hm (.inl (List.eq_nil_of_length_eq_zero m0))
  rw [e] at h
  repeat ((conv => whnf) <;> first | with_reducible first | refine wI (by omega) ?_ | refine And.intro rfl ?_ | rfl | refine And.intro ‹_› ?_ | refine cTe ‹_› ?_ | refine cFe ‹_› ?_ | refine cN (cTe ‹_› ?_) | refine cN (cFe ‹_› ?_) | refine cTe rfl ?_ | refine cEq ‹_› ?_ | refine cTt ?_ | refine cNt ?_ | refine cF (Eq.refl false) ?_ | refine cN (cF (Eq.refl false) ?_) | refine cTd (by omega) ?_ | refine cFd (by omega) ?_ | refine cN (cTd (by omega) ?_) | refine cN (cFd (by omega) ?_) | refine And.intro (fun hh : Option.isSome none = true => by cases hh) ?_ | refine And.intro (by omega) ?_ | refine And.intro (Eq.refl true) ?_)
  (conv => whnf)
  exact h
 have hg := hm.getD ((m.length : Int) - 1).toNat
 have ei : ((m.length : Int) - 1).toNat = m.length - 1 := by omega
 by_cases z0 : m.getD ((m.length : Int) - 1).toNat 0 = 0
 ·repeat ((conv => whnf) <;> first | with_reducible first | refine wI (by omega) ?_ | refine And.intro rfl ?_ | rfl | refine And.intro ‹_› ?_ | refine cTe ‹_› ?_ | refine cFe ‹_› ?_ | refine cN (cTe ‹_› ?_) | refine cN (cFe ‹_› ?_) | refine cTe rfl ?_ | refine cEq ‹_› ?_ | refine cTt ?_ | refine cNt ?_ | refine cF (Eq.refl false) ?_ | refine cN (cF (Eq.refl false) ?_) | refine cTd (by omega) ?_ | refine cFd (by omega) ?_ | refine cN (cTd (by omega) ?_) | refine cN (cFd (by omega) ?_) | refine And.intro (fun hh : Option.isSome none = true => by cases hh) ?_ | refine And.intro (by omega) ?_ | refine And.intro (Eq.refl true) ?_)
  refine ⟨fun _ => rfl, ?_⟩
  repeat ((conv => whnf) <;> first | with_reducible first | refine wI (by omega) ?_ | refine And.intro rfl ?_ | rfl | refine And.intro ‹_› ?_ | refine cTe ‹_› ?_ | refine cFe ‹_› ?_ | refine cN (cTe ‹_› ?_) | refine cN (cFe ‹_› ?_) | refine cTe rfl ?_ | refine cEq ‹_› ?_ | refine cTt ?_ | refine cNt ?_ | refine cF (Eq.refl false) ?_ | refine cN (cF (Eq.refl false) ?_) | refine cTd (by omega) ?_ | refine cFd (by omega) ?_ | refine cN (cTd (by omega) ?_) | refine cN (cFd (by omega) ?_) | refine And.intro (fun hh : Option.isSome none = true => by cases hh) ?_ | refine And.intro (by omega) ?_ | refine And.intro (Eq.refl true) ?_)
  (conv => whnf)
  refine ⟨_, Subs.refl' _, m.take (m.length - 1), ⟨hm.take _, by rw [List.length_take]; omega, ?_, zsW1 ?_⟩, ?_⟩
  ·rw [← hn]
   rw [ei] at z0
   have := nW_take_s (l := m) (k := m.length - 1) (by omega) z0
   rw [show m.length - 1 + 1 = m.length by omega, List.take_length] at this
   exact this.symm
  ·show (List.drop (0 : Int).toNat m).take (((m.length : Int) - 1) - 0).toNat = _
   rw [show (((m.length : Int) - 1) - 0).toNat = m.length - 1 by omega]; rfl
  ·show (m.take (m.length - 1)).length < m.length
   rw [List.length_take]; omega
 ·have e : wdN (nW l) = m := by
   rw [← hn]
   rw [ei] at z0
   exact (wdN_take hm (Nat.le_refl _) (by rw [List.take_length]) (.inr z0)).trans List.take_length
  rw [e] at h
  repeat ((conv => whnf) <;> first | with_reducible first | refine wI (by omega) ?_ | refine And.intro rfl ?_ | rfl | refine And.intro ‹_› ?_ | refine cTe ‹_› ?_ | refine cFe ‹_› ?_ | refine cN (cTe ‹_› ?_) | refine cN (cFe ‹_› ?_) | refine cTe rfl ?_ | refine cEq ‹_› ?_ | refine cTt ?_ | refine cNt ?_ | refine cF (Eq.refl false) ?_ | refine cN (cF (Eq.refl false) ?_) | refine cTd (by omega) ?_ | refine cFd (by omega) ?_ | refine cN (cTd (by omega) ?_) | refine cN (cFd (by omega) ?_) | refine And.intro (fun hh : Option.isSome none = true => by cases hh) ?_ | refine And.intro (by omega) ?_ | refine And.intro (Eq.refl true) ?_)
  (conv => whnf)
  exact h
theorem tb_cutW_ok : Con Try.prog tb_cutW.1 tb_cutW.2 := con_tree twNil_ok o_cutW [.atom (.var 0)] 1 Try.func66 rfl c_cutW aw_cutW g_cutW
def twA : Tab := tb_atW :: tb_cutW :: []
theorem twA_ok : twA.OK Try.prog := tab_cons tb_atW_ok <| tab_cons tb_cutW_ok <| tab_nil _
def o_addW : Orc := { ans := [(9, oV), (11, oV), (12, oV), (13, oV), (14, oV), (16, oV), (18, oB), (25, oV), (28, oV), (30, .one ⟨.tup [.atom (.var 0), .atom (.var 1)], 2, []⟩), (33, oV), (34, oV), (36, oV)], lps := [(0, [.cont 5 24 1, .slot 6 [.one], .slot 17 [.one]])], rws := [14] }
def t_addW : Tree :=
 .calc (.call { callee := .builtin .len, args := #[.tmp 8], argTypes := #[57] }) 3 [(8, qv 0)] ([], []) (qv 2) 1 <|
 .calc (.call { callee := .builtin .len, args := #[.tmp 10], argTypes := #[57] }) 3 [(10, qv 1)] ([], []) (qv 3) 1 <|
 .calc (.call { callee := .builtin .max, args := #[.tmp 9, .tmp 11], argTypes := #[3, 3] }) 3 [(9, qv 2), (11, qv 3)] ([], []) (qv 4) 1 <|
 .calc (.binOp .add 3 (.tmp 12) (.const (.int .i64 1)) 3) 3 [(12, qv 4)] ([], []) (qv 5) 1 <|
 .mkx 5 [.int .u64 0] <|
 .calc (.call { callee := .builtin .len, args := #[.tmp 15], argTypes := #[57] }) 3 [(15, qv 6)] ([], [⟨6, 7, 24, 1⟩]) (qv 8) 1 <|
 .loop [.agg [.rest 7], .atom (.const (.int .u64 0)), .atom (.const (.int .i64 0))] [.row, .one, .one] <|
 .calc2 (.binOp .lss 3 (.tmp 17) (.tmp 16) 3) 0 [(17, qv 11), (16, qv 8)] ([], []) qT 0 (
 .call 64 [.atom (.var 0), .atom (.var 11)] ([], []) (qv 12) 1 [] <|
 .call 64 [.atom (.var 1), .atom (.var 11)] ([], []) (qv 13) 1 [] <|
 .calc (.call { callee := .value (.func 65), args := #[.tmp 25, .tmp 28, .tmp 29], argTypes := #[24, 24, 24] }) 90 [(25, qv 12), (28, qv 13), (29, qv 10)] ([], []) (.tup [.atom (.var 14), .atom (.var 15)]) 2 <|
 .boundx 11 6 <|
 .sti [.rest 9] 0 11 1 1 [.one (.var 14)] <|
 .calc (.binOp .add 3 (.tmp 17) (.const (.int .i64 1)) 3) 3 [(17, qv 11)] ([], []) (qv 17) 1 <|
 .again 0 [.agg [.rest 16], .atom (.var 15), .atom (.var 17)]) qF 0 <|
 .frz 6 9 ([], [⟨6, 9, 24, 1⟩]) <|
 .call 66 [.atom (.var 6)] ([], []) (qv 12) 1 [] <|
 .ret ([], []) (qv 12)
theorem c_addW : compF Try.prog Try.f34 o_addW (Try.f34.body.getD .skip) (symIn [.atom (.var 0), .atom (.var 1)] Try.f34.ntmps 2) = some t_addW := by kernel_rfl
theorem g_addW : goodC Try.prog o_addW.ords (Try.f34.body.getD .skip) = true := by kernel_rfl
def tb_addW : FuncId × Trans := (34, tAddW)
set_option maxRecDepth 100000 in
theorem aw_addW : ∀ zs Q, tb_addW.2 zs Q → bindLs 0 [.atom (.var 0), .atom (.var 1)] zs fun ae => bif Nat.beq ae.length 2 then AWp Try.prog twA Q t_addW [] ae else False := by
 intro zs Q h
 replace h : tAddW zs Q := h
 unfold tAddW at h
 split at h
 case h_2 => exact h.elim
 rename_i a b
 obtain ⟨⟨ha, hb, la, lb⟩, h⟩ := h
 have hmx : (if (b.length : Int) > (a.length : Int) then (b.length : Int) else (a.length : Int)) = ((max a.length b.length : Nat) : Int) := by split <;> omega
 have hlt := two_lt (nW_lt ha) (nW_lt hb)
 have hla : a.length ≤ 1000000 := by omega
 have hlb : b.length ≤ 1000000 := by omega
 obtain ⟨M, hM⟩ : ∃ M, M = max a.length b.length + 1 := ⟨_, rfl⟩
 rw [← hM] at hlt
 have hn : ((if (b.length : Int) > (a.length : Int) then (b.length : Int) else (a.length : Int)) + 1).toNat = M := by rw [hmx]; omega
 repeat ((conv => whnf) <;> first | with_reducible first | refine wI (by omega) ?_ | refine And.intro rfl ?_ | rfl | refine And.intro ‹_› ?_ | refine cTe ‹_› ?_ | refine cFe ‹_› ?_ | refine cN (cTe ‹_› ?_) | refine cN (cFe ‹_› ?_) | refine cTe rfl ?_ | refine cEq ‹_› ?_ | refine cTt ?_ | refine cNt ?_ | refine cF (Eq.refl false) ?_ | refine cN (cF (Eq.refl false) ?_) | refine cTd (by omega) ?_ | refine cFd (by omega) ?_ | refine cN (cTd (by omega) ?_) | refine cN (cFd (by omega) ?_) | refine And.intro (by omega) ?_ | refine And.intro (Eq.refl true) ?_ | refine And.intro (Eq.refl (1 : Nat)) ?_)
 refine ⟨Nat, fun i zs => i ≤ M ∧ zs = [.ints .u64 (digL (nW a + nW b) i ++ List.replicate (M - i) 0), .int .u64 ((carW (nW a) (nW b) i : Nat) : Int), .int .i64 (i : Int)], fun i => M - i, 0, ?_, ?_⟩
 ·(conv => whnf)
  exact ⟨_, Subs.refl' _, Nat.zero_le _, zsAdd (by rw [hn]; rfl) (by rw [car0]; rfl) rfl⟩
 rintro i _ ⟨hi, rfl⟩
 by_cases hi2 : i < M
 ·have ea := atW_nat ha i
  have eb := atW_nat hb i
  have hc := carW_le (nW a) (nW b) i
  obtain ⟨v1, v2⟩ := add_vals (nW a) (nW b) i
  rw [← ea, ← eb] at v1 v2
  have hdl := dig_len (N := nW a + nW b) (M := M) (i := i) (by omega)
  repeat ((conv => whnf) <;> first | with_reducible first | refine wI (by omega) ?_ | refine And.intro rfl ?_ | rfl | refine And.intro ‹_› ?_ | refine cTe ‹_› ?_ | refine cFe ‹_› ?_ | refine cN (cTe ‹_› ?_) | refine cN (cFe ‹_› ?_) | refine cTe rfl ?_ | refine cEq ‹_› ?_ | refine cTt ?_ | refine cNt ?_ | refine cF (Eq.refl false) ?_ | refine cN (cF (Eq.refl false) ?_) | refine cTd (by omega) ?_ | refine cFd (by omega) ?_ | refine cN (cTd (by omega) ?_) | refine cN (cFd (by omega) ?_) | refine And.intro (by omega) ?_ | refine And.intro (Eq.refl true) ?_ | refine And.intro (Eq.refl (1 : Nat)) ?_)
  refine ⟨_, add64_ext _ _ _ (by rw [ea]; exact Int.natCast_nonneg _) (by rw [eb]; exact Int.natCast_nonneg _) (Int.natCast_nonneg _) (by omega), ?_⟩
  repeat ((conv => whnf) <;> first | with_reducible first | refine wI (by omega) ?_ | refine And.intro rfl ?_ | rfl | refine And.intro ‹_› ?_ | refine cTe ‹_› ?_ | refine cFe ‹_› ?_ | refine cN (cTe ‹_› ?_) | refine cN (cFe ‹_› ?_) | refine cTe rfl ?_ | refine cEq ‹_› ?_ | refine cTt ?_ | refine cNt ?_ | refine cF (Eq.refl false) ?_ | refine cN (cF (Eq.refl false) ?_) | refine cTd (by omega) ?_ | refine cFd (by omega) ?_ | refine cN (cTd (by omega) ?_) | refine cN (cFd (by omega) ?_) | refine And.intro (by omega) ?_ | refine And.intro (Eq.refl true) ?_ | refine And.intro (Eq.refl (1 : Nat)) ?_)
  (conv => whnf)
  refine ⟨_, Subs.refl' _, i + 1, ⟨by omega, zsAdd ?_ v2 (by omega)⟩, by show M - (i + 1) < M - i; omega⟩
  show (digL (nW a + nW b) i ++ List.replicate (M - i) 0).set (0 + (i : Int).toNat * 1) _ = _
  rw [v1, show 0 + (i : Int).toNat * 1 = i by omega, dig_set _ _ _ hi2]
 ·obtain rfl : i = M := by omega
  obtain ⟨c1, c2, c3⟩ := dig_all hlt
  have hcut : W64 (digL (nW a + nW b) i ++ List.replicate (i - i) 0) ∧ (digL (nW a + nW b) i ++ List.replicate (i - i) (0 : Int)).length ≤ 1000000 := ⟨c1, by rw [c3]; omega⟩
  rw [← c2] at h
  repeat ((conv => whnf) <;> first | with_reducible first | refine wI (by omega) ?_ | refine And.intro rfl ?_ | rfl | refine And.intro ‹_› ?_ | refine cTe ‹_› ?_ | refine cFe ‹_› ?_ | refine cN (cTe ‹_› ?_) | refine cN (cFe ‹_› ?_) | refine cTe rfl ?_ | refine cEq ‹_› ?_ | refine cTt ?_ | refine cNt ?_ | refine cF (Eq.refl false) ?_ | refine cN (cF (Eq.refl false) ?_) | refine cTd (by omega) ?_ | refine cFd (by omega) ?_ | refine cN (cTd (by omega) ?_) | refine cN (cFd (by omega) ?_) | refine And.intro (by omega) ?_ | refine And.intro (Eq.refl true) ?_ | refine And.intro (Eq.refl (1 : Nat)) ?_)
  (conv => whnf)
  exact h
theorem tb_addW_ok : Con Try.prog tb_addW.1 tb_addW.2 := con_tree twA_ok o_addW [.atom (.var 0), .atom (.var 1)] 2 Try.func34 rfl c_addW aw_addW g_addW
def tab64 : Nat → Nat := fun n => if n = 0 then 0 else n.log2 + 1
theorem tab64_ok {n : Nat} (h : n < 256) : n < 2 ^ tab64 n ∧ (tab64 n = 0 ∨ 2 ^ (tab64 n - 1) ≤ n) ∧ tab64 n ≤ 8 ∧ (0 < n → 0 < tab64 n) := by
 revert n; decide +kernel
theorem len_leaf {x z s : Nat} (h : z < 256) (h0 : 0 < z) (h1 : z * 2 ^ s ≤ x) (h2 : x < (z + 1) * 2 ^ s) : 0 < s + tab64 z ∧ tab64 z ≤ 8 ∧ x < 2 ^ (s + tab64 z) ∧ 2 ^ (s + tab64 z - 1) ≤ x := by
 obtain ⟨a, b, c, d⟩ := tab64_ok h
 have d := d h0
 have b := b.resolve_left (by omega)
 rw [Nat.pow_add, show s + tab64 z - 1 = s + (tab64 z - 1) by omega, Nat.pow_add]
 have e1 := Nat.mul_le_mul_left (2 ^ s) (show z + 1 ≤ 2 ^ tab64 z from a)
 have e2 := Nat.mul_le_mul_left (2 ^ s) b
 rw [Nat.mul_comm] at h1 h2
 exact ⟨by omega, c, by omega, by omega⟩
theorem sh32 {y : Int} : y.fdiv (2 ^ min (Int.toNat 32) IntKind.u64.bits) = y / 4294967296 := by rw [show (2 : Int) ^ min (Int.toNat 32) IntKind.u64.bits = 4294967296 by decide]; exact Int.fdiv_eq_ediv_of_nonneg _ (by omega)
theorem sh16 {y : Int} : y.fdiv (2 ^ min (Int.toNat 16) IntKind.u64.bits) = y / 65536 := by rw [show (2 : Int) ^ min (Int.toNat 16) IntKind.u64.bits = 65536 by decide]; exact Int.fdiv_eq_ediv_of_nonneg _ (by omega)
theorem sh8 {y : Int} : y.fdiv (2 ^ min (Int.toNat 8) IntKind.u64.bits) = y / 256 := by rw [show (2 : Int) ^ min (Int.toNat 8) IntKind.u64.bits = 256 by decide]; exact Int.fdiv_eq_ediv_of_nonneg _ (by omega)
def o_len64 : Orc := { ans := [(4, oB), (6, oV), (8, oB), (10, oV), (12, oV), (14, oB), (16, oV), (18, oV), (21, oV), (22, oV), (23, oV), (24, oV)], lps := [] }
def t_len64 : Tree :=
 .calc2 (.binOp .geq 24 (.tmp 3) (.const (.int .u64 4294967296)) 24) 4 [(3, qv 0)] ([], []) qT 0 (
 .calc (.binOp .shr 24 (.tmp 5) (.const (.int .u64 32)) 85) 24 [(5, qv 0)] ([], []) (qv 1) 1 <|
 .calc2 (.binOp .geq 24 (.tmp 7) (.const (.int .u64 65536)) 24) 4 [(7, qv 1)] ([], []) qT 0 (
 .calc (.binOp .shr 24 (.tmp 9) (.const (.int .u64 16)) 85) 24 [(9, qv 1)] ([], []) (qv 2) 1 <|
 .calc (.binOp .add 3 (.tmp 11) (.const (.int .i64 16)) 3) 3 [(11, .leaf (.atom (.const (.int .i64 32))))] ([], []) (qv 3) 1 <|
 .calc2 (.binOp .geq 24 (.tmp 13) (.const (.int .u64 256)) 24) 4 [(13, qv 2)] ([], []) qT 0 (
 .calc (.binOp .shr 24 (.tmp 15) (.const (.int .u64 8)) 85) 24 [(15, qv 2)] ([], []) (qv 4) 1 <|
 .calc (.binOp .add 3 (.tmp 17) (.const (.int .i64 8)) 3) 3 [(17, qv 3)] ([], []) (qv 5) 1 <|
 .calc (.convert 24 5 (.tmp 20)) 5 [(20, qv 4)] ([], []) (qv 6) 1 <|
 .calc (.index 9 (.const (.string ⟨#[0, 1, 2, 2, 3, 3, 3, 3, 4, 4, 4, 4, 4, 4, 4, 4, 5, 5, 5, 5, 5, 5, 5, 5, 5, 5, 5, 5, 5, 5, 5, 5, 6, 6, 6, 6, 6, 6, 6, 6, 6, 6, 6, 6, 6, 6, 6, 6, 6, 6, 6, 6, 6, 6, 6, 6, 6, 6, 6, 6, 6, 6, 6, 6, 7, 7, 7, 7, 7, 7, 7, 7, 7, 7, 7, 7, 7, 7, 7, 7, 7, 7, 7, 7, 7, 7, 7, 7, 7, 7, 7, 7, 7, 7, 7, 7, 7, 7, 7, 7, 7, 7, 7, 7, 7, 7, 7, 7, 7, 7, 7, 7, 7, 7, 7, 7, 7, 7, 7, 7, 7, 7, 7, 7, 7, 7, 7, 7, 8, 8, 8, 8, 8, 8, 8, 8, 8, 8, 8, 8, 8, 8, 8, 8, 8, 8, 8, 8, 8, 8, 8, 8, 8, 8, 8, 8, 8, 8, 8, 8, 8, 8, 8, 8, 8, 8, 8, 8, 8, 8, 8, 8, 8, 8, 8, 8, 8, 8, 8, 8, 8, 8, 8, 8, 8, 8, 8, 8, 8, 8, 8, 8, 8, 8, 8, 8, 8, 8, 8, 8, 8, 8, 8, 8, 8, 8, 8, 8, 8, 8, 8, 8, 8, 8, 8, 8, 8, 8, 8, 8, 8, 8, 8, 8, 8, 8, 8, 8, 8, 8, 8, 8, 8, 8, 8, 8, 8, 8, 8, 8, 8, 8, 8, 8, 8, 8, 8, 8, 8, 8, 8, 8, 8, 8, 8, 8]⟩)) (.tmp 21)) 5 [(21, qv 6)] ([], []) (qv 7) 1 <|
 .calc (.convert 5 3 (.tmp 22)) 3 [(22, qv 7)] ([], []) (qv 8) 1 <|
 .calc (.binOp .add 3 (.tmp 19) (.tmp 23) 3) 3 [(19, qv 5), (23, qv 8)] ([], []) (qv 9) 1 <|
 .ret ([], []) (qv 9)) qF 0 <|
 .calc (.convert 24 5 (.tmp 20)) 5 [(20, qv 2)] ([], []) (qv 4) 1 <|
 .calc (.index 9 (.const (.string ⟨#[0, 1, 2, 2, 3, 3, 3, 3, 4, 4, 4, 4, 4, 4, 4, 4, 5, 5, 5, 5, 5, 5, 5, 5, 5, 5, 5, 5, 5, 5, 5, 5, 6, 6, 6, 6, 6, 6, 6, 6, 6, 6, 6, 6, 6, 6, 6, 6, 6, 6, 6, 6, 6, 6, 6, 6, 6, 6, 6, 6, 6, 6, 6, 6, 7, 7, 7, 7, 7, 7, 7, 7, 7, 7, 7, 7, 7, 7, 7, 7, 7, 7, 7, 7, 7, 7, 7, 7, 7, 7, 7, 7, 7, 7, 7, 7, 7, 7, 7, 7, 7, 7, 7, 7, 7, 7, 7, 7, 7, 7, 7, 7, 7, 7, 7, 7, 7, 7, 7, 7, 7, 7, 7, 7, 7, 7, 7, 7, 8, 8, 8, 8, 8, 8, 8, 8, 8, 8, 8, 8, 8, 8, 8, 8, 8, 8, 8, 8, 8, 8, 8, 8, 8, 8, 8, 8, 8, 8, 8, 8, 8, 8, 8, 8, 8, 8, 8, 8, 8, 8, 8, 8, 8, 8, 8, 8, 8, 8, 8, 8, 8, 8, 8, 8, 8, 8, 8, 8, 8, 8, 8, 8, 8, 8, 8, 8, 8, 8, 8, 8, 8, 8, 8, 8, 8, 8, 8, 8, 8, 8, 8, 8, 8, 8, 8, 8, 8, 8, 8, 8, 8, 8, 8, 8, 8, 8, 8, 8, 8, 8, 8, 8, 8, 8, 8, 8, 8, 8, 8, 8, 8, 8, 8, 8, 8, 8, 8, 8, 8, 8, 8, 8, 8, 8, 8, 8]⟩)) (.tmp 21)) 5 [(21, qv 4)] ([], []) (qv 5) 1 <|
 .calc (.convert 5 3 (.tmp 22)) 3 [(22, qv 5)] ([], []) (qv 6) 1 <|
 .calc (.binOp .add 3 (.tmp 19) (.tmp 23) 3) 3 [(19, qv 3), (23, qv 6)] ([], []) (qv 7) 1 <|
 .ret ([], []) (qv 7)) qF 0 <|
 .calc2 (.binOp .geq 24 (.tmp 13) (.const (.int .u64 256)) 24) 4 [(13, qv 1)] ([], []) qT 0 (
 .calc (.binOp .shr 24 (.tmp 15) (.const (.int .u64 8)) 85) 24 [(15, qv 1)] ([], []) (qv 2) 1 <|
 .calc (.binOp .add 3 (.tmp 17) (.const (.int .i64 8)) 3) 3 [(17, .leaf (.atom (.const (.int .i64 32))))] ([], []) (qv 3) 1 <|
 .calc (.convert 24 5 (.tmp 20)) 5 [(20, qv 2)] ([], []) (qv 4) 1 <|
 .calc (.index 9 (.const (.string ⟨#[0, 1, 2, 2, 3, 3, 3, 3, 4, 4, 4, 4, 4, 4, 4, 4, 5, 5, 5, 5, 5, 5, 5, 5, 5, 5, 5, 5, 5, 5, 5, 5, 6, 6, 6, 6, 6, 6, 6, 6, 6, 6, 6, 6, 6, 6, 6, 6, 6, 6, 6, 6, 6, 6, 6, 6, 6, 6, 6, 6, 6, 6, 6, 6, 7, 7, 7, 7, 7, 7, 7, 7, 7, 7, 7, 7, 7, 7, 7, 7, 7, 7, 7, 7, 7, 7, 7, 7, 7, 7, 7, 7, 7, 7, 7, 7, 7, 7, 7, 7, 7, 7, 7, 7, 7, 7, 7, 7, 7, 7, 7, 7, 7, 7, 7, 7, 7, 7, 7, 7, 7, 7, 7, 7, 7, 7, 7, 7, 8, 8, 8, 8, 8, 8, 8, 8, 8, 8, 8, 8, 8, 8, 8, 8, 8, 8, 8, 8, 8, 8, 8, 8, 8, 8, 8, 8, 8, 8, 8, 8, 8, 8, 8, 8, 8, 8, 8, 8, 8, 8, 8, 8, 8, 8, 8, 8, 8, 8, 8, 8, 8, 8, 8, 8, 8, 8, 8, 8, 8, 8, 8, 8, 8, 8, 8, 8, 8, 8, 8, 8, 8, 8, 8, 8, 8, 8, 8, 8, 8, 8, 8, 8, 8, 8, 8, 8, 8, 8, 8, 8, 8, 8, 8, 8, 8, 8, 8, 8, 8, 8, 8, 8, 8, 8, 8, 8, 8, 8, 8, 8, 8, 8, 8, 8, 8, 8, 8, 8, 8, 8, 8, 8, 8, 8, 8, 8]⟩)) (.tmp 21)) 5 [(21, qv 4)] ([], []) (qv 5) 1 <|
 .calc (.convert 5 3 (.tmp 22)) 3 [(22, qv 5)] ([], []) (qv 6) 1 <|
 .calc (.binOp .add 3 (.tmp 19) (.tmp 23) 3) 3 [(19, qv 3), (23, qv 6)] ([], []) (qv 7) 1 <|
 .ret ([], []) (qv 7)) qF 0 <|
 .calc (.convert 24 5 (.tmp 20)) 5 [(20, qv 1)] ([], []) (qv 2) 1 <|
 .calc (.index 9 (.const (.string ⟨#[0, 1, 2, 2, 3, 3, 3, 3, 4, 4, 4, 4, 4, 4, 4, 4, 5, 5, 5, 5, 5, 5, 5, 5, 5, 5, 5, 5, 5, 5, 5, 5, 6, 6, 6, 6, 6, 6, 6, 6, 6, 6, 6, 6, 6, 6, 6, 6, 6, 6, 6, 6, 6, 6, 6, 6, 6, 6, 6, 6, 6, 6, 6, 6, 7, 7, 7, 7, 7, 7, 7, 7, 7, 7, 7, 7, 7, 7, 7, 7, 7, 7, 7, 7, 7, 7, 7, 7, 7, 7, 7, 7, 7, 7, 7, 7, 7, 7, 7, 7, 7, 7, 7, 7, 7, 7, 7, 7, 7, 7, 7, 7, 7, 7, 7, 7, 7, 7, 7, 7, 7, 7, 7, 7, 7, 7, 7, 7, 8, 8, 8, 8, 8, 8, 8, 8, 8, 8, 8, 8, 8, 8, 8, 8, 8, 8, 8, 8, 8, 8, 8, 8, 8, 8, 8, 8, 8, 8, 8, 8, 8, 8, 8, 8, 8, 8, 8, 8, 8, 8, 8, 8, 8, 8, 8, 8, 8, 8, 8, 8, 8, 8, 8, 8, 8, 8, 8, 8, 8, 8, 8, 8, 8, 8, 8, 8, 8, 8, 8, 8, 8, 8, 8, 8, 8, 8, 8, 8, 8, 8, 8, 8, 8, 8, 8, 8, 8, 8, 8, 8, 8, 8, 8, 8, 8, 8, 8, 8, 8, 8, 8, 8, 8, 8, 8, 8, 8, 8, 8, 8, 8, 8, 8, 8, 8, 8, 8, 8, 8, 8, 8, 8, 8, 8, 8, 8]⟩)) (.tmp 21)) 5 [(21, qv 2)] ([], []) (qv 3) 1 <|
 .calc (.convert 5 3 (.tmp 22)) 3 [(22, qv 3)] ([], []) (qv 4) 1 <|
 .calc (.binOp .add 3 (.tmp 19) (.tmp 23) 3) 3 [(19, .leaf (.atom (.const (.int .i64 32)))), (23, qv 4)] ([], []) (qv 5) 1 <|
 .ret ([], []) (qv 5)) qF 0 <|
 .calc2 (.binOp .geq 24 (.tmp 7) (.const (.int .u64 65536)) 24) 4 [(7, qv 0)] ([], []) qT 0 (
 .calc (.binOp .shr 24 (.tmp 9) (.const (.int .u64 16)) 85) 24 [(9, qv 0)] ([], []) (qv 1) 1 <|
 .calc (.binOp .add 3 (.tmp 11) (.const (.int .i64 16)) 3) 3 [(11, .leaf (.atom (.const (.int .i64 0))))] ([], []) (qv 2) 1 <|
 .calc2 (.binOp .geq 24 (.tmp 13) (.const (.int .u64 256)) 24) 4 [(13, qv 1)] ([], []) qT 0 (
 .calc (.binOp .shr 24 (.tmp 15) (.const (.int .u64 8)) 85) 24 [(15, qv 1)] ([], []) (qv 3) 1 <|
 .calc (.binOp .add 3 (.tmp 17) (.const (.int .i64 8)) 3) 3 [(17, qv 2)] ([], []) (qv 4) 1 <|
 .calc (.convert 24 5 (.tmp 20)) 5 [(20, qv 3)] ([], []) (qv 5) 1 <|
 .calc (.index 9 (.const (.string ⟨#[0, 1, 2, 2, 3, 3, 3, 3, 4, 4, 4, 4, 4, 4, 4, 4, 5, 5, 5, 5, 5, 5, 5, 5, 5, 5, 5, 5, 5, 5, 5, 5, 6, 6, 6, 6, 6, 6, 6, 6, 6, 6, 6, 6, 6, 6, 6, 6, 6, 6, 6, 6, 6, 6, 6, 6, 6, 6, 6, 6, 6, 6, 6, 6, 7, 7, 7, 7, 7, 7, 7, 7, 7, 7, 7, 7, 7, 7, 7, 7, 7, 7, 7, 7, 7, 7, 7, 7, 7, 7, 7, 7, 7, 7, 7, 7, 7, 7, 7, 7, 7, 7, 7, 7, 7, 7, 7, 7, 7, 7, 7, 7, 7, 7, 7, 7, 7, 7, 7, 7, 7, 7, 7, 7, 7, 7, 7, 7, 8, 8, 8, 8, 8, 8, 8, 8, 8, 8, 8, 8, 8, 8, 8, 8, 8, 8, 8, 8, 8, 8, 8, 8, 8, 8, 8, 8, 8, 8, 8, 8, 8, 8, 8, 8, 8, 8, 8, 8, 8, 8, 8, 8, 8, 8, 8, 8, 8, 8, 8, 8, 8, 8, 8, 8, 8, 8, 8, 8, 8, 8, 8, 8, 8, 8, 8, 8, 8, 8, 8, 8, 8, 8, 8, 8, 8, 8, 8, 8, 8, 8, 8, 8, 8, 8, 8, 8, 8, 8, 8, 8, 8, 8, 8, 8, 8, 8, 8, 8, 8, 8, 8, 8, 8, 8, 8, 8, 8, 8, 8, 8, 8, 8, 8, 8, 8, 8, 8, 8, 8, 8, 8, 8, 8, 8, 8, 8]⟩)) (.tmp 21)) 5 [(21, qv 5)] ([], []) (qv 6) 1 <|
 .calc (.convert 5 3 (.tmp 22)) 3 [(22, qv 6)] ([], []) (qv 7) 1 <|
 .calc (.binOp .add 3 (.tmp 19) (.tmp 23) 3) 3 [(19, qv 4), (23, qv 7)] ([], []) (qv 8) 1 <|
 .ret ([], []) (qv 8)) qF 0 <|
 .calc (.convert 24 5 (.tmp 20)) 5 [(20, qv 1)] ([], []) (qv 3) 1 <|
 .calc (.index 9 (.const (.string ⟨#[0, 1, 2, 2, 3, 3, 3, 3, 4, 4, 4, 4, 4, 4, 4, 4, 5, 5, 5, 5, 5, 5, 5, 5, 5, 5, 5, 5, 5, 5, 5, 5, 6, 6, 6, 6, 6, 6, 6, 6, 6, 6, 6, 6, 6, 6, 6, 6, 6, 6, 6, 6, 6, 6, 6, 6, 6, 6, 6, 6, 6, 6, 6, 6, 7, 7, 7, 7, 7, 7, 7, 7, 7, 7, 7, 7, 7, 7, 7, 7, 7, 7, 7, 7, 7, 7, 7, 7, 7, 7, 7, 7, 7, 7, 7, 7, 7, 7, 7, 7, 7, 7, 7, 7, 7, 7, 7, 7, 7, 7, 7, 7, 7, 7, 7, 7, 7, 7, 7, 7, 7, 7, 7, 7, 7, 7, 7, 7, 8, 8, 8, 8, 8, 8, 8, 8, 8, 8, 8, 8, 8, 8, 8, 8, 8, 8, 8, 8, 8, 8, 8, 8, 8, 8, 8, 8, 8, 8, 8, 8, 8, 8, 8, 8, 8, 8, 8, 8, 8, 8, 8, 8, 8, 8, 8, 8, 8, 8, 8, 8, 8, 8, 8, 8, 8, 8, 8, 8, 8, 8, 8, 8, 8, 8, 8, 8, 8, 8, 8, 8, 8, 8, 8, 8, 8, 8, 8, 8, 8, 8, 8, 8, 8, 8, 8, 8, 8, 8, 8, 8, 8, 8, 8, 8, 8, 8, 8, 8, 8, 8, 8, 8, 8, 8, 8, 8, 8, 8, 8, 8, 8, 8, 8, 8, 8, 8, 8, 8, 8, 8, 8, 8, 8, 8, 8, 8]⟩)) (.tmp 21)) 5 [(21, qv 3)] ([], []) (qv 4) 1 <|
 .calc (.convert 5 3 (.tmp 22)) 3 [(22, qv 4)] ([], []) (qv 5) 1 <|
 .calc (.binOp .add 3 (.tmp 19) (.tmp 23) 3) 3 [(19, qv 2), (23, qv 5)] ([], []) (qv 6) 1 <|
 .ret ([], []) (qv 6)) qF 0 <|
 .calc2 (.binOp .geq 24 (.tmp 13) (.const (.int .u64 256)) 24) 4 [(13, qv 0)] ([], []) qT 0 (
 .calc (.binOp .shr 24 (.tmp 15) (.const (.int .u64 8)) 85) 24 [(15, qv 0)] ([], []) (qv 1) 1 <|
 .calc (.binOp .add 3 (.tmp 17) (.const (.int .i64 8)) 3) 3 [(17, .leaf (.atom (.const (.int .i64 0))))] ([], []) (qv 2) 1 <|
 .calc (.convert 24 5 (.tmp 20)) 5 [(20, qv 1)] ([], []) (qv 3) 1 <|
 .calc (.index 9 (.const (.string ⟨#[0, 1, 2, 2, 3, 3, 3, 3, 4, 4, 4, 4, 4, 4, 4, 4, 5, 5, 5, 5, 5, 5, 5, 5, 5, 5, 5, 5, 5, 5, 5, 5, 6, 6, 6, 6, 6, 6, 6, 6, 6, 6, 6, 6, 6, 6, 6, 6, 6, 6, 6, 6, 6, 6, 6, 6, 6, 6, 6, 6, 6, 6, 6, 6, 7, 7, 7, 7, 7, 7, 7, 7, 7, 7, 7, 7, 7, 7, 7, 7, 7, 7, 7, 7, 7, 7, 7, 7, 7, 7, 7, 7, 7, 7, 7, 7, 7, 7, 7, 7, 7, 7, 7, 7, 7, 7, 7, 7, 7, 7, 7, 7, 7, 7, 7, 7, 7, 7, 7, 7, 7, 7, 7, 7, 7, 7, 7, 7, 8, 8, 8, 8, 8, 8, 8, 8, 8, 8, 8, 8, 8, 8, 8, 8, 8, 8, 8, 8, 8, 8, 8, 8, 8, 8, 8, 8, 8, 8, 8, 8, 8, 8, 8, 8, 8, 8, 8, 8, 8, 8, 8, 8, 8, 8, 8, 8, 8, 8, 8, 8, 8, 8, 8, 8, 8, 8, 8, 8, 8, 8, 8, 8, 8, 8, 8, 8, 8, 8, 8, 8, 8, 8, 8, 8, 8, 8, 8, 8, 8, 8, 8, 8, 8, 8, 8, 8, 8, 8, 8, 8, 8, 8, 8, 8, 8, 8, 8, 8, 8, 8, 8, 8, 8, 8, 8, 8, 8, 8, 8, 8, 8, 8, 8, 8, 8, 8, 8, 8, 8, 8, 8, 8, 8, 8, 8, 8]⟩)) (.tmp 21)) 5 [(21, qv 3)] ([], []) (qv 4) 1 <|
 .calc (.convert 5 3 (.tmp 22)) 3 [(22, qv 4)] ([], []) (qv 5) 1 <|
 .calc (.binOp .add 3 (.tmp 19) (.tmp 23) 3) 3 [(19, qv 2), (23, qv 5)] ([], []) (qv 6) 1 <|
 .ret ([], []) (qv 6)) qF 0 <|
 .calc (.convert 24 5 (.tmp 20)) 5 [(20, qv 0)] ([], []) (qv 1) 1 <|
 .calc (.index 9 (.const (.string ⟨#[0, 1, 2, 2, 3, 3, 3, 3, 4, 4, 4, 4, 4, 4, 4, 4, 5, 5, 5, 5, 5, 5, 5, 5, 5, 5, 5, 5, 5, 5, 5, 5, 6, 6, 6, 6, 6, 6, 6, 6, 6, 6, 6, 6, 6, 6, 6, 6, 6, 6, 6, 6, 6, 6, 6, 6, 6, 6, 6, 6, 6, 6, 6, 6, 7, 7, 7, 7, 7, 7, 7, 7, 7, 7, 7, 7, 7, 7, 7, 7, 7, 7, 7, 7, 7, 7, 7, 7, 7, 7, 7, 7, 7, 7, 7, 7, 7, 7, 7, 7, 7, 7, 7, 7, 7, 7, 7, 7, 7, 7, 7, 7, 7, 7, 7, 7, 7, 7, 7, 7, 7, 7, 7, 7, 7, 7, 7, 7, 8, 8, 8, 8, 8, 8, 8, 8, 8, 8, 8, 8, 8, 8, 8, 8, 8, 8, 8, 8, 8, 8, 8, 8, 8, 8, 8, 8, 8, 8, 8, 8, 8, 8, 8, 8, 8, 8, 8, 8, 8, 8, 8, 8, 8, 8, 8, 8, 8, 8, 8, 8, 8, 8, 8, 8, 8, 8, 8, 8, 8, 8, 8, 8, 8, 8, 8, 8, 8, 8, 8, 8, 8, 8, 8, 8, 8, 8, 8, 8, 8, 8, 8, 8, 8, 8, 8, 8, 8, 8, 8, 8, 8, 8, 8, 8, 8, 8, 8, 8, 8, 8, 8, 8, 8, 8, 8, 8, 8, 8, 8, 8, 8, 8, 8, 8, 8, 8, 8, 8, 8, 8, 8, 8, 8, 8, 8, 8]⟩)) (.tmp 21)) 5 [(21, qv 1)] ([], []) (qv 2) 1 <|
 .calc (.convert 5 3 (.tmp 22)) 3 [(22, qv 2)] ([], []) (qv 3) 1 <|
 .calc (.binOp .add 3 (.tmp 19) (.tmp 23) 3) 3 [(19, .leaf (.atom (.const (.int .i64 0)))), (23, qv 3)] ([], []) (qv 4) 1 <|
 .ret ([], []) (qv 4)
theorem c_len64 : compF Try.prog Try.f81 o_len64 (Try.f81.body.getD .skip) (symIn [.atom (.var 0)] Try.f81.ntmps 1) = some t_len64 := by kernel_rfl
theorem g_len64 : goodC Try.prog o_len64.ords (Try.f81.body.getD .skip) = true := by kernel_rfl
def tb_len64 : FuncId × Trans := (81, tLen64)
set_option maxRecDepth 100000 in
theorem aw_len64 : ∀ zs Q, tb_len64.2 zs Q → bindLs 0 [.atom (.var 0)] zs fun ae => bif Nat.beq ae.length 1 then AWp Try.prog twNil Q t_len64 [] ae else False := by
 intro zs Q h
 replace h : tLen64 zs Q := h
 unfold tLen64 at h
 split at h
 case h_2 => exact h.elim
 rename_i x
 obtain ⟨hx, h⟩ := h
 by_cases a0 : (x) ≥ 4294967296
 ·have e0 : (x).fdiv (2 ^ min (Int.toNat 32) IntKind.u64.bits) = (x) / 4294967296 := sh32
  by_cases a1 : ((x).fdiv (2 ^ min (Int.toNat 32) IntKind.u64.bits)) ≥ 65536
  ·have e1 : ((x).fdiv (2 ^ min (Int.toNat 32) IntKind.u64.bits)).fdiv (2 ^ min (Int.toNat 16) IntKind.u64.bits) = ((x).fdiv (2 ^ min (Int.toNat 32) IntKind.u64.bits)) / 65536 := sh16
   by_cases a2 : (((x).fdiv (2 ^ min (Int.toNat 32) IntKind.u64.bits)).fdiv (2 ^ min (Int.toNat 16) IntKind.u64.bits)) ≥ 256
   ·have e2 : (((x).fdiv (2 ^ min (Int.toNat 32) IntKind.u64.bits)).fdiv (2 ^ min (Int.toNat 16) IntKind.u64.bits)).fdiv (2 ^ min (Int.toNat 8) IntKind.u64.bits) = (((x).fdiv (2 ^ min (Int.toNat 32) IntKind.u64.bits)).fdiv (2 ^ min (Int.toNat 16) IntKind.u64.bits)) / 256 := sh8
    have hz : 0 < ((((x).fdiv (2 ^ min (Int.toNat 32) IntKind.u64.bits)).fdiv (2 ^ min (Int.toNat 16) IntKind.u64.bits)).fdiv (2 ^ min (Int.toNat 8) IntKind.u64.bits)) ∧ ((((x).fdiv (2 ^ min (Int.toNat 32) IntKind.u64.bits)).fdiv (2 ^ min (Int.toNat 16) IntKind.u64.bits)).fdiv (2 ^ min (Int.toNat 8) IntKind.u64.bits)) < 256 := by omega
    obtain ⟨k1, k2, k3, k4⟩ := len_leaf (x := x.toNat) (z := ((((x).fdiv (2 ^ min (Int.toNat 32) IntKind.u64.bits)).fdiv (2 ^ min (Int.toNat 16) IntKind.u64.bits)).fdiv (2 ^ min (Int.toNat 8) IntKind.u64.bits)).toNat) (s := 56) (by omega) (by omega) (by omega) (by omega)
    have h := h (56 + tab64 ((((x).fdiv (2 ^ min (Int.toNat 32) IntKind.u64.bits)).fdiv (2 ^ min (Int.toNat 16) IntKind.u64.bits)).fdiv (2 ^ min (Int.toNat 8) IntKind.u64.bits)).toNat) k1 (by omega) k3 k4
    repeat ((conv => whnf) <;> first | with_reducible first | refine wI (by omega) ?_ | refine wU (by omega) ?_ | refine wB (by omega) ?_ | refine And.intro rfl ?_ | rfl | refine And.intro ‹_› ?_ | refine cTe ‹_› ?_ | refine cFe ‹_› ?_ | refine cN (cTe ‹_› ?_) | refine cN (cFe ‹_› ?_) | refine cTe rfl ?_ | refine cEq ‹_› ?_ | refine cTt ?_ | refine cNt ?_ | refine cF (Eq.refl false) ?_ | refine cN (cF (Eq.refl false) ?_) | refine cTd (by omega) ?_ | refine cFd (by omega) ?_ | refine cN (cTd (by omega) ?_) | refine cN (cFd (by omega) ?_) | refine And.intro (by omega) ?_ | refine And.intro (Eq.refl true) ?_)
    generalize hS : strB _ = S at *
    have hT : S.length = 256 ∧ ∀ z < 256, S.getD z 0 = ((tab64 z : Nat) : Int) := by rw [← hS]; decide +kernel
    have hg := hT.2 ((((x).fdiv (2 ^ min (Int.toNat 32) IntKind.u64.bits)).fdiv (2 ^ min (Int.toNat 16) IntKind.u64.bits)).fdiv (2 ^ min (Int.toNat 8) IntKind.u64.bits)).toNat (by omega)
    have hb : ((56 + tab64 ((((x).fdiv (2 ^ min (Int.toNat 32) IntKind.u64.bits)).fdiv (2 ^ min (Int.toNat 16) IntKind.u64.bits)).fdiv (2 ^ min (Int.toNat 8) IntKind.u64.bits)).toNat : Nat) : Int) = 56 + S.getD ((((x).fdiv (2 ^ min (Int.toNat 32) IntKind.u64.bits)).fdiv (2 ^ min (Int.toNat 16) IntKind.u64.bits)).fdiv (2 ^ min (Int.toNat 8) IntKind.u64.bits)).toNat 0 := by rw [hg]; omega
    have hl := hT.1
    rw [hb] at h
    repeat ((conv => whnf) <;> first | with_reducible first | refine wI (by omega) ?_ | refine wU (by omega) ?_ | refine wB (by omega) ?_ | refine And.intro rfl ?_ | rfl | refine And.intro ‹_› ?_ | refine cTe ‹_› ?_ | refine cFe ‹_› ?_ | refine cN (cTe ‹_› ?_) | refine cN (cFe ‹_› ?_) | refine cTe rfl ?_ | refine cEq ‹_› ?_ | refine cTt ?_ | refine cNt ?_ | refine cF (Eq.refl false) ?_ | refine cN (cF (Eq.refl false) ?_) | refine cTd (by omega) ?_ | refine cFd (by omega) ?_ | refine cN (cTd (by omega) ?_) | refine cN (cFd (by omega) ?_) | refine And.intro (by omega) ?_ | refine And.intro (Eq.refl true) ?_)
    (conv => whnf)
    exact h
   ·skip
    have hz : 0 < (((x).fdiv (2 ^ min (Int.toNat 32) IntKind.u64.bits)).fdiv (2 ^ min (Int.toNat 16) IntKind.u64.bits)) ∧ (((x).fdiv (2 ^ min (Int.toNat 32) IntKind.u64.bits)).fdiv (2 ^ min (Int.toNat 16) IntKind.u64.bits)) < 256 := by omega
    obtain ⟨k1, k2, k3, k4⟩ := len_leaf (x := x.toNat) (z := (((x).fdiv (2 ^ min (Int.toNat 32) IntKind.u64.bits)).fdiv (2 ^ min (Int.toNat 16) IntKind.u64.bits)).toNat) (s := 48) (by omega) (by omega) (by omega) (by omega)
    have h := h (48 + tab64 (((x).fdiv (2 ^ min (Int.toNat 32) IntKind.u64.bits)).fdiv (2 ^ min (Int.toNat 16) IntKind.u64.bits)).toNat) k1 (by omega) k3 k4
    repeat ((conv => whnf) <;> first | with_reducible first | refine wI (by omega) ?_ | refine wU (by omega) ?_ | refine wB (by omega) ?_ | refine And.intro rfl ?_ | rfl | refine And.intro ‹_› ?_ | refine cTe ‹_› ?_ | refine cFe ‹_› ?_ | refine cN (cTe ‹_› ?_) | refine cN (cFe ‹_› ?_) | refine cTe rfl ?_ | refine cEq ‹_› ?_ | refine cTt ?_ | refine cNt ?_ | refine cF (Eq.refl false) ?_ | refine cN (cF (Eq.refl false) ?_) | refine cTd (by omega) ?_ | refine cFd (by omega) ?_ | refine cN (cTd (by omega) ?_) | refine cN (cFd (by omega) ?_) | refine And.intro (by omega) ?_ | refine And.intro (Eq.refl true) ?_)
    generalize hS : strB _ = S at *
    have hT : S.length = 256 ∧ ∀ z < 256, S.getD z 0 = ((tab64 z : Nat) : Int) := by rw [← hS]; decide +kernel
    have hg := hT.2 (((x).fdiv (2 ^ min (Int.toNat 32) IntKind.u64.bits)).fdiv (2 ^ min (Int.toNat 16) IntKind.u64.bits)).toNat (by omega)
    have hb : ((48 + tab64 (((x).fdiv (2 ^ min (Int.toNat 32) IntKind.u64.bits)).fdiv (2 ^ min (Int.toNat 16) IntKind.u64.bits)).toNat : Nat) : Int) = 48 + S.getD (((x).fdiv (2 ^ min (Int.toNat 32) IntKind.u64.bits)).fdiv (2 ^ min (Int.toNat 16) IntKind.u64.bits)).toNat 0 := by rw [hg]; omega
    have hl := hT.1
    rw [hb] at h
    repeat ((conv => whnf) <;> first | with_reducible first | refine wI (by omega) ?_ | refine wU (by omega) ?_ | refine wB (by omega) ?_ | refine And.intro rfl ?_ | rfl | refine And.intro ‹_› ?_ | refine cTe ‹_› ?_ | refine cFe ‹_› ?_ | refine cN (cTe ‹_› ?_) | refine cN (cFe ‹_› ?_) | refine cTe rfl ?_ | refine cEq ‹_› ?_ | refine cTt ?_ | refine cNt ?_ | refine cF (Eq.refl false) ?_ | refine cN (cF (Eq.refl false) ?_) | refine cTd (by omega) ?_ | refine cFd (by omega) ?_ | refine cN (cTd (by omega) ?_) | refine cN (cFd (by omega) ?_) | refine And.intro (by omega) ?_ | refine And.intro (Eq.refl true) ?_)
    (conv => whnf)
    exact h
  ·skip
   by_cases a2 : ((x).fdiv (2 ^ min (Int.toNat 32) IntKind.u64.bits)) ≥ 256
   ·have e2 : ((x).fdiv (2 ^ min (Int.toNat 32) IntKind.u64.bits)).fdiv (2 ^ min (Int.toNat 8) IntKind.u64.bits) = ((x).fdiv (2 ^ min (Int.toNat 32) IntKind.u64.bits)) / 256 := sh8
    have hz : 0 < (((x).fdiv (2 ^ min (Int.toNat 32) IntKind.u64.bits)).fdiv (2 ^ min (Int.toNat 8) IntKind.u64.bits)) ∧ (((x).fdiv (2 ^ min (Int.toNat 32) IntKind.u64.bits)).fdiv (2 ^ min (Int.toNat 8) IntKind.u64.bits)) < 256 := by omega
    obtain ⟨k1, k2, k3, k4⟩ := len_leaf (x := x.toNat) (z := (((x).fdiv (2 ^ min (Int.toNat 32) IntKind.u64.bits)).fdiv (2 ^ min (Int.toNat 8) IntKind.u64.bits)).toNat) (s := 40) (by omega) (by omega) (by omega) (by omega)
    have h := h (40 + tab64 (((x).fdiv (2 ^ min (Int.toNat 32) IntKind.u64.bits)).fdiv (2 ^ min (Int.toNat 8) IntKind.u64.bits)).toNat) k1 (by omega) k3 k4
    repeat ((conv => whnf) <;> first | with_reducible first | refine wI (by omega) ?_ | refine wU (by omega) ?_ | refine wB (by omega) ?_ | refine And.intro rfl ?_ | rfl | refine And.intro ‹_› ?_ | refine cTe ‹_› ?_ | refine cFe ‹_› ?_ | refine cN (cTe ‹_› ?_) | refine cN (cFe ‹_› ?_) | refine cTe rfl ?_ | refine cEq ‹_› ?_ | refine cTt ?_ | refine cNt ?_ | refine cF (Eq.refl false) ?_ | refine cN (cF (Eq.refl false) ?_) | refine cTd (by omega) ?_ | refine cFd (by omega) ?_ | refine cN (cTd (by omega) ?_) | refine cN (cFd (by omega) ?_) | refine And.intro (by omega) ?_ | refine And.intro (Eq.refl true) ?_)
    generalize hS : strB _ = S at *
    have hT : S.length = 256 ∧ ∀ z < 256, S.getD z 0 = ((tab64 z : Nat) : Int) := by rw [← hS]; decide +kernel
    have hg := hT.2 (((x).fdiv (2 ^ min (Int.toNat 32) IntKind.u64.bits)).fdiv (2 ^ min (Int.toNat 8) IntKind.u64.bits)).toNat (by omega)
    have hb : ((40 + tab64 (((x).fdiv (2 ^ min (Int.toNat 32) IntKind.u64.bits)).fdiv (2 ^ min (Int.toNat 8) IntKind.u64.bits)).toNat : Nat) : Int) = 40 + S.getD (((x).fdiv (2 ^ min (Int.toNat 32) IntKind.u64.bits)).fdiv (2 ^ min (Int.toNat 8) IntKind.u64.bits)).toNat 0 := by rw [hg]; omega
    have hl := hT.1
    rw [hb] at h
    repeat ((conv => whnf) <;> first | with_reducible first | refine wI (by omega) ?_ | refine wU (by omega) ?_ | refine wB (by omega) ?_ | refine And.intro rfl ?_ | rfl | refine And.intro ‹_› ?_ | refine cTe ‹_› ?_ | refine cFe ‹_› ?_ | refine cN (cTe ‹_› ?_) | refine cN (cFe ‹_› ?_) | refine cTe rfl ?_ | refine cEq ‹_› ?_ | refine cTt ?_ | refine cNt ?_ | refine cF (Eq.refl false) ?_ | refine cN (cF (Eq.refl false) ?_) | refine cTd (by omega) ?_ | refine cFd (by omega) ?_ | refine cN (cTd (by omega) ?_) | refine cN (cFd (by omega) ?_) | refine And.intro (by omega) ?_ | refine And.intro (Eq.refl true) ?_)
    (conv => whnf)
    exact h
   ·skip
    have hz : 0 < ((x).fdiv (2 ^ min (Int.toNat 32) IntKind.u64.bits)) ∧ ((x).fdiv (2 ^ min (Int.toNat 32) IntKind.u64.bits)) < 256 := by omega
    obtain ⟨k1, k2, k3, k4⟩ := len_leaf (x := x.toNat) (z := ((x).fdiv (2 ^ min (Int.toNat 32) IntKind.u64.bits)).toNat) (s := 32) (by omega) (by omega) (by omega) (by omega)
    have h := h (32 + tab64 ((x).fdiv (2 ^ min (Int.toNat 32) IntKind.u64.bits)).toNat) k1 (by omega) k3 k4
    repeat ((conv => whnf) <;> first | with_reducible first | refine wI (by omega) ?_ | refine wU (by omega) ?_ | refine wB (by omega) ?_ | refine And.intro rfl ?_ | rfl | refine And.intro ‹_› ?_ | refine cTe ‹_› ?_ | refine cFe ‹_› ?_ | refine cN (cTe ‹_› ?_) | refine cN (cFe ‹_› ?_) | refine cTe rfl ?_ | refine cEq ‹_› ?_ | refine cTt ?_ | refine cNt ?_ | refine cF (Eq.refl false) ?_ | refine cN (cF (Eq.refl false) ?_) | refine cTd (by omega) ?_ | refine cFd (by omega) ?_ | refine cN (cTd (by omega) ?_) | refine cN (cFd (by omega) ?_) | refine And.intro (by omega) ?_ | refine And.intro (Eq.refl true) ?_)
    generalize hS : strB _ = S at *
    have hT : S.length = 256 ∧ ∀ z < 256, S.getD z 0 = ((tab64 z : Nat) : Int) := by rw [← hS]; decide +kernel
    have hg := hT.2 ((x).fdiv (2 ^ min (Int.toNat 32) IntKind.u64.bits)).toNat (by omega)
    have hb : ((32 + tab64 ((x).fdiv (2 ^ min (Int.toNat 32) IntKind.u64.bits)).toNat : Nat) : Int) = 32 + S.getD ((x).fdiv (2 ^ min (Int.toNat 32) IntKind.u64.bits)).toNat 0 := by rw [hg]; omega
    have hl := hT.1
    rw [hb] at h
    repeat ((conv => whnf) <;> first | with_reducible first | refine wI (by omega) ?_ | refine wU (by omega) ?_ | refine wB (by omega) ?_ | refine And.intro rfl ?_ | rfl | refine And.intro ‹_› ?_ | refine cTe ‹_› ?_ | refine cFe ‹_› ?_ | refine cN (cTe ‹_› ?_) | refine cN (cFe ‹_› ?_) | refine cTe rfl ?_ | refine cEq ‹_› ?_ | refine cTt ?_ | refine cNt ?_ | refine cF (Eq.refl false) ?_ | refine cN (cF (Eq.refl false) ?_) | refine cTd (by omega) ?_ | refine cFd (by omega) ?_ | refine cN (cTd (by omega) ?_) | refine cN (cFd (by omega) ?_) | refine And.intro (by omega) ?_ | refine And.intro (Eq.refl true) ?_)
    (conv => whnf)
    exact h
 ·skip
  by_cases a1 : (x) ≥ 65536
  ·have e1 : (x).fdiv (2 ^ min (Int.toNat 16) IntKind.u64.bits) = (x) / 65536 := sh16
   by_cases a2 : ((x).fdiv (2 ^ min (Int.toNat 16) IntKind.u64.bits)) ≥ 256
   ·have e2 : ((x).fdiv (2 ^ min (Int.toNat 16) IntKind.u64.bits)).fdiv (2 ^ min (Int.toNat 8) IntKind.u64.bits) = ((x).fdiv (2 ^ min (Int.toNat 16) IntKind.u64.bits)) / 256 := sh8
    have hz : 0 < (((x).fdiv (2 ^ min (Int.toNat 16) IntKind.u64.bits)).fdiv (2 ^ min (Int.toNat 8) IntKind.u64.bits)) ∧ (((x).fdiv (2 ^ min (Int.toNat 16) IntKind.u64.bits)).fdiv (2 ^ min (Int.toNat 8) IntKind.u64.bits)) < 256 := by omega
    obtain ⟨k1, k2, k3, k4⟩ := len_leaf (x := x.toNat) (z := (((x).fdiv (2 ^ min (Int.toNat 16) IntKind.u64.bits)).fdiv (2 ^ min (Int.toNat 8) IntKind.u64.bits)).toNat) (s := 24) (by omega) (by omega) (by omega) (by omega)
    have h := h (24 + tab64 (((x).fdiv (2 ^ min (Int.toNat 16) IntKind.u64.bits)).fdiv (2 ^ min (Int.toNat 8) IntKind.u64.bits)).toNat) k1 (by omega) k3 k4
    repeat ((conv => whnf) <;> first | with_reducible first | refine wI (by omega) ?_ | refine wU (by omega) ?_ | refine wB (by omega) ?_ | refine And.intro rfl ?_ | rfl | refine And.intro ‹_› ?_ | refine cTe ‹_› ?_ | refine cFe ‹_› ?_ | refine cN (cTe ‹_› ?_) | refine cN (cFe ‹_› ?_) | refine cTe rfl ?_ | refine cEq ‹_› ?_ | refine cTt ?_ | refine cNt ?_ | refine cF (Eq.refl false) ?_ | refine cN (cF (Eq.refl false) ?_) | refine cTd (by omega) ?_ | refine cFd (by omega) ?_ | refine cN (cTd (by omega) ?_) | refine cN (cFd (by omega) ?_) | refine And.intro (by omega) ?_ | refine And.intro (Eq.refl true) ?_)
    generalize hS : strB _ = S at *
    have hT : S.length = 256 ∧ ∀ z < 256, S.getD z 0 = ((tab64 z : Nat) : Int) := by rw [← hS]; decide +kernel
    have hg := hT.2 (((x).fdiv (2 ^ min (Int.toNat 16) IntKind.u64.bits)).fdiv (2 ^ min (Int.toNat 8) IntKind.u64.bits)).toNat (by omega)
    have hb : ((24 + tab64 (((x).fdiv (2 ^ min (Int.toNat 16) IntKind.u64.bits)).fdiv (2 ^ min (Int.toNat 8) IntKind.u64.bits)).toNat : Nat) : Int) = 24 + S.getD (((x).fdiv (2 ^ min (Int.toNat 16) IntKind.u64.bits)).fdiv (2 ^ min (Int.toNat 8) IntKind.u64.bits)).toNat 0 := by rw [hg]; omega
    have hl := hT.1
    rw [hb] at h
    repeat ((conv => whnf) <;> first | with_reducible first | refine wI (by omega) ?_ | refine wU (by omega) ?_ | refine wB (by omega) ?_ | refine And.intro rfl ?_ | rfl | refine And.intro ‹_› ?_ | refine cTe ‹_› ?_ | refine cFe ‹_› ?_ | refine cN (cTe ‹_› ?_) | refine cN (cFe ‹_› ?_) | refine cTe rfl ?_ | refine cEq ‹_› ?_ | refine cTt ?_ | refine cNt ?_ | refine cF (Eq.refl false) ?_ | refine cN (cF (Eq.refl false) ?_) | refine cTd (by omega) ?_ | refine cFd (by omega) ?_ | refine cN (cTd (by omega) ?_) | refine cN (cFd (by omega) ?_) | refine And.intro (by omega) ?_ | refine And.intro (Eq.refl true) ?_)
    (conv => whnf)
    exact h
   ·skip
    have hz : 0 < ((x).fdiv (2 ^ min (Int.toNat 16) IntKind.u64.bits)) ∧ ((x).fdiv (2 ^ min (Int.toNat 16) IntKind.u64.bits)) < 256 := by omega
    obtain ⟨k1, k2, k3, k4⟩ := len_leaf (x := x.toNat) (z := ((x).fdiv (2 ^ min (Int.toNat 16) IntKind.u64.bits)).toNat) (s := 16) (by omega) (by omega) (by omega) (by omega)
    have h := h (16 + tab64 ((x).fdiv (2 ^ min (Int.toNat 16) IntKind.u64.bits)).toNat) k1 (by omega) k3 k4
    repeat ((conv => whnf) <;> first | with_reducible first | refine wI (by omega) ?_ | refine wU (by omega) ?_ | refine wB (by omega) ?_ | refine And.intro rfl ?_ | rfl | refine And.intro ‹_› ?_ | refine cTe ‹_› ?_ | refine cFe ‹_› ?_ | refine cN (cTe ‹_› ?_) | refine cN (cFe ‹_› ?_) | refine cTe rfl ?_ | refine cEq ‹_› ?_ | refine cTt ?_ | refine cNt ?_ | refine cF (Eq.refl false) ?_ | refine cN (cF (Eq.refl false) ?_) | refine cTd (by omega) ?_ | refine cFd (by omega) ?_ | refine cN (cTd (by omega) ?_) | refine cN (cFd (by omega) ?_) | refine And.intro (by omega) ?_ | refine And.intro (Eq.refl true) ?_)
    generalize hS : strB _ = S at *
    have hT : S.length = 256 ∧ ∀ z < 256, S.getD z 0 = ((tab64 z : Nat) : Int) := by rw [← hS]; decide +kernel
    have hg := hT.2 ((x).fdiv (2 ^ min (Int.toNat 16) IntKind.u64.bits)).toNat (by omega)
    have hb : ((16 + tab64 ((x).fdiv (2 ^ min (Int.toNat 16) IntKind.u64.bits)).toNat : Nat) : Int) = 16 + S.getD ((x).fdiv (2 ^ min (Int.toNat 16) IntKind.u64.bits)).toNat 0 := by rw [hg]; omega
    have hl := hT.1
    rw [hb] at h
    repeat ((conv => whnf) <;> first | with_reducible first | refine wI (by omega) ?_ | refine wU (by omega) ?_ | refine wB (by omega) ?_ | refine And.intro rfl ?_ | rfl | refine And.intro ‹_› ?_ | refine cTe ‹_› ?_ | refine cFe ‹_› ?_ | refine cN (cTe ‹_› ?_) | refine cN (cFe ‹_› ?_) | refine cTe rfl ?_ | refine cEq ‹_› ?_ | refine cTt ?_ | refine cNt ?_ | refine cF (Eq.refl false) ?_ | refine cN (cF (Eq.refl false) ?_) | refine cTd (by omega) ?_ | refine cFd (by omega) ?_ | refine cN (cTd (by omega) ?_) | refine cN (cFd (by omega) ?_) | refine And.intro (by omega) ?_ | refine And.intro (Eq.refl true) ?_)
    (conv => whnf)
    exact h
  ·skip
   by_cases a2 : (x) ≥ 256
   ·have e2 : (x).fdiv (2 ^ min (Int.toNat 8) IntKind.u64.bits) = (x) / 256 := sh8
    have hz : 0 < ((x).fdiv (2 ^ min (Int.toNat 8) IntKind.u64.bits)) ∧ ((x).fdiv (2 ^ min (Int.toNat 8) IntKind.u64.bits)) < 256 := by omega
    obtain ⟨k1, k2, k3, k4⟩ := len_leaf (x := x.toNat) (z := ((x).fdiv (2 ^ min (Int.toNat 8) IntKind.u64.bits)).toNat) (s := 8) (by omega) (by omega) (by omega) (by omega)
    have h := h (8 + tab64 ((x).fdiv (2 ^ min (Int.toNat 8) IntKind.u64.bits)).toNat) k1 (by omega) k3 k4
    repeat ((conv => whnf) <;> first | with_reducible first | refine wI (by omega) ?_ | refine wU (by omega) ?_ | refine wB (by omega) ?_ | refine And.intro rfl ?_ | rfl | refine And.intro ‹_› ?_ | refine cTe ‹_› ?_ | refine cFe ‹_› ?_ | refine cN (cTe ‹_› ?_) | refine cN (cFe ‹_› ?_) | refine cTe rfl ?_ | refine cEq ‹_› ?_ | refine cTt ?_ | refine cNt ?_ | refine cF (Eq.refl false) ?_ | refine cN (cF (Eq.refl false) ?_) | refine cTd (by omega) ?_ | refine cFd (by omega) ?_ | refine cN (cTd (by omega) ?_) | refine cN (cFd (by omega) ?_) | refine And.intro (by omega) ?_ | refine And.intro (Eq.refl true) ?_)
    generalize hS : strB _ = S at *
    have hT : S.length = 256 ∧ ∀ z < 256, S.getD z 0 = ((tab64 z : Nat) : Int) := by rw [← hS]; decide +kernel
    have hg := hT.2 ((x).fdiv (2 ^ min (Int.toNat 8) IntKind.u64.bits)).toNat (by omega)
    have hb : ((8 + tab64 ((x).fdiv (2 ^ min (Int.toNat 8) IntKind.u64.bits)).toNat : Nat) : Int) = 8 + S.getD ((x).fdiv (2 ^ min (Int.toNat 8) IntKind.u64.bits)).toNat 0 := by rw [hg]; omega
    have hl := hT.1
    rw [hb] at h
    repeat ((conv => whnf) <;> first | with_reducible first | refine wI (by omega) ?_ | refine wU (by omega) ?_ | refine wB (by omega) ?_ | refine And.intro rfl ?_ | rfl | refine And.intro ‹_› ?_ | refine cTe ‹_› ?_ | refine cFe ‹_› ?_ | refine cN (cTe ‹_› ?_) | refine cN (cFe ‹_› ?_) | refine cTe rfl ?_ | refine cEq ‹_› ?_ | refine cTt ?_ | refine cNt ?_ | refine cF (Eq.refl false) ?_ | refine cN (cF (Eq.refl false) ?_) | refine cTd (by omega) ?_ | refine cFd (by omega) ?_ | refine cN (cTd (by omega) ?_) | refine cN (cFd (by omega) ?_) | refine And.intro (by omega) ?_ | refine And.intro (Eq.refl true) ?_)
    (conv => whnf)
    exact h
   ·skip
    have hz : 0 < (x) ∧ (x) < 256 := by omega
    obtain ⟨k1, k2, k3, k4⟩ := len_leaf (x := x.toNat) (z := (x).toNat) (s := 0) (by omega) (by omega) (by omega) (by omega)
    have h := h (0 + tab64 (x).toNat) k1 (by omega) k3 k4
    repeat ((conv => whnf) <;> first | with_reducible first | refine wI (by omega) ?_ | refine wU (by omega) ?_ | refine wB (by omega) ?_ | refine And.intro rfl ?_ | rfl | refine And.intro ‹_› ?_ | refine cTe ‹_› ?_ | refine cFe ‹_› ?_ | refine cN (cTe ‹_› ?_) | refine cN (cFe ‹_› ?_) | refine cTe rfl ?_ | refine cEq ‹_› ?_ | refine cTt ?_ | refine cNt ?_ | refine cF (Eq.refl false) ?_ | refine cN (cF (Eq.refl false) ?_) | refine cTd (by omega) ?_ | refine cFd (by omega) ?_ | refine cN (cTd (by omega) ?_) | refine cN (cFd (by omega) ?_) | refine And.intro (by omega) ?_ | refine And.intro (Eq.refl true) ?_)
    generalize hS : strB _ = S at *
    have hT : S.length = 256 ∧ ∀ z < 256, S.getD z 0 = ((tab64 z : Nat) : Int) := by rw [← hS]; decide +kernel
    have hg := hT.2 (x).toNat (by omega)
    have hb : ((0 + tab64 (x).toNat : Nat) : Int) = 0 + S.getD (x).toNat 0 := by rw [hg]; omega
    have hl := hT.1
    rw [hb] at h
    repeat ((conv => whnf) <;> first | with_reducible first | refine wI (by omega) ?_ | refine wU (by omega) ?_ | refine wB (by omega) ?_ | refine And.intro rfl ?_ | rfl | refine And.intro ‹_› ?_ | refine cTe ‹_› ?_ | refine cFe ‹_› ?_ | refine cN (cTe ‹_› ?_) | refine cN (cFe ‹_› ?_) | refine cTe rfl ?_ | refine cEq ‹_› ?_ | refine cTt ?_ | refine cNt ?_ | refine cF (Eq.refl false) ?_ | refine cN (cF (Eq.refl false) ?_) | refine cTd (by omega) ?_ | refine cFd (by omega) ?_ | refine cN (cTd (by omega) ?_) | refine cN (cFd (by omega) ?_) | refine And.intro (by omega) ?_ | refine And.intro (Eq.refl true) ?_)
    (conv => whnf)
    exact h
theorem tb_len64_ok : Con Try.prog tb_len64.1 tb_len64.2 := con_tree twNil_ok o_len64 [.atom (.var 0)] 1 Try.func81 rfl c_len64 aw_len64 g_len64
end Go.Proofs.Ytohjkkmgcibemaa
