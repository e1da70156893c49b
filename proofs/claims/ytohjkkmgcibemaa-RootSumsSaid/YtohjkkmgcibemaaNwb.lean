/- Numbers in words: Len, Bytes, Of, Mul, Words -/
import Derived.Test.YtohjkkmgcibemaaNwa
set_option linter.unusedSimpArgs false
set_option linter.unusedVariables false
namespace Go.Proofs.Ytohjkkmgcibemaa
open Go.RowKit FdP FdP.Ch
def twB : Tab := tb_cutW :: tb_len64 :: []
theorem twB_ok : twB.OK Try.prog := tab_cons tb_cutW_ok <| tab_cons tb_len64_ok <| tab_nil _
def o_lenW : Orc := { ans := [(4, oV), (6, oV), (7, oB), (9, oV), (10, oV), (11, oV), (14, oV), (15, oV), (16, oV), (17, oV), (18, oV), (19, oV)], lps := [] }
def t_lenW : Tree :=
 .call 66 [.atom (.var 0)] ([], []) (qv 1) 1 [] <|
 .calc (.call { callee := .builtin .len, args := #[.tmp 5], argTypes := #[57] }) 3 [(5, qv 1)] ([], []) (qv 2) 1 <|
 .calc2 (.binOp .eql 3 (.tmp 6) (.const (.int .i64 0)) 3) 4 [(6, qv 2)] ([], []) qT 0 (
 .ret ([], []) (.leaf (.atom (.const (.int .i64 0))))) qF 0 <|
 .calc (.call { callee := .builtin .len, args := #[.tmp 8], argTypes := #[57] }) 3 [(8, qv 1)] ([], []) (qv 3) 1 <|
 .calc (.binOp .sub 3 (.tmp 9) (.const (.int .i64 1)) 3) 3 [(9, qv 3)] ([], []) (qv 4) 1 <|
 .calc (.binOp .mul 3 (.const (.int .i64 64)) (.tmp 10) 3) 3 [(10, qv 4)] ([], []) (qv 5) 1 <|
 .calc (.call { callee := .builtin .len, args := #[.tmp 13], argTypes := #[57] }) 3 [(13, qv 1)] ([], []) (qv 6) 1 <|
 .calc (.binOp .sub 3 (.tmp 14) (.const (.int .i64 1)) 3) 3 [(14, qv 6)] ([], []) (qv 7) 1 <|
 .calc (.indexAddr 57 (.tmp 12) (.tmp 15)) 0 [(12, qv 1), (15, qv 7)] ([], []) (qv 8) 1 <|
 .calc (.load 24 (.tmp 16)) 24 [(16, qv 8)] ([], []) (qv 9) 1 <|
 .call 81 [.atom (.var 9)] ([], []) (qv 10) 1 [] <|
 .calc (.binOp .add 3 (.tmp 11) (.tmp 18) 3) 3 [(11, qv 5), (18, qv 10)] ([], []) (qv 11) 1 <|
 .ret ([], []) (qv 11)
theorem c_lenW : compF Try.prog Try.f63 o_lenW (Try.f63.body.getD .skip) (symIn [.atom (.var 0)] Try.f63.ntmps 1) = some t_lenW := by kernel_rfl
theorem g_lenW : goodC Try.prog o_lenW.ords (Try.f63.body.getD .skip) = true := by kernel_rfl
def tb_lenW : FuncId × Trans := (63, tLenW)
set_option maxRecDepth 100000 in
theorem aw_lenW : ∀ zs Q, tb_lenW.2 zs Q → bindLs 0 [.atom (.var 0)] zs fun ae => bif Nat.beq ae.length 1 then AWp Try.prog twB Q t_lenW [] ae else False := by
 intro zs Q h
 replace h : tLenW zs Q := h
 unfold tLenW at h
 split at h
 case h_2 => exact h.elim
 rename_i l
 obtain ⟨⟨hw, hl⟩, h⟩ := h
 have hm : W64 l ∧ l.length ≤ 1000000 := ⟨hw, hl⟩
 have hw2 := wdN_W64 (nW l)
 have hlen : (wdN (nW l)).length ≤ l.length := wdN_len (nW_lt hw)
 have hlast := wdN_last (n := nW l)
 have hnn := nW_wdN (nW l)
 repeat ((conv => whnf) <;> first | with_reducible first | refine wI (by omega) ?_ | refine And.intro rfl ?_ | rfl | refine And.intro ‹_› ?_ | refine cTe ‹_› ?_ | refine cFe ‹_› ?_ | refine cN (cTe ‹_› ?_) | refine cN (cFe ‹_› ?_) | refine cTe rfl ?_ | refine cEq ‹_› ?_ | refine cTt ?_ | refine cNt ?_ | refine cF (Eq.refl false) ?_ | refine cN (cF (Eq.refl false) ?_) | refine cTd (by omega) ?_ | refine cFd (by omega) ?_ | refine cN (cTd (by omega) ?_) | refine cN (cFd (by omega) ?_) | refine And.intro (by omega) ?_ | refine And.intro (Eq.refl true) ?_)
 generalize wdN (nW l) = m at *
 have hg := hw2.getD ((m.length : Int) - 1).toNat
 by_cases m0 : m.length = 0
 ·have hz : m = [] := List.eq_nil_of_length_eq_zero m0
  have e0 : nW l = 0 := by rw [← hnn, hz]; rfl
  have h := h 0 (Nat.zero_le _) (by omega) (.inl rfl)
  repeat ((conv => whnf) <;> first | with_reducible first | refine wI (by omega) ?_ | refine And.intro rfl ?_ | rfl | refine And.intro ‹_› ?_ | refine cTe ‹_› ?_ | refine cFe ‹_› ?_ | refine cN (cTe ‹_› ?_) | refine cN (cFe ‹_› ?_) | refine cTe rfl ?_ | refine cEq ‹_› ?_ | refine cTt ?_ | refine cNt ?_ | refine cF (Eq.refl false) ?_ | refine cN (cF (Eq.refl false) ?_) | refine cTd (by omega) ?_ | refine cFd (by omega) ?_ | refine cN (cTd (by omega) ?_) | refine cN (cFd (by omega) ?_) | refine And.intro (by omega) ?_ | refine And.intro (Eq.refl true) ?_)
  (conv => whnf)
  exact h
 ·have ei : ((m.length : Int) - 1).toNat = m.length - 1 := by omega
  have hne := hlast (fun e => m0 (by rw [e]; rfl))
  have hgt : 0 < m.getD ((m.length : Int) - 1).toNat 0 := by rw [ei] at hg ⊢; omega
  have hb : 0 < m.getD ((m.length : Int) - 1).toNat 0 ∧ m.getD ((m.length : Int) - 1).toNat 0 < 18446744073709551616 := ⟨hgt, hg.2⟩
  repeat ((conv => whnf) <;> first | with_reducible first | refine wI (by omega) ?_ | refine And.intro rfl ?_ | rfl | refine And.intro ‹_› ?_ | refine cTe ‹_› ?_ | refine cFe ‹_› ?_ | refine cN (cTe ‹_› ?_) | refine cN (cFe ‹_› ?_) | refine cTe rfl ?_ | refine cEq ‹_› ?_ | refine cTt ?_ | refine cNt ?_ | refine cF (Eq.refl false) ?_ | refine cN (cF (Eq.refl false) ?_) | refine cTd (by omega) ?_ | refine cFd (by omega) ?_ | refine cN (cTd (by omega) ?_) | refine cN (cFd (by omega) ?_) | refine And.intro (by omega) ?_ | refine And.intro (Eq.refl true) ?_)
  intro k k0 k1 k2 k3
  rw [ei] at k2 k3
  obtain ⟨t1, t2⟩ := len_top hw2 (k := m.length - 1) (L0 := k) (by omega) k2 k3 k0
  rw [hnn] at t1 t2
  have h := h (64 * (m.length - 1) + k) (by omega) t1 t2
  have hc : ((64 * (m.length - 1) + k : Nat) : Int) = 64 * ((m.length : Int) - 1) + (k : Int) := by omega
  rw [hc] at h
  repeat ((conv => whnf) <;> first | with_reducible first | refine wI (by omega) ?_ | refine And.intro rfl ?_ | rfl | refine And.intro ‹_› ?_ | refine cTe ‹_› ?_ | refine cFe ‹_› ?_ | refine cN (cTe ‹_› ?_) | refine cN (cFe ‹_› ?_) | refine cTe rfl ?_ | refine cEq ‹_› ?_ | refine cTt ?_ | refine cNt ?_ | refine cF (Eq.refl false) ?_ | refine cN (cF (Eq.refl false) ?_) | refine cTd (by omega) ?_ | refine cFd (by omega) ?_ | refine cN (cTd (by omega) ?_) | refine cN (cFd (by omega) ?_) | refine And.intro (by omega) ?_ | refine And.intro (Eq.refl true) ?_)
  (conv => whnf)
  exact h
theorem tb_lenW_ok : Con Try.prog tb_lenW.1 tb_lenW.2 := con_tree twB_ok o_lenW [.atom (.var 0)] 1 Try.func63 rfl c_lenW aw_lenW g_lenW
def twC : Tab := tb_lenW :: tb_atW :: []
theorem twC_ok : twC.OK Try.prog := tab_cons tb_lenW_ok <| tab_cons tb_atW_ok <| tab_nil _
def o_bytesW : Orc := { ans := [(10, oB), (13, oB), (14, oV), (17, oV), (19, oV), (20, oB), (22, oV), (24, oV), (26, oB), (32, oV), (33, oV), (35, oV), (36, oV), (37, oV), (38, oV), (39, oV), (40, oV)], lps := [(1, [.cont 6 5 1, .slot 25 [.one]])], rws := [22] }
def t_bytesW : Tree :=
 .calc2 (.binOp .lss 3 (.tmp 9) (.const (.int .i64 0)) 3) 4 [(9, qv 1)] ([], []) qT 0 (
 .ret ([], []) (.tup [.atom (.const (.slice none 0 0)), .atom (.const (.int .i64 10))])) qF 0 <|
 .calc2 (.binOp .gtr 3 (.tmp 12) (.const (.int .i64 65536)) 3) 4 [(12, qv 1)] ([], []) qT 0 (
 .ret ([], []) (.tup [.atom (.const (.slice none 0 0)), .atom (.const (.int .i64 10))])) qF 0 <|
 .call 63 [.atom (.var 0)] ([], []) (qv 2) 1 [] <|
 .calc (.binOp .mul 3 (.const (.int .i64 8)) (.tmp 18) 3) 3 [(18, qv 1)] ([], []) (qv 3) 1 <|
 .calc2 (.binOp .gtr 3 (.tmp 17) (.tmp 19) 3) 4 [(17, qv 2), (19, qv 3)] ([], []) qT 0 (
 .ret ([], []) (.tup [.atom (.const (.slice none 0 0)), .atom (.const (.int .i64 11))])) qF 0 <|
 .mkx 1 [.int .u8 0] <|
 .calc (.call { callee := .builtin .len, args := #[.tmp 23], argTypes := #[52] }) 3 [(23, qv 4)] ([], [⟨4, 5, 5, 1⟩]) (qv 6) 1 <|
 .loop [.agg [.rest 5], .atom (.const (.int .i64 0))] [.row, .one] <|
 .calc2 (.binOp .lss 3 (.tmp 25) (.tmp 24) 3) 0 [(25, qv 8), (24, qv 6)] ([], []) qT 0 (
 .calc (.binOp .quo 3 (.tmp 31) (.const (.int .i64 8)) 3) 3 [(31, qv 8)] ([], []) (qv 9) 1 <|
 .call 64 [.atom (.var 0), .atom (.var 9)] ([], []) (qv 10) 1 [] <|
 .calc (.binOp .rem 3 (.tmp 34) (.const (.int .i64 8)) 3) 3 [(34, qv 8)] ([], []) (qv 11) 1 <|
 .calc (.binOp .mul 3 (.const (.int .i64 8)) (.tmp 35) 3) 3 [(35, qv 11)] ([], []) (qv 12) 1 <|
 .calc (.binOp .shr 24 (.tmp 33) (.tmp 36) 3) 24 [(33, qv 10), (36, qv 12)] ([], []) (qv 13) 1 <|
 .calc (.convert 24 5 (.tmp 37)) 5 [(37, qv 13)] ([], []) (qv 14) 1 <|
 .boundx 8 4 <|
 .sti [.rest 7] 0 8 1 1 [.one (.var 14)] <|
 .calc (.binOp .add 3 (.tmp 25) (.const (.int .i64 1)) 3) 3 [(25, qv 8)] ([], []) (qv 16) 1 <|
 .again 0 [.agg [.rest 15], .atom (.var 16)]) qF 0 <|
 .ret ([], [⟨4, 7, 5, 1⟩]) (.tup [.atom (.var 4), .atom (.const (.int .i64 0))])
theorem c_bytesW : compF Try.prog Try.f33 o_bytesW (Try.f33.body.getD .skip) (symIn [.atom (.var 0), .atom (.var 1)] Try.f33.ntmps 2) = some t_bytesW := by kernel_rfl
theorem g_bytesW : goodC Try.prog o_bytesW.ords (Try.f33.body.getD .skip) = true := by kernel_rfl
def tb_bytesW : FuncId × Trans := (33, tBytesW)
set_option maxRecDepth 100000 in
theorem aw_bytesW : ∀ zs Q, tb_bytesW.2 zs Q → bindLs 0 [.atom (.var 0), .atom (.var 1)] zs fun ae => bif Nat.beq ae.length 2 then AWp Try.prog twC Q t_bytesW [] ae else False := by
 intro zs Q h
 replace h : tBytesW zs Q := h
 unfold tBytesW at h
 split at h
 case h_2 => exact h.elim
 rename_i l n
 obtain ⟨⟨hw, hl, hn0, hn1, hlt⟩, h⟩ := h
 have hm : W64 l ∧ l.length ≤ 1000000 := ⟨hw, by omega⟩
 have hla : l.length ≤ 1000000 := by omega
 obtain ⟨M, rfl⟩ := Int.eq_ofNat_of_zero_le hn0
 have hM : (M : Int).toNat = M := rfl
 rw [hM] at hlt h
 repeat ((conv => whnf) <;> first | with_reducible first | refine wI (by omega) ?_ | refine wB (by omega) ?_ | refine wR (by omega) ?_ | refine wQ (by omega) ?_ | refine And.intro rfl ?_ | rfl | refine And.intro ‹_› ?_ | refine cTe ‹_› ?_ | refine cFe ‹_› ?_ | refine cN (cTe ‹_› ?_) | refine cN (cFe ‹_› ?_) | refine cTe rfl ?_ | refine cEq ‹_› ?_ | refine cTt ?_ | refine cNt ?_ | refine cF (Eq.refl false) ?_ | refine cN (cF (Eq.refl false) ?_) | refine cTd (by omega) ?_ | refine cFd (by omega) ?_ | refine cN (cTd (by omega) ?_) | refine cN (cFd (by omega) ?_) | refine And.intro (fun hh : Option.isSome none = true => by cases hh) ?_ | refine And.intro (by omega) ?_ | refine And.intro (Eq.refl true) ?_ | refine And.intro (Eq.refl (1 : Nat)) ?_)
 intro k k1 k2 k3
 have hk : k ≤ 8 * M := by
  rcases k3 with k3 | k3
  ·omega
  ·rw [show (256 : Nat) = 2 ^ 8 from rfl, ← Nat.pow_mul] at hlt
   have := (Nat.pow_lt_pow_iff_right (a := 2) (by omega)).1 (Nat.lt_of_le_of_lt k3 hlt)
   omega
 repeat ((conv => whnf) <;> first | with_reducible first | refine wI (by omega) ?_ | refine wB (by omega) ?_ | refine wR (by omega) ?_ | refine wQ (by omega) ?_ | refine And.intro rfl ?_ | rfl | refine And.intro ‹_› ?_ | refine cTe ‹_› ?_ | refine cFe ‹_› ?_ | refine cN (cTe ‹_› ?_) | refine cN (cFe ‹_› ?_) | refine cTe rfl ?_ | refine cEq ‹_› ?_ | refine cTt ?_ | refine cNt ?_ | refine cF (Eq.refl false) ?_ | refine cN (cF (Eq.refl false) ?_) | refine cTd (by omega) ?_ | refine cFd (by omega) ?_ | refine cN (cTd (by omega) ?_) | refine cN (cFd (by omega) ?_) | refine And.intro (fun hh : Option.isSome none = true => by cases hh) ?_ | refine And.intro (by omega) ?_ | refine And.intro (Eq.refl true) ?_ | refine And.intro (Eq.refl (1 : Nat)) ?_)
 refine ⟨Nat, fun i zs => i ≤ M ∧ zs = [.ints .u8 (digB (nW l) i ++ List.replicate (M - i) 0), .int .i64 (i : Int)], fun i => M - i, 0, ?_, ?_⟩
 ·(conv => whnf)
  exact ⟨_, Subs.refl' _, Nat.zero_le _, rfl⟩
 rintro i _ ⟨hi, rfl⟩
 have hdl := digB_rep (N := nW l) (M := M) (i := i) (by omega)
 by_cases hi2 : i < M
 ·have e8 : (i : Int) / 8 = ((i / 8 : Nat) : Int) := by omega
  have er : 8 * ((i : Int) % 8) = ((8 * (i % 8) : Nat) : Int) := by omega
  have ea := atW_nat hw (i / 8)
  have es : (atW l ((i : Int) / 8)).fdiv (2 ^ min (8 * ((i : Int) % 8)).toNat IntKind.u64.bits) = ((nW l / 18446744073709551616 ^ (i / 8) % 18446744073709551616 / 2 ^ (8 * (i % 8)) : Nat) : Int) := by
   rw [e8, er, ea]; exact shr_word (by omega)
  repeat ((conv => whnf) <;> first | with_reducible first | refine wI (by omega) ?_ | refine wB (by omega) ?_ | refine wR (by omega) ?_ | refine wQ (by omega) ?_ | refine And.intro rfl ?_ | rfl | refine And.intro ‹_› ?_ | refine cTe ‹_› ?_ | refine cFe ‹_› ?_ | refine cN (cTe ‹_› ?_) | refine cN (cFe ‹_› ?_) | refine cTe rfl ?_ | refine cEq ‹_› ?_ | refine cTt ?_ | refine cNt ?_ | refine cF (Eq.refl false) ?_ | refine cN (cF (Eq.refl false) ?_) | refine cTd (by omega) ?_ | refine cFd (by omega) ?_ | refine cN (cTd (by omega) ?_) | refine cN (cFd (by omega) ?_) | refine And.intro (fun hh : Option.isSome none = true => by cases hh) ?_ | refine And.intro (by omega) ?_ | refine And.intro (Eq.refl true) ?_ | refine And.intro (Eq.refl (1 : Nat)) ?_)
  intro r q hr h0 h1
  have hv : r = ((nW l / 256 ^ i % 256 : Nat) : Int) := by
   rw [es] at hr
   rw [← byte_word]
   omega
  subst hv
  repeat ((conv => whnf) <;> first | with_reducible first | refine wI (by omega) ?_ | refine wB (by omega) ?_ | refine wR (by omega) ?_ | refine wQ (by omega) ?_ | refine And.intro rfl ?_ | rfl | refine And.intro ‹_› ?_ | refine cTe ‹_› ?_ | refine cFe ‹_› ?_ | refine cN (cTe ‹_› ?_) | refine cN (cFe ‹_› ?_) | refine cTe rfl ?_ | refine cEq ‹_› ?_ | refine cTt ?_ | refine cNt ?_ | refine cF (Eq.refl false) ?_ | refine cN (cF (Eq.refl false) ?_) | refine cTd (by omega) ?_ | refine cFd (by omega) ?_ | refine cN (cTd (by omega) ?_) | refine cN (cFd (by omega) ?_) | refine And.intro (fun hh : Option.isSome none = true => by cases hh) ?_ | refine And.intro (by omega) ?_ | refine And.intro (Eq.refl true) ?_ | refine And.intro (Eq.refl (1 : Nat)) ?_)
  (conv => whnf)
  refine ⟨_, Subs.refl' _, i + 1, ⟨by omega, zsLi ?_ (by omega)⟩, by show M - (i + 1) < M - i; omega⟩
  show (digB (nW l) i ++ List.replicate (M - i) 0).set (0 + (i : Int).toNat * 1) _ = _
  rw [show 0 + (i : Int).toNat * 1 = i by omega, digB_set _ _ _ hi2]
 ·obtain rfl : i = M := by omega
  have e : digB (nW l) i ++ List.replicate (i - i) (0 : Int) = digB (nW l) i := by rw [Nat.sub_self]; exact List.append_nil _
  rw [← e] at h
  repeat ((conv => whnf) <;> first | with_reducible first | refine wI (by omega) ?_ | refine wB (by omega) ?_ | refine wR (by omega) ?_ | refine wQ (by omega) ?_ | refine And.intro rfl ?_ | rfl | refine And.intro ‹_› ?_ | refine cTe ‹_› ?_ | refine cFe ‹_› ?_ | refine cN (cTe ‹_› ?_) | refine cN (cFe ‹_› ?_) | refine cTe rfl ?_ | refine cEq ‹_› ?_ | refine cTt ?_ | refine cNt ?_ | refine cF (Eq.refl false) ?_ | refine cN (cF (Eq.refl false) ?_) | refine cTd (by omega) ?_ | refine cFd (by omega) ?_ | refine cN (cTd (by omega) ?_) | refine cN (cFd (by omega) ?_) | refine And.intro (fun hh : Option.isSome none = true => by cases hh) ?_ | refine And.intro (by omega) ?_ | refine And.intro (Eq.refl true) ?_ | refine And.intro (Eq.refl (1 : Nat)) ?_)
  (conv => whnf)
  exact h
theorem tb_bytesW_ok : Con Try.prog tb_bytesW.1 tb_bytesW.2 := con_tree twC_ok o_bytesW [.atom (.var 0), .atom (.var 1)] 2 Try.func33 rfl c_bytesW aw_bytesW g_bytesW
def twD : Tab := tb_cutW :: []
theorem twD_ok : twD.OK Try.prog := tab_cons tb_cutW_ok <| tab_nil _
def o_ofW : Orc := { ans := [(7, oV), (8, oV), (9, oV), (10, oV), (11, oV), (13, oV), (15, oB), (17, oV), (18, oV), (21, oV), (22, oV), (23, oV), (25, oV), (27, oV), (28, oV), (29, oV), (30, oV), (31, oV), (32, oV), (34, oV)], lps := [(0, [.cont 3 24 1, .slot 14 [.one]])], ords := [(5, [.pure 0, .pure 1, .quiet 2, .quiet 3, .quiet 4, .pure 5, .quiet 6, .pure 7, .quiet 8, .quiet 9, .quiet 10, .quiet 11, .quiet 12, .last 13])], rws := [11] }
def t_ofW : Tree :=
 .calc (.call { callee := .builtin .len, args := #[.tmp 6], argTypes := #[52] }) 3 [(6, qv 0)] ([], []) (qv 1) 1 <|
 .calc (.binOp .add 3 (.tmp 7) (.const (.int .i64 8)) 3) 3 [(7, qv 1)] ([], []) (qv 2) 1 <|
 .calc (.binOp .sub 3 (.tmp 8) (.const (.int .i64 1)) 3) 3 [(8, qv 2)] ([], []) (qv 3) 1 <|
 .calc (.binOp .quo 3 (.tmp 9) (.const (.int .i64 8)) 3) 3 [(9, qv 3)] ([], []) (qv 4) 1 <|
 .mkx 4 [.int .u64 0] <|
 .calc (.call { callee := .builtin .len, args := #[.tmp 12], argTypes := #[52] }) 3 [(12, qv 0)] ([], []) (qv 7) 1 <|
 .loop [.agg [.rest 6], .atom (.const (.int .i64 0))] [.row, .one] <|
 .calc2 (.binOp .lss 3 (.tmp 14) (.tmp 13) 3) 0 [(14, qv 9), (13, qv 7)] ([], []) qT 0 (
 .calc (.indexAddr 52 (.tmp 12) (.tmp 14)) 0 [(12, qv 0), (14, qv 9)] ([], []) (qv 10) 1 <|
 .calc (.load 5 (.tmp 17)) 5 [(17, qv 10)] ([], []) (qv 11) 1 <|
 .calc (.binOp .quo 3 (.tmp 20) (.const (.int .i64 8)) 3) 3 [(20, qv 9)] ([], []) (qv 12) 1 <|
 .boundx 12 5 <|
 .ldi [.rest 8] 0 12 1 1 false <|
 .calc (.convert 5 24 (.tmp 24)) 24 [(24, qv 11)] ([], []) (qv 14) 1 <|
 .calc (.binOp .rem 3 (.tmp 26) (.const (.int .i64 8)) 3) 3 [(26, qv 9)] ([], []) (qv 15) 1 <|
 .calc (.binOp .mul 3 (.const (.int .i64 8)) (.tmp 27) 3) 3 [(27, qv 15)] ([], []) (qv 16) 1 <|
 .calc (.binOp .shl 24 (.tmp 25) (.tmp 28) 3) 24 [(25, qv 14), (28, qv 16)] ([], []) (qv 17) 1 <|
 .calc (.binOp .or 24 (.tmp 23) (.tmp 29) 24) 24 [(23, qv 13), (29, qv 17)] ([], []) (qv 18) 1 <|
 .boundx 12 5 <|
 .sti [.rest 8] 0 12 1 1 [.one (.var 18)] <|
 .calc (.binOp .add 3 (.tmp 14) (.const (.int .i64 1)) 3) 3 [(14, qv 9)] ([], []) (qv 20) 1 <|
 .again 0 [.agg [.rest 19], .atom (.var 20)]) qF 0 <|
 .frz 5 8 ([], [⟨5, 8, 24, 1⟩]) <|
 .call 66 [.atom (.var 5)] ([], []) (qv 10) 1 [] <|
 .ret ([], []) (qv 10)
theorem c_ofW : compF Try.prog Try.f37 o_ofW (Try.f37.body.getD .skip) (symIn [.atom (.var 0)] Try.f37.ntmps 1) = some t_ofW := by kernel_rfl
theorem g_ofW : goodC Try.prog o_ofW.ords (Try.f37.body.getD .skip) = true := by kernel_rfl
def tb_ofW : FuncId × Trans := (37, tOfW)
set_option maxRecDepth 100000 in
theorem aw_ofW : ∀ zs Q, tb_ofW.2 zs Q → bindLs 0 [.atom (.var 0)] zs fun ae => bif Nat.beq ae.length 1 then AWp Try.prog twD Q t_ofW [] ae else False := by
 intro zs Q h
 replace h : tOfW zs Q := h
 unfold tOfW at h
 split at h
 case h_2 => exact h.elim
 rename_i b
 obtain ⟨⟨hb, hl⟩, h⟩ := h
 have hn : (((b.length : Int) + 8 - 1) / 8).toNat = (b.length + 7) / 8 := by omega
 have h0 := of_zero b
 repeat ((conv => whnf) <;> first | with_reducible first | refine wI (by omega) ?_ | refine wB (by omega) ?_ | refine wR (by omega) ?_ | refine wQ (by omega) ?_ | refine And.intro rfl ?_ | rfl | refine And.intro ‹_› ?_ | refine cTe ‹_› ?_ | refine cFe ‹_› ?_ | refine cN (cTe ‹_› ?_) | refine cN (cFe ‹_› ?_) | refine cTe rfl ?_ | refine cEq ‹_› ?_ | refine cTt ?_ | refine cNt ?_ | refine cF (Eq.refl false) ?_ | refine cN (cF (Eq.refl false) ?_) | refine cTd (by omega) ?_ | refine cFd (by omega) ?_ | refine cN (cTd (by omega) ?_) | refine cN (cFd (by omega) ?_) | refine And.intro (by omega) ?_ | refine And.intro (Eq.refl true) ?_ | refine And.intro (Eq.refl (1 : Nat)) ?_)
 refine ⟨Nat, fun i zs => i ≤ b.length ∧ ∃ R, OfI b i R ∧ zs = [.ints .u64 R, .int .i64 (i : Int)], fun i => b.length - i, 0, ?_, ?_⟩
 ·(conv => whnf)
  exact ⟨_, Subs.refl' _, Nat.zero_le _, _, h0, zsLi (by rw [hn]) rfl⟩
 rintro i _ ⟨hi, R, hR, rfl⟩
 have hRl := hR.2.1
 by_cases hi2 : i < b.length
 ·obtain ⟨g1, g2, g3⟩ := of_step hb hR hi2
  have hx := by_getD' hb (i : Int).toNat
  have e8 : 0 + ((i : Int) / 8).toNat * 1 = i / 8 := by omega
  have er : 8 * ((i : Int) % 8) = ((8 * (i % 8) : Nat) : Int) := by omega
  have ei : (i : Int).toNat = i := rfl
  have hv : bits .or .u64 (R.getD (0 + ((i : Int) / 8).toNat * 1) 0) (IntKind.u64.wrap (b.getD (i : Int).toNat 0 * 2 ^ min (8 * ((i : Int) % 8)).toNat IntKind.u64.bits)) = ((nval (b.take i) / 18446744073709551616 ^ (i / 8) + (b.getD i 0).toNat * 2 ^ (8 * (i % 8)) : Nat) : Int) := by
   rw [e8, er, ei, g1, ← or_word g2 (x := (b.getD i 0).toNat) (by rw [ei] at hx; omega) (by omega)]
   rw [ei] at hx
   rw [show (((b.getD i 0).toNat : Nat) : Int) = b.getD i 0 by omega]
  repeat ((conv => whnf) <;> first | with_reducible first | refine wI (by omega) ?_ | refine wU (by omega) ?_ | refine wB (by omega) ?_ | refine wR (by omega) ?_ | refine wQ (by omega) ?_ | refine And.intro rfl ?_ | rfl | refine And.intro ‹_› ?_ | refine cTe ‹_› ?_ | refine cFe ‹_› ?_ | refine cN (cTe ‹_› ?_) | refine cN (cFe ‹_› ?_) | refine cTe rfl ?_ | refine cEq ‹_› ?_ | refine cTt ?_ | refine cNt ?_ | refine cF (Eq.refl false) ?_ | refine cN (cF (Eq.refl false) ?_) | refine cTd (by omega) ?_ | refine cFd (by omega) ?_ | refine cN (cTd (by omega) ?_) | refine cN (cFd (by omega) ?_) | refine And.intro (by omega) ?_ | refine And.intro (Eq.refl true) ?_ | refine And.intro (Eq.refl (1 : Nat)) ?_)
  (conv => whnf)
  refine ⟨_, Subs.refl' _, i + 1, ⟨by omega, _, g3, zsLi ?_ (by omega)⟩, by show b.length - (i + 1) < b.length - i; omega⟩
  rw [hv, e8]
 ·obtain rfl : i = b.length := by omega
  have hc : W64 R ∧ R.length ≤ 1000000 := ⟨hR.1, by omega⟩
  have e := hR.2.2
  rw [List.take_length] at e
  rw [← e] at h
  repeat ((conv => whnf) <;> first | with_reducible first | refine wI (by omega) ?_ | refine wB (by omega) ?_ | refine wR (by omega) ?_ | refine wQ (by omega) ?_ | refine And.intro rfl ?_ | rfl | refine And.intro ‹_› ?_ | refine cTe ‹_› ?_ | refine cFe ‹_› ?_ | refine cN (cTe ‹_› ?_) | refine cN (cFe ‹_› ?_) | refine cTe rfl ?_ | refine cEq ‹_› ?_ | refine cTt ?_ | refine cNt ?_ | refine cF (Eq.refl false) ?_ | refine cN (cF (Eq.refl false) ?_) | refine cTd (by omega) ?_ | refine cFd (by omega) ?_ | refine cN (cTd (by omega) ?_) | refine cN (cFd (by omega) ?_) | refine And.intro (by omega) ?_ | refine And.intro (Eq.refl true) ?_ | refine And.intro (Eq.refl (1 : Nat)) ?_)
  (conv => whnf)
  exact h
theorem tb_ofW_ok : Con Try.prog tb_ofW.1 tb_ofW.2 := con_tree twD_ok o_ofW [.atom (.var 0)] 1 Try.func37 rfl c_ofW aw_ofW g_ofW
def twE : Tab := tb_cutW :: tb_mul64 :: []
theorem twE_ok : twE.OK Try.prog := tab_cons tb_cutW_ok <| tab_cons tb_mul64_ok <| tab_nil _
def o_mulW : Orc := { ans := [(17, oV), (19, oV), (20, oV), (21, oV), (23, oV), (25, oB), (27, oV), (28, oV), (30, oV), (32, oB), (34, oV), (35, oV), (39, .one ⟨.tup [.atom (.var 0), .atom (.var 1)], 2, []⟩), (47, oV), (48, oV), (49, oV), (50, .one ⟨.tup [.atom (.var 0), .atom (.var 1)], 2, []⟩), (56, .one ⟨.tup [.atom (.var 0), .atom (.var 1)], 2, []⟩), (62, oV), (66, oV), (68, oV), (69, oV), (70, oV), (74, oV), (75, oV), (77, oV), (78, oV), (80, oV)], lps := [(0, [.cont 5 24 1, .slot 24 [.one]]), (2, [.cont 5 24 1, .slot 8 [.one], .slot 31 [.one]])], rws := [21] }
def t_mulW : Tree :=
 .calc (.call { callee := .builtin .len, args := #[.tmp 16], argTypes := #[57] }) 3 [(16, qv 0)] ([], []) (qv 2) 1 <|
 .calc (.call { callee := .builtin .len, args := #[.tmp 18], argTypes := #[57] }) 3 [(18, qv 1)] ([], []) (qv 3) 1 <|
 .calc (.binOp .add 3 (.tmp 17) (.tmp 19) 3) 3 [(17, qv 2), (19, qv 3)] ([], []) (qv 4) 1 <|
 .mkx 4 [.int .u64 0] <|
 .calc (.call { callee := .builtin .len, args := #[.tmp 22], argTypes := #[57] }) 3 [(22, qv 0)] ([], []) (qv 7) 1 <|
 .loop [.agg [.rest 6], .atom (.const (.int .i64 0))] [.row, .one] <|
 .calc2 (.binOp .lss 3 (.tmp 24) (.tmp 23) 3) 0 [(24, qv 9), (23, qv 7)] ([], []) qT 0 (
 .calc (.indexAddr 57 (.tmp 22) (.tmp 24)) 0 [(22, qv 0), (24, qv 9)] ([], []) (qv 10) 1 <|
 .calc (.load 24 (.tmp 27)) 24 [(27, qv 10)] ([], []) (qv 11) 1 <|
 .calc (.call { callee := .builtin .len, args := #[.tmp 29], argTypes := #[57] }) 3 [(29, qv 1)] ([], []) (qv 12) 1 <|
 .loop [.agg [.rest 8], .atom (.const (.int .u64 0)), .atom (.const (.int .i64 0))] [.row, .one, .one] <|
 .calc2 (.binOp .lss 3 (.tmp 31) (.tmp 30) 3) 0 [(31, qv 15), (30, qv 12)] ([], []) qT 0 (
 .calc (.indexAddr 57 (.tmp 29) (.tmp 31)) 0 [(29, qv 1), (31, qv 15)] ([], []) (qv 16) 1 <|
 .calc (.load 24 (.tmp 34)) 24 [(34, qv 16)] ([], []) (qv 17) 1 <|
 .call 67 [.atom (.var 11), .atom (.var 17)] ([], []) (.tup [.atom (.var 18), .atom (.var 19)]) 2 [] <|
 .calc (.binOp .add 3 (.tmp 45) (.tmp 46) 3) 3 [(45, qv 9), (46, qv 15)] ([], []) (qv 20) 1 <|
 .boundx 20 5 <|
 .ldi [.rest 13] 0 20 1 1 false <|
 .calc (.call { callee := .value (.func 65), args := #[.tmp 43, .tmp 49, .const (.int .u64 0)], argTypes := #[24, 24, 24] }) 90 [(43, qv 19), (49, qv 21)] ([], []) (.tup [.atom (.var 22), .atom (.var 23)]) 2 <|
 .calc (.call { callee := .value (.func 65), args := #[.tmp 54, .tmp 55, .const (.int .u64 0)], argTypes := #[24, 24, 24] }) 90 [(54, qv 22), (55, qv 14)] ([], []) (.tup [.atom (.var 24), .atom (.var 25)]) 2 <|
 .calc (.binOp .add 3 (.tmp 60) (.tmp 61) 3) 3 [(60, qv 9), (61, qv 15)] ([], []) (qv 26) 1 <|
 .calc (.binOp .add 24 (.tmp 64) (.tmp 65) 24) 24 [(64, qv 18), (65, qv 23)] ([], []) (qv 27) 1 <|
 .calc (.binOp .add 24 (.tmp 66) (.tmp 67) 24) 24 [(66, qv 27), (67, qv 25)] ([], []) (qv 28) 1 <|
 .boundx 26 5 <|
 .sti [.rest 13] 0 26 1 1 [.one (.var 24)] <|
 .calc (.binOp .add 3 (.tmp 31) (.const (.int .i64 1)) 3) 3 [(31, qv 15)] ([], []) (qv 30) 1 <|
 .again 1 [.agg [.rest 29], .atom (.var 28), .atom (.var 30)]) qF 0 <|
 .calc (.call { callee := .builtin .len, args := #[.tmp 73], argTypes := #[57] }) 3 [(73, qv 1)] ([], []) (qv 16) 1 <|
 .calc (.binOp .add 3 (.tmp 72) (.tmp 74) 3) 3 [(72, qv 9), (74, qv 16)] ([], []) (qv 17) 1 <|
 .boundx 17 5 <|
 .sti [.rest 13] 0 17 1 1 [.one (.var 14)] <|
 .calc (.binOp .add 3 (.tmp 24) (.const (.int .i64 1)) 3) 3 [(24, qv 9)] ([], []) (qv 19) 1 <|
 .again 0 [.agg [.rest 18], .atom (.var 19)]) qF 0 <|
 .frz 5 8 ([], [⟨5, 8, 24, 1⟩]) <|
 .call 66 [.atom (.var 5)] ([], []) (qv 10) 1 [] <|
 .ret ([], []) (qv 10)
theorem c_mulW : compF Try.prog Try.f35 o_mulW (Try.f35.body.getD .skip) (symIn [.atom (.var 0), .atom (.var 1)] Try.f35.ntmps 2) = some t_mulW := by kernel_rfl
theorem g_mulW : goodC Try.prog o_mulW.ords (Try.f35.body.getD .skip) = true := by kernel_rfl
def tb_mulW : FuncId × Trans := (35, tMulW)
set_option maxRecDepth 100000 in
theorem aw_mulW : ∀ zs Q, tb_mulW.2 zs Q → bindLs 0 [.atom (.var 0), .atom (.var 1)] zs fun ae => bif Nat.beq ae.length 2 then AWp Try.prog twE Q t_mulW [] ae else False := by
 intro zs Q h
 replace h : tMulW zs Q := h
 unfold tMulW at h
 split at h
 case h_2 => exact h.elim
 rename_i a b
 obtain ⟨⟨ha, hb, la, lb⟩, h⟩ := h
 have hn : ((a.length : Int) + (b.length : Int)).toNat = a.length + b.length := by omega
 have h0 := mulR0 a b
 repeat ((conv => whnf) <;> first | with_reducible first | refine wI (by omega) ?_ | refine And.intro rfl ?_ | rfl | refine And.intro ‹_› ?_ | refine cTe ‹_› ?_ | refine cFe ‹_› ?_ | refine cN (cTe ‹_› ?_) | refine cN (cFe ‹_› ?_) | refine cTe rfl ?_ | refine cEq ‹_› ?_ | refine cTt ?_ | refine cNt ?_ | refine cF (Eq.refl false) ?_ | refine cN (cF (Eq.refl false) ?_) | refine cTd (by omega) ?_ | refine cFd (by omega) ?_ | refine cN (cTd (by omega) ?_) | refine cN (cFd (by omega) ?_) | refine And.intro (by omega) ?_ | refine And.intro (Eq.refl true) ?_ | refine And.intro (Eq.refl (1 : Nat)) ?_)
 refine ⟨Nat, fun i zs => i ≤ a.length ∧ ∃ R, MulR a b i R ∧ zs = [.ints .u64 R, .int .i64 (i : Int)], fun i => a.length - i, 0, ?_, ?_⟩
 ·(conv => whnf)
  exact ⟨_, Subs.refl' _, Nat.zero_le _, _, h0, zsLi (by rw [hn]) rfl⟩
 rintro i _ ⟨hi, R0, hR, rfl⟩
 have hRl := hR.2.1
 by_cases hi2 : i < a.length
 ·have hS0 := mulS0 hR
  repeat ((conv => whnf) <;> first | with_reducible first | refine wI (by omega) ?_ | refine And.intro rfl ?_ | rfl | refine And.intro ‹_› ?_ | refine cTe ‹_› ?_ | refine cFe ‹_› ?_ | refine cN (cTe ‹_› ?_) | refine cN (cFe ‹_› ?_) | refine cTe rfl ?_ | refine cEq ‹_› ?_ | refine cTt ?_ | refine cNt ?_ | refine cF (Eq.refl false) ?_ | refine cN (cF (Eq.refl false) ?_) | refine cTd (by omega) ?_ | refine cFd (by omega) ?_ | refine cN (cTd (by omega) ?_) | refine cN (cFd (by omega) ?_) | refine And.intro (by omega) ?_ | refine And.intro (Eq.refl true) ?_ | refine And.intro (Eq.refl (1 : Nat)) ?_)
  refine ⟨Nat, fun k zs => k ≤ b.length ∧ ∃ c R, MulS a b i k c R ∧ zs = [.ints .u64 R, .int .u64 c, .int .i64 (k : Int)], fun k => b.length - k, 0, ?_, ?_⟩
  ·(conv => whnf)
   exact ⟨_, Subs.refl' _, Nat.zero_le _, _, _, hS0, rfl⟩
  rintro k _ ⟨hk, c, R, hS, rfl⟩
  have hSl := hS.2.1
  by_cases hk2 : k < b.length
  ·have gx := ha.getD (i : Int).toNat
   have gy := hb.getD (k : Int).toNat
   have gd := hS.1.getD (0 + ((i : Int) + (k : Int)).toNat * 1)
   have gc := hS.2.2.2.1
   have gxy := And.intro gx gy
   obtain ⟨w1, w2, w3, w4, w5, w6, w7⟩ := mul_word gx gy gd gc
   have e1 : 0 + ((i : Int) + (k : Int)).toNat * 1 = i + k := by omega
   have ei : (i : Int).toNat = i := rfl
   have ek : (k : Int).toNat = k := rfl
   rw [ei, ek, e1] at w7
   have hS2 := mulS_s ha hb hS hi2 hk2 (by rw [ei, ek, e1] at w6; exact w6) (by rw [ei, ek, e1] at w5; exact w5) w7
   repeat ((conv => whnf) <;> first | with_reducible first | refine wI (by omega) ?_ | refine And.intro rfl ?_ | rfl | refine And.intro ‹_› ?_ | refine cTe ‹_› ?_ | refine cFe ‹_› ?_ | refine cN (cTe ‹_› ?_) | refine cN (cFe ‹_› ?_) | refine cTe rfl ?_ | refine cEq ‹_› ?_ | refine cTt ?_ | refine cNt ?_ | refine cF (Eq.refl false) ?_ | refine cN (cF (Eq.refl false) ?_) | refine cTd (by omega) ?_ | refine cFd (by omega) ?_ | refine cN (cTd (by omega) ?_) | refine cN (cFd (by omega) ?_) | refine And.intro (by omega) ?_ | refine And.intro (Eq.refl true) ?_ | refine And.intro (Eq.refl (1 : Nat)) ?_)
   refine ⟨_, add64_ext _ _ _ w2.1 gd.1 (by omega) (by omega), ?_⟩
   repeat ((conv => whnf) <;> first | with_reducible first | refine wI (by omega) ?_ | refine And.intro rfl ?_ | rfl | refine And.intro ‹_› ?_ | refine cTe ‹_› ?_ | refine cFe ‹_› ?_ | refine cN (cTe ‹_› ?_) | refine cN (cFe ‹_› ?_) | refine cTe rfl ?_ | refine cEq ‹_› ?_ | refine cTt ?_ | refine cNt ?_ | refine cF (Eq.refl false) ?_ | refine cN (cF (Eq.refl false) ?_) | refine cTd (by omega) ?_ | refine cFd (by omega) ?_ | refine cN (cTd (by omega) ?_) | refine cN (cFd (by omega) ?_) | refine And.intro (by omega) ?_ | refine And.intro (Eq.refl true) ?_ | refine And.intro (Eq.refl (1 : Nat)) ?_)
   refine ⟨_, add64_ext _ _ _ w3.1 gc.1 (by omega) (by omega), ?_⟩
   repeat ((conv => whnf) <;> first | with_reducible first | refine wI (by omega) ?_ | refine wU (by omega) ?_ | refine And.intro rfl ?_ | rfl | refine And.intro ‹_› ?_ | refine cTe ‹_› ?_ | refine cFe ‹_› ?_ | refine cN (cTe ‹_› ?_) | refine cN (cFe ‹_› ?_) | refine cTe rfl ?_ | refine cEq ‹_› ?_ | refine cTt ?_ | refine cNt ?_ | refine cF (Eq.refl false) ?_ | refine cN (cF (Eq.refl false) ?_) | refine cTd (by omega) ?_ | refine cFd (by omega) ?_ | refine cN (cTd (by omega) ?_) | refine cN (cFd (by omega) ?_) | refine And.intro (by omega) ?_ | refine And.intro (Eq.refl true) ?_ | refine And.intro (Eq.refl (1 : Nat)) ?_)
   (conv => whnf)
   refine ⟨_, Subs.refl' _, k + 1, ⟨by omega, _, _, hS2, zsAdd ?_ ?_ (by omega)⟩, by show b.length - (k + 1) < b.length - k; omega⟩
   ·rw [e1, ei, ek]
   ·rw [e1, ei, ek]
  ·obtain rfl : k = b.length := by omega
   have hE := mulS_e ha hb hS hi2
   have e1 : 0 + ((i : Int) + (b.length : Int)).toNat * 1 = i + b.length := by omega
   repeat ((conv => whnf) <;> first | with_reducible first | refine wI (by omega) ?_ | refine And.intro rfl ?_ | rfl | refine And.intro ‹_› ?_ | refine cTe ‹_› ?_ | refine cFe ‹_› ?_ | refine cN (cTe ‹_› ?_) | refine cN (cFe ‹_› ?_) | refine cTe rfl ?_ | refine cEq ‹_› ?_ | refine cTt ?_ | refine cNt ?_ | refine cF (Eq.refl false) ?_ | refine cN (cF (Eq.refl false) ?_) | refine cTd (by omega) ?_ | refine cFd (by omega) ?_ | refine cN (cTd (by omega) ?_) | refine cN (cFd (by omega) ?_) | refine And.intro (by omega) ?_ | refine And.intro (Eq.refl true) ?_ | refine And.intro (Eq.refl (1 : Nat)) ?_)
   (conv => whnf)
   refine ⟨_, Subs.refl' _, i + 1, ⟨by omega, _, hE, zsLi (by rw [e1]) (by omega)⟩, by show a.length - (i + 1) < a.length - i; omega⟩
 ·obtain rfl : i = a.length := by omega
  have hc : W64 R0 ∧ R0.length ≤ 1000000 := ⟨hR.1, by omega⟩
  rw [← mulR_e ha hR] at h
  repeat ((conv => whnf) <;> first | with_reducible first | refine wI (by omega) ?_ | refine And.intro rfl ?_ | rfl | refine And.intro ‹_› ?_ | refine cTe ‹_› ?_ | refine cFe ‹_› ?_ | refine cN (cTe ‹_› ?_) | refine cN (cFe ‹_› ?_) | refine cTe rfl ?_ | refine cEq ‹_› ?_ | refine cTt ?_ | refine cNt ?_ | refine cF (Eq.refl false) ?_ | refine cN (cF (Eq.refl false) ?_) | refine cTd (by omega) ?_ | refine cFd (by omega) ?_ | refine cN (cTd (by omega) ?_) | refine cN (cFd (by omega) ?_) | refine And.intro (by omega) ?_ | refine And.intro (Eq.refl true) ?_ | refine And.intro (Eq.refl (1 : Nat)) ?_)
  (conv => whnf)
  exact h
theorem tb_mulW_ok : Con Try.prog tb_mulW.1 tb_mulW.2 := con_tree twE_ok o_mulW [.atom (.var 0), .atom (.var 1)] 2 Try.func35 rfl c_mulW aw_mulW g_mulW
def o_wordsE : Orc := { ans := [(7, oV), (9, oV), (10, oB), (13, oV), (14, oB), (19, oV), (20, oV), (23, oV), (24, oV), (25, oB), (16, oV)], lps := [(0, [.slot 4 [.one], .slot 5 [.one]])], ords := [(6, [.pure 0, .pure 1, .quiet 2, .quiet 3, .pure 4, .pure 5, .quiet 6, .quiet 7, .quiet 8])] }
def t_wordsE : Tree :=
 .calc (.call { callee := .builtin .len, args := #[.tmp 6], argTypes := #[57] }) 3 [(6, qv 0)] ([], []) (qv 2) 1 <|
 .calc (.call { callee := .builtin .len, args := #[.tmp 8], argTypes := #[57] }) 3 [(8, qv 1)] ([], []) (qv 3) 1 <|
 .calc2 (.binOp .neq 3 (.tmp 7) (.tmp 9) 3) 4 [(7, qv 2), (9, qv 3)] ([], []) qT 0 (
 .ret ([], []) qF) qF 0 <|
 .loop [.atom (.const (.bool false)), .atom (.const (.int .i64 0))] [.one, .one] <|
 .calc (.call { callee := .builtin .len, args := #[.tmp 12], argTypes := #[57] }) 3 [(12, qv 0)] ([], []) (qv 6) 1 <|
 .calc2 (.binOp .lss 3 (.tmp 11) (.tmp 13) 3) 4 [(11, qv 5), (13, qv 6)] ([], []) qT 0 (
 .calc (.indexAddr 57 (.tmp 17) (.tmp 18)) 0 [(17, qv 0), (18, qv 5)] ([], []) (qv 7) 1 <|
 .calc (.load 24 (.tmp 19)) 24 [(19, qv 7)] ([], []) (qv 8) 1 <|
 .calc (.indexAddr 57 (.tmp 21) (.tmp 22)) 0 [(21, qv 1), (22, qv 5)] ([], []) (qv 9) 1 <|
 .calc (.load 24 (.tmp 23)) 24 [(23, qv 9)] ([], []) (qv 10) 1 <|
 .calc2 (.binOp .neq 24 (.tmp 20) (.tmp 24) 24) 4 [(20, qv 8), (24, qv 10)] ([], []) qT 0 (
 .ret ([], []) qF) qF 0 <|
 .calc (.binOp .add 3 (.tmp 15) (.const (.int .i64 1)) 3) 3 [(15, qv 5)] ([], []) (qv 11) 1 <|
 .again 0 [.atom (.var 4), .atom (.var 11)]) qF 0 <|
 .ret ([], []) qT
theorem c_wordsE : compF Try.prog Try.f36 o_wordsE (Try.f36.body.getD .skip) (symIn [.atom (.var 0), .atom (.var 1)] Try.f36.ntmps 2) = some t_wordsE := by kernel_rfl
theorem g_wordsE : goodC Try.prog o_wordsE.ords (Try.f36.body.getD .skip) = true := by kernel_rfl
def tb_wordsE : FuncId × Trans := (36, tWordsE)
set_option maxRecDepth 100000 in
theorem aw_wordsE : ∀ zs Q, tb_wordsE.2 zs Q → bindLs 0 [.atom (.var 0), .atom (.var 1)] zs fun ae => bif Nat.beq ae.length 2 then AWp Try.prog twNil Q t_wordsE [] ae else False := by
 intro zs Q h
 replace h : tWordsE zs Q := h
 unfold tWordsE at h
 split at h
 case h_2 => exact h.elim
 rename_i a b
 obtain ⟨⟨hab, hl⟩, h⟩ := h
 subst hab
 repeat ((conv => whnf) <;> first | with_reducible first | refine wI (by omega) ?_ | refine And.intro rfl ?_ | rfl | refine And.intro ‹_› ?_ | refine cTe ‹_› ?_ | refine cFe ‹_› ?_ | refine cN (cTe ‹_› ?_) | refine cN (cFe ‹_› ?_) | refine cTe rfl ?_ | refine cEq ‹_› ?_ | refine cTt ?_ | refine cNt ?_ | refine cF (Eq.refl false) ?_ | refine cN (cF (Eq.refl false) ?_) | refine cTd (by omega) ?_ | refine cFd (by omega) ?_ | refine cN (cTd (by omega) ?_) | refine cN (cFd (by omega) ?_) | refine And.intro (by omega) ?_ | refine And.intro (Eq.refl true) ?_)
 refine ⟨Nat, fun i zs => i ≤ a.length ∧ zs = [.bool false, .int .i64 (i : Int)], fun i => a.length - i, 0, ?_, ?_⟩
 ·(conv => whnf)
  exact ⟨_, Subs.refl' _, Nat.zero_le _, rfl⟩
 rintro i _ ⟨hi, rfl⟩
 by_cases hi2 : i < a.length
 ·repeat ((conv => whnf) <;> first | with_reducible first | refine wI (by omega) ?_ | refine And.intro rfl ?_ | rfl | refine And.intro ‹_› ?_ | refine cTe ‹_› ?_ | refine cFe ‹_› ?_ | refine cN (cTe ‹_› ?_) | refine cN (cFe ‹_› ?_) | refine cTe rfl ?_ | refine cEq ‹_› ?_ | refine cTt ?_ | refine cNt ?_ | refine cF (Eq.refl false) ?_ | refine cN (cF (Eq.refl false) ?_) | refine cTd (by omega) ?_ | refine cFd (by omega) ?_ | refine cN (cTd (by omega) ?_) | refine cN (cFd (by omega) ?_) | refine And.intro (by omega) ?_ | refine And.intro (Eq.refl true) ?_)
  (conv => whnf)
  refine ⟨_, Subs.refl' _, i + 1, ⟨by omega, by rw [show ((i + 1 : Nat) : Int) = (i : Int) + 1 by omega]⟩, by show a.length - (i + 1) < a.length - i; omega⟩
 ·repeat ((conv => whnf) <;> first | with_reducible first | refine wI (by omega) ?_ | refine And.intro rfl ?_ | rfl | refine And.intro ‹_› ?_ | refine cTe ‹_› ?_ | refine cFe ‹_› ?_ | refine cN (cTe ‹_› ?_) | refine cN (cFe ‹_› ?_) | refine cTe rfl ?_ | refine cEq ‹_› ?_ | refine cTt ?_ | refine cNt ?_ | refine cF (Eq.refl false) ?_ | refine cN (cF (Eq.refl false) ?_) | refine cTd (by omega) ?_ | refine cFd (by omega) ?_ | refine cN (cTd (by omega) ?_) | refine cN (cFd (by omega) ?_) | refine And.intro (by omega) ?_ | refine And.intro (Eq.refl true) ?_)
  (conv => whnf)
  exact h
theorem tb_wordsE_ok : Con Try.prog tb_wordsE.1 tb_wordsE.2 := con_tree twNil_ok o_wordsE [.atom (.var 0), .atom (.var 1)] 2 Try.func36 rfl c_wordsE aw_wordsE g_wordsE
end Go.Proofs.Ytohjkkmgcibemaa
