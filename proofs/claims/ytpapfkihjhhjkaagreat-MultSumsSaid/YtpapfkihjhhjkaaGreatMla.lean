/- Multiples -/
import Derived.Test.YtpapfkihjhhjkaaGreatDga
import Derived.Test.YtpapfkihjhhjkaaGreatCmb
set_option linter.unusedSimpArgs false
set_option linter.unusedVariables false
namespace Go.Proofs.YtpapfkihjhhjkaaGreat
open Go.RowKit FdP FdP.Ch
def tSizeM : Trans := fun zs Q => match zs with
 | [.isl .u8 b] => b.length ≤ 100000 ∧ (¬ (1 ≤ b.length ∧ b.length ≤ 64) → Q (.int .i64 11)) ∧ (1 ≤ b.length → b.length ≤ 64 → Q (.int .i64 0))
 | _ => False
def mtL (b y : G) : Nat → List G
 | 0 => []
 | n + 1 => mtL b y n ++ [b + mulG n y]
theorem mtL_s (b y : G) (n : Nat) : mtL b y (n + 1) = mtL b y n ++ [b + mulG n y] := rfl
theorem mtL_len (b y : G) : ∀ n, (mtL b y n).length = n
 | 0 => rfl
 | n + 1 => by rw [mtL_s]; simp [mtL_len b y n]
theorem mtL_get (b y : G) : ∀ n i, i < n → (mtL b y n).getD i 0 = b + mulG i y
 | 0, i, h => by omega
 | n + 1, i, h => by
  rw [mtL_s, List.getD_eq_getElem?_getD, List.getElem?_append, mtL_len]
  by_cases hi : i < n
  ·rw [if_pos hi, ← List.getD_eq_getElem?_getD, mtL_get b y n i hi]
  ·have : i = n := by omega
   subst this
   rw [if_neg hi, Nat.sub_self]; rfl
def tMultiples : Trans := fun zs Q => match zs with
 | [.ob (.pt b), .ob (.pt y), .int .i64 n] => (0 ≤ n ∧ n ≤ 1000) ∧ Q (.sl 24 ((mtL b y n.toNat).map ptA))
 | _ => False
def tMultM : Trans := fun zs Q => match zs with
 | [.isl .u8 b, .ob (.pt p)] => (By b ∧ b.length ≤ 100000) ∧ (¬ (1 ≤ b.length ∧ b.length ≤ 64) → Q (.tup [ptA 0, .int .i64 11])) ∧ (1 ≤ b.length → b.length ≤ 64 → Q (.tup [ptA (mulG (nval b) p), .int .i64 0]))
 | _ => False
theorem zG_look (p : G) {d : Int} (h : -8 ≤ d ∧ d < 8) :
 (d.fdiv (2 ^ min (Int.toNat 63) IntKind.i64.bits) = 0 ∨ d.fdiv (2 ^ min (Int.toNat 63) IntKind.i64.bits) = -1) ∧ (bits .xor .i64 d (d.fdiv (2 ^ min (Int.toNat 63) IntKind.i64.bits)) ≤ 100 ∧ -100 ≤ bits .xor .i64 d (d.fdiv (2 ^ min (Int.toNat 63) IntKind.i64.bits))) ∧
 I64 (bits .xor .i64 d (d.fdiv (2 ^ min (Int.toNat 63) IntKind.i64.bits)) - d.fdiv (2 ^ min (Int.toNat 63) IntKind.i64.bits)) ∧
 0 ≤ bits .xor .i64 d (d.fdiv (2 ^ min (Int.toNat 63) IntKind.i64.bits)) - d.fdiv (2 ^ min (Int.toNat 63) IntKind.i64.bits) ∧ bits .xor .i64 d (d.fdiv (2 ^ min (Int.toNat 63) IntKind.i64.bits)) - d.fdiv (2 ^ min (Int.toNat 63) IntKind.i64.bits) ≤ 8 ∧
 (∀ g : G, g = (mtL 0 p 9).getD (bits .xor .i64 d (d.fdiv (2 ^ min (Int.toNat 63) IntKind.i64.bits)) - d.fdiv (2 ^ min (Int.toNat 63) IntKind.i64.bits)).toNat 0 → (if bits .and .i64 (d.fdiv (2 ^ min (Int.toNat 63) IntKind.i64.bits)) 1 % 2 = 0 then g else -g) = zG d p) ∧
 True := by
 have e0 : (2 : Int) ^ min (Int.toNat 63) IntKind.i64.bits = 9223372036854775808 := by decide
 rw [e0]
 by_cases hd : 0 ≤ d
 ·have e1 : d.fdiv 9223372036854775808 = 0 := by rw [Int.fdiv_eq_ediv_of_nonneg _ (by omega)]; omega
  rw [e1, bits_xor_i64_0 (by omega)]
  refine ⟨.inl rfl, by omega, by unfold I64; omega, by omega, by omega, fun g hg => ?_, trivial⟩
  have ea : bits .and .i64 0 1 % 2 = 0 := by decide
  rw [if_pos ea, hg, mtL_get _ _ _ _ (by omega), G.zero_add]
  unfold zG
  rw [if_pos hd, Int.sub_zero]
 ·have e1 : d.fdiv 9223372036854775808 = -1 := by rw [Int.fdiv_eq_ediv_of_nonneg _ (by omega)]; omega
  rw [e1, bits_xor_i64_m1 (by omega)]
  refine ⟨.inr rfl, by omega, by unfold I64; omega, by omega, by omega, fun g hg => ?_, trivial⟩
  have ea : ¬ bits .and .i64 (-1) 1 % 2 = 0 := by decide
  rw [if_neg ea, hg, mtL_get _ _ _ _ (by omega), G.zero_add]
  unfold zG
  rw [if_neg hd]
  congr 3; omega
theorem zsP1 {g g' : G} (h : g = g') : [ptA g] = [ptA g'] := by rw [h]
def tmNil : Tab := []
theorem tmNil_ok : tmNil.OK Tryz.prog := tab_nil _
def o_msize : Orc := { ans := [(4, oV), (5, oB), (8, oV), (9, oB), (10, oV)], lps := [] }
def t_msize : Tree :=
 .calc (.call { callee := .builtin .len, args := #[.tmp 3], argTypes := #[22] }) 3 [(3, qv 0)] ([], []) (qv 1) 1 <|
 .calc2 (.binOp .eql 3 (.tmp 4) (.const (.int .i64 0)) 3) 4 [(4, qv 1)] ([], []) qT 0 (
 .ret ([], []) (.leaf (.atom (.const (.int .i64 11))))) qF 0 <|
 .calc (.call { callee := .builtin .len, args := #[.tmp 7], argTypes := #[22] }) 3 [(7, qv 0)] ([], []) (qv 2) 1 <|
 .calc2 (.binOp .gtr 3 (.tmp 8) (.const (.int .i64 64)) 3) 4 [(8, qv 2)] ([], []) qT 0 (
 .ret ([], []) (.leaf (.atom (.const (.int .i64 11))))) qF 0 <|
 .ret ([], []) (.leaf (.atom (.const (.int .i64 0))))
theorem c_msize : compF Tryz.prog Tryz.f40 o_msize (Tryz.f40.body.getD .skip) (symIn [.atom (.var 0)] Tryz.f40.ntmps 1) = some t_msize := by kernel_rfl
theorem g_msize : goodC Tryz.prog o_msize.ords (Tryz.f40.body.getD .skip) = true := by kernel_rfl
def tb_msize : FuncId × Trans := (40, tSizeM)
set_option maxRecDepth 100000 in
theorem aw_msize : ∀ zs Q, tb_msize.2 zs Q → bindLs 0 [.atom (.var 0)] zs fun ae => bif Nat.beq ae.length 1 then AWp Tryz.prog tmNil Q t_msize [] ae else False := by
 intro zs Q h
 replace h : tSizeM zs Q := h
 unfold tSizeM at h
 split at h
 case h_2 => exact h.elim
 rename_i b
 obtain ⟨hl, h1, h2⟩ := h
 by_cases a1 : b.length = 0
 ·have h := h1 (by omega)
  repeat ((conv => whnf) <;> first | with_reducible first | refine wI (by omega) ?_ | refine wB (by omega) ?_ | refine And.intro rfl ?_ | rfl | refine And.intro ‹_› ?_ | refine cTe ‹_› ?_ | refine cFe ‹_› ?_ | refine cN (cTe ‹_› ?_) | refine cN (cFe ‹_› ?_) | refine cTe rfl ?_ | refine cEq ‹_› ?_ | refine cTt ?_ | refine cNt ?_ | refine cF (Eq.refl false) ?_ | refine cN (cF (Eq.refl false) ?_) | refine cTd (by omega) ?_ | refine cFd (by omega) ?_ | refine cN (cTd (by omega) ?_) | refine cN (cFd (by omega) ?_) | refine And.intro (by omega) ?_ | refine And.intro (Eq.refl true) ?_)
  (conv => whnf)
  exact h
 by_cases a2 : 64 < b.length
 ·have h := h1 (by omega)
  repeat ((conv => whnf) <;> first | with_reducible first | refine wI (by omega) ?_ | refine wB (by omega) ?_ | refine And.intro rfl ?_ | rfl | refine And.intro ‹_› ?_ | refine cTe ‹_› ?_ | refine cFe ‹_› ?_ | refine cN (cTe ‹_› ?_) | refine cN (cFe ‹_› ?_) | refine cTe rfl ?_ | refine cEq ‹_› ?_ | refine cTt ?_ | refine cNt ?_ | refine cF (Eq.refl false) ?_ | refine cN (cF (Eq.refl false) ?_) | refine cTd (by omega) ?_ | refine cFd (by omega) ?_ | refine cN (cTd (by omega) ?_) | refine cN (cFd (by omega) ?_) | refine And.intro (by omega) ?_ | refine And.intro (Eq.refl true) ?_)
  (conv => whnf)
  exact h
 have h := h2 (by omega) (by omega)
 repeat ((conv => whnf) <;> first | with_reducible first | refine wI (by omega) ?_ | refine wB (by omega) ?_ | refine And.intro rfl ?_ | rfl | refine And.intro ‹_› ?_ | refine cTe ‹_› ?_ | refine cFe ‹_› ?_ | refine cN (cTe ‹_› ?_) | refine cN (cFe ‹_› ?_) | refine cTe rfl ?_ | refine cEq ‹_› ?_ | refine cTt ?_ | refine cNt ?_ | refine cF (Eq.refl false) ?_ | refine cN (cF (Eq.refl false) ?_) | refine cTd (by omega) ?_ | refine cFd (by omega) ?_ | refine cN (cTd (by omega) ?_) | refine cN (cFd (by omega) ?_) | refine And.intro (by omega) ?_ | refine And.intro (Eq.refl true) ?_)
 (conv => whnf)
 exact h
theorem tb_msize_ok : Con Tryz.prog tb_msize.1 tb_msize.2 := con_tree tmNil_ok o_msize [.atom (.var 0)] 1 Tryz.func40 rfl c_msize aw_msize g_msize
def tmA : Tab := tb_padd :: []
theorem tmA_ok : tmA.OK Tryz.prog := tab_cons tb_padd_ok <| tab_nil _
def o_multiples : Orc := { ans := [(10, oB), (12, oA 24), (14, oV), (15, oA 24), (16, oA 24), (17, oA 24), (18, oV)], lps := [(0, [.row 7 30 24, .slot 9 [.one], .blk 0 [.agg 24]])] }
def t_multiples : Tree :=
 .new <|
 .new <|
 .loop [.atom (.const (.slice none 0 0)), .agg [], .atom (.const (.int .i64 0)), .agg [.whole 0 24]] [.one, .row, .one, .agg 24] <|
 .calc2 (.binOp .lss 3 (.tmp 9) (.tmp 8) 3) 4 [(9, qv 5), (8, qv 2)] ([], []) qT 0 (
 .new <|
 .app (some 4) [.whole 6 24] 24 <|
 .call 26 [.agg [.whole 6 24], .agg [.whole 1 24]] ([], []) (.leaf (.agg [.whole 9 24])) 1 [] <|
 .calc (.binOp .add 3 (.tmp 9) (.const (.int .i64 1)) 3) 3 [(9, qv 5)] ([], []) (qv 10) 1 <|
 .again 0 [.atom (.var 7), .agg [.rest 8], .atom (.var 10), .agg [.whole 9 24]]) qF 0 <|
 .ret ([([.whole 6 24], 30), ([.whole 1 24], 30)], [⟨3, 4, 30, 24⟩]) (qv 3)
theorem c_multiples : compF Tryz.prog Tryz.f61 o_multiples (Tryz.f61.body.getD .skip) (symIn [.agg [.whole 0 24], .agg [.whole 1 24], .atom (.var 2)] Tryz.f61.ntmps 3) = some t_multiples := by kernel_rfl
theorem g_multiples : goodC Tryz.prog o_multiples.ords (Tryz.f61.body.getD .skip) = true := by kernel_rfl
def tb_multiples : FuncId × Trans := (61, tMultiples)
set_option maxRecDepth 100000 in
theorem aw_multiples : ∀ zs Q, tb_multiples.2 zs Q → bindLs 0 [.agg [.whole 0 24], .agg [.whole 1 24], .atom (.var 2)] zs fun ae => bif Nat.beq ae.length 3 then AWp Tryz.prog tmA Q t_multiples [] ae else False := by
 intro zs Q h
 replace h : tMultiples zs Q := h
 unfold tMultiples at h
 split at h
 case h_2 => exact h.elim
 rename_i b y n
 obtain ⟨⟨hn, hl⟩, h⟩ := h
 repeat ((conv => whnf) <;> first | with_reducible first | refine wI (by omega) ?_ | refine And.intro rfl ?_ | rfl | refine And.intro ‹_› ?_ | refine cTe ‹_› ?_ | refine cFe ‹_› ?_ | refine cN (cTe ‹_› ?_) | refine cN (cFe ‹_› ?_) | refine cTe rfl ?_ | refine cEq ‹_› ?_ | refine cTt ?_ | refine cNt ?_ | refine cF (Eq.refl false) ?_ | refine cN (cF (Eq.refl false) ?_) | refine cTd (by omega) ?_ | refine cFd (by omega) ?_ | refine cN (cTd (by omega) ?_) | refine cN (cFd (by omega) ?_) | refine And.intro (fun hh : Option.isSome none = true => by cases hh) ?_ | refine And.intro (by omega) ?_ | refine And.intro (Eq.refl true) ?_ | refine And.intro (Eq.refl (1 : Nat)) ?_)
 refine ⟨Nat, fun i zs => i ≤ n.toNat ∧ zs = [.row i, .agg ((mtL b y i).map ptA), .int .i64 (i : Int), ptA (b + mulG i y)], fun i => n.toNat - i, 0, ?_, ?_⟩
 ·(conv => whnf)
  exact ⟨[.row 0, .agg [], .int .i64 0, ptA b], ⟨sub_row0, Sub.refl' _, Sub.refl' _, Sub.refl' _, trivial⟩, Nat.zero_le _, zsPt rfl rfl rfl (by rw [mulG_zero, G.add_zero])⟩
 rintro i _ ⟨hi, rfl⟩
 have hml := mtL_len b y i
 have hs := mtL_s b y i
 have hz := pts_push_size (mtL b y i) (b + mulG i y)
 have hp := pts_push (mtL b y i) (b + mulG i y)
 by_cases hlt : (i : Int) < n
 ·repeat ((conv => whnf) <;> first | with_reducible first | refine wI (by omega) ?_ | refine And.intro rfl ?_ | rfl | refine And.intro ‹_› ?_ | refine cTe ‹_› ?_ | refine cFe ‹_› ?_ | refine cN (cTe ‹_› ?_) | refine cN (cFe ‹_› ?_) | refine cTe rfl ?_ | refine cEq ‹_› ?_ | refine cTt ?_ | refine cNt ?_ | refine cF (Eq.refl false) ?_ | refine cN (cF (Eq.refl false) ?_) | refine cTd (by omega) ?_ | refine cFd (by omega) ?_ | refine cN (cTd (by omega) ?_) | refine cN (cFd (by omega) ?_) | refine And.intro (fun hh : Option.isSome none = true => by cases hh) ?_ | refine And.intro (by omega) ?_ | refine And.intro (Eq.refl true) ?_ | refine And.intro (Eq.refl (1 : Nat)) ?_)
  (conv => whnf)
  refine ⟨by show (AV.agg (_ ++ [ptA (b + mulG i y)])).size ≤ _; rw [hz]; omega, ?_⟩
  repeat ((conv => whnf) <;> first | with_reducible first | refine wI (by omega) ?_ | refine And.intro rfl ?_ | rfl | refine And.intro ‹_› ?_ | refine cTe ‹_› ?_ | refine cFe ‹_› ?_ | refine cN (cTe ‹_› ?_) | refine cN (cFe ‹_› ?_) | refine cTe rfl ?_ | refine cEq ‹_› ?_ | refine cTt ?_ | refine cNt ?_ | refine cF (Eq.refl false) ?_ | refine cN (cF (Eq.refl false) ?_) | refine cTd (by omega) ?_ | refine cFd (by omega) ?_ | refine cN (cTd (by omega) ?_) | refine cN (cFd (by omega) ?_) | refine And.intro (fun hh : Option.isSome none = true => by cases hh) ?_ | refine And.intro (by omega) ?_ | refine And.intro (Eq.refl true) ?_ | refine And.intro (Eq.refl (1 : Nat)) ?_)
  (conv => whnf)
  refine ⟨_, Subs.refl' _, i + 1, ⟨by omega, zsPt (by show (AV.agg (_ ++ [ptA (b + mulG i y)])).size / 24 = i + 1; rw [hz]; omega) (by rw [hs]; exact hp) (by omega) (by show b + mulG i y + y = _; rw [mulG_add, mulG_one, G.assoc])⟩, by show n.toNat - (i + 1) < n.toNat - i; omega⟩
 ·obtain rfl : i = n.toNat := by omega
  repeat ((conv => whnf) <;> first | with_reducible first | refine wI (by omega) ?_ | refine And.intro rfl ?_ | rfl | refine And.intro ‹_› ?_ | refine cTe ‹_› ?_ | refine cFe ‹_› ?_ | refine cN (cTe ‹_› ?_) | refine cN (cFe ‹_› ?_) | refine cTe rfl ?_ | refine cEq ‹_› ?_ | refine cTt ?_ | refine cNt ?_ | refine cF (Eq.refl false) ?_ | refine cN (cF (Eq.refl false) ?_) | refine cTd (by omega) ?_ | refine cFd (by omega) ?_ | refine cN (cTd (by omega) ?_) | refine cN (cFd (by omega) ?_) | refine And.intro (fun hh : Option.isSome none = true => by cases hh) ?_ | refine And.intro (by omega) ?_ | refine And.intro (Eq.refl true) ?_ | refine And.intro (Eq.refl (1 : Nat)) ?_)
  (conv => whnf)
  exact ⟨by decide, pts_sz _, h⟩
theorem tb_multiples_ok : Con Tryz.prog tb_multiples.1 tb_multiples.2 := con_tree tmA_ok o_multiples [.agg [.whole 0 24], .agg [.whole 1 24], .atom (.var 2)] 3 Tryz.func61 rfl c_multiples aw_multiples g_multiples
def tmB : Tab := tb_msize :: tb_dsigned :: tb_pid :: tb_multiples :: tb_pdbl :: tb_look :: tb_pneg :: tb_psel :: tb_padd :: []
theorem tmB_ok : tmB.OK Tryz.prog := tab_cons tb_msize_ok <| tab_cons tb_dsigned_ok <| tab_cons tb_pid_ok <| tab_cons tb_multiples_ok <| tab_cons tb_pdbl_ok <| tab_cons tb_look_ok <| tab_cons tb_pneg_ok <| tab_cons tb_psel_ok <| tab_cons tb_padd_ok <| tab_nil _
def o_mult : Orc := { ans := [(17, oV), (19, oB), (20, oA 24), (24, .one ⟨.tup [.atom (.var 0), .atom (.var 1)], 2, []⟩), (28, oB), (29, oA 24), (31, oA 24), (32, oA 24), (33, oV), (34, oA 24), (36, oV), (40, oB), (41, oA 24), (42, oA 24), (43, oV), (45, oV), (47, oV), (50, oV), (52, oV), (53, .one ⟨.tup [.agg [.whole 0 24], .atom (.var 1)], 2, []⟩), (57, oB), (58, oA 24), (60, oA 24), (62, oV), (63, oA 24), (64, oA 24), (65, oA 24), (66, oA 24), (67, oA 24), (68, oA 24)], lps := [(2, [.slot 39 [.one], .blk 4 [.agg 24]])], ords := [(7, [.quiet 1, .call 0 [3], .call 2 [3], .make 3 [], .last 4])], inl := [(36, { ans := [], lps := [] })], rng := some (90, [.blk 4 [.agg 24]]) }
def t_mult : Tree :=
 .new <|
 .new <|
 .new <|
 .call 40 [.atom (.var 0)] ([], []) (qv 2) 1 [] <|
 .calc2 (.binOp .neq 38 (.tmp 18) (.const (.int .i64 0)) 38) 4 [(18, qv 2)] ([], []) qT 0 (
 .call 16 [] ([], []) (.leaf (.agg [.whole 3 24])) 1 [] <|
 .ret ([], []) (.tup [.agg [.whole 3 24], .atom (.var 2)])) qF 0 <|
 .call 60 [.atom (.var 0), .atom (.const (.int .i64 4))] ([], []) (.tup [.atom (.var 3), .atom (.var 4)]) 2 [] <|
 .calc2 (.binOp .neq 38 (.tmp 27) (.const (.int .i64 0)) 38) 4 [(27, qv 4)] ([], []) qT 0 (
 .call 16 [] ([], []) (.leaf (.agg [.whole 5 24])) 1 [] <|
 .ret ([], []) (.tup [.agg [.whole 5 24], .atom (.var 4)])) qF 0 <|
 .call 16 [] ([], []) (.leaf (.agg [.whole 5 24])) 1 [] <|
 .call 61 [.agg [.whole 5 24], .agg [.whole 1 24], .atom (.const (.int .i64 9))] ([], []) (qv 6) 1 [] <|
 .new <|
 .call 16 [] ([], []) (.leaf (.agg [.whole 7 24])) 1 [] <|
 .new <|
 .new <|
 .rng 3 [.agg [.whole 7 24]] [.agg 24] (
 .loop [.atom (.const (.int .i64 0)), .agg [.whole 8 24]] [.one, .agg 24] <|
 .calc2 (.binOp .lss 3 (.tmp 39) (.const (.int .i64 4)) 3) 4 [(39, qv 11)] ([], []) qT 0 (
 .call 27 [.agg [.whole 12 24]] ([], []) (.leaf (.agg [.whole 13 24])) 1 [] <|
 .calc (.binOp .add 3 (.tmp 39) (.const (.int .i64 1)) 3) 3 [(39, qv 11)] ([], []) (qv 14) 1 <|
 .again 1 [.atom (.var 14), .agg [.whole 13 24]]) qF 0 <|
 .calc (.binOp .shr 3 (.tmp 44) (.const (.int .u64 63)) 69) 3 [(44, qv 10)] ([], []) (qv 13) 1 <|
 .calc (.binOp .xor 3 (.tmp 48) (.tmp 49) 3) 3 [(48, qv 10), (49, qv 13)] ([], []) (qv 14) 1 <|
 .calc (.binOp .sub 3 (.tmp 50) (.tmp 51) 3) 3 [(50, qv 14), (51, qv 13)] ([], []) (qv 15) 1 <|
 .call 63 [.atom (.var 6), .atom (.var 15)] ([], []) (.tup [.agg [.whole 16 24], .atom (.var 17)]) 2 [] <|
 .new <|
 .calc2 (.binOp .neq 38 (.tmp 56) (.const (.int .i64 0)) 38) 4 [(56, qv 17)] ([], []) qT 0 (
 .call 16 [] ([], []) (.leaf (.agg [.whole 18 24])) 1 [] <|
 .ret ([], []) (.tup [.agg [.whole 18 24], .atom (.var 17)])) qF 0 <|
 .calc (.binOp .and 3 (.tmp 61) (.const (.int .i64 1)) 3) 3 [(61, qv 13)] ([], []) (qv 18) 1 <|
 .call 28 [.agg [.whole 16 24]] ([], []) (.leaf (.agg [.whole 19 24])) 1 [] <|
 .call 64 [.atom (.var 18), .agg [.whole 16 24], .agg [.whole 19 24]] ([], []) (.leaf (.agg [.whole 20 24])) 1 [] <|
 .call 26 [.agg [.whole 12 24], .agg [.whole 20 24]] ([], []) (.leaf (.agg [.whole 21 24])) 1 [] <|
 .again 0 [.agg [.whole 21 24]]) <|
 .ret ([], []) (.tup [.agg [.whole 8 24], .atom (.const (.int .i64 0))])
theorem c_mult : compF Tryz.prog Tryz.f24 o_mult (Tryz.f24.body.getD .skip) (symIn [.atom (.var 0), .agg [.whole 1 24]] Tryz.f24.ntmps 2) = some t_mult := by kernel_rfl
theorem g_mult : goodC Tryz.prog o_mult.ords (Tryz.f24.body.getD .skip) = true := by kernel_rfl
def tb_mult : FuncId × Trans := (24, tMultM)
set_option maxRecDepth 100000 in
theorem aw_mult : ∀ zs Q, tb_mult.2 zs Q → bindLs 0 [.atom (.var 0), .agg [.whole 1 24]] zs fun ae => bif Nat.beq ae.length 2 then AWp Tryz.prog tmB Q t_mult [] ae else False := by
 intro zs Q h
 replace h : tMultM zs Q := h
 unfold tMultM at h
 split at h
 case h_2 => exact h.elim
 rename_i b p
 obtain ⟨⟨hb, hl⟩, h1, h2⟩ := h
 have hl100 : b.length ≤ 100000 := hl
 by_cases a1 : 1 ≤ b.length ∧ b.length ≤ 64
 case neg =>
  have h := h1 a1
  repeat ((conv => whnf) <;> first | with_reducible first | refine wI (by omega) ?_ | refine And.intro rfl ?_ | rfl | refine And.intro ‹_› ?_ | refine cTe ‹_› ?_ | refine cFe ‹_› ?_ | refine cN (cTe ‹_› ?_) | refine cN (cFe ‹_› ?_) | refine cTe rfl ?_ | refine cEq ‹_› ?_ | refine cTt ?_ | refine cNt ?_ | refine cF (Eq.refl false) ?_ | refine cN (cF (Eq.refl false) ?_) | refine cTd (by omega) ?_ | refine cFd (by omega) ?_ | refine cN (cTd (by omega) ?_) | refine cN (cFd (by omega) ?_) | refine And.intro (by omega) ?_ | refine And.intro (Eq.refl true) ?_)
  refine ⟨fun _ => ?_, fun q1 q2 => absurd ⟨q1, q2⟩ a1⟩
  repeat ((conv => whnf) <;> first | with_reducible first | refine wI (by omega) ?_ | refine And.intro rfl ?_ | rfl | refine And.intro ‹_› ?_ | refine cTe ‹_› ?_ | refine cFe ‹_› ?_ | refine cN (cTe ‹_› ?_) | refine cN (cFe ‹_› ?_) | refine cTe rfl ?_ | refine cEq ‹_› ?_ | refine cTt ?_ | refine cNt ?_ | refine cF (Eq.refl false) ?_ | refine cN (cF (Eq.refl false) ?_) | refine cTd (by omega) ?_ | refine cFd (by omega) ?_ | refine cN (cTd (by omega) ?_) | refine cN (cFd (by omega) ?_) | refine And.intro (by omega) ?_ | refine And.intro (Eq.refl true) ?_)
  (conv => whnf)
  exact h
 have h := h2 a1.1 a1.2
 clear h1 h2
 have hc : By b ∧ b.length ≤ 100000 ∧ (2 : Int) ≤ 4 ∧ (4 : Int) ≤ 8 := ⟨hb, hl, by omega, by omega⟩
 repeat ((conv => whnf) <;> first | with_reducible first | refine wI (by omega) ?_ | refine And.intro rfl ?_ | rfl | refine And.intro ‹_› ?_ | refine cTe ‹_› ?_ | refine cFe ‹_› ?_ | refine cN (cTe ‹_› ?_) | refine cN (cFe ‹_› ?_) | refine cTe rfl ?_ | refine cEq ‹_› ?_ | refine cTt ?_ | refine cNt ?_ | refine cF (Eq.refl false) ?_ | refine cN (cF (Eq.refl false) ?_) | refine cTd (by omega) ?_ | refine cFd (by omega) ?_ | refine cN (cTd (by omega) ?_) | refine cN (cFd (by omega) ?_) | refine And.intro (by omega) ?_ | refine And.intro (Eq.refl true) ?_)
 intro _ _
 repeat ((conv => whnf) <;> first | with_reducible first | refine wI (by omega) ?_ | refine And.intro rfl ?_ | rfl | refine And.intro ‹_› ?_ | refine cTe ‹_› ?_ | refine cFe ‹_› ?_ | refine cN (cTe ‹_› ?_) | refine cN (cFe ‹_› ?_) | refine cTe rfl ?_ | refine cEq ‹_› ?_ | refine cTt ?_ | refine cNt ?_ | refine cF (Eq.refl false) ?_ | refine cN (cF (Eq.refl false) ?_) | refine cTd (by omega) ?_ | refine cFd (by omega) ?_ | refine cN (cTd (by omega) ?_) | refine cN (cFd (by omega) ?_) | refine And.intro (by omega) ?_ | refine And.intro (Eq.refl true) ?_)
 intro _
 repeat ((conv => whnf) <;> first | with_reducible first | refine wI (by omega) ?_ | refine And.intro rfl ?_ | rfl | refine And.intro ‹_› ?_ | refine cTe ‹_› ?_ | refine cFe ‹_› ?_ | refine cN (cTe ‹_› ?_) | refine cN (cFe ‹_› ?_) | refine cTe rfl ?_ | refine cEq ‹_› ?_ | refine cTt ?_ | refine cNt ?_ | refine cF (Eq.refl false) ?_ | refine cN (cF (Eq.refl false) ?_) | refine cTd (by omega) ?_ | refine cFd (by omega) ?_ | refine cN (cTd (by omega) ?_) | refine cN (cFd (by omega) ?_) | refine And.intro (by omega) ?_ | refine And.intro (Eq.refl true) ?_)
 (conv => whnf)
 have hN := nD_cover hb (show (1 : Int) ≤ 4 by omega)
 have e4 : Int.toNat 4 = 4 := rfl
 have e9 : Int.toNat 9 = 9 := rfl
 rw [e4] at hN
 rw [e4, e9]
 have hxl := sgL_len (nval b) 4 (nD b 4 + 1)
 have hxg := sgL_get (nval b) 4 (nD b 4 + 1)
 have hmb : nD b 4 ≤ 200 := by unfold nD; omega
 have htop := sgV_top (w := 4) (by omega) hN
 have hbot := sgV_zero (nval b) 4
 have hstep := sgV_step (nval b) 4
 have hsb := fun i => sgD_bd (N := nval b) (w := 4) (i := i) (by omega)
 generalize hX : sgL (nval b) 4 (nD b 4 + 1) = X at *
 generalize hm : nD b 4 = m at *
 refine ⟨by omega, fun k zs => k ≤ m + 1 ∧ zs = [ptA (mulG (sgV (nval b) 4 (m + 1 - k)) p)], ?_, ?_, ?_⟩
 ·(conv => whnf)
  exact ⟨_, Subs.refl' _, Nat.zero_le _, zsP1 (by rw [Nat.sub_zero, htop]; rfl)⟩
 ·rintro k _ hk ⟨hk2, rfl⟩
  have hd := hxg (m - k) (by omega)
  have e1 : X.length - 1 - k = m - k := by omega
  have hst := hstep (m - k)
  have hsd := hsb (m - k)
  rw [e1, hd, show m + 1 - k = m - k + 1 by omega]
  have ek : m + 1 - (k + 1) = m - k := by omega
  have hres : mulG (2 ^ 4) (mulG (sgV (nval b) 4 (m - k + 1)) p) + zG (sgD (nval b) 4 (m - k)) p = mulG (sgV (nval b) 4 (m - k)) p := by
   rw [← mulG_mul]; exact zG_step p hst
  generalize sgD (nval b) 4 (m - k) = d at *
  generalize mulG (sgV (nval b) 4 (m - k + 1)) p = x at *
  have hD : I64 d := by unfold I64; omega
  repeat ((conv => whnf) <;> first | with_reducible first | refine wI (by omega) ?_ | refine And.intro rfl ?_ | rfl | refine And.intro ‹_› ?_ | refine cTe ‹_› ?_ | refine cFe ‹_› ?_ | refine cN (cTe ‹_› ?_) | refine cN (cFe ‹_› ?_) | refine cTe rfl ?_ | refine cEq ‹_› ?_ | refine cTt ?_ | refine cNt ?_ | refine cF (Eq.refl false) ?_ | refine cN (cF (Eq.refl false) ?_) | refine cTd (by omega) ?_ | refine cFd (by omega) ?_ | refine cN (cTd (by omega) ?_) | refine cN (cFd (by omega) ?_) | refine And.intro (by omega) ?_ | refine And.intro (Eq.refl true) ?_)
  refine ⟨Nat, fun j zs => j ≤ 4 ∧ zs = [.int .i64 (j : Int), ptA (mulG (2 ^ j) x)], fun j => 4 - j, 0, ?_, ?_⟩
  ·(conv => whnf)
   exact ⟨_, Subs.refl' _, Nat.zero_le _, zsK rfl (by rw [Nat.pow_zero, mulG_one])⟩
  rintro j _ ⟨hj, rfl⟩
  by_cases hlt : j < 4
  ·have hs := dbl_step x j
   generalize mulG (2 ^ j) x = y at *
   repeat ((conv => whnf) <;> first | with_reducible first | refine wI (by omega) ?_ | refine And.intro rfl ?_ | rfl | refine And.intro ‹_› ?_ | refine cTe ‹_› ?_ | refine cFe ‹_› ?_ | refine cN (cTe ‹_› ?_) | refine cN (cFe ‹_› ?_) | refine cTe rfl ?_ | refine cEq ‹_› ?_ | refine cTt ?_ | refine cNt ?_ | refine cF (Eq.refl false) ?_ | refine cN (cF (Eq.refl false) ?_) | refine cTd (by omega) ?_ | refine cFd (by omega) ?_ | refine cN (cTd (by omega) ?_) | refine cN (cFd (by omega) ?_) | refine And.intro (by omega) ?_ | refine And.intro (Eq.refl true) ?_)
   (conv => whnf)
   exact ⟨_, Subs.refl' _, j + 1, ⟨by omega, zsK (by omega) hs⟩, by show 4 - (j + 1) < 4 - j; omega⟩
  obtain rfl : j = 4 := by omega
  generalize mulG (2 ^ 4) x = y at *
  have hz := zG_look p (d := d) (by omega)
  obtain ⟨fs, fx, fi, f0, f8, fg, fb⟩ := hz
  repeat ((conv => whnf) <;> first | with_reducible first | refine wI (by omega) ?_ | refine And.intro rfl ?_ | rfl | refine And.intro ‹_› ?_ | refine cTe ‹_› ?_ | refine cFe ‹_› ?_ | refine cN (cTe ‹_› ?_) | refine cN (cFe ‹_› ?_) | refine cTe rfl ?_ | refine cEq ‹_› ?_ | refine cTt ?_ | refine cNt ?_ | refine cF (Eq.refl false) ?_ | refine cN (cF (Eq.refl false) ?_) | refine cTd (by omega) ?_ | refine cFd (by omega) ?_ | refine cN (cTd (by omega) ?_) | refine cN (cFd (by omega) ?_) | refine And.intro (by omega) ?_ | refine And.intro (Eq.refl true) ?_)
  refine ⟨mtL 0 p 9, rfl, by rw [mtL_len]; omega, fun hh => absurd ⟨f0, by rw [mtL_len]; omega⟩ hh, fun _ _ => ?_⟩
  have fg' := fg _ rfl
  generalize (mtL 0 p 9).getD (bits .xor .i64 d (d.fdiv (2 ^ min (Int.toNat 63) IntKind.i64.bits)) - d.fdiv (2 ^ min (Int.toNat 63) IntKind.i64.bits)).toNat 0 = g at *
  repeat ((conv => whnf) <;> first | with_reducible first | refine wI (by omega) ?_ | refine And.intro rfl ?_ | rfl | refine And.intro ‹_› ?_ | refine cTe ‹_› ?_ | refine cFe ‹_› ?_ | refine cN (cTe ‹_› ?_) | refine cN (cFe ‹_› ?_) | refine cTe rfl ?_ | refine cEq ‹_› ?_ | refine cTt ?_ | refine cNt ?_ | refine cF (Eq.refl false) ?_ | refine cN (cF (Eq.refl false) ?_) | refine cTd (by omega) ?_ | refine cFd (by omega) ?_ | refine cN (cTd (by omega) ?_) | refine cN (cFd (by omega) ?_) | refine And.intro (by omega) ?_ | refine And.intro (Eq.refl true) ?_)
  (conv => whnf)
  refine ⟨_, Subs.refl' _, by omega, zsP1 ?_⟩
  rw [ek, ← hres, ← fg']
 ·rintro _ ⟨_, rfl⟩
  rw [hxl, Nat.sub_self, hbot]
  repeat ((conv => whnf) <;> first | with_reducible first | refine wI (by omega) ?_ | refine And.intro rfl ?_ | rfl | refine And.intro ‹_› ?_ | refine cTe ‹_› ?_ | refine cFe ‹_› ?_ | refine cN (cTe ‹_› ?_) | refine cN (cFe ‹_› ?_) | refine cTe rfl ?_ | refine cEq ‹_› ?_ | refine cTt ?_ | refine cNt ?_ | refine cF (Eq.refl false) ?_ | refine cN (cF (Eq.refl false) ?_) | refine cTd (by omega) ?_ | refine cFd (by omega) ?_ | refine cN (cTd (by omega) ?_) | refine cN (cFd (by omega) ?_) | refine And.intro (by omega) ?_ | refine And.intro (Eq.refl true) ?_)
  (conv => whnf)
  exact h
theorem tb_mult_ok : Con Tryz.prog tb_mult.1 tb_mult.2 := con_tree tmB_ok o_mult [.atom (.var 0), .agg [.whole 1 24]] 2 Tryz.func24 rfl c_mult aw_mult g_mult (hbk := rng_one rfl isBack)
end Go.Proofs.YtpapfkihjhhjkaaGreat
