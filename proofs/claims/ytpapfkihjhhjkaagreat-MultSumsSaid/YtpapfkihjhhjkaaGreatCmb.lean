/- Chapter 11: combs -/
import Derived.Test.YtpapfkihjhhjkaaGreatCmp
import Derived.Test.YtpapfkihjhhjkaaGreatPnu
set_option linter.unusedSimpArgs false
set_option linter.unusedVariables false
namespace Go.Proofs.YtpapfkihjhhjkaaGreat
open Go.RowKit FdP FdP.Ch
def tcNil : Tab := []
theorem tcNil_ok : tcNil.OK Tryz.prog := tab_nil _
def smI (a b : Int) : Int := if a = b then 1 else 0
def tSmI : Trans := fun zs Q => match zs with
 | [.int .i64 a, .int .i64 b] => (I64 a ∧ I64 b) ∧ Q (.int .i64 (smI a b))
 | _ => False
theorem smI_u64 {a b x y q q' : Int} (ha : I64 a) (hb : I64 b) (hx : x = a + q * 18446744073709551616) (hy : y = b + q' * 18446744073709551616) (x1 : 0 ≤ x ∧ x < 18446744073709551616) (y1 : 0 ≤ y ∧ y < 18446744073709551616) : x = y ↔ a = b := by
 unfold I64 at ha hb
 constructor <;> intro h <;> omega
theorem smI_eq {x y r q : Int} (x1 : 0 ≤ x ∧ x < 18446744073709551616) (y1 : 0 ≤ y ∧ y < 18446744073709551616) (hr : r = 0 - bits .xor .u64 x y + q * 18446744073709551616) (r1 : 0 ≤ r ∧ r < 18446744073709551616) : 1 - (bits .or .u64 (bits .xor .u64 x y) r).fdiv (2 ^ 63) = smI x y := by
 obtain ⟨h1, h2⟩ := xor_u64 x1 y1
 rw [top_u64 h1 r1 (by omega)]
 unfold smI
 by_cases e : x = y
 ·rw [if_pos (h2.2 e), if_pos e]; rfl
 ·rw [if_neg (fun g => e (h2.1 g)), if_neg e]; rfl
def o_csame : Orc := { ans := [(7, oV), (9, oV), (10, oV), (13, oV), (14, oV), (15, oV), (16, oV), (17, oV)], lps := [] }
def t_csame : Tree :=
 .calc (.convert 3 25 (.tmp 6)) 25 [(6, qv 0)] ([], []) (qv 2) 1 <|
 .calc (.convert 3 25 (.tmp 8)) 25 [(8, qv 1)] ([], []) (qv 3) 1 <|
 .calc (.binOp .xor 25 (.tmp 7) (.tmp 9) 25) 25 [(7, qv 2), (9, qv 3)] ([], []) (qv 4) 1 <|
 .calc (.unOp .neg 25 (.tmp 12)) 25 [(12, qv 4)] ([], []) (qv 5) 1 <|
 .calc (.binOp .or 25 (.tmp 11) (.tmp 13) 25) 25 [(11, qv 4), (13, qv 5)] ([], []) (qv 6) 1 <|
 .calc (.binOp .shr 25 (.tmp 14) (.const (.int .u64 63)) 69) 25 [(14, qv 6)] ([], []) (qv 7) 1 <|
 .calc (.convert 25 3 (.tmp 15)) 3 [(15, qv 7)] ([], []) (qv 8) 1 <|
 .calc (.binOp .sub 3 (.const (.int .i64 1)) (.tmp 16) 3) 3 [(16, qv 8)] ([], []) (qv 9) 1 <|
 .ret ([], []) (qv 9)
theorem c_csame : compF Tryz.prog Tryz.f91 o_csame (Tryz.f91.body.getD .skip) (symIn [.atom (.var 0), .atom (.var 1)] Tryz.f91.ntmps 2) = some t_csame := by kernel_rfl
theorem g_csame : goodC Tryz.prog o_csame.ords (Tryz.f91.body.getD .skip) = true := by kernel_rfl
def tb_csame : FuncId × Trans := (91, tSmI)
set_option maxRecDepth 100000 in
theorem aw_csame : ∀ zs Q, tb_csame.2 zs Q → bindLs 0 [.atom (.var 0), .atom (.var 1)] zs fun ae => bif Nat.beq ae.length 2 then AWp Tryz.prog tcNil Q t_csame [] ae else False := by
 intro zs Q h
 replace h : tSmI zs Q := h
 unfold tSmI at h
 split at h
 case h_2 => exact h.elim
 rename_i a b
 obtain ⟨⟨ha, hb⟩, h⟩ := h
 (conv => whnf)
 intro x q hx x0 x1
 (conv => whnf)
 intro y q' hy y0 y1
 (conv => whnf)
 intro r q2 hr r0 r1
 have e1 : 1 - (bits .or .u64 (bits .xor .u64 x y) r).fdiv (2 ^ min (Int.toNat 63) IntKind.u64.bits) = smI x y := smI_eq ⟨x0, x1⟩ ⟨y0, y1⟩ hr ⟨r0, r1⟩
 have e2 := smI_u64 ha hb hx hy ⟨x0, x1⟩ ⟨y0, y1⟩
 have e3 : smI x y = smI a b := by unfold smI; by_cases e : x = y; · rw [if_pos e, if_pos (e2.1 e)]
                                   ·rw [if_neg e, if_neg (fun g => e (e2.2 g))]
 rw [e3] at e1
 have e4 : smI a b = 0 ∨ smI a b = 1 := by unfold smI; by_cases e : a = b; · right; rw [if_pos e]
                                           ·left; rw [if_neg e]
 (conv => whnf)
 refine ⟨by omega, ?_⟩
 generalize hs : (bits .or .u64 (bits .xor .u64 x y) r).fdiv (2 ^ min (Int.toNat 63) IntKind.u64.bits) = s at *
 repeat ((conv => whnf) <;> first | with_reducible first | refine wI (by omega) ?_ | refine And.intro rfl ?_ | rfl | refine And.intro ‹_› ?_ | refine cTe ‹_› ?_ | refine cFe ‹_› ?_ | refine cN (cTe ‹_› ?_) | refine cN (cFe ‹_› ?_) | refine cTe rfl ?_ | refine cEq ‹_› ?_ | refine cTt ?_ | refine cNt ?_ | refine cF (Eq.refl false) ?_ | refine cN (cF (Eq.refl false) ?_) | refine cTd (by omega) ?_ | refine cFd (by omega) ?_ | refine cN (cTd (by omega) ?_) | refine cN (cFd (by omega) ?_) | refine And.intro (by omega) ?_ | refine And.intro (Eq.refl true) ?_)
 (conv => whnf)
 rw [e1]
 exact h
theorem tb_csame_ok : Con Tryz.prog tb_csame.1 tb_csame.2 := con_tree tcNil_ok o_csame [.atom (.var 0), .atom (.var 1)] 2 Tryz.func91 rfl c_csame aw_csame g_csame
@[reducible] def ptA (g : G) : AV := .ob (.pt g)
theorem pts_sizes : ∀ gs : List G, AV.sizes (gs.map ptA) = 24 * gs.length
 | [] => rfl
 | g :: gs => by show 24 + AV.sizes (gs.map ptA) = _; rw [pts_sizes gs, List.length_cons]; omega
theorem pts_size (gs : List G) : (AV.agg (gs.map ptA)).size = 24 * gs.length := pts_sizes gs
theorem pts_sz (gs : List G) : ∀ e ∈ gs.map ptA, e.size = 24 := fun e he => by
 obtain ⟨g, _, rfl⟩ := List.mem_map.1 he; rfl
theorem pts_len (gs : List G) : (gs.map ptA).length = gs.length := List.length_map _
theorem pts_get {gs : List G} {k : Nat} (h : k < gs.length) : (gs.map ptA)[k]? = some (ptA (gs.getD k 0)) := by
 rw [List.getElem?_map, List.getD_eq_getElem?_getD, List.getElem?_eq_getElem h]; rfl
theorem pts_push (gs : List G) (g : G) : gs.map ptA ++ [ptA g] = (gs ++ [g]).map ptA := by rw [List.map_append]; rfl
theorem pts_push_size (gs : List G) (g : G) : (AV.agg (gs.map ptA ++ [ptA g])).size = 24 * gs.length + 24 := by rw [pts_push, pts_size, List.length_append]; rfl
def lkS (gs : List G) (i : Int) (k : Nat) : G := if (k : Int) ≤ i then 0 else gs.getD i.toNat 0
theorem lk_step {gs : List G} {i : Int} {k : Nat} (hi : 0 ≤ i) : (if smI k i % 2 = 0 then lkS gs i k else gs.getD k 0) = lkS gs i (k + 1) := by
 unfold smI lkS
 by_cases e : (k : Int) = i
 ·rw [if_pos e, if_neg (by omega), if_neg (by omega)]; congr 1; omega
 ·rw [if_neg e, if_pos (by omega)]
  by_cases h : (k : Int) ≤ i
  ·rw [if_pos h, if_pos (by omega)]
  ·rw [if_neg h, if_neg (by omega)]
theorem zsK {k k' : Int} {g g' : G} (h : k = k') (h' : g = g') : [AV.int .i64 k, ptA g] = [.int .i64 k', ptA g'] := by rw [h, h']
theorem zsPt {n n' : Nat} {es es' : List AV} {i i' : Int} {g g' : G} (h0 : n = n') (h1 : es = es') (h2 : i = i') (h3 : g = g') : [AV.row n, .agg es, .int .i64 i, ptA g] = [.row n', .agg es', .int .i64 i', ptA g'] := by rw [h0, h1, h2, h3]
def tLookL : Trans := fun zs Q => match zs with
 | [.sl 24 es, .int .i64 i] => I64 i ∧ ∃ gs : List G, es = gs.map ptA ∧ gs.length ≤ 100000 ∧ (¬ (0 ≤ i ∧ i < gs.length) → Q (.tup [ptA 0, .int .i64 10])) ∧ (0 ≤ i → i < gs.length → Q (.tup [ptA (gs.getD i.toNat 0), .int .i64 0]))
 | _ => False
def tcE : Tab := tb_pid :: tb_csame :: tb_psel :: []
theorem tcE_ok : tcE.OK Tryz.prog := tab_cons tb_pid_ok <| tab_cons tb_csame_ok <| tab_cons tb_psel_ok <| tab_nil _
def o_look : Orc := { ans := [(10, oB), (14, oV), (15, oB), (16, oV), (17, oA 24), (18, oA 24), (20, oV), (22, oB), (24, oV), (25, oA 24), (28, oV), (29, oA 24), (30, oA 24), (31, oA 24), (32, oV), (33, oA 24)], lps := [(0, [.slot 21 [.one], .blk 1 [.agg 24]])], ords := [(7, [.pure 0, .pure 1, .quiet 3, .quiet 4, .call 2 [], .call 5 [], .last 6])] }
def t_look : Tree :=
 .new <|
 .calc2 (.binOp .lss 3 (.tmp 9) (.const (.int .i64 0)) 3) 4 [(9, qv 1)] ([], []) qT 0 (
 .call 16 [] ([], []) (.leaf (.agg [.whole 2 24])) 1 [] <|
 .ret ([], []) (.tup [.agg [.whole 2 24], .atom (.const (.int .i64 10))])) qF 0 <|
 .calc (.call { callee := .builtin .len, args := #[.tmp 13], argTypes := #[83] }) 3 [(13, qv 0)] ([], []) (qv 2) 1 <|
 .calc2 (.binOp .geq 3 (.tmp 12) (.tmp 14) 3) 4 [(12, qv 1), (14, qv 2)] ([], []) qT 0 (
 .call 16 [] ([], []) (.leaf (.agg [.whole 3 24])) 1 [] <|
 .ret ([], []) (.tup [.agg [.whole 3 24], .atom (.const (.int .i64 10))])) qF 0 <|
 .call 16 [] ([], []) (.leaf (.agg [.whole 3 24])) 1 [] <|
 .new <|
 .calc (.call { callee := .builtin .len, args := #[.tmp 19], argTypes := #[83] }) 3 [(19, qv 0)] ([], []) (qv 4) 1 <|
 .loop [.atom (.const (.int .i64 0)), .agg [.whole 3 24]] [.one, .agg 24] <|
 .calc2 (.binOp .lss 3 (.tmp 21) (.tmp 20) 3) 0 [(21, qv 5), (20, qv 4)] ([], []) qT 0 (
 .calc (.indexAddr 83 (.tmp 19) (.tmp 21)) 0 [(19, qv 0), (21, qv 5)] ([], []) (qv 7) 1 <|
 .calc (.load 30 (.tmp 24)) 30 [(24, qv 7)] ([], []) (.leaf (.agg [.whole 8 24])) 1 <|
 .new <|
 .call 91 [.atom (.var 5), .atom (.var 1)] ([], []) (qv 9) 1 [] <|
 .call 64 [.atom (.var 9), .agg [.whole 6 24], .agg [.whole 8 24]] ([], []) (.leaf (.agg [.whole 10 24])) 1 [] <|
 .calc (.binOp .add 3 (.tmp 21) (.const (.int .i64 1)) 3) 3 [(21, qv 5)] ([], []) (qv 11) 1 <|
 .again 0 [.atom (.var 11), .agg [.whole 10 24]]) qF 0 <|
 .ret ([], []) (.tup [.agg [.whole 6 24], .atom (.const (.int .i64 0))])
theorem c_look : compF Tryz.prog Tryz.f63 o_look (Tryz.f63.body.getD .skip) (symIn [.atom (.var 0), .atom (.var 1)] Tryz.f63.ntmps 2) = some t_look := by kernel_rfl
theorem g_look : goodC Tryz.prog o_look.ords (Tryz.f63.body.getD .skip) = true := by kernel_rfl
def tb_look : FuncId × Trans := (63, tLookL)
set_option maxRecDepth 100000 in
theorem aw_look : ∀ zs Q, tb_look.2 zs Q → bindLs 0 [.atom (.var 0), .atom (.var 1)] zs fun ae => bif Nat.beq ae.length 2 then AWp Tryz.prog tcE Q t_look [] ae else False := by
 intro zs Q h
 replace h : tLookL zs Q := h
 unfold tLookL at h
 split at h
 case h_2 => exact h.elim
 rename_i es i
 obtain ⟨hi, gs, rfl, hl, h1, h2⟩ := h
 have ll := pts_len gs
 by_cases a1 : i < 0
 ·have h' := h1 (by omega)
  repeat ((conv => whnf) <;> first | with_reducible first | refine wI (by omega) ?_ | refine And.intro rfl ?_ | rfl | refine And.intro ‹_› ?_ | refine cTe ‹_› ?_ | refine cFe ‹_› ?_ | refine cN (cTe ‹_› ?_) | refine cN (cFe ‹_› ?_) | refine cTe rfl ?_ | refine cEq ‹_› ?_ | refine cTt ?_ | refine cNt ?_ | refine cF (Eq.refl false) ?_ | refine cN (cF (Eq.refl false) ?_) | refine cTd (by omega) ?_ | refine cFd (by omega) ?_ | refine cN (cTd (by omega) ?_) | refine cN (cFd (by omega) ?_) | refine And.intro (by omega) ?_ | refine And.intro (Eq.refl true) ?_)
  (conv => whnf)
  exact h'
 by_cases a2 : (gs.length : Int) ≤ i
 ·have h' := h1 (by omega)
  repeat ((conv => whnf) <;> first | with_reducible first | refine wI (by omega) ?_ | refine And.intro rfl ?_ | rfl | refine And.intro ‹_› ?_ | refine cTe ‹_› ?_ | refine cFe ‹_› ?_ | refine cN (cTe ‹_› ?_) | refine cN (cFe ‹_› ?_) | refine cTe rfl ?_ | refine cEq ‹_› ?_ | refine cTt ?_ | refine cNt ?_ | refine cF (Eq.refl false) ?_ | refine cN (cF (Eq.refl false) ?_) | refine cTd (by omega) ?_ | refine cFd (by omega) ?_ | refine cN (cTd (by omega) ?_) | refine cN (cFd (by omega) ?_) | refine And.intro (by omega) ?_ | refine And.intro (Eq.refl true) ?_)
  (conv => whnf)
  exact h'
 have h' := h2 (by omega) (by omega)
 repeat ((conv => whnf) <;> first | with_reducible first | refine wI (by omega) ?_ | refine And.intro rfl ?_ | rfl | refine And.intro ‹_› ?_ | refine cTe ‹_› ?_ | refine cFe ‹_› ?_ | refine cN (cTe ‹_› ?_) | refine cN (cFe ‹_› ?_) | refine cTe rfl ?_ | refine cEq ‹_› ?_ | refine cTt ?_ | refine cNt ?_ | refine cF (Eq.refl false) ?_ | refine cN (cF (Eq.refl false) ?_) | refine cTd (by omega) ?_ | refine cFd (by omega) ?_ | refine cN (cTd (by omega) ?_) | refine cN (cFd (by omega) ?_) | refine And.intro (by omega) ?_ | refine And.intro (Eq.refl true) ?_)
 refine ⟨Nat, fun k zs => k ≤ gs.length ∧ zs = [.int .i64 (k : Int), ptA (lkS gs i k)], fun k => gs.length - k, 0, ?_, ?_⟩
 ·(conv => whnf)
  exact ⟨_, Subs.refl' _, Nat.zero_le _, zsK rfl (by unfold lkS; rw [if_pos (by omega)])⟩
 rintro k _ ⟨hk, rfl⟩
 have hs := lk_step (gs := gs) (i := i) (k := k) (by omega)
 by_cases hlt : (k : Int) < gs.length
 ·have hg : (gs.map ptA).getD (k : Int).toNat .any = ptA (gs.getD k 0) := by rw [List.getD_eq_getElem?_getD]; exact congrArg (fun o => Option.getD o AV.any) (pts_get (by omega))
  have mk : I64 (k : Int) ∧ I64 i := ⟨by unfold I64; omega, hi⟩
  repeat ((conv => whnf) <;> first | with_reducible first | refine wI (by omega) ?_ | refine And.intro rfl ?_ | rfl | refine And.intro ‹_› ?_ | refine cTe ‹_› ?_ | refine cFe ‹_› ?_ | refine cN (cTe ‹_› ?_) | refine cN (cFe ‹_› ?_) | refine cTe rfl ?_ | refine cEq ‹_› ?_ | refine cTt ?_ | refine cNt ?_ | refine cF (Eq.refl false) ?_ | refine cN (cF (Eq.refl false) ?_) | refine cTd (by omega) ?_ | refine cFd (by omega) ?_ | refine cN (cTd (by omega) ?_) | refine cN (cFd (by omega) ?_) | refine And.intro (by omega) ?_ | refine And.intro (Eq.refl true) ?_)
  refine ⟨ptA (gs.getD k 0), hg, ?_⟩
  repeat ((conv => whnf) <;> first | with_reducible first | refine wI (by omega) ?_ | refine And.intro rfl ?_ | rfl | refine And.intro ‹_› ?_ | refine cTe ‹_› ?_ | refine cFe ‹_› ?_ | refine cN (cTe ‹_› ?_) | refine cN (cFe ‹_› ?_) | refine cTe rfl ?_ | refine cEq ‹_› ?_ | refine cTt ?_ | refine cNt ?_ | refine cF (Eq.refl false) ?_ | refine cN (cF (Eq.refl false) ?_) | refine cTd (by omega) ?_ | refine cFd (by omega) ?_ | refine cN (cTd (by omega) ?_) | refine cN (cFd (by omega) ?_) | refine And.intro (by omega) ?_ | refine And.intro (Eq.refl true) ?_)
  (conv => whnf)
  exact ⟨_, Subs.refl' _, k + 1, ⟨by omega, zsK (by omega) hs⟩, by show gs.length - (k + 1) < gs.length - k; omega⟩
 ·have e : lkS gs i k = gs.getD i.toNat 0 := by unfold lkS; rw [if_neg (by omega)]
  rw [← e] at h'
  repeat ((conv => whnf) <;> first | with_reducible first | refine wI (by omega) ?_ | refine And.intro rfl ?_ | rfl | refine And.intro ‹_› ?_ | refine cTe ‹_› ?_ | refine cFe ‹_› ?_ | refine cN (cTe ‹_› ?_) | refine cN (cFe ‹_› ?_) | refine cTe rfl ?_ | refine cEq ‹_› ?_ | refine cTt ?_ | refine cNt ?_ | refine cF (Eq.refl false) ?_ | refine cN (cF (Eq.refl false) ?_) | refine cTd (by omega) ?_ | refine cFd (by omega) ?_ | refine cN (cTd (by omega) ?_) | refine cN (cFd (by omega) ?_) | refine And.intro (by omega) ?_ | refine And.intro (Eq.refl true) ?_)
  (conv => whnf)
  exact h'
theorem tb_look_ok : Con Tryz.prog tb_look.1 tb_look.2 := con_tree tcE_ok o_look [.atom (.var 0), .atom (.var 1)] 2 Tryz.func63 rfl c_look aw_look g_look
end Go.Proofs.YtpapfkihjhhjkaaGreat
