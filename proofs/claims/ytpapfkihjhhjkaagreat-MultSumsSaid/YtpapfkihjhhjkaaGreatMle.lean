/- Two numbers' multiples, terms -/
import Derived.Test.YtpapfkihjhhjkaaGreatMld
set_option linter.unusedSimpArgs false
set_option linter.unusedVariables false
namespace Go.Proofs.YtpapfkihjhhjkaaGreat
open Go.RowKit FdP FdP.Ch
def trmA (t : List Int × G) : AV := .agg [.isl .u8 t.1, ptA t.2]
def okT (t : List Int × G) : Prop := 1 ≤ t.1.length ∧ t.1.length ≤ 64
def trm (ts : List (List Int × G)) (k : Nat) : List Int × G := ts.getD k ([], 0)
def sumK (ts : List (List Int × G)) : Nat → G
 | 0 => 0
 | k + 1 => sumK ts k + mulG (nval (trm ts k).1) (trm ts k).2
theorem trm_mem {ts : List (List Int × G)} {k : Nat} (h : k < ts.length) : trm ts k ∈ ts := by
 unfold trm; rw [List.getD_eq_getElem?_getD, List.getElem?_eq_getElem h]; exact List.getElem_mem h
theorem trm_get {ts : List (List Int × G)} {k : Nat} (h : k < ts.length) : (ts.map trmA).getD (k : Int).toNat .any = .agg [.isl .u8 (trm ts k).1, ptA (trm ts k).2] := by
 rw [List.getD_eq_getElem?_getD, List.getElem?_map, show (k : Int).toNat = k from rfl, List.getElem?_eq_getElem h]
 unfold trm; rw [List.getD_eq_getElem?_getD, List.getElem?_eq_getElem h]; rfl
def tSumM : Trans := fun zs Q => match zs with
 | [.sl 25 es] => ∃ ts : List (List Int × G), es = ts.map trmA ∧ (∀ t ∈ ts, By t.1 ∧ t.1.length ≤ 100000) ∧ ts.length ≤ 100000 ∧ (16 < ts.length → Q (.tup [ptA 0, .int .i64 11])) ∧
  (ts.length ≤ 16 → (∀ t ∈ ts, okT t) → Q (.tup [ptA (sumK ts ts.length), .int .i64 0])) ∧ (ts.length ≤ 16 → ∀ t ∈ ts, ¬ okT t → Q (.tup [ptA 0, .int .i64 11]))
 | _ => False
theorem zsSu {k k' : Int} {g g' : G} (h : k = k') (hg : g = g') : [AV.int .i64 0, .int .i64 k, ptA g] = [.int .i64 0, .int .i64 k', ptA g'] := by rw [h, hg]
def tmJ : Tab := tb_mult :: tb_pid :: tb_padd :: []
theorem tmJ_ok : tmJ.OK Tryz.prog := tab_cons tb_mult_ok <| tab_cons tb_pid_ok <| tab_cons tb_padd_ok <| tab_nil _
def o_summ : Orc := { ans := [(10, oV), (11, oB), (12, oA 24), (13, oA 24), (15, oV), (17, oB), (18, oV), (19, .one ⟨.leaf (.agg [.one (.var 0), .whole 1 24]), 2, []⟩), (21, oV), (22, oV), (23, oV), (24, oA 24), (25, .one ⟨.tup [.agg [.whole 0 24], .atom (.var 1)], 2, []⟩), (29, oB), (30, oA 24), (31, oA 24), (32, oA 24), (33, oV), (35, oB), (36, oA 24), (38, oA 24)], lps := [(0, [.slot 5 [.one], .slot 16 [.one], .blk 1 [.agg 24]])] }
def t_summ : Tree :=
 .new <|
 .calc (.call { callee := .builtin .len, args := #[.tmp 9], argTypes := #[47] }) 3 [(9, qv 0)] ([], []) (qv 1) 1 <|
 .calc2 (.binOp .gtr 3 (.tmp 10) (.const (.int .i64 16)) 3) 4 [(10, qv 1)] ([], []) qT 0 (
 .call 16 [] ([], []) (.leaf (.agg [.whole 2 24])) 1 [] <|
 .ret ([], []) (.tup [.agg [.whole 2 24], .atom (.const (.int .i64 11))])) qF 0 <|
 .call 16 [] ([], []) (.leaf (.agg [.whole 2 24])) 1 [] <|
 .new <|
 .calc (.call { callee := .builtin .len, args := #[.tmp 14], argTypes := #[47] }) 3 [(14, qv 0)] ([], []) (qv 3) 1 <|
 .loop [.atom (.const (.int .i64 0)), .atom (.const (.int .i64 0)), .agg [.whole 2 24]] [.one, .one, .agg 24] <|
 .calc2 (.binOp .lss 3 (.tmp 16) (.tmp 15) 3) 0 [(16, qv 5), (15, qv 3)] ([], []) qT 0 (
 .calc (.indexAddr 47 (.tmp 14) (.tmp 16)) 0 [(14, qv 0), (16, qv 5)] ([], []) (qv 7) 1 <|
 .calc (.load 52 (.tmp 18)) 52 [(18, qv 7)] ([], []) (.leaf (.agg [.one (.var 8), .whole 9 24])) 2 <|
 .new <|
 .new <|
 .call 24 [.atom (.var 8), .agg [.whole 9 24]] ([], []) (.tup [.agg [.whole 10 24], .atom (.var 11)]) 2 [] <|
 .calc2 (.binOp .neq 38 (.tmp 28) (.const (.int .i64 0)) 38) 4 [(28, qv 11)] ([], []) qT 0 (
 .calc2 (.binOp .neq 38 (.tmp 34) (.const (.int .i64 0)) 38) 4 [(34, qv 11)] ([], []) qT 0 (
 .call 16 [] ([], []) (.leaf (.agg [.whole 12 24])) 1 [] <|
 .ret ([], []) (.tup [.agg [.whole 12 24], .atom (.var 11)])) qF 0 <|
 .ret ([], []) (.tup [.agg [.whole 6 24], .atom (.const (.int .i64 0))])) qF 0 <|
 .call 26 [.agg [.whole 6 24], .agg [.whole 10 24]] ([], []) (.leaf (.agg [.whole 12 24])) 1 [] <|
 .calc (.binOp .add 3 (.tmp 16) (.const (.int .i64 1)) 3) 3 [(16, qv 5)] ([], []) (qv 13) 1 <|
 .again 0 [.atom (.var 11), .atom (.var 13), .agg [.whole 12 24]]) qF 0 <|
 .calc2 (.binOp .neq 38 (.tmp 34) (.const (.int .i64 0)) 38) 4 [(34, qv 4)] ([], []) qT 0 (
 .call 16 [] ([], []) (.leaf (.agg [.whole 7 24])) 1 [] <|
 .ret ([], []) (.tup [.agg [.whole 7 24], .atom (.var 4)])) qF 0 <|
 .ret ([], []) (.tup [.agg [.whole 6 24], .atom (.const (.int .i64 0))])
theorem c_summ : compF Tryz.prog Tryz.f17 o_summ (Tryz.f17.body.getD .skip) (symIn [.atom (.var 0)] Tryz.f17.ntmps 1) = some t_summ := by kernel_rfl
theorem g_summ : goodC Tryz.prog o_summ.ords (Tryz.f17.body.getD .skip) = true := by kernel_rfl
def tb_summ : FuncId × Trans := (17, tSumM)
set_option maxRecDepth 100000 in
theorem aw_summ : ∀ zs Q, tb_summ.2 zs Q → bindLs 0 [.atom (.var 0)] zs fun ae => bif Nat.beq ae.length 1 then AWp Tryz.prog tmJ Q t_summ [] ae else False := by
 intro zs Q h
 replace h : tSumM zs Q := h
 unfold tSumM at h
 split at h
 case h_2 => exact h.elim
 rename_i es
 obtain ⟨ts, rfl, hby, hl, h1, h2, h3⟩ := h
 have hml : (ts.map trmA).length = ts.length := List.length_map _
 by_cases a1 : 16 < ts.length
 ·have h := h1 a1
  repeat ((conv => whnf) <;> first | with_reducible first | refine wI (by omega) ?_ | refine And.intro rfl ?_ | rfl | refine And.intro ‹_› ?_ | refine cTe ‹_› ?_ | refine cFe ‹_› ?_ | refine cN (cTe ‹_› ?_) | refine cN (cFe ‹_› ?_) | refine cTe rfl ?_ | refine cEq ‹_› ?_ | refine cTt ?_ | refine cNt ?_ | refine cF (Eq.refl false) ?_ | refine cN (cF (Eq.refl false) ?_) | refine cTd (by omega) ?_ | refine cFd (by omega) ?_ | refine cN (cTd (by omega) ?_) | refine cN (cFd (by omega) ?_) | refine And.intro (by omega) ?_ | refine And.intro (Eq.refl true) ?_)
  (conv => whnf)
  exact h
 have h2 := h2 (by omega)
 have h3 := h3 (by omega)
 repeat ((conv => whnf) <;> first | with_reducible first | refine wI (by omega) ?_ | refine And.intro rfl ?_ | rfl | refine And.intro ‹_› ?_ | refine cTe ‹_› ?_ | refine cFe ‹_› ?_ | refine cN (cTe ‹_› ?_) | refine cN (cFe ‹_› ?_) | refine cTe rfl ?_ | refine cEq ‹_› ?_ | refine cTt ?_ | refine cNt ?_ | refine cF (Eq.refl false) ?_ | refine cN (cF (Eq.refl false) ?_) | refine cTd (by omega) ?_ | refine cFd (by omega) ?_ | refine cN (cTd (by omega) ?_) | refine cN (cFd (by omega) ?_) | refine And.intro (by omega) ?_ | refine And.intro (Eq.refl true) ?_)
 refine ⟨Nat, fun k zs => k ≤ ts.length ∧ (∀ j, j < k → okT (trm ts j)) ∧ zs = [.int .i64 0, .int .i64 (k : Int), ptA (sumK ts k)], fun k => ts.length - k, 0, ?_, ?_⟩
 ·(conv => whnf)
  exact ⟨_, Subs.refl' _, Nat.zero_le _, fun j hj => absurd hj (by omega), zsSu rfl rfl⟩
 rintro k _ ⟨hk, hok, rfl⟩
 by_cases hlt : k < ts.length
 ·have hg := trm_get hlt
  have hm := hby _ (trm_mem hlt)
  have hss : sumK ts (k + 1) = sumK ts k + mulG (nval (trm ts k).1) (trm ts k).2 := rfl
  have hm3 := h3 _ (trm_mem hlt)
  by_cases a2 : okT (trm ts k)
  ·obtain ⟨a3, a4⟩ := a2
   repeat ((conv => whnf) <;> first | with_reducible first | refine wI (by omega) ?_ | refine And.intro rfl ?_ | rfl | refine And.intro ‹_› ?_ | refine cTe ‹_› ?_ | refine cFe ‹_› ?_ | refine cN (cTe ‹_› ?_) | refine cN (cFe ‹_› ?_) | refine cTe rfl ?_ | refine cEq ‹_› ?_ | refine cTt ?_ | refine cNt ?_ | refine cF (Eq.refl false) ?_ | refine cN (cF (Eq.refl false) ?_) | refine cTd (by omega) ?_ | refine cFd (by omega) ?_ | refine cN (cTd (by omega) ?_) | refine cN (cFd (by omega) ?_) | refine And.intro (by omega) ?_ | refine And.intro (Eq.refl true) ?_)
   refine ⟨_, hg, ?_⟩
   repeat ((conv => whnf) <;> first | with_reducible first | refine wI (by omega) ?_ | refine And.intro rfl ?_ | rfl | refine And.intro ‹_› ?_ | refine cTe ‹_› ?_ | refine cFe ‹_› ?_ | refine cN (cTe ‹_› ?_) | refine cN (cFe ‹_› ?_) | refine cTe rfl ?_ | refine cEq ‹_› ?_ | refine cTt ?_ | refine cNt ?_ | refine cF (Eq.refl false) ?_ | refine cN (cF (Eq.refl false) ?_) | refine cTd (by omega) ?_ | refine cFd (by omega) ?_ | refine cN (cTd (by omega) ?_) | refine cN (cFd (by omega) ?_) | refine And.intro (by omega) ?_ | refine And.intro (Eq.refl true) ?_)
   intro _ _
   repeat ((conv => whnf) <;> first | with_reducible first | refine wI (by omega) ?_ | refine And.intro rfl ?_ | rfl | refine And.intro ‹_› ?_ | refine cTe ‹_› ?_ | refine cFe ‹_› ?_ | refine cN (cTe ‹_› ?_) | refine cN (cFe ‹_› ?_) | refine cTe rfl ?_ | refine cEq ‹_› ?_ | refine cTt ?_ | refine cNt ?_ | refine cF (Eq.refl false) ?_ | refine cN (cF (Eq.refl false) ?_) | refine cTd (by omega) ?_ | refine cFd (by omega) ?_ | refine cN (cTd (by omega) ?_) | refine cN (cFd (by omega) ?_) | refine And.intro (by omega) ?_ | refine And.intro (Eq.refl true) ?_)
   (conv => whnf)
   exact ⟨_, Subs.refl' _, k + 1, ⟨by omega, fun j hj => by
    by_cases e : j = k
    ·subst e; exact ⟨a3, a4⟩
    ·exact hok j (by omega), zsSu (by omega) hss.symm⟩, by show ts.length - (k + 1) < ts.length - k; omega⟩
  ·have h := hm3 a2
   unfold okT at a2
   repeat ((conv => whnf) <;> first | with_reducible first | refine wI (by omega) ?_ | refine And.intro rfl ?_ | rfl | refine And.intro ‹_› ?_ | refine cTe ‹_› ?_ | refine cFe ‹_› ?_ | refine cN (cTe ‹_› ?_) | refine cN (cFe ‹_› ?_) | refine cTe rfl ?_ | refine cEq ‹_› ?_ | refine cTt ?_ | refine cNt ?_ | refine cF (Eq.refl false) ?_ | refine cN (cF (Eq.refl false) ?_) | refine cTd (by omega) ?_ | refine cFd (by omega) ?_ | refine cN (cTd (by omega) ?_) | refine cN (cFd (by omega) ?_) | refine And.intro (by omega) ?_ | refine And.intro (Eq.refl true) ?_)
   refine ⟨_, hg, ?_⟩
   repeat ((conv => whnf) <;> first | with_reducible first | refine wI (by omega) ?_ | refine And.intro rfl ?_ | rfl | refine And.intro ‹_› ?_ | refine cTe ‹_› ?_ | refine cFe ‹_› ?_ | refine cN (cTe ‹_› ?_) | refine cN (cFe ‹_› ?_) | refine cTe rfl ?_ | refine cEq ‹_› ?_ | refine cTt ?_ | refine cNt ?_ | refine cF (Eq.refl false) ?_ | refine cN (cF (Eq.refl false) ?_) | refine cTd (by omega) ?_ | refine cFd (by omega) ?_ | refine cN (cTd (by omega) ?_) | refine cN (cFd (by omega) ?_) | refine And.intro (by omega) ?_ | refine And.intro (Eq.refl true) ?_)
   refine ⟨fun _ => ?_, fun q1 q2 => absurd ⟨q1, q2⟩ a2⟩
   repeat ((conv => whnf) <;> first | with_reducible first | refine wI (by omega) ?_ | refine And.intro rfl ?_ | rfl | refine And.intro ‹_› ?_ | refine cTe ‹_› ?_ | refine cFe ‹_› ?_ | refine cN (cTe ‹_› ?_) | refine cN (cFe ‹_› ?_) | refine cTe rfl ?_ | refine cEq ‹_› ?_ | refine cTt ?_ | refine cNt ?_ | refine cF (Eq.refl false) ?_ | refine cN (cF (Eq.refl false) ?_) | refine cTd (by omega) ?_ | refine cFd (by omega) ?_ | refine cN (cTd (by omega) ?_) | refine cN (cFd (by omega) ?_) | refine And.intro (by omega) ?_ | refine And.intro (Eq.refl true) ?_)
   (conv => whnf)
   exact h
 ·obtain rfl : k = ts.length := by omega
  have h := h2 (fun t ht => by
   obtain ⟨j, hj, rfl⟩ := List.getElem_of_mem ht
   have := hok j hj
   unfold trm at this
   rw [List.getD_eq_getElem?_getD, List.getElem?_eq_getElem hj] at this
   exact this)
  repeat ((conv => whnf) <;> first | with_reducible first | refine wI (by omega) ?_ | refine And.intro rfl ?_ | rfl | refine And.intro ‹_› ?_ | refine cTe ‹_› ?_ | refine cFe ‹_› ?_ | refine cN (cTe ‹_› ?_) | refine cN (cFe ‹_› ?_) | refine cTe rfl ?_ | refine cEq ‹_› ?_ | refine cTt ?_ | refine cNt ?_ | refine cF (Eq.refl false) ?_ | refine cN (cF (Eq.refl false) ?_) | refine cTd (by omega) ?_ | refine cFd (by omega) ?_ | refine cN (cTd (by omega) ?_) | refine cN (cFd (by omega) ?_) | refine And.intro (by omega) ?_ | refine And.intro (Eq.refl true) ?_)
  (conv => whnf)
  exact h
theorem tb_summ_ok : Con Tryz.prog tb_summ.1 tb_summ.2 := con_tree tmJ_ok o_summ [.atom (.var 0)] 1 Tryz.func17 rfl c_summ aw_summ g_summ
end Go.Proofs.YtpapfkihjhhjkaaGreat
