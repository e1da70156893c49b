/- Two numbers' multiples, terms -/
import Derived.Test.YtpapfkihjhhjkaaMld
set_option linter.unusedSimpArgs false
set_option linter.unusedVariables false
namespace Go.Proofs.Ytpapfkihjhhjkaa
open Go.RowKit FdP FdP.Ch
def tBothM : Trans := fun zs Q => match zs with
  | [.isl .u8 a, .ob (.pt p), .isl .u8 b, .ob (.pt q)] => (By a ∧ By b ∧ a.length ≤ 100000 ∧ b.length ≤ 100000) ∧ (¬ ((1 ≤ a.length ∧ a.length ≤ 64) ∧ (1 ≤ b.length ∧ b.length ≤ 64)) → Q (.tup [ptA 0, .int .i64 11])) ∧
    (1 ≤ a.length → a.length ≤ 64 → 1 ≤ b.length → b.length ≤ 64 → Q (.tup [ptA (mulG (nval a) p + mulG (nval b) q), .int .i64 0]))
  | _ => False
theorem dgo_get {X : List Int} (h : ∀ d ∈ X, dgOK d) (i : Nat) : dgOK (X.getD i 0) := by
  rw [List.getD_eq_getElem?_getD]
  cases hi : X[i]? with
  | none => exact .inl rfl
  | some d => exact h d (List.mem_of_getElem? hi)
theorem cells2 (a b : List Int) : ∀ x ∈ [AV.isl .u8 a, AV.isl .u8 b], x.size = 1 := fun x hx => by
  simp only [List.mem_cons, List.not_mem_nil, or_false] at hx
  rcases hx with rfl | rfl <;> rfl
theorem zsBo {i i' : Int} {g g' : G} (h : i = i') (hg : g = g') : [AV.int .i64 i, ptA g] = [.int .i64 i', ptA g'] := by rw [h, hg]
def trmA (t : List Int × G) : AV := .agg [.isl .u8 t.1, ptA t.2]
def okT (t : List Int × G) : Prop := 1 ≤ t.1.length ∧ t.1.length ≤ 64
def trm (ts : List (List Int × G)) (k : Nat) : List Int × G := ts.getD k ([], 0)
def sumK (ts : List (List Int × G)) : Nat → G
  | 0 => 0
  | k + 1 => sumK ts k + mulG (nval (trm ts k).1) (trm ts k).2
theorem trm_mem {ts : List (List Int × G)} {k : Nat} (h : k < ts.length) : trm ts k ∈ ts := by
  unfold trm; rw [List.getD_eq_getElem?_getD, List.getElem?_eq_getElem h]; exact List.getElem_mem h
theorem trm_get {ts : List (List Int × G)} {k : Nat} (h : k < ts.length) : (ts.map trmA).getD (k : Int).toNat .any = .agg [.isl .u8 (trm ts k).1, ptA (trm ts k).2] := by
  rw [List.getD_eq_getElem?_getD, List.getElem?_map, show (k : Int).toNat = k from rfl, List.getElem?_eq_getElem h]
  unfold trm; rw [List.getD_eq_getElem?_getD, List.getElem?_eq_getElem h]; rfl
def tSumM : Trans := fun zs Q => match zs with
  | [.sl 25 es] => ∃ ts : List (List Int × G), es = ts.map trmA ∧ (∀ t ∈ ts, By t.1 ∧ t.1.length ≤ 100000) ∧ ts.length ≤ 100000 ∧ (16 < ts.length → Q (.tup [ptA 0, .int .i64 11])) ∧
      (ts.length ≤ 16 → (∀ t ∈ ts, okT t) → Q (.tup [ptA (sumK ts ts.length), .int .i64 0])) ∧ (ts.length ≤ 16 → ∀ t ∈ ts, ¬ okT t → Q (.tup [ptA 0, .int .i64 11]))
  | _ => False
theorem zsSu {k k' : Int} {g g' : G} (h : k = k') (hg : g = g') : [AV.int .i64 0, .int .i64 k, ptA g] = [.int .i64 0, .int .i64 k', ptA g'] := by rw [h, hg]
def tmI : Tab := tb_msize :: tb_pid :: tb_naf :: tb_oddm :: tb_pdbl :: tb_atd :: tb_putm :: []
theorem tmI_ok : tmI.OK Try.prog := tab_cons tb_msize_ok <| tab_cons tb_pid_ok <| tab_cons tb_naf_ok <| tab_cons tb_oddm_ok <| tab_cons tb_pdbl_ok <| tab_cons tb_atd_ok <| tab_cons tb_putm_ok <| tab_nil _
def o_bothm : Orc := { ans := [(23, oV), (25, oB), (26, oV), (27, oV), (29, oV), (31, oB), (32, oA 24), (34, oV), (37, .one ⟨.tup [.atom (.var 0), .atom (.var 1)], 2, []⟩), (42, .one ⟨.tup [.atom (.var 0), .atom (.var 1)], 2, []⟩), (46, oB), (49, oB), (50, oV), (51, oA 24), (54, oV), (55, oA 24), (56, oV), (57, oA 24), (58, oV), (60, oA 24), (62, oV), (64, oV), (65, oV), (66, oV), (68, oB), (71, oA 24), (72, oA 24), (73, oA 24), (74, oV), (75, oV), (78, oV), (79, oA 24), (80, oV), (81, oV), (84, oV), (85, oA 24), (70, oV), (86, oA 24)], lps := [(0, [.slot 24 [.one]]), (2, [.slot 19 [.one], .blk 5 [.agg 24]])], ords := [(12, [.quiet 0, .quiet 2, .call 1 [5], .call 3 [5], .pure 4, .make 5 [], .last 6]), (18, [.quiet 0, .quiet 1, .quiet 2, .pure 3, .pure 4, .quiet 7, .quiet 8, .pure 9, .pure 10, .call 5 [], .call 6 [], .call 11 [], .call 12 [], .last 13])] }
def t_bothm : Tree :=
 .new <|
 .new <|
 .new <|
 .new <|
 .calc (.call { callee := .builtin .len, args := #[.tmp 22], argTypes := #[79] }) 3 [(22, .leaf (.atom (.slc 3 0 2 2)))] ([([.whole 1 24], 31), ([.whole 3 24], 31), ([.lit [.int .u64 0, .int .u64 0, .int .u64 0, .int .u64 0, .int .u64 0, .int .u64 0, .int .u64 0, .int .u64 0, .int .u64 0, .int .u64 0, .int .u64 0, .int .u64 0, .int .u64 0, .int .u64 0, .int .u64 0, .int .u64 0, .int .u64 0, .int .u64 0, .int .u64 0, .int .u64 0, .int .u64 0, .int .u64 0, .int .u64 0, .int .u64 0]], 31), ([.one (.var 0), .one (.var 2)], 22)], []) (qv 4) 1 <|
 .loop [.atom (.const (.int .i64 0))] [.one] <|
 .calc2 (.binOp .lss 3 (.tmp 24) (.tmp 23) 3) 0 [(24, qv 5), (23, qv 4)] ([], []) qT 0 (
 .bound 5 2 <|
 .ldi [.one (.var 0), .one (.var 2)] 0 5 1 1 false <|
 .call 28 [.atom (.var 6)] ([], []) (qv 7) 1 [] <|
 .calc2 (.binOp .neq 39 (.tmp 30) (.const (.int .i64 0)) 39) 4 [(30, qv 7)] ([], []) qT 0 (
 .call 18 [] ([], []) (.leaf (.agg [.whole 8 24])) 1 [] <|
 .ret ([], []) (.tup [.agg [.whole 8 24], .atom (.var 7)])) qF 0 <|
 .calc (.binOp .add 3 (.tmp 24) (.const (.int .i64 1)) 3) 3 [(24, qv 5)] ([], []) (qv 8) 1 <|
 .again 0 [.atom (.var 8)]) qF 0 <|
 .call 42 [.atom (.var 0), .atom (.const (.int .i64 5))] ([], []) (.tup [.atom (.var 6), .atom (.var 7)]) 2 [] <|
 .call 42 [.atom (.var 2), .atom (.const (.int .i64 5))] ([], []) (.tup [.atom (.var 8), .atom (.var 9)]) 2 [] <|
 .calc2 (.binOp .neq 39 (.tmp 45) (.const (.int .i64 0)) 39) 4 [(45, qv 7)] ([], []) qT 0 (
 .call 18 [] ([], []) (.leaf (.agg [.whole 10 24])) 1 [] <|
 .calc (.call { callee := .builtin .max, args := #[.tmp 52, .tmp 53], argTypes := #[39, 39] }) 39 [(52, qv 7), (53, qv 9)] ([], []) (qv 11) 1 <|
 .ret ([], []) (.tup [.agg [.whole 10 24], .atom (.var 11)])) qF 0 <|
 .calc2 (.binOp .neq 39 (.tmp 48) (.const (.int .i64 0)) 39) 4 [(48, qv 9)] ([], []) qT 0 (
 .call 18 [] ([], []) (.leaf (.agg [.whole 10 24])) 1 [] <|
 .calc (.call { callee := .builtin .max, args := #[.tmp 52, .tmp 53], argTypes := #[39, 39] }) 39 [(52, qv 7), (53, qv 9)] ([], []) (qv 11) 1 <|
 .ret ([], []) (.tup [.agg [.whole 10 24], .atom (.var 11)])) qF 0 <|
 .call 43 [.agg [.whole 1 24]] ([], []) (qv 10) 1 [] <|
 .call 43 [.agg [.whole 3 24]] ([], []) (qv 11) 1 [] <|
 .new <|
 .call 18 [] ([], []) (.leaf (.agg [.whole 12 24])) 1 [] <|
 .new <|
 .calc (.call { callee := .builtin .len, args := #[.tmp 61], argTypes := #[61] }) 3 [(61, qv 6)] ([], []) (qv 13) 1 <|
 .calc (.call { callee := .builtin .len, args := #[.tmp 63], argTypes := #[61] }) 3 [(63, qv 8)] ([], []) (qv 14) 1 <|
 .calc (.call { callee := .builtin .max, args := #[.tmp 62, .tmp 64], argTypes := #[3, 3] }) 3 [(62, qv 13), (64, qv 14)] ([], []) (qv 15) 1 <|
 .calc (.binOp .sub 3 (.tmp 65) (.const (.int .i64 1)) 3) 3 [(65, qv 15)] ([], []) (qv 16) 1 <|
 .loop [.atom (.var 16), .agg [.whole 12 24]] [.one, .agg 24] <|
 .calc2 (.binOp .geq 3 (.tmp 67) (.const (.int .i64 0)) 3) 4 [(67, qv 17)] ([], []) qT 0 (
 .call 27 [.agg [.whole 18 24]] ([], []) (.leaf (.agg [.whole 19 24])) 1 [] <|
 .call 45 [.atom (.var 6), .atom (.var 17)] ([], []) (qv 20) 1 [] <|
 .call 44 [.agg [.whole 19 24], .atom (.var 10), .atom (.var 20)] ([], []) (.leaf (.agg [.whole 21 24])) 1 [] <|
 .call 45 [.atom (.var 8), .atom (.var 17)] ([], []) (qv 22) 1 [] <|
 .call 44 [.agg [.whole 21 24], .atom (.var 11), .atom (.var 22)] ([], []) (.leaf (.agg [.whole 23 24])) 1 [] <|
 .calc (.binOp .sub 3 (.tmp 69) (.const (.int .i64 1)) 3) 3 [(69, qv 17)] ([], []) (qv 24) 1 <|
 .again 1 [.atom (.var 24), .agg [.whole 23 24]]) qF 0 <|
 .ret ([], []) (.tup [.agg [.whole 18 24], .atom (.const (.int .i64 0))])
theorem c_bothm : compF Try.prog Try.f15 o_bothm (Try.f15.body.getD .skip) (symIn [.atom (.var 0), .agg [.whole 1 24], .atom (.var 2), .agg [.whole 3 24]] Try.f15.ntmps 4) = some t_bothm := by kernel_rfl
theorem g_bothm : goodC Try.prog o_bothm.ords (Try.f15.body.getD .skip) = true := by kernel_rfl
def tb_bothm : FuncId × Trans := (15, tBothM)
set_option maxRecDepth 100000 in
theorem aw_bothm : ∀ zs Q, tb_bothm.2 zs Q → bindLs 0 [.atom (.var 0), .agg [.whole 1 24], .atom (.var 2), .agg [.whole 3 24]] zs fun ae => bif Nat.beq ae.length 4 then AWp Try.prog tmI Q t_bothm [] ae else False := by
  intro zs Q h
  replace h : tBothM zs Q := h
  unfold tBothM at h
  split at h
  case h_2 => exact h.elim
  rename_i a p b q
  obtain ⟨⟨ha, hb, la, lb⟩, h1, h2⟩ := h
  repeat ((conv => whnf) <;> first | with_reducible first | refine wI (by omega) ?_ | refine wB (by omega) ?_ | refine And.intro rfl ?_ | rfl | refine And.intro ‹_› ?_ | refine cTe ‹_› ?_ | refine cFe ‹_› ?_ | refine cN (cTe ‹_› ?_) | refine cN (cFe ‹_› ?_) | refine cTe rfl ?_ | refine cEq ‹_› ?_ | refine cTt ?_ | refine cNt ?_ | refine cF (Eq.refl false) ?_ | refine cN (cF (Eq.refl false) ?_) | refine cTd (by omega) ?_ | refine cFd (by omega) ?_ | refine cN (cTd (by omega) ?_) | refine cN (cFd (by omega) ?_) | refine And.intro (by omega) ?_ | refine And.intro (Eq.refl true) ?_)
  refine ⟨Nat, fun i zs => i ≤ 2 ∧ (0 < i → 1 ≤ a.length ∧ a.length ≤ 64) ∧ (1 < i → 1 ≤ b.length ∧ b.length ≤ 64) ∧ zs = [.int .i64 (i : Int)], fun i => 2 - i, 0, ?_, ?_⟩
  · (conv => whnf)
    exact ⟨_, Subs.refl' _, Nat.zero_le _, fun hh => absurd hh (by omega), fun hh => absurd hh (by omega), rfl⟩
  rintro i _ ⟨hi, hA, hB, rfl⟩
  rcases (by omega : i = 0 ∨ i = 1 ∨ i = 2) with rfl | rfl | rfl
  · by_cases a1 : 1 ≤ a.length ∧ a.length ≤ 64
    · repeat ((conv => whnf) <;> first | with_reducible first | refine wI (by omega) ?_ | refine wB (by omega) ?_ | refine And.intro rfl ?_ | rfl | refine And.intro ‹_› ?_ | refine cTe ‹_› ?_ | refine cFe ‹_› ?_ | refine cN (cTe ‹_› ?_) | refine cN (cFe ‹_› ?_) | refine cTe rfl ?_ | refine cEq ‹_› ?_ | refine cTt ?_ | refine cNt ?_ | refine cF (Eq.refl false) ?_ | refine cN (cF (Eq.refl false) ?_) | refine cTd (by omega) ?_ | refine cFd (by omega) ?_ | refine cN (cTd (by omega) ?_) | refine cN (cFd (by omega) ?_) | refine And.intro (by omega) ?_ | refine And.intro (Eq.refl true) ?_)
      refine ⟨cells2 a b, by show 0 < 2; omega, .isl .u8 a, rfl, rfl, ?_⟩
      repeat ((conv => whnf) <;> first | with_reducible first | refine wI (by omega) ?_ | refine wB (by omega) ?_ | refine And.intro rfl ?_ | rfl | refine And.intro ‹_› ?_ | refine cTe ‹_› ?_ | refine cFe ‹_› ?_ | refine cN (cTe ‹_› ?_) | refine cN (cFe ‹_› ?_) | refine cTe rfl ?_ | refine cEq ‹_› ?_ | refine cTt ?_ | refine cNt ?_ | refine cF (Eq.refl false) ?_ | refine cN (cF (Eq.refl false) ?_) | refine cTd (by omega) ?_ | refine cFd (by omega) ?_ | refine cN (cTd (by omega) ?_) | refine cN (cFd (by omega) ?_) | refine And.intro (by omega) ?_ | refine And.intro (Eq.refl true) ?_)
      intro _ _
      repeat ((conv => whnf) <;> first | with_reducible first | refine wI (by omega) ?_ | refine wB (by omega) ?_ | refine And.intro rfl ?_ | rfl | refine And.intro ‹_› ?_ | refine cTe ‹_› ?_ | refine cFe ‹_› ?_ | refine cN (cTe ‹_› ?_) | refine cN (cFe ‹_› ?_) | refine cTe rfl ?_ | refine cEq ‹_› ?_ | refine cTt ?_ | refine cNt ?_ | refine cF (Eq.refl false) ?_ | refine cN (cF (Eq.refl false) ?_) | refine cTd (by omega) ?_ | refine cFd (by omega) ?_ | refine cN (cTd (by omega) ?_) | refine cN (cFd (by omega) ?_) | refine And.intro (by omega) ?_ | refine And.intro (Eq.refl true) ?_)
      (conv => whnf)
      exact ⟨_, Subs.refl' _, 1, ⟨by omega, fun _ => a1, fun hh => absurd hh (by omega), rfl⟩, by show 2 - 1 < 2 - 0; omega⟩
    · have h := h1 (fun hh => a1 hh.1)
      repeat ((conv => whnf) <;> first | with_reducible first | refine wI (by omega) ?_ | refine wB (by omega) ?_ | refine And.intro rfl ?_ | rfl | refine And.intro ‹_› ?_ | refine cTe ‹_› ?_ | refine cFe ‹_› ?_ | refine cN (cTe ‹_› ?_) | refine cN (cFe ‹_› ?_) | refine cTe rfl ?_ | refine cEq ‹_› ?_ | refine cTt ?_ | refine cNt ?_ | refine cF (Eq.refl false) ?_ | refine cN (cF (Eq.refl false) ?_) | refine cTd (by omega) ?_ | refine cFd (by omega) ?_ | refine cN (cTd (by omega) ?_) | refine cN (cFd (by omega) ?_) | refine And.intro (by omega) ?_ | refine And.intro (Eq.refl true) ?_)
      refine ⟨cells2 a b, by show 0 < 2; omega, .isl .u8 a, rfl, rfl, ?_⟩
      repeat ((conv => whnf) <;> first | with_reducible first | refine wI (by omega) ?_ | refine wB (by omega) ?_ | refine And.intro rfl ?_ | rfl | refine And.intro ‹_› ?_ | refine cTe ‹_› ?_ | refine cFe ‹_› ?_ | refine cN (cTe ‹_› ?_) | refine cN (cFe ‹_› ?_) | refine cTe rfl ?_ | refine cEq ‹_› ?_ | refine cTt ?_ | refine cNt ?_ | refine cF (Eq.refl false) ?_ | refine cN (cF (Eq.refl false) ?_) | refine cTd (by omega) ?_ | refine cFd (by omega) ?_ | refine cN (cTd (by omega) ?_) | refine cN (cFd (by omega) ?_) | refine And.intro (by omega) ?_ | refine And.intro (Eq.refl true) ?_)
      refine ⟨fun _ => ?_, fun q1 q2 => absurd ⟨q1, q2⟩ a1⟩
      repeat ((conv => whnf) <;> first | with_reducible first | refine wI (by omega) ?_ | refine wB (by omega) ?_ | refine And.intro rfl ?_ | rfl | refine And.intro ‹_› ?_ | refine cTe ‹_› ?_ | refine cFe ‹_› ?_ | refine cN (cTe ‹_› ?_) | refine cN (cFe ‹_› ?_) | refine cTe rfl ?_ | refine cEq ‹_› ?_ | refine cTt ?_ | refine cNt ?_ | refine cF (Eq.refl false) ?_ | refine cN (cF (Eq.refl false) ?_) | refine cTd (by omega) ?_ | refine cFd (by omega) ?_ | refine cN (cTd (by omega) ?_) | refine cN (cFd (by omega) ?_) | refine And.intro (by omega) ?_ | refine And.intro (Eq.refl true) ?_)
      (conv => whnf)
      exact h
  · by_cases a1 : 1 ≤ b.length ∧ b.length ≤ 64
    · repeat ((conv => whnf) <;> first | with_reducible first | refine wI (by omega) ?_ | refine wB (by omega) ?_ | refine And.intro rfl ?_ | rfl | refine And.intro ‹_› ?_ | refine cTe ‹_› ?_ | refine cFe ‹_› ?_ | refine cN (cTe ‹_› ?_) | refine cN (cFe ‹_› ?_) | refine cTe rfl ?_ | refine cEq ‹_› ?_ | refine cTt ?_ | refine cNt ?_ | refine cF (Eq.refl false) ?_ | refine cN (cF (Eq.refl false) ?_) | refine cTd (by omega) ?_ | refine cFd (by omega) ?_ | refine cN (cTd (by omega) ?_) | refine cN (cFd (by omega) ?_) | refine And.intro (by omega) ?_ | refine And.intro (Eq.refl true) ?_)
      refine ⟨cells2 a b, by show 1 < 2; omega, .isl .u8 b, rfl, rfl, ?_⟩
      repeat ((conv => whnf) <;> first | with_reducible first | refine wI (by omega) ?_ | refine wB (by omega) ?_ | refine And.intro rfl ?_ | rfl | refine And.intro ‹_› ?_ | refine cTe ‹_› ?_ | refine cFe ‹_› ?_ | refine cN (cTe ‹_› ?_) | refine cN (cFe ‹_› ?_) | refine cTe rfl ?_ | refine cEq ‹_› ?_ | refine cTt ?_ | refine cNt ?_ | refine cF (Eq.refl false) ?_ | refine cN (cF (Eq.refl false) ?_) | refine cTd (by omega) ?_ | refine cFd (by omega) ?_ | refine cN (cTd (by omega) ?_) | refine cN (cFd (by omega) ?_) | refine And.intro (by omega) ?_ | refine And.intro (Eq.refl true) ?_)
      intro _ _
      repeat ((conv => whnf) <;> first | with_reducible first | refine wI (by omega) ?_ | refine wB (by omega) ?_ | refine And.intro rfl ?_ | rfl | refine And.intro ‹_› ?_ | refine cTe ‹_› ?_ | refine cFe ‹_› ?_ | refine cN (cTe ‹_› ?_) | refine cN (cFe ‹_› ?_) | refine cTe rfl ?_ | refine cEq ‹_› ?_ | refine cTt ?_ | refine cNt ?_ | refine cF (Eq.refl false) ?_ | refine cN (cF (Eq.refl false) ?_) | refine cTd (by omega) ?_ | refine cFd (by omega) ?_ | refine cN (cTd (by omega) ?_) | refine cN (cFd (by omega) ?_) | refine And.intro (by omega) ?_ | refine And.intro (Eq.refl true) ?_)
      (conv => whnf)
      exact ⟨_, Subs.refl' _, 2, ⟨by omega, fun _ => hA (by omega), fun _ => a1, rfl⟩, by show 2 - 2 < 2 - 1; omega⟩
    · have h := h1 (fun hh => a1 hh.2)
      repeat ((conv => whnf) <;> first | with_reducible first | refine wI (by omega) ?_ | refine wB (by omega) ?_ | refine And.intro rfl ?_ | rfl | refine And.intro ‹_› ?_ | refine cTe ‹_› ?_ | refine cFe ‹_› ?_ | refine cN (cTe ‹_› ?_) | refine cN (cFe ‹_› ?_) | refine cTe rfl ?_ | refine cEq ‹_› ?_ | refine cTt ?_ | refine cNt ?_ | refine cF (Eq.refl false) ?_ | refine cN (cF (Eq.refl false) ?_) | refine cTd (by omega) ?_ | refine cFd (by omega) ?_ | refine cN (cTd (by omega) ?_) | refine cN (cFd (by omega) ?_) | refine And.intro (by omega) ?_ | refine And.intro (Eq.refl true) ?_)
      refine ⟨cells2 a b, by show 1 < 2; omega, .isl .u8 b, rfl, rfl, ?_⟩
      repeat ((conv => whnf) <;> first | with_reducible first | refine wI (by omega) ?_ | refine wB (by omega) ?_ | refine And.intro rfl ?_ | rfl | refine And.intro ‹_› ?_ | refine cTe ‹_› ?_ | refine cFe ‹_› ?_ | refine cN (cTe ‹_› ?_) | refine cN (cFe ‹_› ?_) | refine cTe rfl ?_ | refine cEq ‹_› ?_ | refine cTt ?_ | refine cNt ?_ | refine cF (Eq.refl false) ?_ | refine cN (cF (Eq.refl false) ?_) | refine cTd (by omega) ?_ | refine cFd (by omega) ?_ | refine cN (cTd (by omega) ?_) | refine cN (cFd (by omega) ?_) | refine And.intro (by omega) ?_ | refine And.intro (Eq.refl true) ?_)
      refine ⟨fun _ => ?_, fun q1 q2 => absurd ⟨q1, q2⟩ a1⟩
      repeat ((conv => whnf) <;> first | with_reducible first | refine wI (by omega) ?_ | refine wB (by omega) ?_ | refine And.intro rfl ?_ | rfl | refine And.intro ‹_› ?_ | refine cTe ‹_› ?_ | refine cFe ‹_› ?_ | refine cN (cTe ‹_› ?_) | refine cN (cFe ‹_› ?_) | refine cTe rfl ?_ | refine cEq ‹_› ?_ | refine cTt ?_ | refine cNt ?_ | refine cF (Eq.refl false) ?_ | refine cN (cF (Eq.refl false) ?_) | refine cTd (by omega) ?_ | refine cFd (by omega) ?_ | refine cN (cTd (by omega) ?_) | refine cN (cFd (by omega) ?_) | refine And.intro (by omega) ?_ | refine And.intro (Eq.refl true) ?_)
      (conv => whnf)
      exact h
  obtain ⟨a1, a2⟩ := hA (by omega)
  obtain ⟨a3, a4⟩ := hB (by omega)
  have h := h2 a1 a2 a3 a4
  have n1 : By a ∧ a.length ≤ 64 ∧ (5 : Int) = 5 := ⟨ha, a2, rfl⟩
  have n2 : By b ∧ b.length ≤ 64 ∧ (5 : Int) = 5 := ⟨hb, a4, rfl⟩
  repeat ((conv => whnf) <;> first | with_reducible first | refine wI (by omega) ?_ | refine wB (by omega) ?_ | refine And.intro rfl ?_ | rfl | refine And.intro ‹_› ?_ | refine cTe ‹_› ?_ | refine cFe ‹_› ?_ | refine cN (cTe ‹_› ?_) | refine cN (cFe ‹_› ?_) | refine cTe rfl ?_ | refine cEq ‹_› ?_ | refine cTt ?_ | refine cNt ?_ | refine cF (Eq.refl false) ?_ | refine cN (cF (Eq.refl false) ?_) | refine cTd (by omega) ?_ | refine cFd (by omega) ?_ | refine cN (cTd (by omega) ?_) | refine cN (cFd (by omega) ?_) | refine And.intro (by omega) ?_ | refine And.intro (Eq.refl true) ?_)
  intro X x1 x2 x3
  repeat ((conv => whnf) <;> first | with_reducible first | refine wI (by omega) ?_ | refine wB (by omega) ?_ | refine And.intro rfl ?_ | rfl | refine And.intro ‹_› ?_ | refine cTe ‹_› ?_ | refine cFe ‹_› ?_ | refine cN (cTe ‹_› ?_) | refine cN (cFe ‹_› ?_) | refine cTe rfl ?_ | refine cEq ‹_› ?_ | refine cTt ?_ | refine cNt ?_ | refine cF (Eq.refl false) ?_ | refine cN (cF (Eq.refl false) ?_) | refine cTd (by omega) ?_ | refine cFd (by omega) ?_ | refine cN (cTd (by omega) ?_) | refine cN (cFd (by omega) ?_) | refine And.intro (by omega) ?_ | refine And.intro (Eq.refl true) ?_)
  intro Y y1 y2 y3
  have hmx : (if (Y.length : Int) > (X.length : Int) then (Y.length : Int) else (X.length : Int)) = ((max X.length Y.length : Nat) : Int) := by split <;> omega
  have ht := both_top p q (show X.length ≤ max X.length Y.length by omega) (show Y.length ≤ max X.length Y.length by omega)
  have hX0 : hZ (X.drop 0) = (nval a : Int) := x3
  have hY0 : hZ (Y.drop 0) = (nval b : Int) := y3
  have hml : max X.length Y.length ≤ 1000 := by omega
  generalize max X.length Y.length = m at *
  repeat ((conv => whnf) <;> first | with_reducible first | refine wI (by omega) ?_ | refine wB (by omega) ?_ | refine And.intro rfl ?_ | rfl | refine And.intro ‹_› ?_ | refine cTe ‹_› ?_ | refine cFe ‹_› ?_ | refine cN (cTe ‹_› ?_) | refine cN (cFe ‹_› ?_) | refine cTe rfl ?_ | refine cEq ‹_› ?_ | refine cTt ?_ | refine cNt ?_ | refine cF (Eq.refl false) ?_ | refine cN (cF (Eq.refl false) ?_) | refine cTd (by omega) ?_ | refine cFd (by omega) ?_ | refine cN (cTd (by omega) ?_) | refine cN (cFd (by omega) ?_) | refine And.intro (by omega) ?_ | refine And.intro (Eq.refl true) ?_)
  refine ⟨Nat, fun k zs => k ≤ m ∧ zs = [.int .i64 ((k : Int) - 1), ptA (zG (hZ (X.drop k)) p + zG (hZ (Y.drop k)) q)], fun k => k, m, ?_, ?_⟩
  · (conv => whnf)
    exact ⟨_, Subs.refl' _, Nat.le_refl _, zsBo (by rw [hmx]) ht.symm⟩
  rintro k _ ⟨hk, rfl⟩
  cases k with
  | zero =>
    rw [hX0, hY0, zG_nat, zG_nat]
    repeat ((conv => whnf) <;> first | with_reducible first | refine wI (by omega) ?_ | refine wB (by omega) ?_ | refine And.intro rfl ?_ | rfl | refine And.intro ‹_› ?_ | refine cTe ‹_› ?_ | refine cFe ‹_› ?_ | refine cN (cTe ‹_› ?_) | refine cN (cFe ‹_› ?_) | refine cTe rfl ?_ | refine cEq ‹_› ?_ | refine cTt ?_ | refine cNt ?_ | refine cF (Eq.refl false) ?_ | refine cN (cF (Eq.refl false) ?_) | refine cTd (by omega) ?_ | refine cFd (by omega) ?_ | refine cN (cTd (by omega) ?_) | refine cN (cFd (by omega) ?_) | refine And.intro (by omega) ?_ | refine And.intro (Eq.refl true) ?_)
    (conv => whnf)
    exact h
  | succ j =>
    have e3 : (((j + 1 : Nat) : Int) - 1).toNat = j := by omega
    have t1 : 0 ≤ ((j + 1 : Nat) : Int) - 1 ∧ X.length ≤ 100000 := ⟨by omega, by omega⟩
    have t2 : 0 ≤ ((j + 1 : Nat) : Int) - 1 ∧ Y.length ≤ 100000 := ⟨by omega, by omega⟩
    have d1 := dgo_get x2 (((j + 1 : Nat) : Int) - 1).toNat
    have d2 := dgo_get y2 (((j + 1 : Nat) : Int) - 1).toNat
    have hst := both_step X Y j p q
    rw [← e3] at hst
    repeat ((conv => whnf) <;> first | with_reducible first | refine wI (by omega) ?_ | refine wB (by omega) ?_ | refine And.intro rfl ?_ | rfl | refine And.intro ‹_› ?_ | refine cTe ‹_› ?_ | refine cFe ‹_› ?_ | refine cN (cTe ‹_› ?_) | refine cN (cFe ‹_› ?_) | refine cTe rfl ?_ | refine cEq ‹_› ?_ | refine cTt ?_ | refine cNt ?_ | refine cF (Eq.refl false) ?_ | refine cN (cF (Eq.refl false) ?_) | refine cTd (by omega) ?_ | refine cFd (by omega) ?_ | refine cN (cTd (by omega) ?_) | refine cN (cFd (by omega) ?_) | refine And.intro (by omega) ?_ | refine And.intro (Eq.refl true) ?_)
    refine ⟨p, rfl, d1, ?_⟩
    repeat ((conv => whnf) <;> first | with_reducible first | refine wI (by omega) ?_ | refine wB (by omega) ?_ | refine And.intro rfl ?_ | rfl | refine And.intro ‹_› ?_ | refine cTe ‹_› ?_ | refine cFe ‹_› ?_ | refine cN (cTe ‹_› ?_) | refine cN (cFe ‹_› ?_) | refine cTe rfl ?_ | refine cEq ‹_› ?_ | refine cTt ?_ | refine cNt ?_ | refine cF (Eq.refl false) ?_ | refine cN (cF (Eq.refl false) ?_) | refine cTd (by omega) ?_ | refine cFd (by omega) ?_ | refine cN (cTd (by omega) ?_) | refine cN (cFd (by omega) ?_) | refine And.intro (by omega) ?_ | refine And.intro (Eq.refl true) ?_)
    refine ⟨q, rfl, d2, ?_⟩
    repeat ((conv => whnf) <;> first | with_reducible first | refine wI (by omega) ?_ | refine wB (by omega) ?_ | refine And.intro rfl ?_ | rfl | refine And.intro ‹_› ?_ | refine cTe ‹_› ?_ | refine cFe ‹_› ?_ | refine cN (cTe ‹_› ?_) | refine cN (cFe ‹_› ?_) | refine cTe rfl ?_ | refine cEq ‹_› ?_ | refine cTt ?_ | refine cNt ?_ | refine cF (Eq.refl false) ?_ | refine cN (cF (Eq.refl false) ?_) | refine cTd (by omega) ?_ | refine cFd (by omega) ?_ | refine cN (cTd (by omega) ?_) | refine cN (cFd (by omega) ?_) | refine And.intro (by omega) ?_ | refine And.intro (Eq.refl true) ?_)
    (conv => whnf)
    exact ⟨_, Subs.refl' _, j, ⟨by omega, zsBo (by omega) (by rw [e3] at hst ⊢; exact hst)⟩, by show j < j + 1; omega⟩
theorem tb_bothm_ok : Con Try.prog tb_bothm.1 tb_bothm.2 := con_tree tmI_ok o_bothm [.atom (.var 0), .agg [.whole 1 24], .atom (.var 2), .agg [.whole 3 24]] 4 Try.func15 rfl c_bothm aw_bothm g_bothm
def tmJ : Tab := tb_mult :: tb_pid :: tb_padd :: []
theorem tmJ_ok : tmJ.OK Try.prog := tab_cons tb_mult_ok <| tab_cons tb_pid_ok <| tab_cons tb_padd_ok <| tab_nil _
def o_summ : Orc := { ans := [(10, oV), (11, oB), (12, oA 24), (13, oA 24), (15, oV), (17, oB), (18, oV), (19, .one ⟨.leaf (.agg [.one (.var 0), .whole 1 24]), 2, []⟩), (21, oV), (22, oV), (23, oV), (24, oA 24), (25, .one ⟨.tup [.agg [.whole 0 24], .atom (.var 1)], 2, []⟩), (29, oB), (30, oA 24), (31, oA 24), (32, oA 24), (33, oV), (35, oB), (36, oA 24), (38, oA 24)], lps := [(0, [.slot 5 [.one], .slot 16 [.one], .blk 1 [.agg 24]])] }
def t_summ : Tree :=
 .new <|
 .calc (.call { callee := .builtin .len, args := #[.tmp 9], argTypes := #[84] }) 3 [(9, qv 0)] ([], []) (qv 1) 1 <|
 .calc2 (.binOp .gtr 3 (.tmp 10) (.const (.int .i64 16)) 3) 4 [(10, qv 1)] ([], []) qT 0 (
 .call 18 [] ([], []) (.leaf (.agg [.whole 2 24])) 1 [] <|
 .ret ([], []) (.tup [.agg [.whole 2 24], .atom (.const (.int .i64 11))])) qF 0 <|
 .call 18 [] ([], []) (.leaf (.agg [.whole 2 24])) 1 [] <|
 .new <|
 .calc (.call { callee := .builtin .len, args := #[.tmp 14], argTypes := #[84] }) 3 [(14, qv 0)] ([], []) (qv 3) 1 <|
 .loop [.atom (.const (.int .i64 0)), .atom (.const (.int .i64 0)), .agg [.whole 2 24]] [.one, .one, .agg 24] <|
 .calc2 (.binOp .lss 3 (.tmp 16) (.tmp 15) 3) 0 [(16, qv 5), (15, qv 3)] ([], []) qT 0 (
 .calc (.indexAddr 84 (.tmp 14) (.tmp 16)) 0 [(14, qv 0), (16, qv 5)] ([], []) (qv 7) 1 <|
 .calc (.load 52 (.tmp 18)) 52 [(18, qv 7)] ([], []) (.leaf (.agg [.one (.var 8), .whole 9 24])) 2 <|
 .new <|
 .new <|
 .call 8 [.atom (.var 8), .agg [.whole 9 24]] ([], []) (.tup [.agg [.whole 10 24], .atom (.var 11)]) 2 [] <|
 .calc2 (.binOp .neq 39 (.tmp 28) (.const (.int .i64 0)) 39) 4 [(28, qv 11)] ([], []) qT 0 (
 .calc2 (.binOp .neq 39 (.tmp 34) (.const (.int .i64 0)) 39) 4 [(34, qv 11)] ([], []) qT 0 (
 .call 18 [] ([], []) (.leaf (.agg [.whole 12 24])) 1 [] <|
 .ret ([], []) (.tup [.agg [.whole 12 24], .atom (.var 11)])) qF 0 <|
 .ret ([], []) (.tup [.agg [.whole 6 24], .atom (.const (.int .i64 0))])) qF 0 <|
 .call 26 [.agg [.whole 6 24], .agg [.whole 10 24]] ([], []) (.leaf (.agg [.whole 12 24])) 1 [] <|
 .calc (.binOp .add 3 (.tmp 16) (.const (.int .i64 1)) 3) 3 [(16, qv 5)] ([], []) (qv 13) 1 <|
 .again 0 [.atom (.var 11), .atom (.var 13), .agg [.whole 12 24]]) qF 0 <|
 .calc2 (.binOp .neq 39 (.tmp 34) (.const (.int .i64 0)) 39) 4 [(34, qv 4)] ([], []) qT 0 (
 .call 18 [] ([], []) (.leaf (.agg [.whole 7 24])) 1 [] <|
 .ret ([], []) (.tup [.agg [.whole 7 24], .atom (.var 4)])) qF 0 <|
 .ret ([], []) (.tup [.agg [.whole 6 24], .atom (.const (.int .i64 0))])
theorem c_summ : compF Try.prog Try.f16 o_summ (Try.f16.body.getD .skip) (symIn [.atom (.var 0)] Try.f16.ntmps 1) = some t_summ := by kernel_rfl
theorem g_summ : goodC Try.prog o_summ.ords (Try.f16.body.getD .skip) = true := by kernel_rfl
def tb_summ : FuncId × Trans := (16, tSumM)
set_option maxRecDepth 100000 in
theorem aw_summ : ∀ zs Q, tb_summ.2 zs Q → bindLs 0 [.atom (.var 0)] zs fun ae => bif Nat.beq ae.length 1 then AWp Try.prog tmJ Q t_summ [] ae else False := by
  intro zs Q h
  replace h : tSumM zs Q := h
  unfold tSumM at h
  split at h
  case h_2 => exact h.elim
  rename_i es
  obtain ⟨ts, rfl, hby, hl, h1, h2, h3⟩ := h
  have hml : (ts.map trmA).length = ts.length := List.length_map _
  by_cases a1 : 16 < ts.length
  · have h := h1 a1
    repeat ((conv => whnf) <;> first | with_reducible first | refine wI (by omega) ?_ | refine And.intro rfl ?_ | rfl | refine And.intro ‹_› ?_ | refine cTe ‹_› ?_ | refine cFe ‹_› ?_ | refine cN (cTe ‹_› ?_) | refine cN (cFe ‹_› ?_) | refine cTe rfl ?_ | refine cEq ‹_› ?_ | refine cTt ?_ | refine cNt ?_ | refine cF (Eq.refl false) ?_ | refine cN (cF (Eq.refl false) ?_) | refine cTd (by omega) ?_ | refine cFd (by omega) ?_ | refine cN (cTd (by omega) ?_) | refine cN (cFd (by omega) ?_) | refine And.intro (by omega) ?_ | refine And.intro (Eq.refl true) ?_)
    (conv => whnf)
    exact h
  have h2 := h2 (by omega)
  have h3 := h3 (by omega)
  repeat ((conv => whnf) <;> first | with_reducible first | refine wI (by omega) ?_ | refine And.intro rfl ?_ | rfl | refine And.intro ‹_› ?_ | refine cTe ‹_› ?_ | refine cFe ‹_› ?_ | refine cN (cTe ‹_› ?_) | refine cN (cFe ‹_› ?_) | refine cTe rfl ?_ | refine cEq ‹_› ?_ | refine cTt ?_ | refine cNt ?_ | refine cF (Eq.refl false) ?_ | refine cN (cF (Eq.refl false) ?_) | refine cTd (by omega) ?_ | refine cFd (by omega) ?_ | refine cN (cTd (by omega) ?_) | refine cN (cFd (by omega) ?_) | refine And.intro (by omega) ?_ | refine And.intro (Eq.refl true) ?_)
  refine ⟨Nat, fun k zs => k ≤ ts.length ∧ (∀ j, j < k → okT (trm ts j)) ∧ zs = [.int .i64 0, .int .i64 (k : Int), ptA (sumK ts k)], fun k => ts.length - k, 0, ?_, ?_⟩
  · (conv => whnf)
    exact ⟨_, Subs.refl' _, Nat.zero_le _, fun j hj => absurd hj (by omega), zsSu rfl rfl⟩
  rintro k _ ⟨hk, hok, rfl⟩
  by_cases hlt : k < ts.length
  · have hg := trm_get hlt
    have hm := hby _ (trm_mem hlt)
    have hss : sumK ts (k + 1) = sumK ts k + mulG (nval (trm ts k).1) (trm ts k).2 := rfl
    have hm3 := h3 _ (trm_mem hlt)
    by_cases a2 : okT (trm ts k)
    · obtain ⟨a3, a4⟩ := a2
      repeat ((conv => whnf) <;> first | with_reducible first | refine wI (by omega) ?_ | refine And.intro rfl ?_ | rfl | refine And.intro ‹_› ?_ | refine cTe ‹_› ?_ | refine cFe ‹_› ?_ | refine cN (cTe ‹_› ?_) | refine cN (cFe ‹_› ?_) | refine cTe rfl ?_ | refine cEq ‹_› ?_ | refine cTt ?_ | refine cNt ?_ | refine cF (Eq.refl false) ?_ | refine cN (cF (Eq.refl false) ?_) | refine cTd (by omega) ?_ | refine cFd (by omega) ?_ | refine cN (cTd (by omega) ?_) | refine cN (cFd (by omega) ?_) | refine And.intro (by omega) ?_ | refine And.intro (Eq.refl true) ?_)
      refine ⟨_, hg, ?_⟩
      repeat ((conv => whnf) <;> first | with_reducible first | refine wI (by omega) ?_ | refine And.intro rfl ?_ | rfl | refine And.intro ‹_› ?_ | refine cTe ‹_› ?_ | refine cFe ‹_› ?_ | refine cN (cTe ‹_› ?_) | refine cN (cFe ‹_› ?_) | refine cTe rfl ?_ | refine cEq ‹_› ?_ | refine cTt ?_ | refine cNt ?_ | refine cF (Eq.refl false) ?_ | refine cN (cF (Eq.refl false) ?_) | refine cTd (by omega) ?_ | refine cFd (by omega) ?_ | refine cN (cTd (by omega) ?_) | refine cN (cFd (by omega) ?_) | refine And.intro (by omega) ?_ | refine And.intro (Eq.refl true) ?_)
      intro _ _
      repeat ((conv => whnf) <;> first | with_reducible first | refine wI (by omega) ?_ | refine And.intro rfl ?_ | rfl | refine And.intro ‹_› ?_ | refine cTe ‹_› ?_ | refine cFe ‹_› ?_ | refine cN (cTe ‹_› ?_) | refine cN (cFe ‹_› ?_) | refine cTe rfl ?_ | refine cEq ‹_› ?_ | refine cTt ?_ | refine cNt ?_ | refine cF (Eq.refl false) ?_ | refine cN (cF (Eq.refl false) ?_) | refine cTd (by omega) ?_ | refine cFd (by omega) ?_ | refine cN (cTd (by omega) ?_) | refine cN (cFd (by omega) ?_) | refine And.intro (by omega) ?_ | refine And.intro (Eq.refl true) ?_)
      (conv => whnf)
      exact ⟨_, Subs.refl' _, k + 1, ⟨by omega, fun j hj => by
        by_cases e : j = k
        · subst e; exact ⟨a3, a4⟩
        · exact hok j (by omega), zsSu (by omega) hss.symm⟩, by show ts.length - (k + 1) < ts.length - k; omega⟩
    · have h := hm3 a2
      unfold okT at a2
      repeat ((conv => whnf) <;> first | with_reducible first | refine wI (by omega) ?_ | refine And.intro rfl ?_ | rfl | refine And.intro ‹_› ?_ | refine cTe ‹_› ?_ | refine cFe ‹_› ?_ | refine cN (cTe ‹_› ?_) | refine cN (cFe ‹_› ?_) | refine cTe rfl ?_ | refine cEq ‹_› ?_ | refine cTt ?_ | refine cNt ?_ | refine cF (Eq.refl false) ?_ | refine cN (cF (Eq.refl false) ?_) | refine cTd (by omega) ?_ | refine cFd (by omega) ?_ | refine cN (cTd (by omega) ?_) | refine cN (cFd (by omega) ?_) | refine And.intro (by omega) ?_ | refine And.intro (Eq.refl true) ?_)
      refine ⟨_, hg, ?_⟩
      repeat ((conv => whnf) <;> first | with_reducible first | refine wI (by omega) ?_ | refine And.intro rfl ?_ | rfl | refine And.intro ‹_› ?_ | refine cTe ‹_› ?_ | refine cFe ‹_› ?_ | refine cN (cTe ‹_› ?_) | refine cN (cFe ‹_› ?_) | refine cTe rfl ?_ | refine cEq ‹_› ?_ | refine cTt ?_ | refine cNt ?_ | refine cF (Eq.refl false) ?_ | refine cN (cF (Eq.refl false) ?_) | refine cTd (by omega) ?_ | refine cFd (by omega) ?_ | refine cN (cTd (by omega) ?_) | refine cN (cFd (by omega) ?_) | refine And.intro (by omega) ?_ | refine And.intro (Eq.refl true) ?_)
      refine ⟨fun _ => ?_, fun q1 q2 => absurd ⟨q1, q2⟩ a2⟩
      repeat ((conv => whnf) <;> first | with_reducible first | refine wI (by omega) ?_ | refine And.intro rfl ?_ | rfl | refine And.intro ‹_› ?_ | refine cTe ‹_› ?_ | refine cFe ‹_› ?_ | refine cN (cTe ‹_› ?_) | refine cN (cFe ‹_› ?_) | refine cTe rfl ?_ | refine cEq ‹_› ?_ | refine cTt ?_ | refine cNt ?_ | refine cF (Eq.refl false) ?_ | refine cN (cF (Eq.refl false) ?_) | refine cTd (by omega) ?_ | refine cFd (by omega) ?_ | refine cN (cTd (by omega) ?_) | refine cN (cFd (by omega) ?_) | refine And.intro (by omega) ?_ | refine And.intro (Eq.refl true) ?_)
      (conv => whnf)
      exact h
  · obtain rfl : k = ts.length := by omega
    have h := h2 (fun t ht => by
      obtain ⟨j, hj, rfl⟩ := List.getElem_of_mem ht
      have := hok j hj
      unfold trm at this
      rw [List.getD_eq_getElem?_getD, List.getElem?_eq_getElem hj] at this
      exact this)
    repeat ((conv => whnf) <;> first | with_reducible first | refine wI (by omega) ?_ | refine And.intro rfl ?_ | rfl | refine And.intro ‹_› ?_ | refine cTe ‹_› ?_ | refine cFe ‹_› ?_ | refine cN (cTe ‹_› ?_) | refine cN (cFe ‹_› ?_) | refine cTe rfl ?_ | refine cEq ‹_› ?_ | refine cTt ?_ | refine cNt ?_ | refine cF (Eq.refl false) ?_ | refine cN (cF (Eq.refl false) ?_) | refine cTd (by omega) ?_ | refine cFd (by omega) ?_ | refine cN (cTd (by omega) ?_) | refine cN (cFd (by omega) ?_) | refine And.intro (by omega) ?_ | refine And.intro (Eq.refl true) ?_)
    (conv => whnf)
    exact h
theorem tb_summ_ok : Con Try.prog tb_summ.1 tb_summ.2 := con_tree tmJ_ok o_summ [.atom (.var 0)] 1 Try.func16 rfl c_summ aw_summ g_summ
end Go.Proofs.Ytpapfkihjhhjkaa
