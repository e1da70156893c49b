/- Two numbers' multiples, terms -/
import Derived.Test.YtpapfkihjhhjkaaGreatMld
set_option linter.unusedSimpArgs false
set_option linter.unusedVariables false
namespace Go.Proofs.YtpapfkihjhhjkaaGreat
open Go.RowKit FdP FdP.Ch
def tBothM : Trans := fun zs Q => match zs with
  | [.isl .u8 a, .ob (.pt p), .isl .u8 b, .ob (.pt q)] => (By a ∧ By b ∧ a.length ≤ 100000 ∧ b.length ≤ 100000) ∧ (¬ ((1 ≤ a.length ∧ a.length ≤ 64) ∧ (1 ≤ b.length ∧ b.length ≤ 64)) → Q (.tup [ptA 0, .int .i64 11])) ∧
    (1 ≤ a.length → a.length ≤ 64 → 1 ≤ b.length → b.length ≤ 64 → Q (.tup [ptA (mulG (nval a) p + mulG (nval b) q), .int .i64 0]))
  | _ => False
theorem dgo_get {X : List Int} (h : ∀ d ∈ X, dgOK d) (i : Nat) : dgOK (X.getD i 0) := by
  rw [List.getD_eq_getElem?_getD]
  cases hi : X[i]? with
  | none => exact .inl rfl
  | some d => exact h d (List.mem_of_getElem? hi)
theorem cells2 (a b : List Int) : ∀ x ∈ [AV.isl .u8 a, AV.isl .u8 b], x.size = 1 := fun x hx => by
  simp only [List.mem_cons, List.not_mem_nil, or_false] at hx
  rcases hx with rfl | rfl <;> rfl
theorem zsBo {i i' : Int} {g g' : G} (h : i = i') (hg : g = g') : [AV.int .i64 i, ptA g] = [.int .i64 i', ptA g'] := by rw [h, hg]
def tmI : Tab := tb_msize :: tb_pid :: tb_naf :: tb_oddm :: tb_pdbl :: tb_atd :: tb_putm :: []
theorem tmI_ok : tmI.OK Tryz.prog := tab_cons tb_msize_ok <| tab_cons tb_pid_ok <| tab_cons tb_naf_ok <| tab_cons tb_oddm_ok <| tab_cons tb_pdbl_ok <| tab_cons tb_atd_ok <| tab_cons tb_putm_ok <| tab_nil _
def o_bothm : Orc := { ans := [(23, oV), (25, oB), (26, oV), (27, oV), (29, oV), (31, oB), (32, oA 24), (34, oV), (37, .one ⟨.tup [.atom (.var 0), .atom (.var 1)], 2, []⟩), (42, .one ⟨.tup [.atom (.var 0), .atom (.var 1)], 2, []⟩), (46, oB), (49, oB), (50, oV), (51, oA 24), (54, oV), (55, oA 24), (56, oV), (57, oA 24), (58, oV), (60, oA 24), (62, oV), (64, oV), (65, oV), (66, oV), (68, oB), (71, oA 24), (72, oA 24), (73, oA 24), (74, oV), (75, oV), (78, oV), (79, oA 24), (80, oV), (81, oV), (84, oV), (85, oA 24), (70, oV), (86, oA 24)], lps := [(0, [.slot 24 [.one]]), (2, [.slot 19 [.one], .blk 5 [.agg 24]])], ords := [(12, [.quiet 0, .quiet 2, .call 1 [5], .call 3 [5], .pure 4, .make 5 [], .last 6]), (18, [.quiet 0, .quiet 1, .quiet 2, .pure 3, .pure 4, .quiet 7, .quiet 8, .pure 9, .pure 10, .call 5 [], .call 6 [], .call 11 [], .call 12 [], .last 13])] }
def t_bothm : Tree :=
 .new <|
 .new <|
 .new <|
 .new <|
 .calc (.call { callee := .builtin .len, args := #[.tmp 22], argTypes := #[79] }) 3 [(22, .leaf (.atom (.slc 3 0 2 2)))] ([([.whole 1 24], 30), ([.whole 3 24], 30), ([.lit [.int .u64 0, .int .u64 0, .int .u64 0, .int .u64 0, .int .u64 0, .int .u64 0, .int .u64 0, .int .u64 0, .int .u64 0, .int .u64 0, .int .u64 0, .int .u64 0, .int .u64 0, .int .u64 0, .int .u64 0, .int .u64 0, .int .u64 0, .int .u64 0, .int .u64 0, .int .u64 0, .int .u64 0, .int .u64 0, .int .u64 0, .int .u64 0]], 30), ([.one (.var 0), .one (.var 2)], 22)], []) (qv 4) 1 <|
 .loop [.atom (.const (.int .i64 0))] [.one] <|
 .calc2 (.binOp .lss 3 (.tmp 24) (.tmp 23) 3) 0 [(24, qv 5), (23, qv 4)] ([], []) qT 0 (
 .bound 5 2 <|
 .ldi [.one (.var 0), .one (.var 2)] 0 5 1 1 false <|
 .call 40 [.atom (.var 6)] ([], []) (qv 7) 1 [] <|
 .calc2 (.binOp .neq 38 (.tmp 30) (.const (.int .i64 0)) 38) 4 [(30, qv 7)] ([], []) qT 0 (
 .call 16 [] ([], []) (.leaf (.agg [.whole 8 24])) 1 [] <|
 .ret ([], []) (.tup [.agg [.whole 8 24], .atom (.var 7)])) qF 0 <|
 .calc (.binOp .add 3 (.tmp 24) (.const (.int .i64 1)) 3) 3 [(24, qv 5)] ([], []) (qv 8) 1 <|
 .again 0 [.atom (.var 8)]) qF 0 <|
 .call 41 [.atom (.var 0), .atom (.const (.int .i64 5))] ([], []) (.tup [.atom (.var 6), .atom (.var 7)]) 2 [] <|
 .call 41 [.atom (.var 2), .atom (.const (.int .i64 5))] ([], []) (.tup [.atom (.var 8), .atom (.var 9)]) 2 [] <|
 .calc2 (.binOp .neq 38 (.tmp 45) (.const (.int .i64 0)) 38) 4 [(45, qv 7)] ([], []) qT 0 (
 .call 16 [] ([], []) (.leaf (.agg [.whole 10 24])) 1 [] <|
 .calc (.call { callee := .builtin .max, args := #[.tmp 52, .tmp 53], argTypes := #[38, 38] }) 38 [(52, qv 7), (53, qv 9)] ([], []) (qv 11) 1 <|
 .ret ([], []) (.tup [.agg [.whole 10 24], .atom (.var 11)])) qF 0 <|
 .calc2 (.binOp .neq 38 (.tmp 48) (.const (.int .i64 0)) 38) 4 [(48, qv 9)] ([], []) qT 0 (
 .call 16 [] ([], []) (.leaf (.agg [.whole 10 24])) 1 [] <|
 .calc (.call { callee := .builtin .max, args := #[.tmp 52, .tmp 53], argTypes := #[38, 38] }) 38 [(52, qv 7), (53, qv 9)] ([], []) (qv 11) 1 <|
 .ret ([], []) (.tup [.agg [.whole 10 24], .atom (.var 11)])) qF 0 <|
 .call 42 [.agg [.whole 1 24]] ([], []) (qv 10) 1 [] <|
 .call 42 [.agg [.whole 3 24]] ([], []) (qv 11) 1 [] <|
 .new <|
 .call 16 [] ([], []) (.leaf (.agg [.whole 12 24])) 1 [] <|
 .new <|
 .calc (.call { callee := .builtin .len, args := #[.tmp 61], argTypes := #[80] }) 3 [(61, qv 6)] ([], []) (qv 13) 1 <|
 .calc (.call { callee := .builtin .len, args := #[.tmp 63], argTypes := #[80] }) 3 [(63, qv 8)] ([], []) (qv 14) 1 <|
 .calc (.call { callee := .builtin .max, args := #[.tmp 62, .tmp 64], argTypes := #[3, 3] }) 3 [(62, qv 13), (64, qv 14)] ([], []) (qv 15) 1 <|
 .calc (.binOp .sub 3 (.tmp 65) (.const (.int .i64 1)) 3) 3 [(65, qv 15)] ([], []) (qv 16) 1 <|
 .loop [.atom (.var 16), .agg [.whole 12 24]] [.one, .agg 24] <|
 .calc2 (.binOp .geq 3 (.tmp 67) (.const (.int .i64 0)) 3) 4 [(67, qv 17)] ([], []) qT 0 (
 .call 27 [.agg [.whole 18 24]] ([], []) (.leaf (.agg [.whole 19 24])) 1 [] <|
 .call 44 [.atom (.var 6), .atom (.var 17)] ([], []) (qv 20) 1 [] <|
 .call 43 [.agg [.whole 19 24], .atom (.var 10), .atom (.var 20)] ([], []) (.leaf (.agg [.whole 21 24])) 1 [] <|
 .call 44 [.atom (.var 8), .atom (.var 17)] ([], []) (qv 22) 1 [] <|
 .call 43 [.agg [.whole 21 24], .atom (.var 11), .atom (.var 22)] ([], []) (.leaf (.agg [.whole 23 24])) 1 [] <|
 .calc (.binOp .sub 3 (.tmp 69) (.const (.int .i64 1)) 3) 3 [(69, qv 17)] ([], []) (qv 24) 1 <|
 .again 1 [.atom (.var 24), .agg [.whole 23 24]]) qF 0 <|
 .ret ([], []) (.tup [.agg [.whole 18 24], .atom (.const (.int .i64 0))])
theorem c_bothm : compF Tryz.prog Tryz.f18 o_bothm (Tryz.f18.body.getD .skip) (symIn [.atom (.var 0), .agg [.whole 1 24], .atom (.var 2), .agg [.whole 3 24]] Tryz.f18.ntmps 4) = some t_bothm := by kernel_rfl
theorem g_bothm : goodC Tryz.prog o_bothm.ords (Tryz.f18.body.getD .skip) = true := by kernel_rfl
def tb_bothm : FuncId × Trans := (18, tBothM)
set_option maxRecDepth 100000 in
theorem aw_bothm : ∀ zs Q, tb_bothm.2 zs Q → bindLs 0 [.atom (.var 0), .agg [.whole 1 24], .atom (.var 2), .agg [.whole 3 24]] zs fun ae => bif Nat.beq ae.length 4 then AWp Tryz.prog tmI Q t_bothm [] ae else False := by
  intro zs Q h
  replace h : tBothM zs Q := h
  unfold tBothM at h
  split at h
  case h_2 => exact h.elim
  rename_i a p b q
  obtain ⟨⟨ha, hb, la, lb⟩, h1, h2⟩ := h
  repeat ((conv => whnf) <;> first | with_reducible first | refine wI (by omega) ?_ | refine wB (by omega) ?_ | refine And.intro rfl ?_ | rfl | refine And.intro ‹_› ?_ | refine cTe ‹_› ?_ | refine cFe ‹_› ?_ | refine cN (cTe ‹_› ?_) | refine cN (cFe ‹_› ?_) | refine cTe rfl ?_ | refine cEq ‹_› ?_ | refine cTt ?_ | refine cNt ?_ | refine cF (Eq.refl false) ?_ | refine cN (cF (Eq.refl false) ?_) | refine cTd (by omega) ?_ | refine cFd (by omega) ?_ | refine cN (cTd (by omega) ?_) | refine cN (cFd (by omega) ?_) | refine And.intro (by omega) ?_ | refine And.intro (Eq.refl true) ?_)
  refine ⟨Nat, fun i zs => i ≤ 2 ∧ (0 < i → 1 ≤ a.length ∧ a.length ≤ 64) ∧ (1 < i → 1 ≤ b.length ∧ b.length ≤ 64) ∧ zs = [.int .i64 (i : Int)], fun i => 2 - i, 0, ?_, ?_⟩
  · (conv => whnf)
    exact ⟨_, Subs.refl' _, Nat.zero_le _, fun hh => absurd hh (by omega), fun hh => absurd hh (by omega), rfl⟩
  rintro i _ ⟨hi, hA, hB, rfl⟩
  rcases (by omega : i = 0 ∨ i = 1 ∨ i = 2) with rfl | rfl | rfl
  · by_cases a1 : 1 ≤ a.length ∧ a.length ≤ 64
    · repeat ((conv => whnf) <;> first | with_reducible first | refine wI (by omega) ?_ | refine wB (by omega) ?_ | refine And.intro rfl ?_ | rfl | refine And.intro ‹_› ?_ | refine cTe ‹_› ?_ | refine cFe ‹_› ?_ | refine cN (cTe ‹_› ?_) | refine cN (cFe ‹_› ?_) | refine cTe rfl ?_ | refine cEq ‹_› ?_ | refine cTt ?_ | refine cNt ?_ | refine cF (Eq.refl false) ?_ | refine cN (cF (Eq.refl false) ?_) | refine cTd (by omega) ?_ | refine cFd (by omega) ?_ | refine cN (cTd (by omega) ?_) | refine cN (cFd (by omega) ?_) | refine And.intro (by omega) ?_ | refine And.intro (Eq.refl true) ?_)
      refine ⟨cells2 a b, by show 0 < 2; omega, .isl .u8 a, rfl, rfl, ?_⟩
      repeat ((conv => whnf) <;> first | with_reducible first | refine wI (by omega) ?_ | refine wB (by omega) ?_ | refine And.intro rfl ?_ | rfl | refine And.intro ‹_› ?_ | refine cTe ‹_› ?_ | refine cFe ‹_› ?_ | refine cN (cTe ‹_› ?_) | refine cN (cFe ‹_› ?_) | refine cTe rfl ?_ | refine cEq ‹_› ?_ | refine cTt ?_ | refine cNt ?_ | refine cF (Eq.refl false) ?_ | refine cN (cF (Eq.refl false) ?_) | refine cTd (by omega) ?_ | refine cFd (by omega) ?_ | refine cN (cTd (by omega) ?_) | refine cN (cFd (by omega) ?_) | refine And.intro (by omega) ?_ | refine And.intro (Eq.refl true) ?_)
      intro _ _
      repeat ((conv => whnf) <;> first | with_reducible first | refine wI (by omega) ?_ | refine wB (by omega) ?_ | refine And.intro rfl ?_ | rfl | refine And.intro ‹_› ?_ | refine cTe ‹_› ?_ | refine cFe ‹_› ?_ | refine cN (cTe ‹_› ?_) | refine cN (cFe ‹_› ?_) | refine cTe rfl ?_ | refine cEq ‹_› ?_ | refine cTt ?_ | refine cNt ?_ | refine cF (Eq.refl false) ?_ | refine cN (cF (Eq.refl false) ?_) | refine cTd (by omega) ?_ | refine cFd (by omega) ?_ | refine cN (cTd (by omega) ?_) | refine cN (cFd (by omega) ?_) | refine And.intro (by omega) ?_ | refine And.intro (Eq.refl true) ?_)
      (conv => whnf)
      exact ⟨_, Subs.refl' _, 1, ⟨by omega, fun _ => a1, fun hh => absurd hh (by omega), rfl⟩, by show 2 - 1 < 2 - 0; omega⟩
    · have h := h1 (fun hh => a1 hh.1)
      repeat ((conv => whnf) <;> first | with_reducible first | refine wI (by omega) ?_ | refine wB (by omega) ?_ | refine And.intro rfl ?_ | rfl | refine And.intro ‹_› ?_ | refine cTe ‹_› ?_ | refine cFe ‹_› ?_ | refine cN (cTe ‹_› ?_) | refine cN (cFe ‹_› ?_) | refine cTe rfl ?_ | refine cEq ‹_› ?_ | refine cTt ?_ | refine cNt ?_ | refine cF (Eq.refl false) ?_ | refine cN (cF (Eq.refl false) ?_) | refine cTd (by omega) ?_ | refine cFd (by omega) ?_ | refine cN (cTd (by omega) ?_) | refine cN (cFd (by omega) ?_) | refine And.intro (by omega) ?_ | refine And.intro (Eq.refl true) ?_)
      refine ⟨cells2 a b, by show 0 < 2; omega, .isl .u8 a, rfl, rfl, ?_⟩
      repeat ((conv => whnf) <;> first | with_reducible first | refine wI (by omega) ?_ | refine wB (by omega) ?_ | refine And.intro rfl ?_ | rfl | refine And.intro ‹_› ?_ | refine cTe ‹_› ?_ | refine cFe ‹_› ?_ | refine cN (cTe ‹_› ?_) | refine cN (cFe ‹_› ?_) | refine cTe rfl ?_ | refine cEq ‹_› ?_ | refine cTt ?_ | refine cNt ?_ | refine cF (Eq.refl false) ?_ | refine cN (cF (Eq.refl false) ?_) | refine cTd (by omega) ?_ | refine cFd (by omega) ?_ | refine cN (cTd (by omega) ?_) | refine cN (cFd (by omega) ?_) | refine And.intro (by omega) ?_ | refine And.intro (Eq.refl true) ?_)
      refine ⟨fun _ => ?_, fun q1 q2 => absurd ⟨q1, q2⟩ a1⟩
      repeat ((conv => whnf) <;> first | with_reducible first | refine wI (by omega) ?_ | refine wB (by omega) ?_ | refine And.intro rfl ?_ | rfl | refine And.intro ‹_› ?_ | refine cTe ‹_› ?_ | refine cFe ‹_› ?_ | refine cN (cTe ‹_› ?_) | refine cN (cFe ‹_› ?_) | refine cTe rfl ?_ | refine cEq ‹_› ?_ | refine cTt ?_ | refine cNt ?_ | refine cF (Eq.refl false) ?_ | refine cN (cF (Eq.refl false) ?_) | refine cTd (by omega) ?_ | refine cFd (by omega) ?_ | refine cN (cTd (by omega) ?_) | refine cN (cFd (by omega) ?_) | refine And.intro (by omega) ?_ | refine And.intro (Eq.refl true) ?_)
      (conv => whnf)
      exact h
  · by_cases a1 : 1 ≤ b.length ∧ b.length ≤ 64
    · repeat ((conv => whnf) <;> first | with_reducible first | refine wI (by omega) ?_ | refine wB (by omega) ?_ | refine And.intro rfl ?_ | rfl | refine And.intro ‹_› ?_ | refine cTe ‹_› ?_ | refine cFe ‹_› ?_ | refine cN (cTe ‹_› ?_) | refine cN (cFe ‹_› ?_) | refine cTe rfl ?_ | refine cEq ‹_› ?_ | refine cTt ?_ | refine cNt ?_ | refine cF (Eq.refl false) ?_ | refine cN (cF (Eq.refl false) ?_) | refine cTd (by omega) ?_ | refine cFd (by omega) ?_ | refine cN (cTd (by omega) ?_) | refine cN (cFd (by omega) ?_) | refine And.intro (by omega) ?_ | refine And.intro (Eq.refl true) ?_)
      refine ⟨cells2 a b, by show 1 < 2; omega, .isl .u8 b, rfl, rfl, ?_⟩
      repeat ((conv => whnf) <;> first | with_reducible first | refine wI (by omega) ?_ | refine wB (by omega) ?_ | refine And.intro rfl ?_ | rfl | refine And.intro ‹_› ?_ | refine cTe ‹_› ?_ | refine cFe ‹_› ?_ | refine cN (cTe ‹_› ?_) | refine cN (cFe ‹_› ?_) | refine cTe rfl ?_ | refine cEq ‹_› ?_ | refine cTt ?_ | refine cNt ?_ | refine cF (Eq.refl false) ?_ | refine cN (cF (Eq.refl false) ?_) | refine cTd (by omega) ?_ | refine cFd (by omega) ?_ | refine cN (cTd (by omega) ?_) | refine cN (cFd (by omega) ?_) | refine And.intro (by omega) ?_ | refine And.intro (Eq.refl true) ?_)
      intro _ _
      repeat ((conv => whnf) <;> first | with_reducible first | refine wI (by omega) ?_ | refine wB (by omega) ?_ | refine And.intro rfl ?_ | rfl | refine And.intro ‹_› ?_ | refine cTe ‹_› ?_ | refine cFe ‹_› ?_ | refine cN (cTe ‹_› ?_) | refine cN (cFe ‹_› ?_) | refine cTe rfl ?_ | refine cEq ‹_› ?_ | refine cTt ?_ | refine cNt ?_ | refine cF (Eq.refl false) ?_ | refine cN (cF (Eq.refl false) ?_) | refine cTd (by omega) ?_ | refine cFd (by omega) ?_ | refine cN (cTd (by omega) ?_) | refine cN (cFd (by omega) ?_) | refine And.intro (by omega) ?_ | refine And.intro (Eq.refl true) ?_)
      (conv => whnf)
      exact ⟨_, Subs.refl' _, 2, ⟨by omega, fun _ => hA (by omega), fun _ => a1, rfl⟩, by show 2 - 2 < 2 - 1; omega⟩
    · have h := h1 (fun hh => a1 hh.2)
      repeat ((conv => whnf) <;> first | with_reducible first | refine wI (by omega) ?_ | refine wB (by omega) ?_ | refine And.intro rfl ?_ | rfl | refine And.intro ‹_› ?_ | refine cTe ‹_› ?_ | refine cFe ‹_› ?_ | refine cN (cTe ‹_› ?_) | refine cN (cFe ‹_› ?_) | refine cTe rfl ?_ | refine cEq ‹_› ?_ | refine cTt ?_ | refine cNt ?_ | refine cF (Eq.refl false) ?_ | refine cN (cF (Eq.refl false) ?_) | refine cTd (by omega) ?_ | refine cFd (by omega) ?_ | refine cN (cTd (by omega) ?_) | refine cN (cFd (by omega) ?_) | refine And.intro (by omega) ?_ | refine And.intro (Eq.refl true) ?_)
      refine ⟨cells2 a b, by show 1 < 2; omega, .isl .u8 b, rfl, rfl, ?_⟩
      repeat ((conv => whnf) <;> first | with_reducible first | refine wI (by omega) ?_ | refine wB (by omega) ?_ | refine And.intro rfl ?_ | rfl | refine And.intro ‹_› ?_ | refine cTe ‹_› ?_ | refine cFe ‹_› ?_ | refine cN (cTe ‹_› ?_) | refine cN (cFe ‹_› ?_) | refine cTe rfl ?_ | refine cEq ‹_› ?_ | refine cTt ?_ | refine cNt ?_ | refine cF (Eq.refl false) ?_ | refine cN (cF (Eq.refl false) ?_) | refine cTd (by omega) ?_ | refine cFd (by omega) ?_ | refine cN (cTd (by omega) ?_) | refine cN (cFd (by omega) ?_) | refine And.intro (by omega) ?_ | refine And.intro (Eq.refl true) ?_)
      refine ⟨fun _ => ?_, fun q1 q2 => absurd ⟨q1, q2⟩ a1⟩
      repeat ((conv => whnf) <;> first | with_reducible first | refine wI (by omega) ?_ | refine wB (by omega) ?_ | refine And.intro rfl ?_ | rfl | refine And.intro ‹_› ?_ | refine cTe ‹_› ?_ | refine cFe ‹_› ?_ | refine cN (cTe ‹_› ?_) | refine cN (cFe ‹_› ?_) | refine cTe rfl ?_ | refine cEq ‹_› ?_ | refine cTt ?_ | refine cNt ?_ | refine cF (Eq.refl false) ?_ | refine cN (cF (Eq.refl false) ?_) | refine cTd (by omega) ?_ | refine cFd (by omega) ?_ | refine cN (cTd (by omega) ?_) | refine cN (cFd (by omega) ?_) | refine And.intro (by omega) ?_ | refine And.intro (Eq.refl true) ?_)
      (conv => whnf)
      exact h
  obtain ⟨a1, a2⟩ := hA (by omega)
  obtain ⟨a3, a4⟩ := hB (by omega)
  have h := h2 a1 a2 a3 a4
  have n1 : By a ∧ a.length ≤ 64 ∧ (5 : Int) = 5 := ⟨ha, a2, rfl⟩
  have n2 : By b ∧ b.length ≤ 64 ∧ (5 : Int) = 5 := ⟨hb, a4, rfl⟩
  repeat ((conv => whnf) <;> first | with_reducible first | refine wI (by omega) ?_ | refine wB (by omega) ?_ | refine And.intro rfl ?_ | rfl | refine And.intro ‹_› ?_ | refine cTe ‹_› ?_ | refine cFe ‹_› ?_ | refine cN (cTe ‹_› ?_) | refine cN (cFe ‹_› ?_) | refine cTe rfl ?_ | refine cEq ‹_› ?_ | refine cTt ?_ | refine cNt ?_ | refine cF (Eq.refl false) ?_ | refine cN (cF (Eq.refl false) ?_) | refine cTd (by omega) ?_ | refine cFd (by omega) ?_ | refine cN (cTd (by omega) ?_) | refine cN (cFd (by omega) ?_) | refine And.intro (by omega) ?_ | refine And.intro (Eq.refl true) ?_)
  intro X x1 x2 x3
  repeat ((conv => whnf) <;> first | with_reducible first | refine wI (by omega) ?_ | refine wB (by omega) ?_ | refine And.intro rfl ?_ | rfl | refine And.intro ‹_› ?_ | refine cTe ‹_› ?_ | refine cFe ‹_› ?_ | refine cN (cTe ‹_› ?_) | refine cN (cFe ‹_› ?_) | refine cTe rfl ?_ | refine cEq ‹_› ?_ | refine cTt ?_ | refine cNt ?_ | refine cF (Eq.refl false) ?_ | refine cN (cF (Eq.refl false) ?_) | refine cTd (by omega) ?_ | refine cFd (by omega) ?_ | refine cN (cTd (by omega) ?_) | refine cN (cFd (by omega) ?_) | refine And.intro (by omega) ?_ | refine And.intro (Eq.refl true) ?_)
  intro Y y1 y2 y3
  have hmx : (if (Y.length : Int) > (X.length : Int) then (Y.length : Int) else (X.length : Int)) = ((max X.length Y.length : Nat) : Int) := by split <;> omega
  have ht := both_top p q (show X.length ≤ max X.length Y.length by omega) (show Y.length ≤ max X.length Y.length by omega)
  have hX0 : hZ (X.drop 0) = (nval a : Int) := x3
  have hY0 : hZ (Y.drop 0) = (nval b : Int) := y3
  have hml : max X.length Y.length ≤ 1000 := by omega
  generalize max X.length Y.length = m at *
  repeat ((conv => whnf) <;> first | with_reducible first | refine wI (by omega) ?_ | refine wB (by omega) ?_ | refine And.intro rfl ?_ | rfl | refine And.intro ‹_› ?_ | refine cTe ‹_› ?_ | refine cFe ‹_› ?_ | refine cN (cTe ‹_› ?_) | refine cN (cFe ‹_› ?_) | refine cTe rfl ?_ | refine cEq ‹_› ?_ | refine cTt ?_ | refine cNt ?_ | refine cF (Eq.refl false) ?_ | refine cN (cF (Eq.refl false) ?_) | refine cTd (by omega) ?_ | refine cFd (by omega) ?_ | refine cN (cTd (by omega) ?_) | refine cN (cFd (by omega) ?_) | refine And.intro (by omega) ?_ | refine And.intro (Eq.refl true) ?_)
  refine ⟨Nat, fun k zs => k ≤ m ∧ zs = [.int .i64 ((k : Int) - 1), ptA (zG (hZ (X.drop k)) p + zG (hZ (Y.drop k)) q)], fun k => k, m, ?_, ?_⟩
  · (conv => whnf)
    exact ⟨_, Subs.refl' _, Nat.le_refl _, zsBo (by rw [hmx]) ht.symm⟩
  rintro k _ ⟨hk, rfl⟩
  cases k with
  | zero =>
    rw [hX0, hY0, zG_nat, zG_nat]
    repeat ((conv => whnf) <;> first | with_reducible first | refine wI (by omega) ?_ | refine wB (by omega) ?_ | refine And.intro rfl ?_ | rfl | refine And.intro ‹_› ?_ | refine cTe ‹_› ?_ | refine cFe ‹_› ?_ | refine cN (cTe ‹_› ?_) | refine cN (cFe ‹_› ?_) | refine cTe rfl ?_ | refine cEq ‹_› ?_ | refine cTt ?_ | refine cNt ?_ | refine cF (Eq.refl false) ?_ | refine cN (cF (Eq.refl false) ?_) | refine cTd (by omega) ?_ | refine cFd (by omega) ?_ | refine cN (cTd (by omega) ?_) | refine cN (cFd (by omega) ?_) | refine And.intro (by omega) ?_ | refine And.intro (Eq.refl true) ?_)
    (conv => whnf)
    exact h
  | succ j =>
    have e3 : (((j + 1 : Nat) : Int) - 1).toNat = j := by omega
    have t1 : 0 ≤ ((j + 1 : Nat) : Int) - 1 ∧ X.length ≤ 100000 := ⟨by omega, by omega⟩
    have t2 : 0 ≤ ((j + 1 : Nat) : Int) - 1 ∧ Y.length ≤ 100000 := ⟨by omega, by omega⟩
    have d1 := dgo_get x2 (((j + 1 : Nat) : Int) - 1).toNat
    have d2 := dgo_get y2 (((j + 1 : Nat) : Int) - 1).toNat
    have hst := both_step X Y j p q
    rw [← e3] at hst
    repeat ((conv => whnf) <;> first | with_reducible first | refine wI (by omega) ?_ | refine wB (by omega) ?_ | refine And.intro rfl ?_ | rfl | refine And.intro ‹_› ?_ | refine cTe ‹_› ?_ | refine cFe ‹_› ?_ | refine cN (cTe ‹_› ?_) | refine cN (cFe ‹_› ?_) | refine cTe rfl ?_ | refine cEq ‹_› ?_ | refine cTt ?_ | refine cNt ?_ | refine cF (Eq.refl false) ?_ | refine cN (cF (Eq.refl false) ?_) | refine cTd (by omega) ?_ | refine cFd (by omega) ?_ | refine cN (cTd (by omega) ?_) | refine cN (cFd (by omega) ?_) | refine And.intro (by omega) ?_ | refine And.intro (Eq.refl true) ?_)
    refine ⟨p, rfl, d1, ?_⟩
    repeat ((conv => whnf) <;> first | with_reducible first | refine wI (by omega) ?_ | refine wB (by omega) ?_ | refine And.intro rfl ?_ | rfl | refine And.intro ‹_› ?_ | refine cTe ‹_› ?_ | refine cFe ‹_› ?_ | refine cN (cTe ‹_› ?_) | refine cN (cFe ‹_› ?_) | refine cTe rfl ?_ | refine cEq ‹_› ?_ | refine cTt ?_ | refine cNt ?_ | refine cF (Eq.refl false) ?_ | refine cN (cF (Eq.refl false) ?_) | refine cTd (by omega) ?_ | refine cFd (by omega) ?_ | refine cN (cTd (by omega) ?_) | refine cN (cFd (by omega) ?_) | refine And.intro (by omega) ?_ | refine And.intro (Eq.refl true) ?_)
    refine ⟨q, rfl, d2, ?_⟩
    repeat ((conv => whnf) <;> first | with_reducible first | refine wI (by omega) ?_ | refine wB (by omega) ?_ | refine And.intro rfl ?_ | rfl | refine And.intro ‹_› ?_ | refine cTe ‹_› ?_ | refine cFe ‹_› ?_ | refine cN (cTe ‹_› ?_) | refine cN (cFe ‹_› ?_) | refine cTe rfl ?_ | refine cEq ‹_› ?_ | refine cTt ?_ | refine cNt ?_ | refine cF (Eq.refl false) ?_ | refine cN (cF (Eq.refl false) ?_) | refine cTd (by omega) ?_ | refine cFd (by omega) ?_ | refine cN (cTd (by omega) ?_) | refine cN (cFd (by omega) ?_) | refine And.intro (by omega) ?_ | refine And.intro (Eq.refl true) ?_)
    (conv => whnf)
    exact ⟨_, Subs.refl' _, j, ⟨by omega, zsBo (by omega) (by rw [e3] at hst ⊢; exact hst)⟩, by show j < j + 1; omega⟩
theorem tb_bothm_ok : Con Tryz.prog tb_bothm.1 tb_bothm.2 := con_tree tmI_ok o_bothm [.atom (.var 0), .agg [.whole 1 24], .atom (.var 2), .agg [.whole 3 24]] 4 Tryz.func18 rfl c_bothm aw_bothm g_bothm
end Go.Proofs.YtpapfkihjhhjkaaGreat
