/- Chapter 11: CombLooks -/
import Derived.Test.YtamgmkeoaaaliaaCma
import Derived.Test.YtamgmkeoaaaliaaCme
import Derived.Test.YtamgmkeoaaaliaaOpd
set_option linter.unusedSimpArgs false
set_option linter.unusedVariables false
namespace Go.Proofs.Ytamgmkeoaaaliaa
open Go.RowKit FdP FdP.Ch
noncomputable def spG (e : List Int × Int) : G := sgG e.1 e.2
def spOK (e : List Int × Int) : Prop := e.1.length ≤ 57 ∧ 0 ≤ e.2 ∧ e.2 ≤ 3
def tPoints11 : Trans := fun zs Q => match zs with
  | [.sl 2 az] => ∃ es : List (List Int × Int), az = es.map spA ∧ (∀ e ∈ es, By e.1 ∧ I64 e.2) ∧ es.length ≤ 6 ∧ ((∀ e ∈ es, spOK e) → Q (.tup [.sl 24 ((es.map spG).map ptA), .bool true])) ∧ (¬ (∀ e ∈ es, spOK e) → Q (.tup [nilC, .bool false]))
  | _ => False
theorem sps_getA {es : List (List Int × Int)} {k : Nat} (h : k < es.length) : (es.map spA).getD (k : Int).toNat .any = spA (es.getD k ([], 0)) := by
  rw [List.getD_eq_getElem?_getD, show (k : Int).toNat = k from rfl, List.getElem?_map, List.getD_eq_getElem?_getD, List.getElem?_eq_getElem h]; rfl
theorem sps_mem {es : List (List Int × Int)} {k : Nat} (h : k < es.length) : es.getD k ([], 0) ∈ es := by
  rw [List.getD_eq_getElem?_getD, List.getElem?_eq_getElem h]; exact List.getElem_mem h
theorem sps_push {es : List (List Int × Int)} {k : Nat} (h : k < es.length) : ((es.take k).map spG).map ptA ++ [ptA (spG (es.getD k ([], 0)))] = ((es.take (k + 1)).map spG).map ptA := by
  rw [pts_push, List.take_add_one, List.getElem?_eq_getElem h, List.map_append, List.getD_eq_getElem?_getD, List.getElem?_eq_getElem h]
  show _ = List.map ptA (List.map spG (List.take k es ++ [es[k]]))
  rw [List.map_append, List.map_append]; rfl
theorem sps_take {es : List (List Int × Int)} {k : Nat} (h : k < es.length) (ht : ∀ e ∈ es.take k, spOK e) (hk : spOK (es.getD k ([], 0))) : ∀ e ∈ es.take (k + 1), spOK e := by
  intro e he
  rw [List.take_add_one, List.getElem?_eq_getElem h] at he
  rcases List.mem_append.1 he with he | he
  · exact ht e he
  · simp at he
    rw [he]
    rw [List.getD_eq_getElem?_getD, List.getElem?_eq_getElem h] at hk
    exact hk
theorem rep_push (k : Nat) : (List.replicate k BG).map ptA ++ [ptA BG] = (List.replicate (k + 1) BG).map ptA := by
  rw [pts_push, List.replicate_succ']
def tcO : Tab := tb_made11 :: []
theorem tcO_ok : tcO.OK Try.prog := tab_cons tb_made11_ok <| tab_nil _
def o_points11 : Orc := { ans := [(11, .one ⟨.leaf (.atom (.var 0)), 1, []⟩), (12, .two ⟨.leaf (.atom (.const (.bool true))), 0, []⟩ ⟨.leaf (.atom (.const (.bool false))), 0, []⟩), (18, .one ⟨.leaf (.atom (.var 0)), 1, []⟩), (19, .one ⟨.leaf (.agg [.one (.var 0), .one (.var 1)]), 2, []⟩), (20, .one ⟨.tup [.agg [.whole 0 24], .agg [.whole 1 48], .atom (.var 2)], 3, []⟩), (25, .one ⟨.leaf (.atom (.var 0)), 1, []⟩), (27, .one ⟨.leaf (.agg [.whole 0 24]), 1, []⟩), (29, .one ⟨.leaf (.atom (.var 0)), 1, []⟩), (14, .one ⟨.leaf (.atom (.var 0)), 1, []⟩)], lps := [(0, [.row 4 32 24, .slot 5 [.one]])] }
def t_points11 : Tree :=
  .loop [.atom (.const (.slice none 0 0)), .agg [], .atom (.const (.int .i64 0))] [.one, .row, .one] <|
  .calc (.call { callee := .builtin .len, args := #[.tmp 10], argTypes := #[39] }) 3 [(10, .leaf (.atom (.var 0)))] ([], []) (.leaf (.atom (.var 4))) 1 <|
  .calc2 (.binOp .lss 3 (.tmp 9) (.tmp 11) 3) 4 [(9, .leaf (.atom (.var 3))), (11, .leaf (.atom (.var 4)))] ([], []) (.leaf (.atom (.const (.bool true)))) 0 (
    .calc (.indexAddr 39 (.tmp 16) (.tmp 17)) 0 [(16, .leaf (.atom (.var 0))), (17, .leaf (.atom (.var 3)))] ([], []) (.leaf (.atom (.var 5))) 1 <|
    .calc (.load 48 (.tmp 18)) 48 [(18, .leaf (.atom (.var 5)))] ([], []) (.leaf (.agg [.one (.var 6), .one (.var 7)])) 2 <|
    .call 18 [.agg [.one (.var 6), .one (.var 7)]] ([], []) (.tup [.agg [.whole 8 24], .agg [.whole 9 48], .atom (.var 10)]) 3 [] <|
    .new <|
    .new <|
    .calc (.unOp .not 4 (.tmp 24)) 4 [(24, .leaf (.atom (.var 10)))] ([], []) (.leaf (.atom (.var 11))) 1 <|
    .ite (.var 11) (
      .ret ([], []) (.tup [.atom (.const (.slice none 0 0)), .atom (.const (.bool false))])) <|
    .new <|
    .app (some 2) [.whole 8 24] 24 <|
    .calc (.binOp .add 3 (.tmp 13) (.const (.int .i64 1)) 3) 3 [(13, .leaf (.atom (.var 3)))] ([], []) (.leaf (.atom (.var 14))) 1 <|
    .again 0 [.atom (.var 12), .agg [.rest 13], .atom (.var 14)]) (.leaf (.atom (.const (.bool false)))) 0 <|
  .ret ([], [⟨1, 2, 32, 24⟩]) (.tup [.atom (.var 1), .atom (.const (.bool true))])
theorem c_points11 : compF Try.prog Try.f14 o_points11 (Try.f14.body.getD .skip) (symIn [.atom (.var 0)] Try.f14.ntmps 1) = some t_points11 := by kernel_rfl
theorem g_points11 : goodC Try.prog o_points11.ords (Try.f14.body.getD .skip) = true := by kernel_rfl
def tb_points11 : FuncId × Trans := (14, tPoints11)
set_option maxRecDepth 100000 in
theorem aw_points11 : ∀ zs Q, tb_points11.2 zs Q → bindLs 0 [.atom (.var 0)] zs fun ae => bif Nat.beq ae.length 1 then AWp Try.prog tcO Q t_points11 [] ae else False := by
  intro zs Q h
  replace h : tPoints11 zs Q := h
  unfold tPoints11 at h
  split at h
  case h_2 => exact h.elim
  rename_i az
  obtain ⟨es, rfl, hes, hl, h1, h2⟩ := h
  have hll : (es.map spA).length = es.length := List.length_map _
  repeat ((conv => whnf) <;> first | with_reducible first | refine wI (by omega) ?_ | refine wB (by omega) ?_ | refine wR (by omega) ?_ | refine wQ (by omega) ?_ | refine And.intro rfl ?_ | rfl | refine And.intro ‹_› ?_ | refine cTe ‹_› ?_ | refine cFe ‹_› ?_ | refine cN (cTe ‹_› ?_) | refine cN (cFe ‹_› ?_) | refine cTe rfl ?_ | refine cEq ‹_› ?_ | refine cTt ?_ | refine cNt ?_ | refine cF (Eq.refl false) ?_ | refine cN (cF (Eq.refl false) ?_) | refine cTd (by omega) ?_ | refine cFd (by omega) ?_ | refine cN (cTd (by omega) ?_) | refine cN (cFd (by omega) ?_) | refine And.intro (fun hh : Option.isSome none = true => by cases hh) ?_ | refine And.intro (by omega) ?_ | refine And.intro (Eq.refl true) ?_ | refine And.intro (Eq.refl (1 : Nat)) ?_)
  refine ⟨Nat, fun i zs => i ≤ es.length ∧ (∀ e ∈ es.take i, spOK e) ∧ zs = [.row i, .agg (((es.take i).map spG).map ptA), .int .i64 (i : Int)], fun i => es.length - i, 0, ?_, ?_⟩
  · (conv => whnf)
    exact ⟨[.row 0, .agg [], .int .i64 0], ⟨sub_row0, Sub.refl' _, Sub.refl' _, trivial⟩, Nat.zero_le _, fun e he => by simp at he, rfl⟩
  rintro i _ ⟨hi, ht, rfl⟩
  have htl : (es.take i).length = i := by rw [List.length_take]; omega
  by_cases hlt : (i : Int) < es.length
  · have hg := sps_getA (es := es) (k := i) (by omega)
    have hp := sps_push (es := es) (k := i) (by omega)
    have hm := hes _ (sps_mem (es := es) (k := i) (by omega))
    have hk := fun hk => sps_take (es := es) (k := i) (by omega) ht hk
    have hn := fun (hall : ∀ e ∈ es, spOK e) => hall _ (sps_mem (es := es) (k := i) (by omega))
    have sz := pts_push_size ((es.take i).map spG) (spG (es.getD i ([], 0)))
    have sl : ((es.take i).map spG).length = i := by rw [List.length_map, htl]
    generalize es.getD i ([], 0) = e at *
    generalize (es.take i).map spG = M at *
    repeat ((conv => whnf) <;> first | with_reducible first | refine wI (by omega) ?_ | refine wB (by omega) ?_ | refine wR (by omega) ?_ | refine wQ (by omega) ?_ | refine And.intro rfl ?_ | rfl | refine And.intro ‹_› ?_ | refine cTe ‹_› ?_ | refine cFe ‹_› ?_ | refine cN (cTe ‹_› ?_) | refine cN (cFe ‹_› ?_) | refine cTe rfl ?_ | refine cEq ‹_› ?_ | refine cTt ?_ | refine cNt ?_ | refine cF (Eq.refl false) ?_ | refine cN (cF (Eq.refl false) ?_) | refine cTd (by omega) ?_ | refine cFd (by omega) ?_ | refine cN (cTd (by omega) ?_) | refine cN (cFd (by omega) ?_) | refine And.intro (fun hh : Option.isSome none = true => by cases hh) ?_ | refine And.intro (by omega) ?_ | refine And.intro (Eq.refl true) ?_ | refine And.intro (Eq.refl (1 : Nat)) ?_)
    refine ⟨spA e, hg, ?_⟩
    repeat ((conv => whnf) <;> first | with_reducible first | refine wI (by omega) ?_ | refine wB (by omega) ?_ | refine wR (by omega) ?_ | refine wQ (by omega) ?_ | refine And.intro rfl ?_ | rfl | refine And.intro ‹_› ?_ | refine cTe ‹_› ?_ | refine cFe ‹_› ?_ | refine cN (cTe ‹_› ?_) | refine cN (cFe ‹_› ?_) | refine cTe rfl ?_ | refine cEq ‹_› ?_ | refine cTt ?_ | refine cNt ?_ | refine cF (Eq.refl false) ?_ | refine cN (cF (Eq.refl false) ?_) | refine cTd (by omega) ?_ | refine cFd (by omega) ?_ | refine cN (cTd (by omega) ?_) | refine cN (cFd (by omega) ?_) | refine And.intro (fun hh : Option.isSome none = true => by cases hh) ?_ | refine And.intro (by omega) ?_ | refine And.intro (Eq.refl true) ?_ | refine And.intro (Eq.refl (1 : Nat)) ?_)
    refine ⟨hm.1, fun hh => ?_, fun q1 q2 q3 => ?_⟩
    · have h' := h2 (fun hall => hh (hn hall))
      repeat ((conv => whnf) <;> first | with_reducible first | refine wI (by omega) ?_ | refine wB (by omega) ?_ | refine wR (by omega) ?_ | refine wQ (by omega) ?_ | refine And.intro rfl ?_ | rfl | refine And.intro ‹_› ?_ | refine cTe ‹_› ?_ | refine cFe ‹_› ?_ | refine cN (cTe ‹_› ?_) | refine cN (cFe ‹_› ?_) | refine cTe rfl ?_ | refine cEq ‹_› ?_ | refine cTt ?_ | refine cNt ?_ | refine cF (Eq.refl false) ?_ | refine cN (cF (Eq.refl false) ?_) | refine cTd (by omega) ?_ | refine cFd (by omega) ?_ | refine cN (cTd (by omega) ?_) | refine cN (cFd (by omega) ?_) | refine And.intro (fun hh : Option.isSome none = true => by cases hh) ?_ | refine And.intro (by omega) ?_ | refine And.intro (Eq.refl true) ?_ | refine And.intro (Eq.refl (1 : Nat)) ?_)
      (conv => whnf)
      exact h'
    · repeat ((conv => whnf) <;> first | with_reducible first | refine wI (by omega) ?_ | refine wB (by omega) ?_ | refine wR (by omega) ?_ | refine wQ (by omega) ?_ | refine And.intro rfl ?_ | rfl | refine And.intro ‹_› ?_ | refine cTe ‹_› ?_ | refine cFe ‹_› ?_ | refine cN (cTe ‹_› ?_) | refine cN (cFe ‹_› ?_) | refine cTe rfl ?_ | refine cEq ‹_› ?_ | refine cTt ?_ | refine cNt ?_ | refine cF (Eq.refl false) ?_ | refine cN (cF (Eq.refl false) ?_) | refine cTd (by omega) ?_ | refine cFd (by omega) ?_ | refine cN (cTd (by omega) ?_) | refine cN (cFd (by omega) ?_) | refine And.intro (fun hh : Option.isSome none = true => by cases hh) ?_ | refine And.intro (by omega) ?_ | refine And.intro (Eq.refl true) ?_ | refine And.intro (Eq.refl (1 : Nat)) ?_)
      refine ⟨Nat.le_trans (Nat.le_of_eq sz) (by omega), ?_⟩
      repeat ((conv => whnf) <;> first | with_reducible first | refine wI (by omega) ?_ | refine wB (by omega) ?_ | refine wR (by omega) ?_ | refine wQ (by omega) ?_ | refine And.intro rfl ?_ | rfl | refine And.intro ‹_› ?_ | refine cTe ‹_› ?_ | refine cFe ‹_› ?_ | refine cN (cTe ‹_› ?_) | refine cN (cFe ‹_› ?_) | refine cTe rfl ?_ | refine cEq ‹_› ?_ | refine cTt ?_ | refine cNt ?_ | refine cF (Eq.refl false) ?_ | refine cN (cF (Eq.refl false) ?_) | refine cTd (by omega) ?_ | refine cFd (by omega) ?_ | refine cN (cTd (by omega) ?_) | refine cN (cFd (by omega) ?_) | refine And.intro (fun hh : Option.isSome none = true => by cases hh) ?_ | refine And.intro (by omega) ?_ | refine And.intro (Eq.refl true) ?_ | refine And.intro (Eq.refl (1 : Nat)) ?_)
      (conv => whnf)
      refine ⟨_, Subs.refl' _, i + 1, ⟨by omega, hk ⟨q1, q2, q3⟩, zsQ ?_ hp (by omega)⟩, by show es.length - (i + 1) < es.length - i; omega⟩
      show (AV.agg (M.map ptA ++ [ptA (spG e)])).size / 24 = i + 1
      rw [sz]; omega
  · obtain rfl : i = es.length := by omega
    rw [List.take_length] at ht
    have h' := h1 ht
    rw [List.take_length]
    repeat ((conv => whnf) <;> first | with_reducible first | refine wI (by omega) ?_ | refine wB (by omega) ?_ | refine wR (by omega) ?_ | refine wQ (by omega) ?_ | refine And.intro rfl ?_ | rfl | refine And.intro ‹_› ?_ | refine cTe ‹_› ?_ | refine cFe ‹_› ?_ | refine cN (cTe ‹_› ?_) | refine cN (cFe ‹_› ?_) | refine cTe rfl ?_ | refine cEq ‹_› ?_ | refine cTt ?_ | refine cNt ?_ | refine cF (Eq.refl false) ?_ | refine cN (cF (Eq.refl false) ?_) | refine cTd (by omega) ?_ | refine cFd (by omega) ?_ | refine cN (cTd (by omega) ?_) | refine cN (cFd (by omega) ?_) | refine And.intro (fun hh : Option.isSome none = true => by cases hh) ?_ | refine And.intro (by omega) ?_ | refine And.intro (Eq.refl true) ?_ | refine And.intro (Eq.refl (1 : Nat)) ?_)
    refine ⟨by show 0 < 24; omega, pts_sz _, ?_⟩
    (conv => whnf)
    exact h'
theorem tb_points11_ok : Con Try.prog tb_points11.1 tb_points11.2 := con_tree tcO_ok o_points11 [.atom (.var 0)] 1 Try.func14 rfl c_points11 aw_points11 g_points11
def tcP : Tab := tb_awake11 :: tb_points11 :: tb_look :: tb_pbase :: tb_peq :: []
theorem tcP_ok : tcP.OK Try.prog := tab_cons tb_awake11_ok <| tab_cons tb_points11_ok <| tab_cons tb_look_ok <| tab_cons tb_pbase_ok <| tab_cons tb_peq_ok <| tab_nil _
def o_looks : Orc := { ans := [(14, .one ⟨.leaf (.atom (.var 0)), 1, []⟩), (15, .two ⟨.leaf (.atom (.const (.bool true))), 0, []⟩ ⟨.leaf (.atom (.const (.bool false))), 0, []⟩), (16, .two ⟨.leaf (.atom (.const (.bool true))), 0, []⟩ ⟨.leaf (.atom (.const (.bool false))), 0, []⟩), (19, .one ⟨.tup [.atom (.var 0), .atom (.var 1)], 2, []⟩), (23, .one ⟨.leaf (.atom (.var 0)), 1, []⟩), (24, .two ⟨.leaf (.atom (.const (.bool true))), 0, []⟩ ⟨.leaf (.atom (.const (.bool false))), 0, []⟩), (28, .one ⟨.tup [.agg [.whole 0 24], .atom (.var 1)], 2, []⟩), (32, .two ⟨.leaf (.atom (.const (.bool true))), 0, []⟩ ⟨.leaf (.atom (.const (.bool false))), 0, []⟩), (36, .one ⟨.leaf (.atom (.var 0)), 1, []⟩), (37, .two ⟨.leaf (.atom (.const (.bool true))), 0, []⟩ ⟨.leaf (.atom (.const (.bool false))), 0, []⟩), (38, .one ⟨.leaf (.atom (.var 0)), 1, []⟩), (40, .two ⟨.leaf (.atom (.const (.bool true))), 0, []⟩ ⟨.leaf (.atom (.const (.bool false))), 0, []⟩), (42, .two ⟨.leaf (.atom (.const (.bool true))), 0, []⟩ ⟨.leaf (.atom (.const (.bool false))), 0, []⟩), (43, .one ⟨.leaf (.atom (.var 0)), 1, []⟩), (46, .one ⟨.leaf (.atom (.var 0)), 1, []⟩), (47, .two ⟨.leaf (.atom (.const (.bool true))), 0, []⟩ ⟨.leaf (.atom (.const (.bool false))), 0, []⟩), (51, .one ⟨.leaf (.agg [.whole 0 24]), 1, []⟩), (53, .one ⟨.leaf (.atom (.var 0)), 1, []⟩), (49, .one ⟨.leaf (.atom (.var 0)), 1, []⟩), (58, .one ⟨.leaf (.atom (.var 0)), 1, []⟩), (59, .one ⟨.leaf (.agg [.whole 0 24]), 1, []⟩), (60, .one ⟨.leaf (.atom (.var 0)), 1, []⟩), (64, .one ⟨.tup [.agg [.whole 0 24], .atom (.var 1)], 2, []⟩), (68, .two ⟨.leaf (.atom (.const (.bool true))), 0, []⟩ ⟨.leaf (.atom (.const (.bool false))), 0, []⟩), (71, .two ⟨.leaf (.atom (.const (.bool true))), 0, []⟩ ⟨.leaf (.atom (.const (.bool false))), 0, []⟩), (72, .one ⟨.leaf (.atom (.var 0)), 1, []⟩), (74, .one ⟨.leaf (.agg [.whole 0 24]), 1, []⟩), (77, .one ⟨.leaf (.atom (.var 0)), 1, []⟩), (78, .one ⟨.leaf (.agg [.whole 0 24]), 1, []⟩), (79, .two ⟨.leaf (.atom (.const (.bool true))), 0, []⟩ ⟨.leaf (.atom (.const (.bool false))), 0, []⟩), (80, .one ⟨.leaf (.atom (.var 0)), 1, []⟩), (82, .one ⟨.leaf (.agg [.whole 0 24]), 1, []⟩), (85, .one ⟨.leaf (.atom (.var 0)), 1, []⟩), (86, .one ⟨.leaf (.agg [.whole 0 24]), 1, []⟩), (87, .two ⟨.leaf (.atom (.const (.bool true))), 0, []⟩ ⟨.leaf (.atom (.const (.bool false))), 0, []⟩), (88, .one ⟨.leaf (.atom (.var 0)), 1, []⟩), (90, .two ⟨.leaf (.atom (.const (.bool true))), 0, []⟩ ⟨.leaf (.atom (.const (.bool false))), 0, []⟩), (91, .one ⟨.leaf (.atom (.var 0)), 1, []⟩)], lps := [(0, [.row 9 32 24, .slot 10 [.one]])], ords := [(16, [.pure 0, .quiet 1, .pure 2, .pure 3, .quiet 4, .quiet 5, .pure 6, .quiet 7, .pure 8, .pure 9, .quiet 10, .quiet 11, .call 12 [], .quiet 13, .pure 14, .quiet 15, .pure 16, .pure 17, .quiet 18, .quiet 19, .call 20 [], .quiet 21, .pure 22, .call 23 [], .quiet 24, .pure 25])] }
def t_looks : Tree :=
  .calc (.call { callee := .builtin .len, args := #[.tmp 13], argTypes := #[39] }) 3 [(13, .leaf (.atom (.var 0)))] ([], []) (.leaf (.atom (.var 2))) 1 <|
  .calc2 (.binOp .gtr 3 (.tmp 14) (.const (.int .i64 6)) 3) 4 [(14, .leaf (.atom (.var 2)))] ([], []) (.leaf (.atom (.const (.bool true)))) 0 (
    .call2 10 [] ([], []) (.leaf (.atom (.const (.bool true)))) 0 [] (
      .ret ([], []) (.leaf (.atom (.const (.bool true))))) (.leaf (.atom (.const (.bool false)))) 0 [] <|
    .ret ([], []) (.leaf (.atom (.const (.bool false))))) (.leaf (.atom (.const (.bool false)))) 0 <|
  .call 14 [.atom (.var 0)] ([], []) (.tup [.atom (.var 3), .atom (.var 4)]) 2 [] <|
  .calc (.unOp .not 4 (.tmp 22)) 4 [(22, .leaf (.atom (.var 4)))] ([], []) (.leaf (.atom (.var 5))) 1 <|
  .ite (.var 5) (
    .call2 10 [] ([], []) (.leaf (.atom (.const (.bool true)))) 0 [] (
      .ret ([], []) (.leaf (.atom (.const (.bool true))))) (.leaf (.atom (.const (.bool false)))) 0 [] <|
    .ret ([], []) (.leaf (.atom (.const (.bool false))))) <|
  .call 15 [.atom (.var 3), .atom (.var 1)] ([], []) (.tup [.agg [.whole 6 24], .atom (.var 7)]) 2 [] <|
  .new <|
  .calc2 (.binOp .lss 3 (.tmp 31) (.const (.int .i64 0)) 3) 4 [(31, .leaf (.atom (.var 1)))] ([], []) (.leaf (.atom (.const (.bool true)))) 0 (
    .calc2 (.binOp .eql 33 (.tmp 39) (.const (.int .i64 10)) 33) 4 [(39, .leaf (.atom (.var 7)))] ([], []) (.leaf (.atom (.const (.bool true)))) 0 (
      .call2 10 [] ([], []) (.leaf (.atom (.const (.bool true)))) 0 [] (
        .ret ([], []) (.leaf (.atom (.const (.bool true))))) (.leaf (.atom (.const (.bool false)))) 0 [] <|
      .ret ([], []) (.leaf (.atom (.const (.bool false))))) (.leaf (.atom (.const (.bool false)))) 0 <|
    .ret ([], []) (.leaf (.atom (.const (.bool false))))) (.leaf (.atom (.const (.bool false)))) 0 <|
  .calc (.call { callee := .builtin .len, args := #[.tmp 35], argTypes := #[40] }) 3 [(35, .leaf (.atom (.var 3)))] ([], []) (.leaf (.atom (.var 8))) 1 <|
  .calc2 (.binOp .geq 3 (.tmp 34) (.tmp 36) 3) 4 [(34, .leaf (.atom (.var 1))), (36, .leaf (.atom (.var 8)))] ([], []) (.leaf (.atom (.const (.bool true)))) 0 (
    .calc2 (.binOp .eql 33 (.tmp 39) (.const (.int .i64 10)) 33) 4 [(39, .leaf (.atom (.var 7)))] ([], []) (.leaf (.atom (.const (.bool true)))) 0 (
      .call2 10 [] ([], []) (.leaf (.atom (.const (.bool true)))) 0 [] (
        .ret ([], []) (.leaf (.atom (.const (.bool true))))) (.leaf (.atom (.const (.bool false)))) 0 [] <|
      .ret ([], []) (.leaf (.atom (.const (.bool false))))) (.leaf (.atom (.const (.bool false)))) 0 <|
    .ret ([], []) (.leaf (.atom (.const (.bool false))))) (.leaf (.atom (.const (.bool false)))) 0 <|
  .loop [.atom (.const (.slice none 0 0)), .agg [], .atom (.const (.int .i64 0))] [.one, .row, .one] <|
  .calc (.call { callee := .builtin .len, args := #[.tmp 45], argTypes := #[40] }) 3 [(45, .leaf (.atom (.var 3)))] ([], []) (.leaf (.atom (.var 12))) 1 <|
  .calc2 (.binOp .lss 3 (.tmp 44) (.tmp 46) 3) 4 [(44, .leaf (.atom (.var 11))), (46, .leaf (.atom (.var 12)))] ([], []) (.leaf (.atom (.const (.bool true)))) 0 (
    .call 16 [] ([], []) (.leaf (.agg [.whole 13 24])) 1 [] <|
    .new <|
    .app (some 10) [.whole 13 24] 24 <|
    .calc (.binOp .add 3 (.tmp 48) (.const (.int .i64 1)) 3) 3 [(48, .leaf (.atom (.var 11)))] ([], []) (.leaf (.atom (.var 16))) 1 <|
    .again 0 [.atom (.var 14), .agg [.rest 15], .atom (.var 16)]) (.leaf (.atom (.const (.bool false)))) 0 <|
  .calc (.indexAddr 40 (.tmp 56) (.tmp 57)) 0 [(56, .leaf (.atom (.var 3))), (57, .leaf (.atom (.var 1)))] ([], []) (.leaf (.atom (.var 13))) 1 <|
  .calc (.load 32 (.tmp 58)) 32 [(58, .leaf (.atom (.var 13)))] ([], []) (.leaf (.agg [.whole 14 24])) 1 <|
  .boundx 1 9 <|
  .sti [.rest 10] 0 1 24 24 [.whole 14 24] <|
  .frz 9 15 ([([.whole 6 24], 32)], [⟨9, 15, 32, 24⟩]) <|
  .call 15 [.atom (.var 9), .atom (.var 1)] ([], []) (.tup [.agg [.whole 16 24], .atom (.var 17)]) 2 [] <|
  .new <|
  .calc2 (.binOp .eql 33 (.tmp 67) (.const (.int .i64 0)) 33) 4 [(67, .leaf (.atom (.var 7)))] ([], []) (.leaf (.atom (.const (.bool true)))) 0 (
    .calc2 (.binOp .eql 33 (.tmp 70) (.const (.int .i64 0)) 33) 4 [(70, .leaf (.atom (.var 17)))] ([], []) (.leaf (.atom (.const (.bool true)))) 0 (
      .calc (.indexAddr 40 (.tmp 75) (.tmp 76)) 0 [(75, .leaf (.atom (.var 3))), (76, .leaf (.atom (.var 1)))] ([], []) (.leaf (.atom (.var 18))) 1 <|
      .calc (.load 32 (.tmp 77)) 32 [(77, .leaf (.atom (.var 18)))] ([], []) (.leaf (.agg [.whole 19 24])) 1 <|
      .call2 17 [.agg [.whole 6 24], .agg [.whole 19 24]] ([], []) (.leaf (.atom (.const (.bool true)))) 0 [] (
        .calc (.indexAddr 40 (.tmp 83) (.tmp 84)) 0 [(83, .leaf (.atom (.var 3))), (84, .leaf (.atom (.var 1)))] ([], []) (.leaf (.atom (.var 20))) 1 <|
        .calc (.load 32 (.tmp 85)) 32 [(85, .leaf (.atom (.var 20)))] ([], []) (.leaf (.agg [.whole 21 24])) 1 <|
        .call2 17 [.agg [.whole 16 24], .agg [.whole 21 24]] ([], []) (.leaf (.atom (.const (.bool true)))) 0 [] (
          .call2 10 [] ([], []) (.leaf (.atom (.const (.bool true)))) 0 [] (
            .ret ([], []) (.leaf (.atom (.const (.bool true))))) (.leaf (.atom (.const (.bool false)))) 0 [] <|
          .ret ([], []) (.leaf (.atom (.const (.bool false))))) (.leaf (.atom (.const (.bool false)))) 0 [] <|
        .ret ([], []) (.leaf (.atom (.const (.bool false))))) (.leaf (.atom (.const (.bool false)))) 0 [] <|
      .ret ([], []) (.leaf (.atom (.const (.bool false))))) (.leaf (.atom (.const (.bool false)))) 0 <|
    .ret ([], []) (.leaf (.atom (.const (.bool false))))) (.leaf (.atom (.const (.bool false)))) 0 <|
  .ret ([], []) (.leaf (.atom (.const (.bool false))))
theorem c_looks : compF Try.prog Try.f5 o_looks (Try.f5.body.getD .skip) (symIn [.atom (.var 0), .atom (.var 1)] Try.f5.ntmps 2) = some t_looks := by kernel_rfl
theorem g_looks : goodC Try.prog o_looks.ords (Try.f5.body.getD .skip) = true := by kernel_rfl
set_option maxRecDepth 100000 in
set_option maxHeartbeats 1000000 in
theorem aw_looks (e1 : List (List Int × Int)) (ye1 : ∀ e ∈ e1, By e.1 ∧ I64 e.2) (n2 : Int) (r2 : I64 n2) : AWp Try.prog tcP (fun a => a = .bool true) t_looks [] [.sl 2 (e1.map spA), .int .i64 n2] := by
  have hll : (e1.map spA).length = e1.length := List.length_map _
  by_cases a1 : (e1.length : Int) > 6
  · repeat ((conv => whnf) <;> first | with_reducible first | refine wI (by omega) ?_ | refine wB (by omega) ?_ | refine wR (by omega) ?_ | refine wQ (by omega) ?_ | refine And.intro rfl ?_ | rfl | refine And.intro ‹_› ?_ | refine cTe ‹_› ?_ | refine cFe ‹_› ?_ | refine cN (cTe ‹_› ?_) | refine cN (cFe ‹_› ?_) | refine cTe rfl ?_ | refine cEq ‹_› ?_ | refine cTt ?_ | refine cNt ?_ | refine cF (Eq.refl false) ?_ | refine cN (cF (Eq.refl false) ?_) | refine cTd (by omega) ?_ | refine cFd (by omega) ?_ | refine cN (cTd (by omega) ?_) | refine cN (cFd (by omega) ?_) | refine And.intro (fun hh : Option.isSome none = true => by cases hh) ?_ | refine And.intro (by omega) ?_ | refine And.intro (Eq.refl true) ?_ | refine And.intro (Eq.refl (1 : Nat)) ?_)
  repeat ((conv => whnf) <;> first | with_reducible first | refine wI (by omega) ?_ | refine wB (by omega) ?_ | refine wR (by omega) ?_ | refine wQ (by omega) ?_ | refine And.intro rfl ?_ | rfl | refine And.intro ‹_› ?_ | refine cTe ‹_› ?_ | refine cFe ‹_› ?_ | refine cN (cTe ‹_› ?_) | refine cN (cFe ‹_› ?_) | refine cTe rfl ?_ | refine cEq ‹_› ?_ | refine cTt ?_ | refine cNt ?_ | refine cF (Eq.refl false) ?_ | refine cN (cF (Eq.refl false) ?_) | refine cTd (by omega) ?_ | refine cFd (by omega) ?_ | refine cN (cTd (by omega) ?_) | refine cN (cFd (by omega) ?_) | refine And.intro (fun hh : Option.isSome none = true => by cases hh) ?_ | refine And.intro (by omega) ?_ | refine And.intro (Eq.refl true) ?_ | refine And.intro (Eq.refl (1 : Nat)) ?_)
  refine ⟨e1, rfl, ye1, by omega, fun hok => ?_, fun hno => by repeat ((conv => whnf) <;> first | with_reducible first | refine wI (by omega) ?_ | refine wB (by omega) ?_ | refine wR (by omega) ?_ | refine wQ (by omega) ?_ | refine And.intro rfl ?_ | rfl | refine And.intro ‹_› ?_ | refine cTe ‹_› ?_ | refine cFe ‹_› ?_ | refine cN (cTe ‹_› ?_) | refine cN (cFe ‹_› ?_) | refine cTe rfl ?_ | refine cEq ‹_› ?_ | refine cTt ?_ | refine cNt ?_ | refine cF (Eq.refl false) ?_ | refine cN (cF (Eq.refl false) ?_) | refine cTd (by omega) ?_ | refine cFd (by omega) ?_ | refine cN (cTd (by omega) ?_) | refine cN (cFd (by omega) ?_) | refine And.intro (fun hh : Option.isSome none = true => by cases hh) ?_ | refine And.intro (by omega) ?_ | refine And.intro (Eq.refl true) ?_ | refine And.intro (Eq.refl (1 : Nat)) ?_)⟩
  have hgl : (e1.map spG).length = e1.length := List.length_map _
  have hpl := pts_len (e1.map spG)
  generalize e1.map spG = gs at *
  repeat ((conv => whnf) <;> first | with_reducible first | refine wI (by omega) ?_ | refine wB (by omega) ?_ | refine wR (by omega) ?_ | refine wQ (by omega) ?_ | refine And.intro rfl ?_ | rfl | refine And.intro ‹_› ?_ | refine cTe ‹_› ?_ | refine cFe ‹_› ?_ | refine cN (cTe ‹_› ?_) | refine cN (cFe ‹_› ?_) | refine cTe rfl ?_ | refine cEq ‹_› ?_ | refine cTt ?_ | refine cNt ?_ | refine cF (Eq.refl false) ?_ | refine cN (cF (Eq.refl false) ?_) | refine cTd (by omega) ?_ | refine cFd (by omega) ?_ | refine cN (cTd (by omega) ?_) | refine cN (cFd (by omega) ?_) | refine And.intro (fun hh : Option.isSome none = true => by cases hh) ?_ | refine And.intro (by omega) ?_ | refine And.intro (Eq.refl true) ?_ | refine And.intro (Eq.refl (1 : Nat)) ?_)
  refine ⟨gs, rfl, by omega, fun hh => ?_, fun q1 q2 => ?_⟩
  · by_cases a2 : n2 < 0
    · repeat ((conv => whnf) <;> first | with_reducible first | refine wI (by omega) ?_ | refine wB (by omega) ?_ | refine wR (by omega) ?_ | refine wQ (by omega) ?_ | refine And.intro rfl ?_ | rfl | refine And.intro ‹_› ?_ | refine cTe ‹_› ?_ | refine cFe ‹_› ?_ | refine cN (cTe ‹_› ?_) | refine cN (cFe ‹_› ?_) | refine cTe rfl ?_ | refine cEq ‹_› ?_ | refine cTt ?_ | refine cNt ?_ | refine cF (Eq.refl false) ?_ | refine cN (cF (Eq.refl false) ?_) | refine cTd (by omega) ?_ | refine cFd (by omega) ?_ | refine cN (cTd (by omega) ?_) | refine cN (cFd (by omega) ?_) | refine And.intro (fun hh : Option.isSome none = true => by cases hh) ?_ | refine And.intro (by omega) ?_ | refine And.intro (Eq.refl true) ?_ | refine And.intro (Eq.refl (1 : Nat)) ?_)
    · repeat ((conv => whnf) <;> first | with_reducible first | refine wI (by omega) ?_ | refine wB (by omega) ?_ | refine wR (by omega) ?_ | refine wQ (by omega) ?_ | refine And.intro rfl ?_ | rfl | refine And.intro ‹_› ?_ | refine cTe ‹_› ?_ | refine cFe ‹_› ?_ | refine cN (cTe ‹_› ?_) | refine cN (cFe ‹_› ?_) | refine cTe rfl ?_ | refine cEq ‹_› ?_ | refine cTt ?_ | refine cNt ?_ | refine cF (Eq.refl false) ?_ | refine cN (cF (Eq.refl false) ?_) | refine cTd (by omega) ?_ | refine cFd (by omega) ?_ | refine cN (cTd (by omega) ?_) | refine cN (cFd (by omega) ?_) | refine And.intro (fun hh : Option.isSome none = true => by cases hh) ?_ | refine And.intro (by omega) ?_ | refine And.intro (Eq.refl true) ?_ | refine And.intro (Eq.refl (1 : Nat)) ?_)
  repeat ((conv => whnf) <;> first | with_reducible first | refine wI (by omega) ?_ | refine wB (by omega) ?_ | refine wR (by omega) ?_ | refine wQ (by omega) ?_ | refine And.intro rfl ?_ | rfl | refine And.intro ‹_› ?_ | refine cTe ‹_› ?_ | refine cFe ‹_› ?_ | refine cN (cTe ‹_› ?_) | refine cN (cFe ‹_› ?_) | refine cTe rfl ?_ | refine cEq ‹_› ?_ | refine cTt ?_ | refine cNt ?_ | refine cF (Eq.refl false) ?_ | refine cN (cF (Eq.refl false) ?_) | refine cTd (by omega) ?_ | refine cFd (by omega) ?_ | refine cN (cTd (by omega) ?_) | refine cN (cFd (by omega) ?_) | refine And.intro (fun hh : Option.isSome none = true => by cases hh) ?_ | refine And.intro (by omega) ?_ | refine And.intro (Eq.refl true) ?_ | refine And.intro (Eq.refl (1 : Nat)) ?_)
  refine ⟨Nat, fun k zs => k ≤ gs.length ∧ zs = [.row k, .agg ((List.replicate k BG).map ptA), .int .i64 (k : Int)], fun k => gs.length - k, 0, ?_, ?_⟩
  · (conv => whnf)
    exact ⟨[.row 0, .agg [], .int .i64 0], ⟨sub_row0, Sub.refl' _, Sub.refl' _, trivial⟩, Nat.zero_le _, rfl⟩
  rintro k _ ⟨hk, rfl⟩
  have rl : (List.replicate k BG).length = k := List.length_replicate
  have hp := rep_push k
  generalize List.replicate k BG = M at *
  by_cases hlt : (k : Int) < gs.length
  · have sz : (AV.agg (M.map ptA ++ [one [ptA BG]])).size = 24 * M.length + 24 := pts_push_size M _
    repeat ((conv => whnf) <;> first | with_reducible first | refine wI (by omega) ?_ | refine wB (by omega) ?_ | refine wR (by omega) ?_ | refine wQ (by omega) ?_ | refine And.intro rfl ?_ | rfl | refine And.intro ‹_› ?_ | refine cTe ‹_› ?_ | refine cFe ‹_› ?_ | refine cN (cTe ‹_› ?_) | refine cN (cFe ‹_› ?_) | refine cTe rfl ?_ | refine cEq ‹_› ?_ | refine cTt ?_ | refine cNt ?_ | refine cF (Eq.refl false) ?_ | refine cN (cF (Eq.refl false) ?_) | refine cTd (by omega) ?_ | refine cFd (by omega) ?_ | refine cN (cTd (by omega) ?_) | refine cN (cFd (by omega) ?_) | refine And.intro (fun hh : Option.isSome none = true => by cases hh) ?_ | refine And.intro (by omega) ?_ | refine And.intro (Eq.refl true) ?_ | refine And.intro (Eq.refl (1 : Nat)) ?_)
    refine ⟨Nat.le_trans (Nat.le_of_eq sz) (by omega), ?_⟩
    repeat ((conv => whnf) <;> first | with_reducible first | refine wI (by omega) ?_ | refine wB (by omega) ?_ | refine wR (by omega) ?_ | refine wQ (by omega) ?_ | refine And.intro rfl ?_ | rfl | refine And.intro ‹_› ?_ | refine cTe ‹_› ?_ | refine cFe ‹_› ?_ | refine cN (cTe ‹_› ?_) | refine cN (cFe ‹_› ?_) | refine cTe rfl ?_ | refine cEq ‹_› ?_ | refine cTt ?_ | refine cNt ?_ | refine cF (Eq.refl false) ?_ | refine cN (cF (Eq.refl false) ?_) | refine cTd (by omega) ?_ | refine cFd (by omega) ?_ | refine cN (cTd (by omega) ?_) | refine cN (cFd (by omega) ?_) | refine And.intro (fun hh : Option.isSome none = true => by cases hh) ?_ | refine And.intro (by omega) ?_ | refine And.intro (Eq.refl true) ?_ | refine And.intro (Eq.refl (1 : Nat)) ?_)
    (conv => whnf)
    refine ⟨_, Subs.refl' _, k + 1, ⟨by omega, zsQ ?_ hp (by omega)⟩, by show gs.length - (k + 1) < gs.length - k; omega⟩
    show (AV.agg (M.map ptA ++ [one [ptA BG]])).size / 24 = k + 1
    rw [sz]; omega
  · obtain rfl : k = gs.length := by omega
    have hg : (gs.map ptA).getD n2.toNat .any = ptA (gs.getD n2.toNat 0) := pts_getA (k := n2.toNat) (by omega)
    have hM := pts_len M
    have hset : (M.set n2.toNat (gs.getD n2.toNat 0)).map ptA = (M.map ptA).set n2.toNat (ptA (gs.getD n2.toNat 0)) := List.map_set
    have hsl : (M.set n2.toNat (gs.getD n2.toNat 0)).length = gs.length := by rw [List.length_set, rl]
    have hsg : (M.set n2.toNat (gs.getD n2.toNat 0)).getD n2.toNat 0 = gs.getD n2.toNat 0 := by rw [List.getD_eq_getElem?_getD, List.getElem?_set_self (by omega)]; rfl
    generalize gs.getD n2.toNat 0 = x at *
    generalize M.set n2.toNat x = M' at *
    repeat ((conv => whnf) <;> first | with_reducible first | refine wI (by omega) ?_ | refine wB (by omega) ?_ | refine wR (by omega) ?_ | refine wQ (by omega) ?_ | refine And.intro rfl ?_ | rfl | refine And.intro ‹_› ?_ | refine cTe ‹_› ?_ | refine cFe ‹_› ?_ | refine cN (cTe ‹_› ?_) | refine cN (cFe ‹_› ?_) | refine cTe rfl ?_ | refine cEq ‹_› ?_ | refine cTt ?_ | refine cNt ?_ | refine cF (Eq.refl false) ?_ | refine cN (cF (Eq.refl false) ?_) | refine cTd (by omega) ?_ | refine cFd (by omega) ?_ | refine cN (cTd (by omega) ?_) | refine cN (cFd (by omega) ?_) | refine And.intro (fun hh : Option.isSome none = true => by cases hh) ?_ | refine And.intro (by omega) ?_ | refine And.intro (Eq.refl true) ?_ | refine And.intro (Eq.refl (1 : Nat)) ?_)
    refine ⟨ptA x, hg, ?_⟩
    have hs' : ∀ e ∈ (M.map ptA).set n2.toNat (ptA x), e.size = 24 := by rw [← hset]; exact pts_sz _
    repeat ((conv => whnf) <;> first | with_reducible first | refine wI (by omega) ?_ | refine wB (by omega) ?_ | refine wR (by omega) ?_ | refine wQ (by omega) ?_ | refine And.intro rfl ?_ | rfl | refine And.intro ‹_› ?_ | refine cTe ‹_› ?_ | refine cFe ‹_› ?_ | refine cN (cTe ‹_› ?_) | refine cN (cFe ‹_› ?_) | refine cTe rfl ?_ | refine cEq ‹_› ?_ | refine cTt ?_ | refine cNt ?_ | refine cF (Eq.refl false) ?_ | refine cN (cF (Eq.refl false) ?_) | refine cTd (by omega) ?_ | refine cFd (by omega) ?_ | refine cN (cTd (by omega) ?_) | refine cN (cFd (by omega) ?_) | refine And.intro (fun hh : Option.isSome none = true => by cases hh) ?_ | refine And.intro (by omega) ?_ | refine And.intro (Eq.refl true) ?_ | refine And.intro (Eq.refl (1 : Nat)) ?_)
    (conv => whnf)
    refine ⟨pts_sz _, rfl, by show n2.toNat < (M.map ptA).length; omega, ?_⟩
    (conv => whnf)
    refine ⟨by show 0 < 24; omega, hs', ?_⟩
    repeat ((conv => whnf) <;> first | with_reducible first | refine wI (by omega) ?_ | refine wB (by omega) ?_ | refine wR (by omega) ?_ | refine wQ (by omega) ?_ | refine And.intro rfl ?_ | rfl | refine And.intro ‹_› ?_ | refine cTe ‹_› ?_ | refine cFe ‹_› ?_ | refine cN (cTe ‹_› ?_) | refine cN (cFe ‹_› ?_) | refine cTe rfl ?_ | refine cEq ‹_› ?_ | refine cTt ?_ | refine cNt ?_ | refine cF (Eq.refl false) ?_ | refine cN (cF (Eq.refl false) ?_) | refine cTd (by omega) ?_ | refine cFd (by omega) ?_ | refine cN (cTd (by omega) ?_) | refine cN (cFd (by omega) ?_) | refine And.intro (fun hh : Option.isSome none = true => by cases hh) ?_ | refine And.intro (by omega) ?_ | refine And.intro (Eq.refl true) ?_ | refine And.intro (Eq.refl (1 : Nat)) ?_)
    refine ⟨M', hset.symm, by omega, fun hh => absurd ⟨q1, by omega⟩ hh, fun _ _ => ?_⟩
    repeat ((conv => whnf) <;> first | with_reducible first | refine wI (by omega) ?_ | refine wB (by omega) ?_ | refine wR (by omega) ?_ | refine wQ (by omega) ?_ | refine And.intro rfl ?_ | rfl | refine And.intro ‹_› ?_ | refine cTe ‹_› ?_ | refine cFe ‹_› ?_ | refine cN (cTe ‹_› ?_) | refine cN (cFe ‹_› ?_) | refine cTe rfl ?_ | refine cEq ‹_› ?_ | refine cTt ?_ | refine cNt ?_ | refine cF (Eq.refl false) ?_ | refine cN (cF (Eq.refl false) ?_) | refine cTd (by omega) ?_ | refine cFd (by omega) ?_ | refine cN (cTd (by omega) ?_) | refine cN (cFd (by omega) ?_) | refine And.intro (fun hh : Option.isSome none = true => by cases hh) ?_ | refine And.intro (by omega) ?_ | refine And.intro (Eq.refl true) ?_ | refine And.intro (Eq.refl (1 : Nat)) ?_)
    refine ⟨ptA x, hg, ?_⟩
    repeat ((conv => whnf) <;> first | with_reducible first | refine wI (by omega) ?_ | refine wB (by omega) ?_ | refine wR (by omega) ?_ | refine wQ (by omega) ?_ | refine And.intro rfl ?_ | rfl | refine And.intro ‹_› ?_ | refine cTe ‹_› ?_ | refine cFe ‹_› ?_ | refine cN (cTe ‹_› ?_) | refine cN (cFe ‹_› ?_) | refine cTe rfl ?_ | refine cEq ‹_› ?_ | refine cTt ?_ | refine cNt ?_ | refine cF (Eq.refl false) ?_ | refine cN (cF (Eq.refl false) ?_) | refine cTd (by omega) ?_ | refine cFd (by omega) ?_ | refine cN (cTd (by omega) ?_) | refine cN (cFd (by omega) ?_) | refine And.intro (fun hh : Option.isSome none = true => by cases hh) ?_ | refine And.intro (by omega) ?_ | refine And.intro (Eq.refl true) ?_ | refine And.intro (Eq.refl (1 : Nat)) ?_)
    refine ⟨ptA x, hg, ?_⟩
    repeat ((conv => whnf) <;> first | with_reducible first | refine wI (by omega) ?_ | refine wB (by omega) ?_ | refine wR (by omega) ?_ | refine wQ (by omega) ?_ | refine And.intro rfl ?_ | rfl | refine And.intro ‹_› ?_ | refine cTe ‹_› ?_ | refine cFe ‹_› ?_ | refine cN (cTe ‹_› ?_) | refine cN (cFe ‹_› ?_) | refine cTe rfl ?_ | refine cEq ‹_› ?_ | refine cTt ?_ | refine cNt ?_ | refine cF (Eq.refl false) ?_ | refine cN (cF (Eq.refl false) ?_) | refine cTd (by omega) ?_ | refine cFd (by omega) ?_ | refine cN (cTd (by omega) ?_) | refine cN (cFd (by omega) ?_) | refine And.intro (fun hh : Option.isSome none = true => by cases hh) ?_ | refine And.intro (by omega) ?_ | refine And.intro (Eq.refl true) ?_ | refine And.intro (Eq.refl (1 : Nat)) ?_)
set_option maxRecDepth 100000 in
theorem looks_any (e1 : List (List Int × Int)) (ye1 : ∀ e ∈ e1, By e.1 ∧ I64 e.2) (v1 : Value) (n2 : Int) (r2 : I64 n2) (w : World) (s1 : Sv11 w v1 e1) : Calls Try.prog 5 #[v1, .int .i64 n2] w (OutV (.bool true) w) :=
  law_tree tcP_ok o_looks [.atom (.var 0), .atom (.var 1)] [v1, .int .i64 n2] [.sl 2 (e1.map spA), .int .i64 n2] Try.func5 rfl c_looks rfl (by intro x hx; simp only [List.mem_cons, List.not_mem_nil, or_false] at hx; rcases hx with rfl | rfl <;> first | exact ok_one rfl s1.2 | exact ok_one rfl rfl) ⟨_, _, rfl, s1.1, ⟨_, _, rfl, int_val n2, rfl⟩⟩ g_looks (aw_looks e1 ye1 n2 r2)
end Go.Proofs.Ytamgmkeoaaaliaa
