/- MultSums -/
import Derived.Test.YtpapfkihjhhjkaaGreatMle
import Derived.Test.YtpapfkihjhhjkaaGreatOpg
set_option linter.unusedSimpArgs false
set_option linter.unusedVariables false
namespace Go.Proofs.YtpapfkihjhhjkaaGreat
open Go.RowKit FdP FdP.Ch
def tSumL : Trans := fun zs Q => match zs with
 | [.sl 25 es] => (16 < es.length ∧ es.length ≤ 100000) ∧ Q (.tup [ptA 0, .int .i64 11])
 | _ => False
noncomputable def oneT (e : List Int × List Int × Int) : List Int × G := (e.1, sgG e.2.1 e.2.2)
def oneG (es : List (List Int × List Int × Int)) (k : Nat) : List Int × List Int × Int := es.getD k ([], [], 0)
theorem oneG_mem {es : List (List Int × List Int × Int)} {k : Nat} (h : k < es.length) : oneG es k ∈ es := by
 unfold oneG; rw [List.getD_eq_getElem?_getD, List.getElem?_eq_getElem h]; exact List.getElem_mem h
theorem oneG_get {es : List (List Int × List Int × Int)} {k : Nat} (h : k < es.length) : (es.map onA).getD (k : Int).toNat .any = onA (oneG es k) := by
 rw [List.getD_eq_getElem?_getD, show (k : Int).toNat = k from rfl, List.getElem?_map, List.getElem?_eq_getElem h]
 unfold oneG; rw [List.getD_eq_getElem?_getD, List.getElem?_eq_getElem h]; rfl
theorem trms_push {es : List (List Int × List Int × Int)} {k : Nat} (h : k < es.length) : ((es.take k).map oneT).map trmA ++ [trmA (oneT (oneG es k))] = ((es.take (k + 1)).map oneT).map trmA := by
 rw [List.take_add_one, List.getElem?_eq_getElem h]
 unfold oneG
 rw [List.getD_eq_getElem?_getD, List.getElem?_eq_getElem h, List.map_append, List.map_append]; rfl
theorem trm_take {es : List (List Int × List Int × Int)} {k : Nat} (h : k < es.length) : trm (es.map oneT) k = oneT (oneG es k) := by
 unfold trm oneG
 rw [List.getD_eq_getElem?_getD, List.getD_eq_getElem?_getD, List.getElem?_map, List.getElem?_eq_getElem h]; rfl
def sumI (es : List (List Int × List Int × Int)) (i : Nat) (e : Int) (w : G) : Prop :=
 (∀ j, j < i → (oneG es j).1.length ≤ 80) ∧ (((∀ j, j < i → okT (oneT (oneG es j))) ∧ e = 0 ∧ w = sumK (es.map oneT) i) ∨ (∃ j, j < i ∧ ¬ okT (oneT (oneG es j))) ∧ e = 11)
theorem sumI_ok {es : List (List Int × List Int × Int)} {i : Nat} {e : Int} {w : G} (h : sumI es i e w) (hi : i < es.length) (hl : (oneG es i).1.length ≤ 80) (ho : okT (oneT (oneG es i))) : sumI es (i + 1) e (w + mulG (nval (oneT (oneG es i)).1) (oneT (oneG es i)).2) := by
 refine ⟨fun j hj => ?_, ?_⟩
 ·by_cases e : j = i
  ·subst e; exact hl
  ·exact h.1 j (by omega)
 rcases h.2 with ⟨h1, h2, h3⟩ | ⟨⟨j, h1, h2⟩, h3⟩
 ·refine .inl ⟨fun j hj => ?_, h2, ?_⟩
  ·by_cases e : j = i
   ·subst e; exact ho
   ·exact h1 j (by omega)
  ·rw [h3, sumK, trm_take hi]
 ·exact .inr ⟨⟨j, by omega, h2⟩, h3⟩
theorem sumI_no {es : List (List Int × List Int × Int)} {i : Nat} {e : Int} {w : G} (h : sumI es i e w) (hl : (oneG es i).1.length ≤ 80) (ho : ¬ okT (oneT (oneG es i))) : sumI es (i + 1) 11 w := by
 refine ⟨fun j hj => ?_, .inr ⟨⟨i, by omega, ho⟩, rfl⟩⟩
 by_cases e : j = i
 ·subst e; exact hl
 ·exact h.1 j (by omega)
theorem ones_of {es : List (List Int × List Int × Int)} {p : List Int × G → Prop} (h : ∀ j, j < es.length → p (oneT (oneG es j))) : ∀ t ∈ es.map oneT, p t := fun t ht => by
 obtain ⟨x, hx, rfl⟩ := List.mem_map.1 ht
 obtain ⟨j, hj, rfl⟩ := List.getElem_of_mem hx
 have := h j hj
 unfold oneG at this
 rw [List.getD_eq_getElem?_getD, List.getElem?_eq_getElem hj] at this
 exact this
theorem one_in {es : List (List Int × List Int × Int)} {j : Nat} (h : j < es.length) : oneT (oneG es j) ∈ es.map oneT := List.mem_map_of_mem (oneG_mem h)
theorem trms_sz (ts : List (List Int × G)) : ∀ x ∈ ts.map trmA, x.size = 25 := fun x hx => by
 obtain ⟨t, _, rfl⟩ := List.mem_map.1 hx; rfl
theorem sz_app (es : List AV) (x : AV) : (AV.agg (es ++ [x])).size = (AV.agg es).size + x.size := by
 show AV.sizes (es ++ [x]) = AV.sizes es + x.size
 induction es with
 | nil => show x.size + 0 = 0 + x.size; omega
 | cons y es ih => show y.size + AV.sizes (es ++ [x]) = y.size + AV.sizes es + x.size; omega
theorem trms_size (ts : List (List Int × G)) (t : List Int × G) : (AV.agg (ts.map trmA ++ [trmA t])).size = 25 * ts.length + 25 := by
 rw [sz_app]
 have : ∀ ts : List (List Int × G), (AV.agg (ts.map trmA)).size = 25 * ts.length := fun ts => by
  induction ts with
  | nil => rfl
  | cons t ts ih =>
   show (trmA t).size + (AV.agg (ts.map trmA)).size = _
   rw [ih, List.length_cons]; show 25 + _ = _; omega
 rw [this]; rfl
theorem zsMs {n n' : Nat} {l l' : List AV} {w : G} {e i i' : Int} (hn : n = n') (hl : l = l') (hi : i = i') :
 [AV.row n, .agg l, .int .i64 e, .int .i64 i, .ob (.fpt w)] = [.row n', .agg l', .int .i64 e, .int .i64 i', .ob (.fpt w)] := by rw [hn, hl, hi]
def anyTr (k : Nat) (es : List AV) : Prop := es.length = k ∧ ∀ x ∈ es, x.size = 25
theorem anyTr_size : ∀ {es : List AV} {k : Nat}, anyTr k es → (AV.agg es).size = 25 * k
 | [], k, h => by obtain rfl : 0 = k := h.1; rfl
 | x :: es, k, h => by
  have h1 := h.2 x List.mem_cons_self
  have h2 := anyTr_size (es := es) (k := es.length) ⟨rfl, fun y hy => h.2 y (List.mem_cons_of_mem _ hy)⟩
  have h3 : es.length + 1 = k := h.1
  show x.size + (AV.agg es).size = _
  rw [h1, h2]; omega
theorem anyTr.push {es : List AV} {k : Nat} (h : anyTr k es) {x : AV} (hx : x.size = 25) : anyTr (k + 1) (es ++ [x]) := ⟨by rw [List.length_append, h.1]; rfl, fun y hy => by
 rcases List.mem_append.1 hy with hy | hy
 ·exact h.2 y hy
 ·rw [List.mem_singleton.1 hy]; exact hx⟩
theorem zsM2 {n n' : Nat} {l : List AV} {e : Int} (hn : n = n') : [AV.row n, .agg l, .int .i64 e] = [.row n', .agg l, .int .i64 e] := by rw [hn]
def tmM : Tab := tb_pid :: []
theorem tmM_ok : tmM.OK Tryz.prog := tab_cons tb_pid_ok <| tab_nil _
def o_suml : Orc := { ans := [(10, oV), (11, oB), (12, oA 24), (13, oA 24), (15, oV), (17, oB), (18, oV), (19, .one ⟨.leaf (.agg [.one (.var 0), .whole 1 24]), 2, []⟩), (21, oV), (22, oV), (23, oV), (24, oA 24), (25, .one ⟨.tup [.agg [.whole 0 24], .atom (.var 1)], 2, []⟩), (29, oB), (30, oA 24), (31, oA 24), (32, oA 24), (33, oV), (35, oB), (36, oA 24), (38, oA 24)], lps := [(0, [.slot 5 [.one], .slot 16 [.one], .blk 1 [.agg 24]])] }
def t_suml : Tree :=
 .new <|
 .calc (.call { callee := .builtin .len, args := #[.tmp 9], argTypes := #[47] }) 3 [(9, qv 0)] ([], []) (qv 1) 1 <|
 .calc2 (.binOp .gtr 3 (.tmp 10) (.const (.int .i64 16)) 3) 4 [(10, qv 1)] ([], []) qT 0 (
 .call 16 [] ([], []) (.leaf (.agg [.whole 2 24])) 1 [] <|
 .ret ([], []) (.tup [.agg [.whole 2 24], .atom (.const (.int .i64 11))])) qF 0 <|
 .call 16 [] ([], []) (.leaf (.agg [.whole 2 24])) 1 [] <|
 .new <|
 .calc (.call { callee := .builtin .len, args := #[.tmp 14], argTypes := #[47] }) 3 [(14, qv 0)] ([], []) (qv 3) 1 <|
 .loop [.atom (.const (.int .i64 0)), .atom (.const (.int .i64 0)), .agg [.whole 2 24]] [.one, .one, .agg 24] <|
 .calc2 (.binOp .lss 3 (.tmp 16) (.tmp 15) 3) 0 [(16, qv 5), (15, qv 3)] ([], []) qT 0 (
 .calc (.indexAddr 47 (.tmp 14) (.tmp 16)) 0 [(14, qv 0), (16, qv 5)] ([], []) (qv 7) 1 <|
 .calc (.load 52 (.tmp 18)) 52 [(18, qv 7)] ([], []) (.leaf (.agg [.one (.var 8), .whole 9 24])) 2 <|
 .new <|
 .new <|
 .call 24 [.atom (.var 8), .agg [.whole 9 24]] ([], []) (.tup [.agg [.whole 10 24], .atom (.var 11)]) 2 [] <|
 .calc2 (.binOp .neq 38 (.tmp 28) (.const (.int .i64 0)) 38) 4 [(28, qv 11)] ([], []) qT 0 (
 .calc2 (.binOp .neq 38 (.tmp 34) (.const (.int .i64 0)) 38) 4 [(34, qv 11)] ([], []) qT 0 (
 .call 16 [] ([], []) (.leaf (.agg [.whole 12 24])) 1 [] <|
 .ret ([], []) (.tup [.agg [.whole 12 24], .atom (.var 11)])) qF 0 <|
 .ret ([], []) (.tup [.agg [.whole 6 24], .atom (.const (.int .i64 0))])) qF 0 <|
 .call 26 [.agg [.whole 6 24], .agg [.whole 10 24]] ([], []) (.leaf (.agg [.whole 12 24])) 1 [] <|
 .calc (.binOp .add 3 (.tmp 16) (.const (.int .i64 1)) 3) 3 [(16, qv 5)] ([], []) (qv 13) 1 <|
 .again 0 [.atom (.var 11), .atom (.var 13), .agg [.whole 12 24]]) qF 0 <|
 .calc2 (.binOp .neq 38 (.tmp 34) (.const (.int .i64 0)) 38) 4 [(34, qv 4)] ([], []) qT 0 (
 .call 16 [] ([], []) (.leaf (.agg [.whole 7 24])) 1 [] <|
 .ret ([], []) (.tup [.agg [.whole 7 24], .atom (.var 4)])) qF 0 <|
 .ret ([], []) (.tup [.agg [.whole 6 24], .atom (.const (.int .i64 0))])
theorem c_suml : compF Tryz.prog Tryz.f17 o_suml (Tryz.f17.body.getD .skip) (symIn [.atom (.var 0)] Tryz.f17.ntmps 1) = some t_suml := by kernel_rfl
theorem g_suml : goodC Tryz.prog o_suml.ords (Tryz.f17.body.getD .skip) = true := by kernel_rfl
def tb_suml : FuncId × Trans := (17, tSumL)
set_option maxRecDepth 100000 in
theorem aw_suml : ∀ zs Q, tb_suml.2 zs Q → bindLs 0 [.atom (.var 0)] zs fun ae => bif Nat.beq ae.length 1 then AWp Tryz.prog tmM Q t_suml [] ae else False := by
 intro zs Q h
 replace h : tSumL zs Q := h
 unfold tSumL at h
 split at h
 case h_2 => exact h.elim
 rename_i es
 obtain ⟨⟨h1, h2⟩, h⟩ := h
 repeat ((conv => whnf) <;> first | with_reducible first | refine wI (by omega) ?_ | refine And.intro rfl ?_ | rfl | refine And.intro ‹_› ?_ | refine cTe ‹_› ?_ | refine cFe ‹_› ?_ | refine cN (cTe ‹_› ?_) | refine cN (cFe ‹_› ?_) | refine cTe rfl ?_ | refine cEq ‹_› ?_ | refine cTt ?_ | refine cNt ?_ | refine cF (Eq.refl false) ?_ | refine cN (cF (Eq.refl false) ?_) | refine cTd (by omega) ?_ | refine cFd (by omega) ?_ | refine cN (cTd (by omega) ?_) | refine cN (cFd (by omega) ?_) | refine And.intro (by omega) ?_ | refine And.intro (Eq.refl true) ?_)
 (conv => whnf)
 exact h
theorem tb_suml_ok : Con Tryz.prog tb_suml.1 tb_suml.2 := con_tree tmM_ok o_suml [.atom (.var 0)] 1 Tryz.func17 rfl c_suml aw_suml g_suml
def tmN : Tab := tb_awake12 :: tb_made11 :: tb_summ :: tb_wrong :: tb_rptimes :: tb_rpadd :: tb_rpid :: tb_pid :: tb_same11 :: []
theorem tmN_ok : tmN.OK Tryz.prog := tab_cons tb_awake12_ok <| tab_cons tb_made11_ok <| tab_cons tb_summ_ok <| tab_cons tb_wrong_ok <| tab_cons tb_rptimes_ok <| tab_cons tb_rpadd_ok <| tab_cons tb_rpid_ok <| tab_cons tb_pid_ok <| tab_cons tb_same11_ok <| tab_nil _
def o_multsumsF : Orc := { ans := [(15, oV), (16, oB), (17, oB), (18, oA 48), (21, oV), (22, oB), (28, oV), (29, oV), (30, .one ⟨.leaf (.agg [.one (.var 0), .one (.var 1)]), 2, []⟩), (31, .two ⟨.tup [.agg [.whole 0 24], .agg [.whole 1 48], .atom (.const (.bool true))], 2, []⟩ ⟨.tup [.agg [.whole 0 24], .agg [.whole 1 48], .atom (.const (.bool false))], 2, []⟩), (36, oV), (40, oV), (41, oV), (42, oV), (43, oV), (44, oB), (45, oV), (46, oB), (50, oV), (51, oV), (52, oV), (53, oA 24), (56, oV), (59, oV), (60, oV), (61, oV), (62, oV), (63, oB), (64, oA 48), (67, oV), (68, oV), (69, oV), (70, oA 48), (71, oA 48), (72, oA 48), (24, oV), (76, oV), (77, oB), (78, oV), (81, oA 24), (84, oV), (87, .one ⟨.tup [.agg [.whole 0 24], .atom (.var 1)], 2, []⟩), (91, oB), (94, oB), (96, oB), (97, oV), (99, oB), (101, oA 24), (102, oA 48), (103, oB), (104, oV), (106, oB), (107, oV)], lps := [(0, [.row 5 52 25, .slot 7 [.one], .slot 8 [.one], .blk 0 [.agg 48]]), (2, [.row 5 52 25, .slot 7 [.one]])], ords := [(12, [.pure 0, .pure 1, .pure 2, .quiet 3, .quiet 4, .quiet 5, .quiet 6, .pure 7, .make 8 [], .last 9, .last 10]), (15, [.quiet 0, .pure 1, .pure 2, .quiet 3, .quiet 4, .quiet 5, .quiet 6, .call 7 [], .call 8 [], .last 9])], rws := [80] }
def t_multsumsF : Tree :=
 .calc (.call { callee := .builtin .len, args := #[.tmp 14], argTypes := #[46] }) 3 [(14, qv 0)] ([], []) (qv 1) 1 <|
 .calc2 (.binOp .gtr 3 (.tmp 15) (.const (.int .i64 5)) 3) 4 [(15, qv 1)] ([], []) qT 0 (
 .call2 7 [] ([], []) qT 0 [] (
 .ret ([], []) qT) qF 0 [] <|
 .ret ([], []) qF) qF 0 <|
 .call 13 [] ([], []) (.leaf (.agg [.whole 2 48])) 1 [] <|
 .new <|
 .loop [.atom (.const (.slice none 0 0)), .agg [], .atom (.const (.int .i64 0)), .atom (.const (.int .i64 0)), .agg [.whole 2 48]] [.one, .row, .one, .one, .agg 48] <|
 .calc (.call { callee := .builtin .len, args := #[.tmp 20], argTypes := #[46] }) 3 [(20, qv 0)] ([], []) (qv 8) 1 <|
 .calc2 (.binOp .lss 3 (.tmp 19) (.tmp 21) 3) 4 [(19, qv 6), (21, qv 8)] ([], []) qT 0 (
 .calc (.indexAddr 46 (.tmp 26) (.tmp 27)) 0 [(26, qv 0), (27, qv 6)] ([], []) (qv 9) 1 <|
 .calc (.fieldAddr 50 (.tmp 28) 1) 0 [(28, qv 9)] ([], []) (qv 10) 1 <|
 .calc (.load 24 (.tmp 29)) 24 [(29, qv 10)] ([], []) (.leaf (.agg [.one (.var 11), .one (.var 12)])) 2 <|
 .call2 6 [.agg [.one (.var 11), .one (.var 12)]] ([], []) (.tup [.agg [.whole 13 24], .agg [.whole 14 48], .atom (.const (.bool true))]) 2 [] (
 .new <|
 .new <|
 .calc (.indexAddr 46 (.tmp 38) (.tmp 39)) 0 [(38, qv 0), (39, qv 6)] ([], []) (qv 15) 1 <|
 .calc (.fieldAddr 50 (.tmp 40) 0) 0 [(40, qv 15)] ([], []) (qv 16) 1 <|
 .calc (.load 22 (.tmp 41)) 22 [(41, qv 16)] ([], []) (qv 17) 1 <|
 .calc (.call { callee := .builtin .len, args := #[.tmp 42], argTypes := #[22] }) 3 [(42, qv 17)] ([], []) (qv 18) 1 <|
 .calc2 (.binOp .gtr 3 (.tmp 43) (.const (.int .i64 80)) 3) 4 [(43, qv 18)] ([], []) qT 0 (
 .call2 7 [] ([], []) qT 0 [] (
 .ret ([], []) qT) qF 0 [] <|
 .ret ([], []) qF) qF 0 <|
 .calc (.indexAddr 46 (.tmp 48) (.tmp 49)) 0 [(48, qv 0), (49, qv 6)] ([], []) (qv 19) 1 <|
 .calc (.fieldAddr 50 (.tmp 50) 0) 0 [(50, qv 19)] ([], []) (qv 20) 1 <|
 .calc (.load 22 (.tmp 51)) 22 [(51, qv 20)] ([], []) (qv 21) 1 <|
 .new <|
 .app (some 4) [.one (.var 21), .whole 13 24] 25 <|
 .calc (.indexAddr 46 (.tmp 57) (.tmp 58)) 0 [(57, qv 0), (58, qv 6)] ([], []) (qv 24) 1 <|
 .calc (.fieldAddr 50 (.tmp 59) 0) 0 [(59, qv 24)] ([], []) (qv 25) 1 <|
 .calc (.load 22 (.tmp 60)) 22 [(60, qv 25)] ([], []) (qv 26) 1 <|
 .call 14 [.atom (.var 26)] ([], []) (qv 27) 1 [] <|
 .calc2 (.binOp .neq 38 (.tmp 62) (.const (.int .i64 0)) 38) 4 [(62, qv 27)] ([], []) qT 0 (
 .calc (.binOp .add 3 (.tmp 23) (.const (.int .i64 1)) 3) 3 [(23, qv 6)] ([], []) (qv 28) 1 <|
 .again 0 [.atom (.var 22), .agg [.rest 23], .atom (.const (.int .i64 11)), .atom (.var 28), .agg [.whole 7 48]]) qF 0 <|
 .calc (.indexAddr 46 (.tmp 65) (.tmp 66)) 0 [(65, qv 0), (66, qv 6)] ([], []) (qv 28) 1 <|
 .calc (.fieldAddr 50 (.tmp 67) 0) 0 [(67, qv 28)] ([], []) (qv 29) 1 <|
 .calc (.load 22 (.tmp 68)) 22 [(68, qv 29)] ([], []) (qv 30) 1 <|
 .call 11 [.atom (.var 30), .agg [.whole 14 48]] ([], []) (.leaf (.agg [.whole 31 48])) 1 [] <|
 .call 15 [.agg [.whole 7 48], .agg [.whole 31 48]] ([], []) (.leaf (.agg [.whole 32 48])) 1 [] <|
 .calc (.binOp .add 3 (.tmp 23) (.const (.int .i64 1)) 3) 3 [(23, qv 6)] ([], []) (qv 33) 1 <|
 .again 0 [.atom (.var 22), .agg [.rest 23], .atom (.var 5), .atom (.var 33), .agg [.whole 32 48]]) (.tup [.agg [.whole 13 24], .agg [.whole 14 48], .atom (.const (.bool false))]) 2 [] <|
 .new <|
 .new <|
 .call2 7 [] ([], []) qT 0 [] (
 .ret ([], []) qT) qF 0 [] <|
 .ret ([], []) qF) qF 0 <|
 .loop [.atom (.var 3), .agg [.rest 4], .atom (.var 5)] [.one, .row, .one] <|
 .frz 9 10 ([([.whole 7 48], 34)], [⟨9, 10, 52, 25⟩]) <|
 .call 17 [.atom (.var 9)] ([], []) (.tup [.agg [.whole 12 24], .atom (.var 13)]) 2 [] <|
 .new <|
 .calc2 (.binOp .neq 38 (.tmp 90) (.const (.int .i64 0)) 38) 4 [(90, qv 11)] ([], []) qT 0 (
 .calc2 (.binOp .eql 38 (.tmp 92) (.tmp 93) 38) 4 [(92, qv 13), (93, qv 11)] ([], []) qT 0 (
 .call2 7 [] ([], []) qT 0 [] (
 .ret ([], []) qT) qF 0 [] <|
 .ret ([], []) qF) qF 0 <|
 .ret ([], []) qF) qF 0 <|
 .calc2 (.binOp .eql 38 (.tmp 98) (.const (.int .i64 0)) 38) 4 [(98, qv 13)] ([], []) qT 0 (
 .call2 10 [.agg [.whole 12 24], .agg [.whole 7 48]] ([], []) qT 0 [] (
 .call2 7 [] ([], []) qT 0 [] (
 .ret ([], []) qT) qF 0 [] <|
 .ret ([], []) qF) qF 0 [] <|
 .ret ([], []) qF) qF 0 <|
 .ret ([], []) qF
theorem c_multsumsF : compF Tryz.prog Tryz.f4 o_multsumsF (Tryz.f4.body.getD .skip) (symIn [.atom (.var 0), .atom (.const (.bool false))] Tryz.f4.ntmps 1) = some t_multsumsF := by kernel_rfl
theorem g_multsumsF : goodC Tryz.prog o_multsumsF.ords (Tryz.f4.body.getD .skip) = true := by kernel_rfl
set_option maxRecDepth 100000 in
set_option maxHeartbeats 1000000 in
theorem aw_multsumsF (e1 : List (List Int × List Int × Int)) (ye1 : ∀ e ∈ e1, By e.1 ∧ By e.2.1 ∧ I64 e.2.2) : AWp Tryz.prog tmN (fun a => a = .bool true) t_multsumsF [] [.sl 3 (e1.map onA)] := by
 have hll : (e1.map onA).length = e1.length := List.length_map _
 by_cases a1 : (e1.length : Int) > 5
 ·repeat ((conv => whnf) <;> first | with_reducible first | refine wI (by omega) ?_ | refine wB (by omega) ?_ | refine And.intro rfl ?_ | rfl | refine And.intro ‹_› ?_ | refine cTe ‹_› ?_ | refine cFe ‹_› ?_ | refine cN (cTe ‹_› ?_) | refine cN (cFe ‹_› ?_) | refine cTe rfl ?_ | refine cEq ‹_› ?_ | refine cTt ?_ | refine cNt ?_ | refine cF (Eq.refl false) ?_ | refine cN (cF (Eq.refl false) ?_) | refine cTd (by omega) ?_ | refine cFd (by omega) ?_ | refine cN (cTd (by omega) ?_) | refine cN (cFd (by omega) ?_) | refine And.intro (fun hh : Option.isSome none = true => by cases hh) ?_ | refine And.intro (by omega) ?_ | refine And.intro (Eq.refl true) ?_ | refine And.intro (Eq.refl (1 : Nat)) ?_)
 repeat ((conv => whnf) <;> first | with_reducible first | refine wI (by omega) ?_ | refine wB (by omega) ?_ | refine And.intro rfl ?_ | rfl | refine And.intro ‹_› ?_ | refine cTe ‹_› ?_ | refine cFe ‹_› ?_ | refine cN (cTe ‹_› ?_) | refine cN (cFe ‹_› ?_) | refine cTe rfl ?_ | refine cEq ‹_› ?_ | refine cTt ?_ | refine cNt ?_ | refine cF (Eq.refl false) ?_ | refine cN (cF (Eq.refl false) ?_) | refine cTd (by omega) ?_ | refine cFd (by omega) ?_ | refine cN (cTd (by omega) ?_) | refine cN (cFd (by omega) ?_) | refine And.intro (fun hh : Option.isSome none = true => by cases hh) ?_ | refine And.intro (by omega) ?_ | refine And.intro (Eq.refl true) ?_ | refine And.intro (Eq.refl (1 : Nat)) ?_)
 refine ⟨Nat × Int × G, fun s zs => s.1 ≤ e1.length ∧ sumI e1 s.1 s.2.1 s.2.2 ∧ zs = [.row s.1, .agg (((e1.take s.1).map oneT).map trmA), .int .i64 s.2.1, .int .i64 (s.1 : Int), .ob (.fpt s.2.2)], fun s => e1.length - s.1, (0, 0, 0), ?_, ?_⟩
 ·(conv => whnf)
  exact ⟨[.row 0, .agg [], .int .i64 0, .int .i64 0, .ob (.fpt 0)], ⟨sub_row0, Sub.refl' _, Sub.refl' _, Sub.refl' _, Sub.refl' _, trivial⟩, Nat.zero_le _, ⟨fun j hj => absurd hj (by show ¬ j < 0; omega), .inl ⟨fun j hj => absurd hj (by show ¬ j < 0; omega), rfl, rfl⟩⟩, rfl⟩
 rintro ⟨i, e, w⟩ _ ⟨hi, hs, rfl⟩
 replace hi : i ≤ e1.length := hi
 replace hs : sumI e1 i e w := hs
 by_cases hlt : i < e1.length
 ·have hg := oneG_get hlt
  have hm := ye1 _ (oneG_mem hlt)
  have hpu := trms_push hlt
  have hsl : ((e1.take i).map oneT).length = i := by rw [List.length_map, List.length_take]; omega
  have h1 := sumI_ok hs hlt
  have h2 := sumI_no hs
  have sz := trms_size ((e1.take i).map oneT) (oneT (oneG e1 i))
  generalize oneG e1 i = x at *
  generalize (e1.take i).map oneT = M at *
  obtain ⟨a, b, n⟩ := x
  replace hm : By a ∧ By b ∧ I64 n := hm
  have hmb := hm.2.1
  repeat ((conv => whnf) <;> first | with_reducible first | refine wI (by omega) ?_ | refine wB (by omega) ?_ | refine And.intro rfl ?_ | rfl | refine And.intro ‹_› ?_ | refine cTe ‹_› ?_ | refine cFe ‹_› ?_ | refine cN (cTe ‹_› ?_) | refine cN (cFe ‹_› ?_) | refine cTe rfl ?_ | refine cEq ‹_› ?_ | refine cTt ?_ | refine cNt ?_ | refine cF (Eq.refl false) ?_ | refine cN (cF (Eq.refl false) ?_) | refine cTd (by omega) ?_ | refine cFd (by omega) ?_ | refine cN (cTd (by omega) ?_) | refine cN (cFd (by omega) ?_) | refine And.intro (fun hh : Option.isSome none = true => by cases hh) ?_ | refine And.intro (by omega) ?_ | refine And.intro (Eq.refl true) ?_ | refine And.intro (Eq.refl (1 : Nat)) ?_)
  refine ⟨_, hg, ?_⟩
  repeat ((conv => whnf) <;> first | with_reducible first | refine wI (by omega) ?_ | refine wB (by omega) ?_ | refine And.intro rfl ?_ | rfl | refine And.intro ‹_› ?_ | refine cTe ‹_› ?_ | refine cFe ‹_› ?_ | refine cN (cTe ‹_› ?_) | refine cN (cFe ‹_› ?_) | refine cTe rfl ?_ | refine cEq ‹_› ?_ | refine cTt ?_ | refine cNt ?_ | refine cF (Eq.refl false) ?_ | refine cN (cF (Eq.refl false) ?_) | refine cTd (by omega) ?_ | refine cFd (by omega) ?_ | refine cN (cTd (by omega) ?_) | refine cN (cFd (by omega) ?_) | refine And.intro (fun hh : Option.isSome none = true => by cases hh) ?_ | refine And.intro (by omega) ?_ | refine And.intro (Eq.refl true) ?_ | refine And.intro (Eq.refl (1 : Nat)) ?_)
  refine ⟨fun hh => ?_, fun q1 q2 q3 => ?_⟩
  ·repeat ((conv => whnf) <;> first | with_reducible first | refine wI (by omega) ?_ | refine wB (by omega) ?_ | refine And.intro rfl ?_ | rfl | refine And.intro ‹_› ?_ | refine cTe ‹_› ?_ | refine cFe ‹_› ?_ | refine cN (cTe ‹_› ?_) | refine cN (cFe ‹_› ?_) | refine cTe rfl ?_ | refine cEq ‹_› ?_ | refine cTt ?_ | refine cNt ?_ | refine cF (Eq.refl false) ?_ | refine cN (cF (Eq.refl false) ?_) | refine cTd (by omega) ?_ | refine cFd (by omega) ?_ | refine cN (cTd (by omega) ?_) | refine cN (cFd (by omega) ?_) | refine And.intro (fun hh : Option.isSome none = true => by cases hh) ?_ | refine And.intro (by omega) ?_ | refine And.intro (Eq.refl true) ?_ | refine And.intro (Eq.refl (1 : Nat)) ?_)
  repeat ((conv => whnf) <;> first | with_reducible first | refine wI (by omega) ?_ | refine wB (by omega) ?_ | refine And.intro rfl ?_ | rfl | refine And.intro ‹_› ?_ | refine cTe ‹_› ?_ | refine cFe ‹_› ?_ | refine cN (cTe ‹_› ?_) | refine cN (cFe ‹_› ?_) | refine cTe rfl ?_ | refine cEq ‹_› ?_ | refine cTt ?_ | refine cNt ?_ | refine cF (Eq.refl false) ?_ | refine cN (cF (Eq.refl false) ?_) | refine cTd (by omega) ?_ | refine cFd (by omega) ?_ | refine cN (cTd (by omega) ?_) | refine cN (cFd (by omega) ?_) | refine And.intro (fun hh : Option.isSome none = true => by cases hh) ?_ | refine And.intro (by omega) ?_ | refine And.intro (Eq.refl true) ?_ | refine And.intro (Eq.refl (1 : Nat)) ?_)
  refine ⟨_, hg, ?_⟩
  by_cases a2 : (a.length : Int) > 80
  ·repeat ((conv => whnf) <;> first | with_reducible first | refine wI (by omega) ?_ | refine wB (by omega) ?_ | refine And.intro rfl ?_ | rfl | refine And.intro ‹_› ?_ | refine cTe ‹_› ?_ | refine cFe ‹_› ?_ | refine cN (cTe ‹_› ?_) | refine cN (cFe ‹_› ?_) | refine cTe rfl ?_ | refine cEq ‹_› ?_ | refine cTt ?_ | refine cNt ?_ | refine cF (Eq.refl false) ?_ | refine cN (cF (Eq.refl false) ?_) | refine cTd (by omega) ?_ | refine cFd (by omega) ?_ | refine cN (cTd (by omega) ?_) | refine cN (cFd (by omega) ?_) | refine And.intro (fun hh : Option.isSome none = true => by cases hh) ?_ | refine And.intro (by omega) ?_ | refine And.intro (Eq.refl true) ?_ | refine And.intro (Eq.refl (1 : Nat)) ?_)
  have hl : a.length ≤ 80 := by omega
  have m1 : a.length ≤ 1000 ∧ By a := ⟨by omega, hm.1⟩
  have m2 : a.length ≤ 100000 := by omega
  have h1 := h1 hl
  have h2 := h2 hl
  repeat ((conv => whnf) <;> first | with_reducible first | refine wI (by omega) ?_ | refine wB (by omega) ?_ | refine And.intro rfl ?_ | rfl | refine And.intro ‹_› ?_ | refine cTe ‹_› ?_ | refine cFe ‹_› ?_ | refine cN (cTe ‹_› ?_) | refine cN (cFe ‹_› ?_) | refine cTe rfl ?_ | refine cEq ‹_› ?_ | refine cTt ?_ | refine cNt ?_ | refine cF (Eq.refl false) ?_ | refine cN (cF (Eq.refl false) ?_) | refine cTd (by omega) ?_ | refine cFd (by omega) ?_ | refine cN (cTd (by omega) ?_) | refine cN (cFd (by omega) ?_) | refine And.intro (fun hh : Option.isSome none = true => by cases hh) ?_ | refine And.intro (by omega) ?_ | refine And.intro (Eq.refl true) ?_ | refine And.intro (Eq.refl (1 : Nat)) ?_)
  refine ⟨_, hg, ?_⟩
  repeat ((conv => whnf) <;> first | with_reducible first | refine wI (by omega) ?_ | refine wB (by omega) ?_ | refine And.intro rfl ?_ | rfl | refine And.intro ‹_› ?_ | refine cTe ‹_› ?_ | refine cFe ‹_› ?_ | refine cN (cTe ‹_› ?_) | refine cN (cFe ‹_› ?_) | refine cTe rfl ?_ | refine cEq ‹_› ?_ | refine cTt ?_ | refine cNt ?_ | refine cF (Eq.refl false) ?_ | refine cN (cF (Eq.refl false) ?_) | refine cTd (by omega) ?_ | refine cFd (by omega) ?_ | refine cN (cTd (by omega) ?_) | refine cN (cFd (by omega) ?_) | refine And.intro (fun hh : Option.isSome none = true => by cases hh) ?_ | refine And.intro (by omega) ?_ | refine And.intro (Eq.refl true) ?_ | refine And.intro (Eq.refl (1 : Nat)) ?_)
  refine ⟨Nat.le_trans (Nat.le_of_eq sz) (by omega), ?_⟩
  have szd : (AV.agg (M.map trmA ++ [trmA (oneT (a, b, n))])).size / 25 = i + 1 := by rw [sz]; omega
  repeat ((conv => whnf) <;> first | with_reducible first | refine wI (by omega) ?_ | refine wB (by omega) ?_ | refine And.intro rfl ?_ | rfl | refine And.intro ‹_› ?_ | refine cTe ‹_› ?_ | refine cFe ‹_› ?_ | refine cN (cTe ‹_› ?_) | refine cN (cFe ‹_› ?_) | refine cTe rfl ?_ | refine cEq ‹_› ?_ | refine cTt ?_ | refine cNt ?_ | refine cF (Eq.refl false) ?_ | refine cN (cF (Eq.refl false) ?_) | refine cTd (by omega) ?_ | refine cFd (by omega) ?_ | refine cN (cTd (by omega) ?_) | refine cN (cFd (by omega) ?_) | refine And.intro (fun hh : Option.isSome none = true => by cases hh) ?_ | refine And.intro (by omega) ?_ | refine And.intro (Eq.refl true) ?_ | refine And.intro (Eq.refl (1 : Nat)) ?_)
  refine ⟨_, hg, ?_⟩
  by_cases a3 : 1 ≤ a.length ∧ a.length ≤ 64
  ·have h1 := h1 a3
   repeat ((conv => whnf) <;> first | with_reducible first | refine wI (by omega) ?_ | refine wB (by omega) ?_ | refine And.intro rfl ?_ | rfl | refine And.intro ‹_› ?_ | refine cTe ‹_› ?_ | refine cFe ‹_› ?_ | refine cN (cTe ‹_› ?_) | refine cN (cFe ‹_› ?_) | refine cTe rfl ?_ | refine cEq ‹_› ?_ | refine cTt ?_ | refine cNt ?_ | refine cF (Eq.refl false) ?_ | refine cN (cF (Eq.refl false) ?_) | refine cTd (by omega) ?_ | refine cFd (by omega) ?_ | refine cN (cTd (by omega) ?_) | refine cN (cFd (by omega) ?_) | refine And.intro (fun hh : Option.isSome none = true => by cases hh) ?_ | refine And.intro (by omega) ?_ | refine And.intro (Eq.refl true) ?_ | refine And.intro (Eq.refl (1 : Nat)) ?_)
   refine ⟨fun hh => absurd a3 hh, fun _ _ => ?_⟩
   repeat ((conv => whnf) <;> first | with_reducible first | refine wI (by omega) ?_ | refine wB (by omega) ?_ | refine And.intro rfl ?_ | rfl | refine And.intro ‹_› ?_ | refine cTe ‹_› ?_ | refine cFe ‹_› ?_ | refine cN (cTe ‹_› ?_) | refine cN (cFe ‹_› ?_) | refine cTe rfl ?_ | refine cEq ‹_› ?_ | refine cTt ?_ | refine cNt ?_ | refine cF (Eq.refl false) ?_ | refine cN (cF (Eq.refl false) ?_) | refine cTd (by omega) ?_ | refine cFd (by omega) ?_ | refine cN (cTd (by omega) ?_) | refine cN (cFd (by omega) ?_) | refine And.intro (fun hh : Option.isSome none = true => by cases hh) ?_ | refine And.intro (by omega) ?_ | refine And.intro (Eq.refl true) ?_ | refine And.intro (Eq.refl (1 : Nat)) ?_)
   refine ⟨_, hg, ?_⟩
   repeat ((conv => whnf) <;> first | with_reducible first | refine wI (by omega) ?_ | refine wB (by omega) ?_ | refine And.intro rfl ?_ | rfl | refine And.intro ‹_› ?_ | refine cTe ‹_› ?_ | refine cFe ‹_› ?_ | refine cN (cTe ‹_› ?_) | refine cN (cFe ‹_› ?_) | refine cTe rfl ?_ | refine cEq ‹_› ?_ | refine cTt ?_ | refine cNt ?_ | refine cF (Eq.refl false) ?_ | refine cN (cF (Eq.refl false) ?_) | refine cTd (by omega) ?_ | refine cFd (by omega) ?_ | refine cN (cTd (by omega) ?_) | refine cN (cFd (by omega) ?_) | refine And.intro (fun hh : Option.isSome none = true => by cases hh) ?_ | refine And.intro (by omega) ?_ | refine And.intro (Eq.refl true) ?_ | refine And.intro (Eq.refl (1 : Nat)) ?_)
   (conv => whnf)
   exact ⟨_, Subs.refl' _, (i + 1, e, w + mulG (nval a) (sgG b n)), ⟨hlt, h1, zsMs szd hpu (by show (i : Int) + 1 = ((i + 1 : Nat) : Int); omega)⟩, by show e1.length - (i + 1) < e1.length - i; omega⟩
  ·have h2 := h2 a3
   repeat ((conv => whnf) <;> first | with_reducible first | refine wI (by omega) ?_ | refine wB (by omega) ?_ | refine And.intro rfl ?_ | rfl | refine And.intro ‹_› ?_ | refine cTe ‹_› ?_ | refine cFe ‹_› ?_ | refine cN (cTe ‹_› ?_) | refine cN (cFe ‹_› ?_) | refine cTe rfl ?_ | refine cEq ‹_› ?_ | refine cTt ?_ | refine cNt ?_ | refine cF (Eq.refl false) ?_ | refine cN (cF (Eq.refl false) ?_) | refine cTd (by omega) ?_ | refine cFd (by omega) ?_ | refine cN (cTd (by omega) ?_) | refine cN (cFd (by omega) ?_) | refine And.intro (fun hh : Option.isSome none = true => by cases hh) ?_ | refine And.intro (by omega) ?_ | refine And.intro (Eq.refl true) ?_ | refine And.intro (Eq.refl (1 : Nat)) ?_)
   refine ⟨fun _ => ?_, fun q1 q2 => absurd ⟨q1, q2⟩ a3⟩
   repeat ((conv => whnf) <;> first | with_reducible first | refine wI (by omega) ?_ | refine wB (by omega) ?_ | refine And.intro rfl ?_ | rfl | refine And.intro ‹_› ?_ | refine cTe ‹_› ?_ | refine cFe ‹_› ?_ | refine cN (cTe ‹_› ?_) | refine cN (cFe ‹_› ?_) | refine cTe rfl ?_ | refine cEq ‹_› ?_ | refine cTt ?_ | refine cNt ?_ | refine cF (Eq.refl false) ?_ | refine cN (cF (Eq.refl false) ?_) | refine cTd (by omega) ?_ | refine cFd (by omega) ?_ | refine cN (cTd (by omega) ?_) | refine cN (cFd (by omega) ?_) | refine And.intro (fun hh : Option.isSome none = true => by cases hh) ?_ | refine And.intro (by omega) ?_ | refine And.intro (Eq.refl true) ?_ | refine And.intro (Eq.refl (1 : Nat)) ?_)
   (conv => whnf)
   exact ⟨_, Subs.refl' _, (i + 1, 11, w), ⟨hlt, h2, zsMs szd hpu (by show (i : Int) + 1 = ((i + 1 : Nat) : Int); omega)⟩, by show e1.length - (i + 1) < e1.length - i; omega⟩
 obtain rfl : i = e1.length := by omega
 repeat ((conv => whnf) <;> first | with_reducible first | refine wI (by omega) ?_ | refine wB (by omega) ?_ | refine And.intro rfl ?_ | rfl | refine And.intro ‹_› ?_ | refine cTe ‹_› ?_ | refine cFe ‹_› ?_ | refine cN (cTe ‹_› ?_) | refine cN (cFe ‹_› ?_) | refine cTe rfl ?_ | refine cEq ‹_› ?_ | refine cTt ?_ | refine cNt ?_ | refine cF (Eq.refl false) ?_ | refine cN (cF (Eq.refl false) ?_) | refine cTd (by omega) ?_ | refine cFd (by omega) ?_ | refine cN (cTd (by omega) ?_) | refine cN (cFd (by omega) ?_) | refine And.intro (fun hh : Option.isSome none = true => by cases hh) ?_ | refine And.intro (by omega) ?_ | refine And.intro (Eq.refl true) ?_ | refine And.intro (Eq.refl (1 : Nat)) ?_)
 refine ⟨Unit, fun _ zs => zs = [.row e1.length, .agg ((e1.map oneT).map trmA), .int .i64 e], fun _ => 0, (), ?_, ?_⟩
 ·(conv => whnf)
  refine ⟨_, Subs.refl' _, ?_⟩
  show [AV.row e1.length, .agg (((e1.take e1.length).map oneT).map trmA), .int .i64 e] = _
  rw [List.take_length]
 rintro _ _ rfl
 have hml : (e1.map oneT).length = e1.length := List.length_map _
 have hok := ones_of (es := e1) (p := okT)
 repeat ((conv => whnf) <;> first | with_reducible first | refine wI (by omega) ?_ | refine wB (by omega) ?_ | refine And.intro rfl ?_ | rfl | refine And.intro ‹_› ?_ | refine cTe ‹_› ?_ | refine cFe ‹_› ?_ | refine cN (cTe ‹_› ?_) | refine cN (cFe ‹_› ?_) | refine cTe rfl ?_ | refine cEq ‹_› ?_ | refine cTt ?_ | refine cNt ?_ | refine cF (Eq.refl false) ?_ | refine cN (cF (Eq.refl false) ?_) | refine cTd (by omega) ?_ | refine cFd (by omega) ?_ | refine cN (cTd (by omega) ?_) | refine cN (cFd (by omega) ?_) | refine And.intro (fun hh : Option.isSome none = true => by cases hh) ?_ | refine And.intro (by omega) ?_ | refine And.intro (Eq.refl true) ?_ | refine And.intro (Eq.refl (1 : Nat)) ?_)
 refine ⟨by show 0 < 25; omega, trms_sz _, ?_⟩
 repeat ((conv => whnf) <;> first | with_reducible first | refine wI (by omega) ?_ | refine wB (by omega) ?_ | refine And.intro rfl ?_ | rfl | refine And.intro ‹_› ?_ | refine cTe ‹_› ?_ | refine cFe ‹_› ?_ | refine cN (cTe ‹_› ?_) | refine cN (cFe ‹_› ?_) | refine cTe rfl ?_ | refine cEq ‹_› ?_ | refine cTt ?_ | refine cNt ?_ | refine cF (Eq.refl false) ?_ | refine cN (cF (Eq.refl false) ?_) | refine cTd (by omega) ?_ | refine cFd (by omega) ?_ | refine cN (cTd (by omega) ?_) | refine cN (cFd (by omega) ?_) | refine And.intro (fun hh : Option.isSome none = true => by cases hh) ?_ | refine And.intro (by omega) ?_ | refine And.intro (Eq.refl true) ?_ | refine And.intro (Eq.refl (1 : Nat)) ?_)
 refine ⟨e1.map oneT, rfl, fun t ht => ?_, by omega, fun hh => absurd hh (by omega), fun _ hall => ?_, fun _ t ht hno => ?_⟩
 ·refine ones_of (p := fun t => By t.1 ∧ t.1.length ≤ 100000) (fun j hj => ?_) t ht
  have := hs.1 j hj
  exact ⟨(ye1 _ (oneG_mem hj)).1, by show (oneG e1 j).1.length ≤ 100000; omega⟩
 ·obtain ⟨e0, w0⟩ : e = 0 ∧ w = sumK (e1.map oneT) (e1.map oneT).length := by
   rcases hs.2 with ⟨_, e0, w0⟩ | ⟨⟨j, hj, hn⟩, _⟩
   ·exact ⟨e0, by rw [hml]; exact w0⟩
   ·exact absurd (hall _ (one_in hj)) hn
  subst e0
  rw [w0]
  repeat ((conv => whnf) <;> first | with_reducible first | refine wI (by omega) ?_ | refine wB (by omega) ?_ | refine And.intro rfl ?_ | rfl | refine And.intro ‹_› ?_ | refine cTe ‹_› ?_ | refine cFe ‹_› ?_ | refine cN (cTe ‹_› ?_) | refine cN (cFe ‹_› ?_) | refine cTe rfl ?_ | refine cEq ‹_› ?_ | refine cTt ?_ | refine cNt ?_ | refine cF (Eq.refl false) ?_ | refine cN (cF (Eq.refl false) ?_) | refine cTd (by omega) ?_ | refine cFd (by omega) ?_ | refine cN (cTd (by omega) ?_) | refine cN (cFd (by omega) ?_) | refine And.intro (fun hh : Option.isSome none = true => by cases hh) ?_ | refine And.intro (by omega) ?_ | refine And.intro (Eq.refl true) ?_ | refine And.intro (Eq.refl (1 : Nat)) ?_)
  refine ⟨fun _ => ?_, fun hh => absurd rfl hh⟩
  repeat ((conv => whnf) <;> first | with_reducible first | refine wI (by omega) ?_ | refine wB (by omega) ?_ | refine And.intro rfl ?_ | rfl | refine And.intro ‹_› ?_ | refine cTe ‹_› ?_ | refine cFe ‹_› ?_ | refine cN (cTe ‹_› ?_) | refine cN (cFe ‹_› ?_) | refine cTe rfl ?_ | refine cEq ‹_› ?_ | refine cTt ?_ | refine cNt ?_ | refine cF (Eq.refl false) ?_ | refine cN (cF (Eq.refl false) ?_) | refine cTd (by omega) ?_ | refine cFd (by omega) ?_ | refine cN (cTd (by omega) ?_) | refine cN (cFd (by omega) ?_) | refine And.intro (fun hh : Option.isSome none = true => by cases hh) ?_ | refine And.intro (by omega) ?_ | refine And.intro (Eq.refl true) ?_ | refine And.intro (Eq.refl (1 : Nat)) ?_)
 ·obtain rfl : e = 11 := by
   rcases hs.2 with ⟨h1, _, _⟩ | ⟨_, e0⟩
   ·exact absurd (hok h1 t ht) hno
   ·exact e0
  repeat ((conv => whnf) <;> first | with_reducible first | refine wI (by omega) ?_ | refine wB (by omega) ?_ | refine And.intro rfl ?_ | rfl | refine And.intro ‹_› ?_ | refine cTe ‹_› ?_ | refine cFe ‹_› ?_ | refine cN (cTe ‹_› ?_) | refine cN (cFe ‹_› ?_) | refine cTe rfl ?_ | refine cEq ‹_› ?_ | refine cTt ?_ | refine cNt ?_ | refine cF (Eq.refl false) ?_ | refine cN (cF (Eq.refl false) ?_) | refine cTd (by omega) ?_ | refine cFd (by omega) ?_ | refine cN (cTd (by omega) ?_) | refine cN (cFd (by omega) ?_) | refine And.intro (fun hh : Option.isSome none = true => by cases hh) ?_ | refine And.intro (by omega) ?_ | refine And.intro (Eq.refl true) ?_ | refine And.intro (Eq.refl (1 : Nat)) ?_)
set_option maxRecDepth 100000 in
theorem multsumsF_any (e1 : List (List Int × List Int × Int)) (ye1 : ∀ e ∈ e1, By e.1 ∧ By e.2.1 ∧ I64 e.2.2) (v1 : Value) (w : World) (s1 : Sv3 w v1 e1) : Calls Tryz.prog 4 #[v1, .bool false] w (OutV (.bool true) w) :=
 law_tree tmN_ok o_multsumsF [.atom (.var 0), .atom (.const (.bool false))] [v1] [.sl 3 (e1.map onA)] Tryz.func4 rfl c_multsumsF rfl (by intro x hx; simp only [List.mem_cons, List.not_mem_nil, or_false] at hx; rcases hx with rfl | rfl <;> first | exact ok_one rfl s1.2 | exact ok_const rfl) ⟨_, _, rfl, s1.1, rfl⟩ g_multsumsF (aw_multsumsF e1 ye1 )
def tmO : Tab := tb_awake12 :: tb_made11 :: tb_suml :: tb_wrong :: tb_rptimes :: tb_rpadd :: tb_rpid :: tb_pid :: tb_same11 :: []
theorem tmO_ok : tmO.OK Tryz.prog := tab_cons tb_awake12_ok <| tab_cons tb_made11_ok <| tab_cons tb_suml_ok <| tab_cons tb_wrong_ok <| tab_cons tb_rptimes_ok <| tab_cons tb_rpadd_ok <| tab_cons tb_rpid_ok <| tab_cons tb_pid_ok <| tab_cons tb_same11_ok <| tab_nil _
def o_multsumsT : Orc := { ans := [(15, oV), (16, oB), (17, oB), (18, oA 48), (21, oV), (22, oB), (28, oV), (29, oV), (30, .one ⟨.leaf (.agg [.one (.var 0), .one (.var 1)]), 2, []⟩), (31, .two ⟨.tup [.agg [.whole 0 24], .agg [.whole 1 48], .atom (.const (.bool true))], 2, []⟩ ⟨.tup [.agg [.whole 0 24], .agg [.whole 1 48], .atom (.const (.bool false))], 2, []⟩), (36, oV), (40, oV), (41, oV), (42, oV), (43, oV), (44, oB), (45, oV), (46, oB), (50, oV), (51, oV), (52, oV), (53, oA 24), (56, oV), (59, oV), (60, oV), (61, oV), (62, oV), (63, oB), (64, oA 48), (67, oV), (68, oV), (69, oV), (70, oA 48), (71, oA 48), (72, oA 48), (24, oV), (76, oV), (77, oB), (78, oV), (81, oA 24), (84, oV), (87, .one ⟨.tup [.agg [.whole 0 24], .atom (.var 1)], 2, []⟩), (91, oB), (94, oB), (96, oB), (97, oV), (99, oB), (101, oA 24), (102, oA 48), (103, oB), (104, oV), (106, oB), (107, oV)], lps := [(0, [.row 5 52 25, .slot 7 [.one], .slot 8 [.one], .blk 0 [.agg 48]]), (2, [.row 5 52 25, .slot 7 [.one]])], ords := [(12, [.pure 0, .pure 1, .pure 2, .quiet 3, .quiet 4, .quiet 5, .quiet 6, .pure 7, .make 8 [], .last 9, .last 10]), (15, [.quiet 0, .pure 1, .pure 2, .quiet 3, .quiet 4, .quiet 5, .quiet 6, .call 7 [], .call 8 [], .last 9])], rws := [80] }
def t_multsumsT : Tree :=
 .calc (.call { callee := .builtin .len, args := #[.tmp 14], argTypes := #[46] }) 3 [(14, qv 0)] ([], []) (qv 1) 1 <|
 .calc2 (.binOp .gtr 3 (.tmp 15) (.const (.int .i64 5)) 3) 4 [(15, qv 1)] ([], []) qT 0 (
 .call2 7 [] ([], []) qT 0 [] (
 .ret ([], []) qT) qF 0 [] <|
 .ret ([], []) qF) qF 0 <|
 .call 13 [] ([], []) (.leaf (.agg [.whole 2 48])) 1 [] <|
 .new <|
 .loop [.atom (.const (.slice none 0 0)), .agg [], .atom (.const (.int .i64 0)), .atom (.const (.int .i64 0)), .agg [.whole 2 48]] [.one, .row, .one, .one, .agg 48] <|
 .calc (.call { callee := .builtin .len, args := #[.tmp 20], argTypes := #[46] }) 3 [(20, qv 0)] ([], []) (qv 8) 1 <|
 .calc2 (.binOp .lss 3 (.tmp 19) (.tmp 21) 3) 4 [(19, qv 6), (21, qv 8)] ([], []) qT 0 (
 .calc (.indexAddr 46 (.tmp 26) (.tmp 27)) 0 [(26, qv 0), (27, qv 6)] ([], []) (qv 9) 1 <|
 .calc (.fieldAddr 50 (.tmp 28) 1) 0 [(28, qv 9)] ([], []) (qv 10) 1 <|
 .calc (.load 24 (.tmp 29)) 24 [(29, qv 10)] ([], []) (.leaf (.agg [.one (.var 11), .one (.var 12)])) 2 <|
 .call2 6 [.agg [.one (.var 11), .one (.var 12)]] ([], []) (.tup [.agg [.whole 13 24], .agg [.whole 14 48], .atom (.const (.bool true))]) 2 [] (
 .new <|
 .new <|
 .calc (.indexAddr 46 (.tmp 38) (.tmp 39)) 0 [(38, qv 0), (39, qv 6)] ([], []) (qv 15) 1 <|
 .calc (.fieldAddr 50 (.tmp 40) 0) 0 [(40, qv 15)] ([], []) (qv 16) 1 <|
 .calc (.load 22 (.tmp 41)) 22 [(41, qv 16)] ([], []) (qv 17) 1 <|
 .calc (.call { callee := .builtin .len, args := #[.tmp 42], argTypes := #[22] }) 3 [(42, qv 17)] ([], []) (qv 18) 1 <|
 .calc2 (.binOp .gtr 3 (.tmp 43) (.const (.int .i64 80)) 3) 4 [(43, qv 18)] ([], []) qT 0 (
 .call2 7 [] ([], []) qT 0 [] (
 .ret ([], []) qT) qF 0 [] <|
 .ret ([], []) qF) qF 0 <|
 .calc (.indexAddr 46 (.tmp 48) (.tmp 49)) 0 [(48, qv 0), (49, qv 6)] ([], []) (qv 19) 1 <|
 .calc (.fieldAddr 50 (.tmp 50) 0) 0 [(50, qv 19)] ([], []) (qv 20) 1 <|
 .calc (.load 22 (.tmp 51)) 22 [(51, qv 20)] ([], []) (qv 21) 1 <|
 .new <|
 .app (some 4) [.one (.var 21), .whole 13 24] 25 <|
 .calc (.indexAddr 46 (.tmp 57) (.tmp 58)) 0 [(57, qv 0), (58, qv 6)] ([], []) (qv 24) 1 <|
 .calc (.fieldAddr 50 (.tmp 59) 0) 0 [(59, qv 24)] ([], []) (qv 25) 1 <|
 .calc (.load 22 (.tmp 60)) 22 [(60, qv 25)] ([], []) (qv 26) 1 <|
 .call 14 [.atom (.var 26)] ([], []) (qv 27) 1 [] <|
 .calc2 (.binOp .neq 38 (.tmp 62) (.const (.int .i64 0)) 38) 4 [(62, qv 27)] ([], []) qT 0 (
 .calc (.binOp .add 3 (.tmp 23) (.const (.int .i64 1)) 3) 3 [(23, qv 6)] ([], []) (qv 28) 1 <|
 .again 0 [.atom (.var 22), .agg [.rest 23], .atom (.const (.int .i64 11)), .atom (.var 28), .agg [.whole 7 48]]) qF 0 <|
 .calc (.indexAddr 46 (.tmp 65) (.tmp 66)) 0 [(65, qv 0), (66, qv 6)] ([], []) (qv 28) 1 <|
 .calc (.fieldAddr 50 (.tmp 67) 0) 0 [(67, qv 28)] ([], []) (qv 29) 1 <|
 .calc (.load 22 (.tmp 68)) 22 [(68, qv 29)] ([], []) (qv 30) 1 <|
 .call 11 [.atom (.var 30), .agg [.whole 14 48]] ([], []) (.leaf (.agg [.whole 31 48])) 1 [] <|
 .call 15 [.agg [.whole 7 48], .agg [.whole 31 48]] ([], []) (.leaf (.agg [.whole 32 48])) 1 [] <|
 .calc (.binOp .add 3 (.tmp 23) (.const (.int .i64 1)) 3) 3 [(23, qv 6)] ([], []) (qv 33) 1 <|
 .again 0 [.atom (.var 22), .agg [.rest 23], .atom (.var 5), .atom (.var 33), .agg [.whole 32 48]]) (.tup [.agg [.whole 13 24], .agg [.whole 14 48], .atom (.const (.bool false))]) 2 [] <|
 .new <|
 .new <|
 .call2 7 [] ([], []) qT 0 [] (
 .ret ([], []) qT) qF 0 [] <|
 .ret ([], []) qF) qF 0 <|
 .loop [.atom (.var 3), .agg [.rest 4], .atom (.var 5)] [.one, .row, .one] <|
 .calc (.call { callee := .builtin .len, args := #[.tmp 75], argTypes := #[47] }) 3 [(75, qv 9)] ([([.whole 7 48], 34)], [⟨9, 10, 52, 25⟩]) (qv 12) 1 <|
 .calc2 (.binOp .lss 3 (.tmp 76) (.const (.int .i64 17)) 3) 4 [(76, qv 12)] ([], []) qT 0 (
 .mkr [.one (.const (.int .u8 0))] 1 <|
 .call 16 [] ([], []) (.leaf (.agg [.whole 15 24])) 1 [] <|
 .new <|
 .app (some 10) [.one (.var 13), .whole 15 24] 25 <|
 .again 1 [.atom (.var 16), .agg [.rest 17], .atom (.const (.int .i64 11))]) qF 0 <|
 .frz 9 10 ([([.whole 7 48], 34)], [⟨9, 10, 52, 25⟩]) <|
 .call 17 [.atom (.var 9)] ([], []) (.tup [.agg [.whole 13 24], .atom (.var 14)]) 2 [] <|
 .new <|
 .calc2 (.binOp .neq 38 (.tmp 90) (.const (.int .i64 0)) 38) 4 [(90, qv 11)] ([], []) qT 0 (
 .calc2 (.binOp .eql 38 (.tmp 92) (.tmp 93) 38) 4 [(92, qv 14), (93, qv 11)] ([], []) qT 0 (
 .call2 7 [] ([], []) qT 0 [] (
 .ret ([], []) qT) qF 0 [] <|
 .ret ([], []) qF) qF 0 <|
 .ret ([], []) qF) qF 0 <|
 .calc2 (.binOp .eql 38 (.tmp 98) (.const (.int .i64 0)) 38) 4 [(98, qv 14)] ([], []) qT 0 (
 .call2 10 [.agg [.whole 13 24], .agg [.whole 7 48]] ([], []) qT 0 [] (
 .call2 7 [] ([], []) qT 0 [] (
 .ret ([], []) qT) qF 0 [] <|
 .ret ([], []) qF) qF 0 [] <|
 .ret ([], []) qF) qF 0 <|
 .ret ([], []) qF
theorem c_multsumsT : compF Tryz.prog Tryz.f4 o_multsumsT (Tryz.f4.body.getD .skip) (symIn [.atom (.var 0), .atom (.const (.bool true))] Tryz.f4.ntmps 1) = some t_multsumsT := by kernel_rfl
theorem g_multsumsT : goodC Tryz.prog o_multsumsT.ords (Tryz.f4.body.getD .skip) = true := by kernel_rfl
set_option maxRecDepth 100000 in
set_option maxHeartbeats 1000000 in
theorem aw_multsumsT (e1 : List (List Int × List Int × Int)) (ye1 : ∀ e ∈ e1, By e.1 ∧ By e.2.1 ∧ I64 e.2.2) : AWp Tryz.prog tmO (fun a => a = .bool true) t_multsumsT [] [.sl 3 (e1.map onA)] := by
 have hll : (e1.map onA).length = e1.length := List.length_map _
 by_cases a1 : (e1.length : Int) > 5
 ·repeat ((conv => whnf) <;> first | with_reducible first | refine wI (by omega) ?_ | refine wB (by omega) ?_ | refine And.intro rfl ?_ | rfl | refine And.intro ‹_› ?_ | refine cTe ‹_› ?_ | refine cFe ‹_› ?_ | refine cN (cTe ‹_› ?_) | refine cN (cFe ‹_› ?_) | refine cTe rfl ?_ | refine cEq ‹_› ?_ | refine cTt ?_ | refine cNt ?_ | refine cF (Eq.refl false) ?_ | refine cN (cF (Eq.refl false) ?_) | refine cTd (by omega) ?_ | refine cFd (by omega) ?_ | refine cN (cTd (by omega) ?_) | refine cN (cFd (by omega) ?_) | refine And.intro (fun hh : Option.isSome none = true => by cases hh) ?_ | refine And.intro (by omega) ?_ | refine And.intro (Eq.refl true) ?_ | refine And.intro (Eq.refl (1 : Nat)) ?_)
 repeat ((conv => whnf) <;> first | with_reducible first | refine wI (by omega) ?_ | refine wB (by omega) ?_ | refine And.intro rfl ?_ | rfl | refine And.intro ‹_› ?_ | refine cTe ‹_› ?_ | refine cFe ‹_› ?_ | refine cN (cTe ‹_› ?_) | refine cN (cFe ‹_› ?_) | refine cTe rfl ?_ | refine cEq ‹_› ?_ | refine cTt ?_ | refine cNt ?_ | refine cF (Eq.refl false) ?_ | refine cN (cF (Eq.refl false) ?_) | refine cTd (by omega) ?_ | refine cFd (by omega) ?_ | refine cN (cTd (by omega) ?_) | refine cN (cFd (by omega) ?_) | refine And.intro (fun hh : Option.isSome none = true => by cases hh) ?_ | refine And.intro (by omega) ?_ | refine And.intro (Eq.refl true) ?_ | refine And.intro (Eq.refl (1 : Nat)) ?_)
 refine ⟨Nat × Int × G, fun s zs => s.1 ≤ e1.length ∧ sumI e1 s.1 s.2.1 s.2.2 ∧ zs = [.row s.1, .agg (((e1.take s.1).map oneT).map trmA), .int .i64 s.2.1, .int .i64 (s.1 : Int), .ob (.fpt s.2.2)], fun s => e1.length - s.1, (0, 0, 0), ?_, ?_⟩
 ·(conv => whnf)
  exact ⟨[.row 0, .agg [], .int .i64 0, .int .i64 0, .ob (.fpt 0)], ⟨sub_row0, Sub.refl' _, Sub.refl' _, Sub.refl' _, Sub.refl' _, trivial⟩, Nat.zero_le _, ⟨fun j hj => absurd hj (by show ¬ j < 0; omega), .inl ⟨fun j hj => absurd hj (by show ¬ j < 0; omega), rfl, rfl⟩⟩, rfl⟩
 rintro ⟨i, e, w⟩ _ ⟨hi, hs, rfl⟩
 replace hi : i ≤ e1.length := hi
 replace hs : sumI e1 i e w := hs
 by_cases hlt : i < e1.length
 ·have hg := oneG_get hlt
  have hm := ye1 _ (oneG_mem hlt)
  have hpu := trms_push hlt
  have hsl : ((e1.take i).map oneT).length = i := by rw [List.length_map, List.length_take]; omega
  have h1 := sumI_ok hs hlt
  have h2 := sumI_no hs
  have sz := trms_size ((e1.take i).map oneT) (oneT (oneG e1 i))
  generalize oneG e1 i = x at *
  generalize (e1.take i).map oneT = M at *
  obtain ⟨a, b, n⟩ := x
  replace hm : By a ∧ By b ∧ I64 n := hm
  have hmb := hm.2.1
  repeat ((conv => whnf) <;> first | with_reducible first | refine wI (by omega) ?_ | refine wB (by omega) ?_ | refine And.intro rfl ?_ | rfl | refine And.intro ‹_› ?_ | refine cTe ‹_› ?_ | refine cFe ‹_› ?_ | refine cN (cTe ‹_› ?_) | refine cN (cFe ‹_› ?_) | refine cTe rfl ?_ | refine cEq ‹_› ?_ | refine cTt ?_ | refine cNt ?_ | refine cF (Eq.refl false) ?_ | refine cN (cF (Eq.refl false) ?_) | refine cTd (by omega) ?_ | refine cFd (by omega) ?_ | refine cN (cTd (by omega) ?_) | refine cN (cFd (by omega) ?_) | refine And.intro (fun hh : Option.isSome none = true => by cases hh) ?_ | refine And.intro (by omega) ?_ | refine And.intro (Eq.refl true) ?_ | refine And.intro (Eq.refl (1 : Nat)) ?_)
  refine ⟨_, hg, ?_⟩
  repeat ((conv => whnf) <;> first | with_reducible first | refine wI (by omega) ?_ | refine wB (by omega) ?_ | refine And.intro rfl ?_ | rfl | refine And.intro ‹_› ?_ | refine cTe ‹_› ?_ | refine cFe ‹_› ?_ | refine cN (cTe ‹_› ?_) | refine cN (cFe ‹_› ?_) | refine cTe rfl ?_ | refine cEq ‹_› ?_ | refine cTt ?_ | refine cNt ?_ | refine cF (Eq.refl false) ?_ | refine cN (cF (Eq.refl false) ?_) | refine cTd (by omega) ?_ | refine cFd (by omega) ?_ | refine cN (cTd (by omega) ?_) | refine cN (cFd (by omega) ?_) | refine And.intro (fun hh : Option.isSome none = true => by cases hh) ?_ | refine And.intro (by omega) ?_ | refine And.intro (Eq.refl true) ?_ | refine And.intro (Eq.refl (1 : Nat)) ?_)
  refine ⟨fun hh => ?_, fun q1 q2 q3 => ?_⟩
  ·repeat ((conv => whnf) <;> first | with_reducible first | refine wI (by omega) ?_ | refine wB (by omega) ?_ | refine And.intro rfl ?_ | rfl | refine And.intro ‹_› ?_ | refine cTe ‹_› ?_ | refine cFe ‹_› ?_ | refine cN (cTe ‹_› ?_) | refine cN (cFe ‹_› ?_) | refine cTe rfl ?_ | refine cEq ‹_› ?_ | refine cTt ?_ | refine cNt ?_ | refine cF (Eq.refl false) ?_ | refine cN (cF (Eq.refl false) ?_) | refine cTd (by omega) ?_ | refine cFd (by omega) ?_ | refine cN (cTd (by omega) ?_) | refine cN (cFd (by omega) ?_) | refine And.intro (fun hh : Option.isSome none = true => by cases hh) ?_ | refine And.intro (by omega) ?_ | refine And.intro (Eq.refl true) ?_ | refine And.intro (Eq.refl (1 : Nat)) ?_)
  repeat ((conv => whnf) <;> first | with_reducible first | refine wI (by omega) ?_ | refine wB (by omega) ?_ | refine And.intro rfl ?_ | rfl | refine And.intro ‹_› ?_ | refine cTe ‹_› ?_ | refine cFe ‹_› ?_ | refine cN (cTe ‹_› ?_) | refine cN (cFe ‹_› ?_) | refine cTe rfl ?_ | refine cEq ‹_› ?_ | refine cTt ?_ | refine cNt ?_ | refine cF (Eq.refl false) ?_ | refine cN (cF (Eq.refl false) ?_) | refine cTd (by omega) ?_ | refine cFd (by omega) ?_ | refine cN (cTd (by omega) ?_) | refine cN (cFd (by omega) ?_) | refine And.intro (fun hh : Option.isSome none = true => by cases hh) ?_ | refine And.intro (by omega) ?_ | refine And.intro (Eq.refl true) ?_ | refine And.intro (Eq.refl (1 : Nat)) ?_)
  refine ⟨_, hg, ?_⟩
  by_cases a2 : (a.length : Int) > 80
  ·repeat ((conv => whnf) <;> first | with_reducible first | refine wI (by omega) ?_ | refine wB (by omega) ?_ | refine And.intro rfl ?_ | rfl | refine And.intro ‹_› ?_ | refine cTe ‹_› ?_ | refine cFe ‹_› ?_ | refine cN (cTe ‹_› ?_) | refine cN (cFe ‹_› ?_) | refine cTe rfl ?_ | refine cEq ‹_› ?_ | refine cTt ?_ | refine cNt ?_ | refine cF (Eq.refl false) ?_ | refine cN (cF (Eq.refl false) ?_) | refine cTd (by omega) ?_ | refine cFd (by omega) ?_ | refine cN (cTd (by omega) ?_) | refine cN (cFd (by omega) ?_) | refine And.intro (fun hh : Option.isSome none = true => by cases hh) ?_ | refine And.intro (by omega) ?_ | refine And.intro (Eq.refl true) ?_ | refine And.intro (Eq.refl (1 : Nat)) ?_)
  have hl : a.length ≤ 80 := by omega
  have m1 : a.length ≤ 1000 ∧ By a := ⟨by omega, hm.1⟩
  have m2 : a.length ≤ 100000 := by omega
  have h1 := h1 hl
  have h2 := h2 hl
  repeat ((conv => whnf) <;> first | with_reducible first | refine wI (by omega) ?_ | refine wB (by omega) ?_ | refine And.intro rfl ?_ | rfl | refine And.intro ‹_› ?_ | refine cTe ‹_› ?_ | refine cFe ‹_› ?_ | refine cN (cTe ‹_› ?_) | refine cN (cFe ‹_› ?_) | refine cTe rfl ?_ | refine cEq ‹_› ?_ | refine cTt ?_ | refine cNt ?_ | refine cF (Eq.refl false) ?_ | refine cN (cF (Eq.refl false) ?_) | refine cTd (by omega) ?_ | refine cFd (by omega) ?_ | refine cN (cTd (by omega) ?_) | refine cN (cFd (by omega) ?_) | refine And.intro (fun hh : Option.isSome none = true => by cases hh) ?_ | refine And.intro (by omega) ?_ | refine And.intro (Eq.refl true) ?_ | refine And.intro (Eq.refl (1 : Nat)) ?_)
  refine ⟨_, hg, ?_⟩
  repeat ((conv => whnf) <;> first | with_reducible first | refine wI (by omega) ?_ | refine wB (by omega) ?_ | refine And.intro rfl ?_ | rfl | refine And.intro ‹_› ?_ | refine cTe ‹_› ?_ | refine cFe ‹_› ?_ | refine cN (cTe ‹_› ?_) | refine cN (cFe ‹_› ?_) | refine cTe rfl ?_ | refine cEq ‹_› ?_ | refine cTt ?_ | refine cNt ?_ | refine cF (Eq.refl false) ?_ | refine cN (cF (Eq.refl false) ?_) | refine cTd (by omega) ?_ | refine cFd (by omega) ?_ | refine cN (cTd (by omega) ?_) | refine cN (cFd (by omega) ?_) | refine And.intro (fun hh : Option.isSome none = true => by cases hh) ?_ | refine And.intro (by omega) ?_ | refine And.intro (Eq.refl true) ?_ | refine And.intro (Eq.refl (1 : Nat)) ?_)
  refine ⟨Nat.le_trans (Nat.le_of_eq sz) (by omega), ?_⟩
  have szd : (AV.agg (M.map trmA ++ [trmA (oneT (a, b, n))])).size / 25 = i + 1 := by rw [sz]; omega
  repeat ((conv => whnf) <;> first | with_reducible first | refine wI (by omega) ?_ | refine wB (by omega) ?_ | refine And.intro rfl ?_ | rfl | refine And.intro ‹_› ?_ | refine cTe ‹_› ?_ | refine cFe ‹_› ?_ | refine cN (cTe ‹_› ?_) | refine cN (cFe ‹_› ?_) | refine cTe rfl ?_ | refine cEq ‹_› ?_ | refine cTt ?_ | refine cNt ?_ | refine cF (Eq.refl false) ?_ | refine cN (cF (Eq.refl false) ?_) | refine cTd (by omega) ?_ | refine cFd (by omega) ?_ | refine cN (cTd (by omega) ?_) | refine cN (cFd (by omega) ?_) | refine And.intro (fun hh : Option.isSome none = true => by cases hh) ?_ | refine And.intro (by omega) ?_ | refine And.intro (Eq.refl true) ?_ | refine And.intro (Eq.refl (1 : Nat)) ?_)
  refine ⟨_, hg, ?_⟩
  by_cases a3 : 1 ≤ a.length ∧ a.length ≤ 64
  ·have h1 := h1 a3
   repeat ((conv => whnf) <;> first | with_reducible first | refine wI (by omega) ?_ | refine wB (by omega) ?_ | refine And.intro rfl ?_ | rfl | refine And.intro ‹_› ?_ | refine cTe ‹_› ?_ | refine cFe ‹_› ?_ | refine cN (cTe ‹_› ?_) | refine cN (cFe ‹_› ?_) | refine cTe rfl ?_ | refine cEq ‹_› ?_ | refine cTt ?_ | refine cNt ?_ | refine cF (Eq.refl false) ?_ | refine cN (cF (Eq.refl false) ?_) | refine cTd (by omega) ?_ | refine cFd (by omega) ?_ | refine cN (cTd (by omega) ?_) | refine cN (cFd (by omega) ?_) | refine And.intro (fun hh : Option.isSome none = true => by cases hh) ?_ | refine And.intro (by omega) ?_ | refine And.intro (Eq.refl true) ?_ | refine And.intro (Eq.refl (1 : Nat)) ?_)
   refine ⟨fun hh => absurd a3 hh, fun _ _ => ?_⟩
   repeat ((conv => whnf) <;> first | with_reducible first | refine wI (by omega) ?_ | refine wB (by omega) ?_ | refine And.intro rfl ?_ | rfl | refine And.intro ‹_› ?_ | refine cTe ‹_› ?_ | refine cFe ‹_› ?_ | refine cN (cTe ‹_› ?_) | refine cN (cFe ‹_› ?_) | refine cTe rfl ?_ | refine cEq ‹_› ?_ | refine cTt ?_ | refine cNt ?_ | refine cF (Eq.refl false) ?_ | refine cN (cF (Eq.refl false) ?_) | refine cTd (by omega) ?_ | refine cFd (by omega) ?_ | refine cN (cTd (by omega) ?_) | refine cN (cFd (by omega) ?_) | refine And.intro (fun hh : Option.isSome none = true => by cases hh) ?_ | refine And.intro (by omega) ?_ | refine And.intro (Eq.refl true) ?_ | refine And.intro (Eq.refl (1 : Nat)) ?_)
   refine ⟨_, hg, ?_⟩
   repeat ((conv => whnf) <;> first | with_reducible first | refine wI (by omega) ?_ | refine wB (by omega) ?_ | refine And.intro rfl ?_ | rfl | refine And.intro ‹_› ?_ | refine cTe ‹_› ?_ | refine cFe ‹_› ?_ | refine cN (cTe ‹_› ?_) | refine cN (cFe ‹_› ?_) | refine cTe rfl ?_ | refine cEq ‹_› ?_ | refine cTt ?_ | refine cNt ?_ | refine cF (Eq.refl false) ?_ | refine cN (cF (Eq.refl false) ?_) | refine cTd (by omega) ?_ | refine cFd (by omega) ?_ | refine cN (cTd (by omega) ?_) | refine cN (cFd (by omega) ?_) | refine And.intro (fun hh : Option.isSome none = true => by cases hh) ?_ | refine And.intro (by omega) ?_ | refine And.intro (Eq.refl true) ?_ | refine And.intro (Eq.refl (1 : Nat)) ?_)
   (conv => whnf)
   exact ⟨_, Subs.refl' _, (i + 1, e, w + mulG (nval a) (sgG b n)), ⟨hlt, h1, zsMs szd hpu (by show (i : Int) + 1 = ((i + 1 : Nat) : Int); omega)⟩, by show e1.length - (i + 1) < e1.length - i; omega⟩
  ·have h2 := h2 a3
   repeat ((conv => whnf) <;> first | with_reducible first | refine wI (by omega) ?_ | refine wB (by omega) ?_ | refine And.intro rfl ?_ | rfl | refine And.intro ‹_› ?_ | refine cTe ‹_› ?_ | refine cFe ‹_› ?_ | refine cN (cTe ‹_› ?_) | refine cN (cFe ‹_› ?_) | refine cTe rfl ?_ | refine cEq ‹_› ?_ | refine cTt ?_ | refine cNt ?_ | refine cF (Eq.refl false) ?_ | refine cN (cF (Eq.refl false) ?_) | refine cTd (by omega) ?_ | refine cFd (by omega) ?_ | refine cN (cTd (by omega) ?_) | refine cN (cFd (by omega) ?_) | refine And.intro (fun hh : Option.isSome none = true => by cases hh) ?_ | refine And.intro (by omega) ?_ | refine And.intro (Eq.refl true) ?_ | refine And.intro (Eq.refl (1 : Nat)) ?_)
   refine ⟨fun _ => ?_, fun q1 q2 => absurd ⟨q1, q2⟩ a3⟩
   repeat ((conv => whnf) <;> first | with_reducible first | refine wI (by omega) ?_ | refine wB (by omega) ?_ | refine And.intro rfl ?_ | rfl | refine And.intro ‹_› ?_ | refine cTe ‹_› ?_ | refine cFe ‹_› ?_ | refine cN (cTe ‹_› ?_) | refine cN (cFe ‹_› ?_) | refine cTe rfl ?_ | refine cEq ‹_› ?_ | refine cTt ?_ | refine cNt ?_ | refine cF (Eq.refl false) ?_ | refine cN (cF (Eq.refl false) ?_) | refine cTd (by omega) ?_ | refine cFd (by omega) ?_ | refine cN (cTd (by omega) ?_) | refine cN (cFd (by omega) ?_) | refine And.intro (fun hh : Option.isSome none = true => by cases hh) ?_ | refine And.intro (by omega) ?_ | refine And.intro (Eq.refl true) ?_ | refine And.intro (Eq.refl (1 : Nat)) ?_)
   (conv => whnf)
   exact ⟨_, Subs.refl' _, (i + 1, 11, w), ⟨hlt, h2, zsMs szd hpu (by show (i : Int) + 1 = ((i + 1 : Nat) : Int); omega)⟩, by show e1.length - (i + 1) < e1.length - i; omega⟩
 obtain rfl : i = e1.length := by omega
 repeat ((conv => whnf) <;> first | with_reducible first | refine wI (by omega) ?_ | refine wB (by omega) ?_ | refine And.intro rfl ?_ | rfl | refine And.intro ‹_› ?_ | refine cTe ‹_› ?_ | refine cFe ‹_› ?_ | refine cN (cTe ‹_› ?_) | refine cN (cFe ‹_› ?_) | refine cTe rfl ?_ | refine cEq ‹_› ?_ | refine cTt ?_ | refine cNt ?_ | refine cF (Eq.refl false) ?_ | refine cN (cF (Eq.refl false) ?_) | refine cTd (by omega) ?_ | refine cFd (by omega) ?_ | refine cN (cTd (by omega) ?_) | refine cN (cFd (by omega) ?_) | refine And.intro (fun hh : Option.isSome none = true => by cases hh) ?_ | refine And.intro (by omega) ?_ | refine And.intro (Eq.refl true) ?_ | refine And.intro (Eq.refl (1 : Nat)) ?_)
 refine ⟨Nat × Int, fun s zs => s.1 ≤ 17 ∧ (s.1 = 17 → s.2 = 11) ∧ ∃ es, anyTr s.1 es ∧ zs = [.row s.1, .agg es, .int .i64 s.2], fun s => 17 - s.1, (e1.length, e), ?_, ?_⟩
 ·(conv => whnf)
  exact ⟨_, Subs.refl' _, by show e1.length ≤ 17; omega, fun hh => absurd hh (by show ¬ e1.length = 17; omega), _, ⟨by rw [List.length_map, List.length_map, List.length_take]; show min e1.length e1.length = e1.length; omega, trms_sz _⟩, rfl⟩
 rintro ⟨k, x⟩ _ ⟨hk, hx, es, hes, rfl⟩
 replace hk : k ≤ 17 := hk
 replace hx : k = 17 → x = 11 := hx
 have hsz := anyTr_size hes
 by_cases hk7 : k = 17
 ·obtain rfl := hx hk7
  subst hk7
  have hes1 := hes.1
  have hm : 16 < es.length ∧ es.length ≤ 100000 := ⟨by rw [hes1]; omega, by rw [hes1]; omega⟩
  repeat ((conv => whnf) <;> first | with_reducible first | refine wI (by omega) ?_ | refine wB (by omega) ?_ | refine And.intro rfl ?_ | rfl | refine And.intro ‹_› ?_ | refine cTe ‹_› ?_ | refine cFe ‹_› ?_ | refine cN (cTe ‹_› ?_) | refine cN (cFe ‹_› ?_) | refine cTe rfl ?_ | refine cEq ‹_› ?_ | refine cTt ?_ | refine cNt ?_ | refine cF (Eq.refl false) ?_ | refine cN (cF (Eq.refl false) ?_) | refine cTd (by omega) ?_ | refine cFd (by omega) ?_ | refine cN (cTd (by omega) ?_) | refine cN (cFd (by omega) ?_) | refine And.intro (fun hh : Option.isSome none = true => by cases hh) ?_ | refine And.intro (by omega) ?_ | refine And.intro (Eq.refl true) ?_ | refine And.intro (Eq.refl (1 : Nat)) ?_)
  refine ⟨by show 0 < 25; omega, hes.2, ?_⟩
  repeat ((conv => whnf) <;> first | with_reducible first | refine wI (by omega) ?_ | refine wB (by omega) ?_ | refine And.intro rfl ?_ | rfl | refine And.intro ‹_› ?_ | refine cTe ‹_› ?_ | refine cFe ‹_› ?_ | refine cN (cTe ‹_› ?_) | refine cN (cFe ‹_› ?_) | refine cTe rfl ?_ | refine cEq ‹_› ?_ | refine cTt ?_ | refine cNt ?_ | refine cF (Eq.refl false) ?_ | refine cN (cF (Eq.refl false) ?_) | refine cTd (by omega) ?_ | refine cFd (by omega) ?_ | refine cN (cTd (by omega) ?_) | refine cN (cFd (by omega) ?_) | refine And.intro (fun hh : Option.isSome none = true => by cases hh) ?_ | refine And.intro (by omega) ?_ | refine And.intro (Eq.refl true) ?_ | refine And.intro (Eq.refl (1 : Nat)) ?_)
 ·have hp : anyTr (k + 1) (es ++ [one [AV.row 1, ptA 0]]) := hes.push rfl
  have hz := anyTr_size hp
  repeat ((conv => whnf) <;> first | with_reducible first | refine wI (by omega) ?_ | refine wB (by omega) ?_ | refine And.intro rfl ?_ | rfl | refine And.intro ‹_› ?_ | refine cTe ‹_› ?_ | refine cFe ‹_› ?_ | refine cN (cTe ‹_› ?_) | refine cN (cFe ‹_› ?_) | refine cTe rfl ?_ | refine cEq ‹_› ?_ | refine cTt ?_ | refine cNt ?_ | refine cF (Eq.refl false) ?_ | refine cN (cF (Eq.refl false) ?_) | refine cTd (by omega) ?_ | refine cFd (by omega) ?_ | refine cN (cTd (by omega) ?_) | refine cN (cFd (by omega) ?_) | refine And.intro (fun hh : Option.isSome none = true => by cases hh) ?_ | refine And.intro (by omega) ?_ | refine And.intro (Eq.refl true) ?_ | refine And.intro (Eq.refl (1 : Nat)) ?_)
  refine ⟨Nat.le_trans (Nat.le_of_eq hz) (by omega), ?_⟩
  repeat ((conv => whnf) <;> first | with_reducible first | refine wI (by omega) ?_ | refine wB (by omega) ?_ | refine And.intro rfl ?_ | rfl | refine And.intro ‹_› ?_ | refine cTe ‹_› ?_ | refine cFe ‹_› ?_ | refine cN (cTe ‹_› ?_) | refine cN (cFe ‹_› ?_) | refine cTe rfl ?_ | refine cEq ‹_› ?_ | refine cTt ?_ | refine cNt ?_ | refine cF (Eq.refl false) ?_ | refine cN (cF (Eq.refl false) ?_) | refine cTd (by omega) ?_ | refine cFd (by omega) ?_ | refine cN (cTd (by omega) ?_) | refine cN (cFd (by omega) ?_) | refine And.intro (fun hh : Option.isSome none = true => by cases hh) ?_ | refine And.intro (by omega) ?_ | refine And.intro (Eq.refl true) ?_ | refine And.intro (Eq.refl (1 : Nat)) ?_)
  (conv => whnf)
  exact ⟨_, Subs.refl' _, (k + 1, 11), ⟨by show k + 1 ≤ 17; omega, fun _ => rfl, _, hp, zsM2 (by show (AV.agg (es ++ [one [AV.row 1, ptA 0]])).size / 25 = k + 1; rw [hz]; omega)⟩, by show 17 - (k + 1) < 17 - k; omega⟩
set_option maxRecDepth 100000 in
theorem multsumsT_any (e1 : List (List Int × List Int × Int)) (ye1 : ∀ e ∈ e1, By e.1 ∧ By e.2.1 ∧ I64 e.2.2) (v1 : Value) (w : World) (s1 : Sv3 w v1 e1) : Calls Tryz.prog 4 #[v1, .bool true] w (OutV (.bool true) w) :=
 law_tree tmO_ok o_multsumsT [.atom (.var 0), .atom (.const (.bool true))] [v1] [.sl 3 (e1.map onA)] Tryz.func4 rfl c_multsumsT rfl (by intro x hx; simp only [List.mem_cons, List.not_mem_nil, or_false] at hx; rcases hx with rfl | rfl <;> first | exact ok_one rfl s1.2 | exact ok_const rfl) ⟨_, _, rfl, s1.1, rfl⟩ g_multsumsT (aw_multsumsT e1 ye1 )
theorem multsums_any (e1 : List (List Int × List Int × Int)) (ye1 : ∀ e ∈ e1, By e.1 ∧ By e.2.1 ∧ I64 e.2.2) (v1 : Value) (t : Bool) (w : World) (s1 : Sv3 w v1 e1) : Calls Tryz.prog 4 #[v1, .bool t] w (OutV (.bool true) w) := by
 cases t with
 | false => exact multsumsF_any e1 ye1 v1 w s1
 | true => exact multsumsT_any e1 ye1 v1 w s1
end Go.Proofs.YtpapfkihjhhjkaaGreat
