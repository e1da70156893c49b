/- Chapter 11: combs -/
import Derived.Test.YtamgmkeoaaaliaaGreatCmp
import Derived.Test.YtamgmkeoaaaliaaGreatPnu
set_option linter.unusedSimpArgs false
set_option linter.unusedVariables false
namespace Go.Proofs.YtamgmkeoaaaliaaGreat
open Go.RowKit FdP FdP.Ch
def tcNil : Tab := []
theorem tcNil_ok : tcNil.OK Tryz.prog := tab_nil _
def nilC : AV := .val (.slice none 0 0)
def smI (a b : Int) : Int := if a = b then 1 else 0
def tSmI : Trans := fun zs Q => match zs with
  | [.int .i64 a, .int .i64 b] => (I64 a ∧ I64 b) ∧ Q (.int .i64 (smI a b))
  | _ => False
theorem smI_u64 {a b x y q q' : Int} (ha : I64 a) (hb : I64 b) (hx : x = a + q * 18446744073709551616) (hy : y = b + q' * 18446744073709551616) (x1 : 0 ≤ x ∧ x < 18446744073709551616) (y1 : 0 ≤ y ∧ y < 18446744073709551616) : x = y ↔ a = b := by
  unfold I64 at ha hb
  constructor <;> intro h <;> omega
theorem smI_eq {x y r q : Int} (x1 : 0 ≤ x ∧ x < 18446744073709551616) (y1 : 0 ≤ y ∧ y < 18446744073709551616) (hr : r = 0 - bits .xor .u64 x y + q * 18446744073709551616) (r1 : 0 ≤ r ∧ r < 18446744073709551616) : 1 - (bits .or .u64 (bits .xor .u64 x y) r).fdiv (2 ^ 63) = smI x y := by
  obtain ⟨h1, h2⟩ := xor_u64 x1 y1
  rw [top_u64 h1 r1 (by omega)]
  unfold smI
  by_cases e : x = y
  · rw [if_pos (h2.2 e), if_pos e]; rfl
  · rw [if_neg (fun g => e (h2.1 g)), if_neg e]; rfl
def o_csame : Orc := { ans := [(7, oV), (9, oV), (10, oV), (13, oV), (14, oV), (15, oV), (16, oV), (17, oV)], lps := [] }
def t_csame : Tree :=
  .calc (.convert 3 27 (.tmp 6)) 27 [(6, .leaf (.atom (.var 0)))] ([], []) (.leaf (.atom (.var 2))) 1 <|
  .calc (.convert 3 27 (.tmp 8)) 27 [(8, .leaf (.atom (.var 1)))] ([], []) (.leaf (.atom (.var 3))) 1 <|
  .calc (.binOp .xor 27 (.tmp 7) (.tmp 9) 27) 27 [(7, .leaf (.atom (.var 2))), (9, .leaf (.atom (.var 3)))] ([], []) (.leaf (.atom (.var 4))) 1 <|
  .calc (.unOp .neg 27 (.tmp 12)) 27 [(12, .leaf (.atom (.var 4)))] ([], []) (.leaf (.atom (.var 5))) 1 <|
  .calc (.binOp .or 27 (.tmp 11) (.tmp 13) 27) 27 [(11, .leaf (.atom (.var 4))), (13, .leaf (.atom (.var 5)))] ([], []) (.leaf (.atom (.var 6))) 1 <|
  .calc (.binOp .shr 27 (.tmp 14) (.const (.int .u64 63)) 101) 27 [(14, .leaf (.atom (.var 6)))] ([], []) (.leaf (.atom (.var 7))) 1 <|
  .calc (.convert 27 3 (.tmp 15)) 3 [(15, .leaf (.atom (.var 7)))] ([], []) (.leaf (.atom (.var 8))) 1 <|
  .calc (.binOp .sub 3 (.const (.int .i64 1)) (.tmp 16) 3) 3 [(16, .leaf (.atom (.var 8)))] ([], []) (.leaf (.atom (.var 9))) 1 <|
  .ret ([], []) (.leaf (.atom (.var 9)))
theorem c_csame : compF Tryz.prog Tryz.f22 o_csame (Tryz.f22.body.getD .skip) (symIn [.atom (.var 0), .atom (.var 1)] Tryz.f22.ntmps 2) = some t_csame := by kernel_rfl
theorem g_csame : goodC Tryz.prog o_csame.ords (Tryz.f22.body.getD .skip) = true := by kernel_rfl
def tb_csame : FuncId × Trans := (22, tSmI)
set_option maxRecDepth 100000 in
theorem aw_csame : ∀ zs Q, tb_csame.2 zs Q → bindLs 0 [.atom (.var 0), .atom (.var 1)] zs fun ae => bif Nat.beq ae.length 2 then AWp Tryz.prog tcNil Q t_csame [] ae else False := by
  intro zs Q h
  replace h : tSmI zs Q := h
  unfold tSmI at h
  split at h
  case h_2 => exact h.elim
  rename_i a b
  obtain ⟨⟨ha, hb⟩, h⟩ := h
  (conv => whnf)
  intro x q hx x0 x1
  (conv => whnf)
  intro y q' hy y0 y1
  (conv => whnf)
  intro r q2 hr r0 r1
  have e1 : 1 - (bits .or .u64 (bits .xor .u64 x y) r).fdiv (2 ^ min (Int.toNat 63) IntKind.u64.bits) = smI x y := smI_eq ⟨x0, x1⟩ ⟨y0, y1⟩ hr ⟨r0, r1⟩
  have e2 := smI_u64 ha hb hx hy ⟨x0, x1⟩ ⟨y0, y1⟩
  have e3 : smI x y = smI a b := by unfold smI; by_cases e : x = y; · rw [if_pos e, if_pos (e2.1 e)]
                                    · rw [if_neg e, if_neg (fun g => e (e2.2 g))]
  rw [e3] at e1
  have e4 : smI a b = 0 ∨ smI a b = 1 := by unfold smI; by_cases e : a = b; · right; rw [if_pos e]
                                            · left; rw [if_neg e]
  (conv => whnf)
  refine ⟨by omega, ?_⟩
  generalize hs : (bits .or .u64 (bits .xor .u64 x y) r).fdiv (2 ^ min (Int.toNat 63) IntKind.u64.bits) = s at *
  repeat ((conv => whnf) <;> first | with_reducible first | refine wI (by omega) ?_ | refine And.intro rfl ?_ | rfl | refine And.intro ‹_› ?_ | refine cTe ‹_› ?_ | refine cFe ‹_› ?_ | refine cN (cTe ‹_› ?_) | refine cN (cFe ‹_› ?_) | refine cTe rfl ?_ | refine cEq ‹_› ?_ | refine cTt ?_ | refine cNt ?_ | refine cF (Eq.refl false) ?_ | refine cN (cF (Eq.refl false) ?_) | refine cTd (by omega) ?_ | refine cFd (by omega) ?_ | refine cN (cTd (by omega) ?_) | refine cN (cFd (by omega) ?_) | refine And.intro (by omega) ?_ | refine And.intro (Eq.refl true) ?_)
  (conv => whnf)
  rw [e1]
  exact h
theorem tb_csame_ok : Con Tryz.prog tb_csame.1 tb_csame.2 := con_tree tcNil_ok o_csame [.atom (.var 0), .atom (.var 1)] 2 Tryz.func22 rfl c_csame aw_csame g_csame
@[reducible] def ptA (g : G) : AV := .ob (.pt g)
theorem pts_sizes : ∀ gs : List G, AV.sizes (gs.map ptA) = 24 * gs.length
  | [] => rfl
  | g :: gs => by show 24 + AV.sizes (gs.map ptA) = _; rw [pts_sizes gs, List.length_cons]; omega
theorem pts_size (gs : List G) : (AV.agg (gs.map ptA)).size = 24 * gs.length := pts_sizes gs
theorem pts_sz (gs : List G) : ∀ e ∈ gs.map ptA, e.size = 24 := fun e he => by
  obtain ⟨g, _, rfl⟩ := List.mem_map.1 he; rfl
theorem pts_len (gs : List G) : (gs.map ptA).length = gs.length := List.length_map _
theorem pts_get {gs : List G} {k : Nat} (h : k < gs.length) : (gs.map ptA)[k]? = some (ptA (gs.getD k 0)) := by
  rw [List.getElem?_map, List.getD_eq_getElem?_getD, List.getElem?_eq_getElem h]; rfl
theorem pts_push (gs : List G) (g : G) : gs.map ptA ++ [ptA g] = (gs ++ [g]).map ptA := by rw [List.map_append]; rfl
theorem pts_push_size (gs : List G) (g : G) : (AV.agg (gs.map ptA ++ [ptA g])).size = 24 * gs.length + 24 := by rw [pts_push, pts_size, List.length_append]; rfl
def tDblN : Trans := fun zs Q => match zs with
  | [.ob (.pt p), .int .i64 n] => (0 ≤ n ∧ n ≤ 100000) ∧ Q (.ob (.pt (mulG (2 ^ n.toNat) p)))
  | _ => False
def lkS (gs : List G) (i : Int) (k : Nat) : G := if (k : Int) ≤ i then 0 else gs.getD i.toNat 0
theorem lk_step {gs : List G} {i : Int} {k : Nat} (hi : 0 ≤ i) : (if smI k i % 2 = 0 then lkS gs i k else gs.getD k 0) = lkS gs i (k + 1) := by
  unfold smI lkS
  by_cases e : (k : Int) = i
  · rw [if_pos e, if_neg (by omega), if_neg (by omega)]; congr 1; omega
  · rw [if_neg e, if_pos (by omega)]
    by_cases h : (k : Int) ≤ i
    · rw [if_pos h, if_pos (by omega)]
    · rw [if_neg h, if_neg (by omega)]
theorem zsK {k k' : Int} {g g' : G} (h : k = k') (h' : g = g') : [AV.int .i64 k, ptA g] = [.int .i64 k', ptA g'] := by rw [h, h']
theorem zsPt {n n' : Nat} {es es' : List AV} {i i' : Int} {g g' : G} (h0 : n = n') (h1 : es = es') (h2 : i = i') (h3 : g = g') : [AV.row n, .agg es, .int .i64 i, ptA g] = [.row n', .agg es', .int .i64 i', ptA g'] := by rw [h0, h1, h2, h3]
theorem zsQ {n n' : Nat} {es es' : List AV} {i i' : Int} (h0 : n = n') (h1 : es = es') (h2 : i = i') : [AV.row n, .agg es, .int .i64 i] = [.row n', .agg es', .int .i64 i'] := by rw [h0, h1, h2]
def tLookL : Trans := fun zs Q => match zs with
  | [.sl 24 es, .int .i64 i] => I64 i ∧ ∃ gs : List G, es = gs.map ptA ∧ gs.length ≤ 100000 ∧ (¬ (0 ≤ i ∧ i < gs.length) → Q (.tup [ptA 0, .int .i64 10])) ∧ (0 ≤ i → i < gs.length → Q (.tup [ptA (gs.getD i.toNat 0), .int .i64 0]))
  | _ => False
def tPowers : Trans := fun zs Q => match zs with
  | [.ob (.pt p), .int .i64 n, .int .i64 ap] => (¬ (0 ≤ n ∧ n ≤ 64 ∧ 0 ≤ ap ∧ ap ≤ 512) → Q (.tup [nilC, .int .i64 10])) ∧ (0 ≤ n → n ≤ 64 → 0 ≤ ap → ap ≤ 512 → Q (.tup [.sl 24 ((powL p ap.toNat n.toNat).map ptA), .int .i64 0]))
  | _ => False
def tClonePt : Trans := fun zs Q => match zs with
  | [.sl 24 es] => ∃ gs : List G, es = gs.map ptA ∧ (gs.length ≤ 1000 ∧ 0 < gs.length) ∧ Q (.own 32 24 (.agg (gs.map ptA)))
  | _ => False
def tTLen : Trans := fun zs Q => match zs with
  | [.ref (.agg [.sl 24 es, .int .i64 _, .int .i64 _])] => Q (.int .i64 es.length)
  | [.val v] => v = .pointer none ∧ Q (.int .i64 0)
  | _ => False
def tTLook : Trans := fun zs Q => match zs with
  | [.ref (.agg [.sl 24 es, .int .i64 _, .int .i64 _]), .int .i64 i] => tLookL [.sl 24 es, .int .i64 i] Q
  | [.val v, .int .i64 _] => v = .pointer none ∧ Q (.tup [ptA 0, .int .i64 2])
  | _ => False
def apN (t s : Int) : Nat := ((8 * s + t - 1) / t).toNat
def qN (p : G) (t s : Int) (j : Nat) : G := mulG (2 ^ (apN t s * j)) p
def tNewT : Trans := fun zs Q => match zs with
  | [.ob (.pt p), .int .i64 t, .int .i64 s] => (¬ (1 ≤ t ∧ t ≤ 7 ∧ 1 ≤ s ∧ s ≤ 64) → Q (.tup [.val (.pointer none), .int .i64 10])) ∧ (1 ≤ t → t ≤ 7 → 1 ≤ s → s ≤ 64 → Q (.tup [.ref (.agg [.sl 24 ((tabL (qN p t s) t.toNat).map ptA), .int .i64 t, .int .i64 s]), .int .i64 0]))
  | _ => False
def tcD : Tab := tb_pdbl :: []
theorem tcD_ok : tcD.OK Tryz.prog := tab_cons tb_pdbl_ok <| tab_nil _
def o_doubled : Orc := { ans := [(7, oB), (8, .one ⟨.leaf (.agg [.whole 0 24]), 1, []⟩), (9, .one ⟨.leaf (.agg [.whole 0 24]), 1, []⟩), (10, oV), (11, .one ⟨.leaf (.agg [.whole 0 24]), 1, []⟩)], lps := [(0, [.slot 6 [.one], .blk 0 [.agg 24]])] }
def t_doubled : Tree :=
  .new <|
  .new <|
  .loop [.atom (.const (.int .i64 0)), .agg [.whole 0 24]] [.one, .agg 24] <|
  .calc2 (.binOp .lss 3 (.tmp 6) (.tmp 5) 3) 4 [(6, .leaf (.atom (.var 2))), (5, .leaf (.atom (.var 1)))] ([], []) (.leaf (.atom (.const (.bool true)))) 0 (
    .call 28 [.agg [.whole 3 24]] ([], []) (.leaf (.agg [.whole 4 24])) 1 [] <|
    .calc (.binOp .add 3 (.tmp 6) (.const (.int .i64 1)) 3) 3 [(6, .leaf (.atom (.var 2)))] ([], []) (.leaf (.atom (.var 5))) 1 <|
    .again 0 [.atom (.var 5), .agg [.whole 4 24]]) (.leaf (.atom (.const (.bool false)))) 0 <|
  .ret ([], []) (.leaf (.agg [.whole 3 24]))
theorem c_doubled : compF Tryz.prog Tryz.f59 o_doubled (Tryz.f59.body.getD .skip) (symIn [.agg [.whole 0 24], .atom (.var 1)] Tryz.f59.ntmps 2) = some t_doubled := by kernel_rfl
theorem g_doubled : goodC Tryz.prog o_doubled.ords (Tryz.f59.body.getD .skip) = true := by kernel_rfl
def tb_doubled : FuncId × Trans := (59, tDblN)
set_option maxRecDepth 100000 in
theorem aw_doubled : ∀ zs Q, tb_doubled.2 zs Q → bindLs 0 [.agg [.whole 0 24], .atom (.var 1)] zs fun ae => bif Nat.beq ae.length 2 then AWp Tryz.prog tcD Q t_doubled [] ae else False := by
  intro zs Q h
  replace h : tDblN zs Q := h
  unfold tDblN at h
  split at h
  case h_2 => exact h.elim
  rename_i p n
  obtain ⟨⟨hn, hl⟩, h⟩ := h
  repeat ((conv => whnf) <;> first | with_reducible first | refine wI (by omega) ?_ | refine And.intro rfl ?_ | rfl | refine And.intro ‹_› ?_ | refine cTe ‹_› ?_ | refine cFe ‹_› ?_ | refine cN (cTe ‹_› ?_) | refine cN (cFe ‹_› ?_) | refine cTe rfl ?_ | refine cEq ‹_› ?_ | refine cTt ?_ | refine cNt ?_ | refine cF (Eq.refl false) ?_ | refine cN (cF (Eq.refl false) ?_) | refine cTd (by omega) ?_ | refine cFd (by omega) ?_ | refine cN (cTd (by omega) ?_) | refine cN (cFd (by omega) ?_) | refine And.intro (by omega) ?_ | refine And.intro (Eq.refl true) ?_)
  refine ⟨Nat, fun i zs => i ≤ n.toNat ∧ zs = [.int .i64 (i : Int), ptA (mulG (2 ^ i) p)], fun i => n.toNat - i, 0, ?_, ?_⟩
  · (conv => whnf)
    exact ⟨_, Subs.refl' _, Nat.zero_le _, zsK rfl (by rw [Nat.pow_zero, mulG_one])⟩
  rintro i _ ⟨hi, rfl⟩
  have hs := dbl_step p i
  generalize he : mulG (2 ^ i) p = x at *
  by_cases hlt : (i : Int) < n
  · repeat ((conv => whnf) <;> first | with_reducible first | refine wI (by omega) ?_ | refine And.intro rfl ?_ | rfl | refine And.intro ‹_› ?_ | refine cTe ‹_› ?_ | refine cFe ‹_› ?_ | refine cN (cTe ‹_› ?_) | refine cN (cFe ‹_› ?_) | refine cTe rfl ?_ | refine cEq ‹_› ?_ | refine cTt ?_ | refine cNt ?_ | refine cF (Eq.refl false) ?_ | refine cN (cF (Eq.refl false) ?_) | refine cTd (by omega) ?_ | refine cFd (by omega) ?_ | refine cN (cTd (by omega) ?_) | refine cN (cFd (by omega) ?_) | refine And.intro (by omega) ?_ | refine And.intro (Eq.refl true) ?_)
    (conv => whnf)
    exact ⟨_, Subs.refl' _, i + 1, ⟨by omega, zsK (by omega) hs⟩, by show n.toNat - (i + 1) < n.toNat - i; omega⟩
  · obtain rfl : i = n.toNat := by omega
    rw [he] at h
    repeat ((conv => whnf) <;> first | with_reducible first | refine wI (by omega) ?_ | refine And.intro rfl ?_ | rfl | refine And.intro ‹_› ?_ | refine cTe ‹_› ?_ | refine cFe ‹_› ?_ | refine cN (cTe ‹_› ?_) | refine cN (cFe ‹_› ?_) | refine cTe rfl ?_ | refine cEq ‹_› ?_ | refine cTt ?_ | refine cNt ?_ | refine cF (Eq.refl false) ?_ | refine cN (cF (Eq.refl false) ?_) | refine cTd (by omega) ?_ | refine cFd (by omega) ?_ | refine cN (cTd (by omega) ?_) | refine cN (cFd (by omega) ?_) | refine And.intro (by omega) ?_ | refine And.intro (Eq.refl true) ?_)
    (conv => whnf)
    exact h
theorem tb_doubled_ok : Con Tryz.prog tb_doubled.1 tb_doubled.2 := con_tree tcD_ok o_doubled [.agg [.whole 0 24], .atom (.var 1)] 2 Tryz.func59 rfl c_doubled aw_doubled g_doubled
def tcE : Tab := tb_pid :: tb_csame :: tb_psel :: []
theorem tcE_ok : tcE.OK Tryz.prog := tab_cons tb_pid_ok <| tab_cons tb_csame_ok <| tab_cons tb_psel_ok <| tab_nil _
def o_look : Orc := { ans := [(10, oB), (14, oV), (15, oB), (16, oV), (17, .one ⟨.leaf (.agg [.whole 0 24]), 1, []⟩), (18, .one ⟨.leaf (.agg [.whole 0 24]), 1, []⟩), (20, oV), (22, oB), (24, oV), (25, .one ⟨.leaf (.agg [.whole 0 24]), 1, []⟩), (28, oV), (29, .one ⟨.leaf (.agg [.whole 0 24]), 1, []⟩), (30, .one ⟨.leaf (.agg [.whole 0 24]), 1, []⟩), (31, .one ⟨.leaf (.agg [.whole 0 24]), 1, []⟩), (32, oV), (33, .one ⟨.leaf (.agg [.whole 0 24]), 1, []⟩)], lps := [(0, [.slot 21 [.one], .blk 1 [.agg 24]])], ords := [(7, [.pure 0, .pure 1, .quiet 3, .quiet 4, .call 2 [], .call 5 [], .last 6])] }
def t_look : Tree :=
  .new <|
  .calc2 (.binOp .lss 3 (.tmp 9) (.const (.int .i64 0)) 3) 4 [(9, .leaf (.atom (.var 1)))] ([], []) (.leaf (.atom (.const (.bool true)))) 0 (
    .call 10 [] ([], []) (.leaf (.agg [.whole 2 24])) 1 [] <|
    .ret ([], []) (.tup [.agg [.whole 2 24], .atom (.const (.int .i64 10))])) (.leaf (.atom (.const (.bool false)))) 0 <|
  .calc (.call { callee := .builtin .len, args := #[.tmp 13], argTypes := #[59] }) 3 [(13, .leaf (.atom (.var 0)))] ([], []) (.leaf (.atom (.var 2))) 1 <|
  .calc2 (.binOp .geq 3 (.tmp 12) (.tmp 14) 3) 4 [(12, .leaf (.atom (.var 1))), (14, .leaf (.atom (.var 2)))] ([], []) (.leaf (.atom (.const (.bool true)))) 0 (
    .call 10 [] ([], []) (.leaf (.agg [.whole 3 24])) 1 [] <|
    .ret ([], []) (.tup [.agg [.whole 3 24], .atom (.const (.int .i64 10))])) (.leaf (.atom (.const (.bool false)))) 0 <|
  .call 10 [] ([], []) (.leaf (.agg [.whole 3 24])) 1 [] <|
  .new <|
  .calc (.call { callee := .builtin .len, args := #[.tmp 19], argTypes := #[59] }) 3 [(19, .leaf (.atom (.var 0)))] ([], []) (.leaf (.atom (.var 4))) 1 <|
  .loop [.atom (.const (.int .i64 0)), .agg [.whole 3 24]] [.one, .agg 24] <|
  .calc2 (.binOp .lss 3 (.tmp 21) (.tmp 20) 3) 0 [(21, .leaf (.atom (.var 5))), (20, .leaf (.atom (.var 4)))] ([], []) (.leaf (.atom (.const (.bool true)))) 0 (
    .calc (.indexAddr 59 (.tmp 19) (.tmp 21)) 0 [(19, .leaf (.atom (.var 0))), (21, .leaf (.atom (.var 5)))] ([], []) (.leaf (.atom (.var 7))) 1 <|
    .calc (.load 32 (.tmp 24)) 32 [(24, .leaf (.atom (.var 7)))] ([], []) (.leaf (.agg [.whole 8 24])) 1 <|
    .new <|
    .call 22 [.atom (.var 5), .atom (.var 1)] ([], []) (.leaf (.atom (.var 9))) 1 [] <|
    .call 83 [.atom (.var 9), .agg [.whole 6 24], .agg [.whole 8 24]] ([], []) (.leaf (.agg [.whole 10 24])) 1 [] <|
    .calc (.binOp .add 3 (.tmp 21) (.const (.int .i64 1)) 3) 3 [(21, .leaf (.atom (.var 5)))] ([], []) (.leaf (.atom (.var 11))) 1 <|
    .again 0 [.atom (.var 11), .agg [.whole 10 24]]) (.leaf (.atom (.const (.bool false)))) 0 <|
  .ret ([], []) (.tup [.agg [.whole 6 24], .atom (.const (.int .i64 0))])
theorem c_look : compF Tryz.prog Tryz.f55 o_look (Tryz.f55.body.getD .skip) (symIn [.atom (.var 0), .atom (.var 1)] Tryz.f55.ntmps 2) = some t_look := by kernel_rfl
theorem g_look : goodC Tryz.prog o_look.ords (Tryz.f55.body.getD .skip) = true := by kernel_rfl
def tb_look : FuncId × Trans := (55, tLookL)
set_option maxRecDepth 100000 in
theorem aw_look : ∀ zs Q, tb_look.2 zs Q → bindLs 0 [.atom (.var 0), .atom (.var 1)] zs fun ae => bif Nat.beq ae.length 2 then AWp Tryz.prog tcE Q t_look [] ae else False := by
  intro zs Q h
  replace h : tLookL zs Q := h
  unfold tLookL at h
  split at h
  case h_2 => exact h.elim
  rename_i es i
  obtain ⟨hi, gs, rfl, hl, h1, h2⟩ := h
  have ll := pts_len gs
  by_cases a1 : i < 0
  · have h' := h1 (by omega)
    repeat ((conv => whnf) <;> first | with_reducible first | refine wI (by omega) ?_ | refine And.intro rfl ?_ | rfl | refine And.intro ‹_› ?_ | refine cTe ‹_› ?_ | refine cFe ‹_› ?_ | refine cN (cTe ‹_› ?_) | refine cN (cFe ‹_› ?_) | refine cTe rfl ?_ | refine cEq ‹_› ?_ | refine cTt ?_ | refine cNt ?_ | refine cF (Eq.refl false) ?_ | refine cN (cF (Eq.refl false) ?_) | refine cTd (by omega) ?_ | refine cFd (by omega) ?_ | refine cN (cTd (by omega) ?_) | refine cN (cFd (by omega) ?_) | refine And.intro (by omega) ?_ | refine And.intro (Eq.refl true) ?_)
    (conv => whnf)
    exact h'
  by_cases a2 : (gs.length : Int) ≤ i
  · have h' := h1 (by omega)
    repeat ((conv => whnf) <;> first | with_reducible first | refine wI (by omega) ?_ | refine And.intro rfl ?_ | rfl | refine And.intro ‹_› ?_ | refine cTe ‹_› ?_ | refine cFe ‹_› ?_ | refine cN (cTe ‹_› ?_) | refine cN (cFe ‹_› ?_) | refine cTe rfl ?_ | refine cEq ‹_› ?_ | refine cTt ?_ | refine cNt ?_ | refine cF (Eq.refl false) ?_ | refine cN (cF (Eq.refl false) ?_) | refine cTd (by omega) ?_ | refine cFd (by omega) ?_ | refine cN (cTd (by omega) ?_) | refine cN (cFd (by omega) ?_) | refine And.intro (by omega) ?_ | refine And.intro (Eq.refl true) ?_)
    (conv => whnf)
    exact h'
  have h' := h2 (by omega) (by omega)
  repeat ((conv => whnf) <;> first | with_reducible first | refine wI (by omega) ?_ | refine And.intro rfl ?_ | rfl | refine And.intro ‹_› ?_ | refine cTe ‹_› ?_ | refine cFe ‹_› ?_ | refine cN (cTe ‹_› ?_) | refine cN (cFe ‹_› ?_) | refine cTe rfl ?_ | refine cEq ‹_› ?_ | refine cTt ?_ | refine cNt ?_ | refine cF (Eq.refl false) ?_ | refine cN (cF (Eq.refl false) ?_) | refine cTd (by omega) ?_ | refine cFd (by omega) ?_ | refine cN (cTd (by omega) ?_) | refine cN (cFd (by omega) ?_) | refine And.intro (by omega) ?_ | refine And.intro (Eq.refl true) ?_)
  refine ⟨Nat, fun k zs => k ≤ gs.length ∧ zs = [.int .i64 (k : Int), ptA (lkS gs i k)], fun k => gs.length - k, 0, ?_, ?_⟩
  · (conv => whnf)
    exact ⟨_, Subs.refl' _, Nat.zero_le _, zsK rfl (by unfold lkS; rw [if_pos (by omega)])⟩
  rintro k _ ⟨hk, rfl⟩
  have hs := lk_step (gs := gs) (i := i) (k := k) (by omega)
  by_cases hlt : (k : Int) < gs.length
  · have hg : (gs.map ptA).getD (k : Int).toNat .any = ptA (gs.getD k 0) := by rw [List.getD_eq_getElem?_getD]; exact congrArg (fun o => Option.getD o AV.any) (pts_get (by omega))
    have mk : I64 (k : Int) ∧ I64 i := ⟨by unfold I64; omega, hi⟩
    repeat ((conv => whnf) <;> first | with_reducible first | refine wI (by omega) ?_ | refine And.intro rfl ?_ | rfl | refine And.intro ‹_› ?_ | refine cTe ‹_› ?_ | refine cFe ‹_› ?_ | refine cN (cTe ‹_› ?_) | refine cN (cFe ‹_› ?_) | refine cTe rfl ?_ | refine cEq ‹_› ?_ | refine cTt ?_ | refine cNt ?_ | refine cF (Eq.refl false) ?_ | refine cN (cF (Eq.refl false) ?_) | refine cTd (by omega) ?_ | refine cFd (by omega) ?_ | refine cN (cTd (by omega) ?_) | refine cN (cFd (by omega) ?_) | refine And.intro (by omega) ?_ | refine And.intro (Eq.refl true) ?_)
    refine ⟨ptA (gs.getD k 0), hg, ?_⟩
    repeat ((conv => whnf) <;> first | with_reducible first | refine wI (by omega) ?_ | refine And.intro rfl ?_ | rfl | refine And.intro ‹_› ?_ | refine cTe ‹_› ?_ | refine cFe ‹_› ?_ | refine cN (cTe ‹_› ?_) | refine cN (cFe ‹_› ?_) | refine cTe rfl ?_ | refine cEq ‹_› ?_ | refine cTt ?_ | refine cNt ?_ | refine cF (Eq.refl false) ?_ | refine cN (cF (Eq.refl false) ?_) | refine cTd (by omega) ?_ | refine cFd (by omega) ?_ | refine cN (cTd (by omega) ?_) | refine cN (cFd (by omega) ?_) | refine And.intro (by omega) ?_ | refine And.intro (Eq.refl true) ?_)
    (conv => whnf)
    exact ⟨_, Subs.refl' _, k + 1, ⟨by omega, zsK (by omega) hs⟩, by show gs.length - (k + 1) < gs.length - k; omega⟩
  · have e : lkS gs i k = gs.getD i.toNat 0 := by unfold lkS; rw [if_neg (by omega)]
    rw [← e] at h'
    repeat ((conv => whnf) <;> first | with_reducible first | refine wI (by omega) ?_ | refine And.intro rfl ?_ | rfl | refine And.intro ‹_› ?_ | refine cTe ‹_› ?_ | refine cFe ‹_› ?_ | refine cN (cTe ‹_› ?_) | refine cN (cFe ‹_› ?_) | refine cTe rfl ?_ | refine cEq ‹_› ?_ | refine cTt ?_ | refine cNt ?_ | refine cF (Eq.refl false) ?_ | refine cN (cF (Eq.refl false) ?_) | refine cTd (by omega) ?_ | refine cFd (by omega) ?_ | refine cN (cTd (by omega) ?_) | refine cN (cFd (by omega) ?_) | refine And.intro (by omega) ?_ | refine And.intro (Eq.refl true) ?_)
    (conv => whnf)
    exact h'
theorem tb_look_ok : Con Tryz.prog tb_look.1 tb_look.2 := con_tree tcE_ok o_look [.atom (.var 0), .atom (.var 1)] 2 Tryz.func55 rfl c_look aw_look g_look
def tcF : Tab := tb_doubled :: []
theorem tcF_ok : tcF.OK Tryz.prog := tab_cons tb_doubled_ok <| tab_nil _
def o_powers : Orc := { ans := [(10, oB), (13, oB), (14, oV), (17, oB), (18, oV), (21, oB), (22, oV), (25, oB), (27, .one ⟨.leaf (.agg [.whole 0 24]), 1, []⟩), (29, oV), (30, .one ⟨.leaf (.agg [.whole 0 24]), 1, []⟩), (32, .one ⟨.leaf (.agg [.whole 0 24]), 1, []⟩), (33, oV)], lps := [(0, [.row 8 32 24, .slot 24 [.one], .blk 0 [.agg 24]])] }
def t_powers : Tree :=
  .new <|
  .calc2 (.binOp .lss 3 (.tmp 9) (.const (.int .i64 0)) 3) 4 [(9, .leaf (.atom (.var 1)))] ([], []) (.leaf (.atom (.const (.bool true)))) 0 (
    .ret ([], []) (.tup [.atom (.const (.slice none 0 0)), .atom (.const (.int .i64 10))])) (.leaf (.atom (.const (.bool false)))) 0 <|
  .calc2 (.binOp .gtr 3 (.tmp 12) (.const (.int .i64 64)) 3) 4 [(12, .leaf (.atom (.var 1)))] ([], []) (.leaf (.atom (.const (.bool true)))) 0 (
    .ret ([], []) (.tup [.atom (.const (.slice none 0 0)), .atom (.const (.int .i64 10))])) (.leaf (.atom (.const (.bool false)))) 0 <|
  .calc2 (.binOp .lss 3 (.tmp 16) (.const (.int .i64 0)) 3) 4 [(16, .leaf (.atom (.var 2)))] ([], []) (.leaf (.atom (.const (.bool true)))) 0 (
    .ret ([], []) (.tup [.atom (.const (.slice none 0 0)), .atom (.const (.int .i64 10))])) (.leaf (.atom (.const (.bool false)))) 0 <|
  .calc2 (.binOp .gtr 3 (.tmp 20) (.const (.int .i64 512)) 3) 4 [(20, .leaf (.atom (.var 2)))] ([], []) (.leaf (.atom (.const (.bool true)))) 0 (
    .ret ([], []) (.tup [.atom (.const (.slice none 0 0)), .atom (.const (.int .i64 10))])) (.leaf (.atom (.const (.bool false)))) 0 <|
  .loop [.atom (.const (.slice none 0 0)), .agg [], .atom (.const (.int .i64 0)), .agg [.whole 0 24]] [.one, .row, .one, .agg 24] <|
  .calc2 (.binOp .lss 3 (.tmp 24) (.tmp 23) 3) 4 [(24, .leaf (.atom (.var 5))), (23, .leaf (.atom (.var 1)))] ([], []) (.leaf (.atom (.const (.bool true)))) 0 (
    .new <|
    .app (some 4) [.whole 6 24] 24 <|
    .call 59 [.agg [.whole 6 24], .atom (.var 2)] ([], []) (.leaf (.agg [.whole 9 24])) 1 [] <|
    .calc (.binOp .add 3 (.tmp 24) (.const (.int .i64 1)) 3) 3 [(24, .leaf (.atom (.var 5)))] ([], []) (.leaf (.atom (.var 10))) 1 <|
    .again 0 [.atom (.var 7), .agg [.rest 8], .atom (.var 10), .agg [.whole 9 24]]) (.leaf (.atom (.const (.bool false)))) 0 <|
  .ret ([([.whole 6 24], 32)], [⟨3, 4, 32, 24⟩]) (.tup [.atom (.var 3), .atom (.const (.int .i64 0))])
theorem c_powers : compF Tryz.prog Tryz.f23 o_powers (Tryz.f23.body.getD .skip) (symIn [.agg [.whole 0 24], .atom (.var 1), .atom (.var 2)] Tryz.f23.ntmps 3) = some t_powers := by kernel_rfl
theorem g_powers : goodC Tryz.prog o_powers.ords (Tryz.f23.body.getD .skip) = true := by kernel_rfl
def tb_powers : FuncId × Trans := (23, tPowers)
set_option maxRecDepth 100000 in
theorem aw_powers : ∀ zs Q, tb_powers.2 zs Q → bindLs 0 [.agg [.whole 0 24], .atom (.var 1), .atom (.var 2)] zs fun ae => bif Nat.beq ae.length 3 then AWp Tryz.prog tcF Q t_powers [] ae else False := by
  intro zs Q h
  replace h : tPowers zs Q := h
  unfold tPowers at h
  split at h
  case h_2 => exact h.elim
  rename_i p n ap
  obtain ⟨h1, h2⟩ := h
  by_cases a1 : n < 0
  · have h' := h1 (by omega)
    repeat ((conv => whnf) <;> first | with_reducible first | refine wI (by omega) ?_ | refine And.intro rfl ?_ | rfl | refine And.intro ‹_› ?_ | refine cTe ‹_› ?_ | refine cFe ‹_› ?_ | refine cN (cTe ‹_› ?_) | refine cN (cFe ‹_› ?_) | refine cTe rfl ?_ | refine cEq ‹_› ?_ | refine cTt ?_ | refine cNt ?_ | refine cF (Eq.refl false) ?_ | refine cN (cF (Eq.refl false) ?_) | refine cTd (by omega) ?_ | refine cFd (by omega) ?_ | refine cN (cTd (by omega) ?_) | refine cN (cFd (by omega) ?_) | refine And.intro (fun hh : Option.isSome none = true => by cases hh) ?_ | refine And.intro (by omega) ?_ | refine And.intro (Eq.refl true) ?_ | refine And.intro (Eq.refl (1 : Nat)) ?_)
    (conv => whnf)
    exact h'
  by_cases a2 : n > 64
  · have h' := h1 (by omega)
    repeat ((conv => whnf) <;> first | with_reducible first | refine wI (by omega) ?_ | refine And.intro rfl ?_ | rfl | refine And.intro ‹_› ?_ | refine cTe ‹_› ?_ | refine cFe ‹_› ?_ | refine cN (cTe ‹_› ?_) | refine cN (cFe ‹_› ?_) | refine cTe rfl ?_ | refine cEq ‹_› ?_ | refine cTt ?_ | refine cNt ?_ | refine cF (Eq.refl false) ?_ | refine cN (cF (Eq.refl false) ?_) | refine cTd (by omega) ?_ | refine cFd (by omega) ?_ | refine cN (cTd (by omega) ?_) | refine cN (cFd (by omega) ?_) | refine And.intro (fun hh : Option.isSome none = true => by cases hh) ?_ | refine And.intro (by omega) ?_ | refine And.intro (Eq.refl true) ?_ | refine And.intro (Eq.refl (1 : Nat)) ?_)
    (conv => whnf)
    exact h'
  by_cases a3 : ap < 0
  · have h' := h1 (by omega)
    repeat ((conv => whnf) <;> first | with_reducible first | refine wI (by omega) ?_ | refine And.intro rfl ?_ | rfl | refine And.intro ‹_› ?_ | refine cTe ‹_› ?_ | refine cFe ‹_› ?_ | refine cN (cTe ‹_› ?_) | refine cN (cFe ‹_› ?_) | refine cTe rfl ?_ | refine cEq ‹_› ?_ | refine cTt ?_ | refine cNt ?_ | refine cF (Eq.refl false) ?_ | refine cN (cF (Eq.refl false) ?_) | refine cTd (by omega) ?_ | refine cFd (by omega) ?_ | refine cN (cTd (by omega) ?_) | refine cN (cFd (by omega) ?_) | refine And.intro (fun hh : Option.isSome none = true => by cases hh) ?_ | refine And.intro (by omega) ?_ | refine And.intro (Eq.refl true) ?_ | refine And.intro (Eq.refl (1 : Nat)) ?_)
    (conv => whnf)
    exact h'
  by_cases a4 : ap > 512
  · have h' := h1 (by omega)
    repeat ((conv => whnf) <;> first | with_reducible first | refine wI (by omega) ?_ | refine And.intro rfl ?_ | rfl | refine And.intro ‹_› ?_ | refine cTe ‹_› ?_ | refine cFe ‹_› ?_ | refine cN (cTe ‹_› ?_) | refine cN (cFe ‹_› ?_) | refine cTe rfl ?_ | refine cEq ‹_› ?_ | refine cTt ?_ | refine cNt ?_ | refine cF (Eq.refl false) ?_ | refine cN (cF (Eq.refl false) ?_) | refine cTd (by omega) ?_ | refine cFd (by omega) ?_ | refine cN (cTd (by omega) ?_) | refine cN (cFd (by omega) ?_) | refine And.intro (fun hh : Option.isSome none = true => by cases hh) ?_ | refine And.intro (by omega) ?_ | refine And.intro (Eq.refl true) ?_ | refine And.intro (Eq.refl (1 : Nat)) ?_)
    (conv => whnf)
    exact h'
  have h' := h2 (by omega) (by omega) (by omega) (by omega)
  repeat ((conv => whnf) <;> first | with_reducible first | refine wI (by omega) ?_ | refine And.intro rfl ?_ | rfl | refine And.intro ‹_› ?_ | refine cTe ‹_› ?_ | refine cFe ‹_› ?_ | refine cN (cTe ‹_› ?_) | refine cN (cFe ‹_› ?_) | refine cTe rfl ?_ | refine cEq ‹_› ?_ | refine cTt ?_ | refine cNt ?_ | refine cF (Eq.refl false) ?_ | refine cN (cF (Eq.refl false) ?_) | refine cTd (by omega) ?_ | refine cFd (by omega) ?_ | refine cN (cTd (by omega) ?_) | refine cN (cFd (by omega) ?_) | refine And.intro (fun hh : Option.isSome none = true => by cases hh) ?_ | refine And.intro (by omega) ?_ | refine And.intro (Eq.refl true) ?_ | refine And.intro (Eq.refl (1 : Nat)) ?_)
  refine ⟨Nat, fun i zs => i ≤ n.toNat ∧ zs = [.row i, .agg ((powL p ap.toNat i).map ptA), .int .i64 (i : Int), ptA (mulG (2 ^ (ap.toNat * i)) p)], fun i => n.toNat - i, 0, ?_, ?_⟩
  · (conv => whnf)
    exact ⟨[.row 0, .agg [], .int .i64 0, ptA p], ⟨sub_row0, Sub.refl' _, Sub.refl' _, Sub.refl' _, trivial⟩, Nat.zero_le _, zsPt rfl rfl rfl (by rw [Nat.mul_zero, Nat.pow_zero, mulG_one])⟩
  rintro i _ ⟨hi, rfl⟩
  have hs := pow_step p ap.toNat i
  have hp := powL_s p ap.toNat i
  have hz := powL_len p ap.toNat i
  generalize mulG (2 ^ (ap.toNat * i)) p = x at *
  by_cases hlt : (i : Int) < n
  · generalize powL p ap.toNat i = L at *
    have sz : (AV.agg (L.map ptA ++ [one [ptA x]])).size = 24 * L.length + 24 := pts_push_size L x
    have hd : 0 ≤ ap ∧ ap ≤ 100000 := by omega
    repeat ((conv => whnf) <;> first | with_reducible first | refine wI (by omega) ?_ | refine And.intro rfl ?_ | rfl | refine And.intro ‹_› ?_ | refine cTe ‹_› ?_ | refine cFe ‹_› ?_ | refine cN (cTe ‹_› ?_) | refine cN (cFe ‹_› ?_) | refine cTe rfl ?_ | refine cEq ‹_› ?_ | refine cTt ?_ | refine cNt ?_ | refine cF (Eq.refl false) ?_ | refine cN (cF (Eq.refl false) ?_) | refine cTd (by omega) ?_ | refine cFd (by omega) ?_ | refine cN (cTd (by omega) ?_) | refine cN (cFd (by omega) ?_) | refine And.intro (fun hh : Option.isSome none = true => by cases hh) ?_ | refine And.intro (by omega) ?_ | refine And.intro (Eq.refl true) ?_ | refine And.intro (Eq.refl (1 : Nat)) ?_)
    (conv => whnf)
    refine ⟨_, Subs.refl' _, i + 1, ⟨by omega, zsPt ?_ ?_ (by omega) hs⟩, by show n.toNat - (i + 1) < n.toNat - i; omega⟩
    · show (AV.agg (L.map ptA ++ [one [ptA x]])).size / 24 = i + 1
      rw [sz, hz]; omega
    · rw [hp]; exact pts_push L x
  · obtain rfl : i = n.toNat := by omega
    repeat ((conv => whnf) <;> first | with_reducible first | refine wI (by omega) ?_ | refine And.intro rfl ?_ | rfl | refine And.intro ‹_› ?_ | refine cTe ‹_› ?_ | refine cFe ‹_› ?_ | refine cN (cTe ‹_› ?_) | refine cN (cFe ‹_› ?_) | refine cTe rfl ?_ | refine cEq ‹_› ?_ | refine cTt ?_ | refine cNt ?_ | refine cF (Eq.refl false) ?_ | refine cN (cF (Eq.refl false) ?_) | refine cTd (by omega) ?_ | refine cFd (by omega) ?_ | refine cN (cTd (by omega) ?_) | refine cN (cFd (by omega) ?_) | refine And.intro (fun hh : Option.isSome none = true => by cases hh) ?_ | refine And.intro (by omega) ?_ | refine And.intro (Eq.refl true) ?_ | refine And.intro (Eq.refl (1 : Nat)) ?_)
    refine ⟨by show 0 < 24; omega, pts_sz _, ?_⟩
    (conv => whnf)
    exact h'
theorem tb_powers_ok : Con Tryz.prog tb_powers.1 tb_powers.2 := con_tree tcF_ok o_powers [.agg [.whole 0 24], .atom (.var 1), .atom (.var 2)] 3 Tryz.func23 rfl c_powers aw_powers g_powers
end Go.Proofs.YtamgmkeoaaaliaaGreat
