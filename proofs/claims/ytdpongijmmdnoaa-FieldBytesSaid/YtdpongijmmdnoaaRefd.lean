/- bytes that a call makes; the statements' helpers Is, Plain; the document's p, Fits: over trees. WRITTEN BY gen_refd.py -/
import Derived.Test.YtdpongijmmdnoaaRefc
namespace Go.Proofs.Ytdpongijmmdnoaa
open Go.RowKit FdP FdP.Ch

theorem raw_dig (a : F) : bval (rawF (dig a.val)) = a.val := by
  rw [rawF_law _ rfl (dig_bd _), val_dig _ (by omega) (val_lt a)]
theorem raw_inj {a b : F} (h : rawF (dig a.val) = rawF (dig b.val)) : a = b := by
  have h1 := raw_dig a
  rw [h, raw_dig] at h1
  exact Fin.ext (by omega)
theorem is_key {l : List Int} {x : F} (hE : E l x) (b : F) : decide (bytesF l = rawF (dig b.val)) = decide (x = b) := by
  rw [bytes_eq hE, decide_eq_decide]
  exact ⟨raw_inj, fun h => by rw [h]⟩

section
variable {w0 : World} {R : Ending → World → Prop} {L : List (List Value → Prop)} {env : List Value} {gs : List Nat}
/-- a call that makes bytes -/
theorem tw_B {f : FuncId} {args : List Leaf} {bl : Mem} {k : Tree} {m B : Nat} (xs : List Int)
    (hc : ∀ W, Mm w0 W env gs bl → Calls Try.prog f (args.map (Leaf.den env gs)).toArray W (OutB xs W))
    (hm : env.length = m) (hg : gs.length = B)
    (hk : ∀ g cap sp, TWp Try.prog w0 R k L (env ++ [.slice none xs.length cap, AG (ys xs), AG sp]) (gs ++ [g])) :
    TWp Try.prog w0 R (.call f args bl (.leaf (.atom (.slcx B 0 m))) 3 [([.rest (m + 1), .junk (m + 2)], 5)] k) L env gs := by
  subst hm; subst hg
  intro W hW
  refine (hc W hW).mono fun e w' ⟨v, he, ⟨g, cap, sp, hv, hg, ho⟩, hF⟩ => ?_
  refine ⟨[.slice none xs.length cap, AG (ys xs), AG sp], [g], rfl, rfl, ?_, ?_, ?_, hF, ?_, hk g cap sp⟩
  · rw [he, hv]; simp [SV.den, Leaf.den, Atom.den, List.getD]
  · exact ⟨by simp, by simp⟩
  · intro b hb s hs
    simp only [List.mem_singleton] at hb; subst hb
    simp only [List.mem_cons, List.not_mem_nil, or_false] at hs
    rcases hs with rfl | rfl
    · exact ⟨xs.length, ys xs, by simp [AG], by simp [ys], ys_one _⟩
    · exact ⟨sp, by simp [AG]⟩
  · refine ⟨?_, by simp [bsA]⟩
    intro x hx
    simp only [bsA, List.zipWith_cons_cons, List.zipWith_nil_left, List.mem_singleton] at hx; subst hx
    refine ⟨hg, ?_⟩
    simpa [catS, Seg.den, cellsAt, AG, Value.cells, List.getD] using ho
/-- the bytes of an own block -/
theorem Mm.rd {W : World} {bl : Mem} (h : Mm w0 W env gs bl) (j g : Nat) (xs : List Int) (sp : List Value) (T : TypeId) (hb : (bsD env gs bl.1)[j]? = some (g, ys xs ++ sp, T)) : Rd W g 0 xs := (h.1.own _ (List.mem_of_getElem? hb)).2.rd
theorem Mm.sl {W : World} {bl : Mem} (h : Mm w0 W env gs bl) (j g cap : Nat) (xs : List Int) (sp : List Value) (hb : (bsD env gs bl.1)[j]? = some (g, ys xs ++ sp, 5)) : Sl w0 W (.slice (some ⟨g, 0, none⟩) xs.length cap) xs :=
  ⟨g, cap, sp, rfl, (h.1.own _ (List.mem_of_getElem? hb)).1, (h.1.own _ (List.mem_of_getElem? hb)).2⟩
end
/-- a truth that is handed back -/
theorem tw_truth {w : World} {L : List (List Value → Prop)} {env : List Value} {gs : List Nat} (b c : Bool) (h : b = c) : TWp Try.prog w (OutV (.bool b) w) (.ret ([], []) (.leaf (.atom (.const (.bool c))))) L env gs := by
  subst h; exact tw_retV rfl rfl
theorem bval_inj : ∀ a b : List Int, a.length = b.length → By a → By b → bval a = bval b → a = b
  | [], [], _, _, _, _ => rfl
  | [], _ :: _, h, _, _, _ => by simp at h
  | _ :: _, [], h, _, _, _ => by simp at h
  | x :: a, y :: b, h, ha, hb, e => by
    have h1 := ha x (by simp)
    have h2 := hb y (by simp)
    simp only [bval] at e
    have ih := bval_inj a b (by simpa using h) (fun z hz => ha z (by simp [hz])) (fun z hz => hb z (by simp [hz])) (by omega)
    rw [ih, show x = y by omega]
theorem sv_of {W : World} {g off cap : Nat} {xs : List Int} (h : Rd W g off xs) : Sv W (.slice (some ⟨g, off, none⟩) xs.length cap) xs := ⟨_, _, rfl, fun _ => ⟨_, _, rfl, h⟩⟩
def o_is : Orc := { ans := [(5, .one ⟨.leaf (.atom (.var 0)), 1, []⟩), (6, .one ⟨.leaf (.atom (.slcx 0 0 0)), 3, [([.rest 1, .junk 2], 5)]⟩), (7, .one ⟨.leaf (.atom (.var 0)), 1, []⟩), (8, .one ⟨.leaf (.atom (.slcx 0 0 0)), 3, [([.rest 1, .junk 2], 5)]⟩), (9, .two ⟨.leaf (.atom (.const (.bool true))), 0, []⟩ ⟨.leaf (.atom (.const (.bool false))), 0, []⟩)], lps := [] }
def t_is : Tree :=
  .new <|
  .new <|
  .call 33 [.agg [.whole 0 8]] ([], []) (.leaf (.atom (.slcx 2 0 2))) 3 [([.rest 3, .junk 4], 5)] <|
  .call 42 [.agg [.whole 1 16]] ([], []) (.leaf (.atom (.slcx 3 0 5))) 3 [([.rest 6, .junk 7], 5)] <|
  .call2 28 [.atom (.slcx 2 0 2), .atom (.slcx 3 0 5)] ([([.whole 0 8], 27), ([.whole 1 16], 31), ([.rest 3, .junk 4], 5), ([.rest 6, .junk 7], 5)], []) (.leaf (.atom (.const (.bool true)))) 0 [] (
    .ret ([], []) (.leaf (.atom (.const (.bool true))))) (.leaf (.atom (.const (.bool false)))) 0 [] <|
  .ret ([], []) (.leaf (.atom (.const (.bool false))))
theorem c_is : compF Try.prog Try.f13 o_is (Try.f13.body.getD .skip) (symIn [.agg [.whole 0 8], .agg [.whole 1 16]] Try.f13.ntmps 2) = some t_is := by kernel_rfl

theorem is_c {l : List Int} {x : F} (hE : E l x) (b : F) (w : World) : Calls Try.prog 13 #[AG (us l), FG b] w (OutV (.bool (decide (x = b))) w) := by
  have ll := hE.len
  have key := is_key hE b
  refine calls_tree o_is [.agg [.whole 0 8], .agg [.whole 1 16]] [AG (us l), FG b] Try.func13 rfl c_is rfl (by intro x hx; simp at hx; rcases hx with rfl | rfl <;> intro s hs <;> simp at hs <;> subst hs <;> first | exact ⟨_, rfl, by simp [ll], us_one _⟩ | exact FG_ok _ 1 b rfl) ?_
  refine tw_new fun _ => tw_new fun _ => ?_
  refine tw_B (bytesF l) (fun W _ => bytes_any l ll hE.bd W) rfl rfl fun g1 c1 s1 => ?_
  conv => enter [6]; dsimp only [List.cons_append, List.nil_append]
  refine tw_B (rawF (dig b.val)) (fun W _ => rbytes_c b W) rfl rfl fun g2 c2 s2 => ?_
  conv => enter [6]; dsimp only [List.cons_append, List.nil_append]
  have lx : (bytesF l).length ≤ 1000000 := by simp
  generalize bytesF l = xs at *
  generalize rawF (dig b.val) = zs at *
  exact tw_bool (decide (x = b)) (fun W hW => (lawEq_any xs zs (.slice (some ⟨g1, 0, none⟩) xs.length c1) (.slice (some ⟨g2, 0, none⟩) zs.length c2) W
    (sv_of (hW.rd 2 g1 xs s1 _ rfl)) (sv_of (hW.rd 3 g2 zs s2 _ rfl)) lx).mono fun e w' ⟨h1, h2⟩ => ⟨by rw [h1, key], h2⟩) (tw_truth _ _) (tw_truth _ _)
def o_plain : Orc := { ans := [(3, .one ⟨.leaf (.atom (.var 0)), 1, []⟩), (4, .one ⟨.leaf (.atom (.slcx 0 0 0)), 3, [([.rest 1, .junk 2], 5)]⟩), (5, .one ⟨.leaf (.agg [.whole 0 16]), 1, []⟩)], lps := [] }
def t_plain : Tree :=
  .new <|
  .new <|
  .call 41 [.agg [.whole 0 56]] ([], []) (.leaf (.atom (.slcx 2 0 1))) 3 [([.rest 2, .junk 3], 5)] <|
  .call 31 [.atom (.slcx 2 0 1)] ([([.whole 0 56], 23), ([.lit [.int .i64 0, .int .i64 0, .int .i64 0, .int .i64 0, .int .i64 0, .int .i64 0, .int .i64 0, .int .i64 0, .int .i64 0, .int .i64 0, .int .i64 0, .int .i64 0, .int .i64 0, .int .i64 0, .int .i64 0, .int .i64 0]], 31), ([.rest 2, .junk 3], 5)], []) (.leaf (.agg [.whole 4 16])) 1 [] <|
  .ret ([], []) (.leaf (.agg [.whole 4 16]))
theorem c_plain : compF Try.prog Try.f12 o_plain (Try.f12.body.getD .skip) (symIn [.agg [.whole 0 56]] Try.f12.ntmps 1) = some t_plain := by kernel_rfl

theorem plain_c (b : List Int) (lb : b.length = 56) (yb : By b) (w : World) : Calls Try.prog 12 #[AG (ys b)] w (OutV (FG (z (bval b))) w) := by
  refine calls_tree o_plain [.agg [.whole 0 56]] [AG (ys b)] Try.func12 rfl c_plain rfl (by intro x hx; simp at hx; subst hx; intro s hs; simp at hs; subst hs; exact ⟨_, rfl, by simp [lb], ys_one _⟩) ?_
  refine tw_new fun _ => tw_new fun _ => ?_
  refine tw_B b (fun W _ => lawBytes_any b lb W) rfl rfl fun g1 c1 s1 => ?_
  conv => enter [6]; dsimp only [List.cons_append, List.nil_append]
  refine tw_F (z (bval b)) (fun W hW => ?_) rfl ?_
  · have := rof_c g1 0 c1 b lb yb W (hW.rd 2 g1 b s1 _ rfl)
    rw [← lb] at this; exact this
  exact tw_retV rfl rfl
theorem primeD_pairs : pairs primeD = primeL := by decide
def o_rprimeB : Orc := { ans := [(1, .one ⟨.leaf (.agg [.whole 0 16]), 1, []⟩), (2, .one ⟨.leaf (.atom (.slcx 0 0 0)), 3, [([.rest 1, .junk 2], 5)]⟩)], lps := [] }
def t_rprimeB : Tree :=
  .call 49 [] ([], []) (.leaf (.agg [.whole 0 16])) 1 [] <|
  .call 42 [.agg [.whole 0 16]] ([], []) (.leaf (.atom (.slcx 0 0 1))) 3 [([.rest 2, .junk 3], 5)] <|
  .ret ([([.rest 2, .junk 3], 5)], []) (.leaf (.atom (.slcx 0 0 1)))
theorem c_rprimeB : compF Try.prog Try.f30 o_rprimeB (Try.f30.body.getD .skip) (symIn [] Try.f30.ntmps 0) = some t_rprimeB := by kernel_rfl

theorem rprimeB_c (w : World) : Calls Try.prog 30 #[] w (OutB (rawF primeL) w) := by
  refine calls_tree o_rprimeB [] [] Try.func30 rfl c_rprimeB rfl (by intro x hx; cases hx) ?_
  refine tw_agg (cs := is primeD) (fun W _ => rprime_any W) rfl (by simp) (is_one _) ?_
  refine tw_B (rawF primeL) (fun W _ => ?_) rfl rfl fun g1 c1 s1 => ?_
  · have := rbytes_g primeD rfl primeD_dg W
    rw [primeD_pairs] at this; exact this
  exact tw_ret fun W hW => ⟨_, rfl, hW.sl 0 g1 c1 (rawF primeL) s1 rfl, hW.1.below⟩
/-- does the number fit? -/
theorem fits_key (b : List Int) (lb : b.length = 56) (yb : By b) : b = rawF (dig (z (bval b)).val) ↔ bval b < P := by
  have h1 := raw_dig (z (bval b))
  constructor
  · intro h
    rw [h, h1]
    have := (z (bval b)).isLt; omega
  · intro h
    have h0 := bval_bd yb
    have hv : ((z (bval b)).val : Int) = bval b := by rw [z_val]; exact Int.emod_eq_of_lt h0.1 h
    rw [hv] at h1 ⊢
    exact bval_inj b _ (by rw [lb, rawF_len]) yb (rawF_by _) h1.symm
def o_rfits : Orc := { ans := [(6, .one ⟨.leaf (.agg [.whole 0 16]), 1, []⟩), (7, .one ⟨.leaf (.atom (.slcx 0 0 0)), 3, [([.rest 1, .junk 2], 5)]⟩), (9, .two ⟨.leaf (.atom (.const (.bool true))), 0, []⟩ ⟨.leaf (.atom (.const (.bool false))), 0, []⟩), (14, .one ⟨.leaf (.atom (.var 0)), 1, []⟩), (15, .one ⟨.leaf (.atom (.var 0)), 1, []⟩), (18, .one ⟨.leaf (.atom (.var 0)), 1, []⟩), (19, .one ⟨.leaf (.atom (.var 0)), 1, []⟩), (20, .two ⟨.leaf (.atom (.const (.bool true))), 0, []⟩ ⟨.leaf (.atom (.const (.bool false))), 0, []⟩), (11, .one ⟨.leaf (.atom (.var 0)), 1, []⟩)], lps := [(0, [.slot 4 [.one]])] }
def t_rfits : Tree :=
  .call 31 [.atom (.var 0)] ([], []) (.leaf (.agg [.whole 1 16])) 1 [] <|
  .call 42 [.agg [.whole 1 16]] ([], []) (.leaf (.atom (.slcx 0 0 2))) 3 [([.rest 3, .junk 4], 5)] <|
  .loop [.atom (.const (.int .i64 0))] [.one] <|
  .calc2 (.binOp .lss 3 (.tmp 8) (.const (.int .i64 56)) 3) 4 [(8, .leaf (.atom (.var 5)))] ([], []) (.leaf (.atom (.const (.bool true)))) 0 (
    .calc (.indexAddr 47 (.tmp 12) (.tmp 13)) 0 [(12, .leaf (.atom (.var 0))), (13, .leaf (.atom (.var 5)))] ([], []) (.leaf (.atom (.var 6))) 1 <|
    .calc (.load 5 (.tmp 14)) 5 [(14, .leaf (.atom (.var 6)))] ([], []) (.leaf (.atom (.var 7))) 1 <|
    .boundx 5 2 <|
    .ldi [.rest 3] 0 5 1 1 false <|
    .calc2 (.binOp .neq 5 (.tmp 15) (.tmp 19) 5) 4 [(15, .leaf (.atom (.var 7))), (19, .leaf (.atom (.var 8)))] ([], []) (.leaf (.atom (.const (.bool true)))) 0 (
      .ret ([], []) (.leaf (.atom (.const (.bool false))))) (.leaf (.atom (.const (.bool false)))) 0 <|
    .calc (.binOp .add 3 (.tmp 10) (.const (.int .i64 1)) 3) 3 [(10, .leaf (.atom (.var 5)))] ([], []) (.leaf (.atom (.var 9))) 1 <|
    .again 0 [.atom (.var 9)]) (.leaf (.atom (.const (.bool false)))) 0 <|
  .ret ([], []) (.leaf (.atom (.const (.bool true))))
theorem c_rfits : compF Try.prog Try.f32 o_rfits (Try.f32.body.getD .skip) (symIn [.atom (.var 0)] Try.f32.ntmps 1) = some t_rfits := by kernel_rfl

theorem rfits_c (g off cap : Nat) (b : List Int) (lb : b.length = 56) (yb : By b) (w : World) (hr : Rd w g off b) : Calls Try.prog 32 #[.slice (some ⟨g, off, none⟩) 56 cap] w (OutV (.bool (decide (bval b < P))) w) := by
  have Hr := hide hr; clear hr
  have hk := fits_key b lb yb
  refine calls_tree o_rfits [.atom (.var 0)] [.slice (some ⟨g, off, none⟩) 56 cap] Try.func32 rfl c_rfits rfl (by intro x hx; simp at hx; subst hx; exact ⟨by simp, rfl⟩) ?_
  refine tw_F (z (bval b)) (fun W hW => rof_c g off cap b lb yb W (Hr.out.below hW.1.below)) rfl ?_
  conv => enter [6]; dsimp only [List.cons_append, List.nil_append]
  refine tw_B (rawF (dig (z (bval b)).val)) (fun W _ => rbytes_c _ W) rfl rfl fun g1 c1 s1 => ?_
  conv => enter [6]; dsimp only [List.cons_append, List.nil_append]
  generalize hcc : rawF (dig (z (bval b)).val) = cc at *
  have lc : cc.length = 56 := by rw [← hcc]; simp
  refine tw_countI 56 (fun i vs => vs = [.int .i64 (i : Int)] ∧ ∀ j, j < i → b.getD j 0 = cc.getD j 0) ⟨rfl, fun j hj => by omega⟩ fun i vs p hi _ hI hp => ?_
  conv => enter [6]; dsimp only [List.cons_append, List.nil_append]
  obtain ⟨rfl, hI⟩ := hI
  refine tw_cmp _ rfl rfl (bin_lss _ _ _ _) (fun ht => ?_) (fun hf => ?_)
  · have hi' : i < 56 := by have := of_decide_eq_true ht; omega
    refine tw_xidx rfl rfl tlS tlF.2.1 (by omega) (by omega) rfl ?_
    conv => enter [6]; dsimp only [List.cons_append, List.nil_append]
    refine tw_xload (v := .int .u8 (b.getD i 0)) rfl tlF.2.2 (fun W hW => ?_) rfl rfl ?_
    · have := (Hr.out.kept hW) i (by omega)
      rw [← this]; congr 1
      simp [addr_add]
    refine tw_boundx rfl (by omega) (by show (i : Int) < ((cc.length : Nat) : Int); omega) ?_
    refine tw_ldi i (by show 0 + intN (.int .i64 (i : Int)) * 1 = i; simp only [intN]; omega) (ys_get cc i (by omega)) ?_
    conv => enter [6]; dsimp only [List.cons_append, List.nil_append]
    refine tw_cmp _ rfl rfl (bin_neq _ _ _ _) (fun hn => ?_) (fun hn => ?_)
    · have hne : ¬ bval b < P := fun h => by
        have := hk.2 h
        rw [← this] at hn
        simp at hn
      rw [decide_eq_false hne]
      exact tw_retV rfl rfl
    · have he : b.getD i 0 = cc.getD i 0 := by simpa using hn
      refine tw_bin rfl rfl (bin_add_in _ rfl (by omega)) rfl rfl ?_
      conv => enter [6]; dsimp only [List.cons_append, List.nil_append]
      exact tw_again rfl rfl (hp (i + 1) _ (by omega) (by omega) ⟨rfl, fun j hj => by
        by_cases h : j = i
        · rw [h]; exact he
        · exact hI j (by omega)⟩)
  · have hi' : i = 56 := by have := of_decide_eq_false hf; omega
    subst hi'
    have he : b = cc := getD_ext (by omega) fun j hj => hI j (by omega)
    rw [decide_eq_true (hk.1 he)]
    exact tw_retV rfl rfl
end Go.Proofs.Ytdpongijmmdnoaa
