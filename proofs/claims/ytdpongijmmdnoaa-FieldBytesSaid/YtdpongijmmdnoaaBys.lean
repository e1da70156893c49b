/- FieldBytes' walk: WRITTEN BY gen_law4.py -/
import Derived.Test.YtdpongijmmdnoaaLwa
namespace Go.Proofs.Ytdpongijmmdnoaa
open Go.RowKit FdP FdP.Ch

section
variable {w0 : World} {R : Ending → World → Prop} {L : List (List Value → Prop)} {env : List Value} {gs : List Nat}
/-- an element, and a value -/
def OutEV (x : F) (v : Value) (W : World) (e : Ending) (w' : World) : Prop := ∃ l, e = .returned (.tuple #[AG (us l), v]) ∧ E l x ∧ Fut W w'
theorem tw_EV {f : FuncId} {args : List Leaf} {bl : Mem} {k : Tree} {m m' : Nat} (x : F) (v : Value)
    (hc : ∀ W, Mm w0 W env gs bl → Calls Try.prog f (args.map (Leaf.den env gs)).toArray W (OutEV x v W))
    (hm : env.length = m) (hm' : m + 1 = m') (h1 : v.oneCell' = true) (hk : ∀ l, E l x → TWp Try.prog w0 R k L (env ++ [AG (us l), v]) gs) :
    TWp Try.prog w0 R (.call f args bl (.tup [.agg [.whole m 8], .atom (.var m')]) 2 [] k) L env gs := by
  subst hm; subst hm'
  have c0 : ∀ (a : List Value) (b : Value), cellsAt (env ++ [.agg a.toArray, b]) env.length = a := fun a b => by simp [cellsAt, List.getD, Value.cells]
  have c1 : ∀ a : Value, (env ++ [a, v]).getD (env.length + 1) undef = v := fun a => by simp [List.getD]
  refine tw_call _ hc fun W e w' ⟨l, he, hE, hF⟩ => ⟨[AG (us l), v], rfl, ?_, ?_, hF, hk l hE⟩
  · rw [he]; simp only [SV.den, Leaf.den, catS, Seg.den, AG, c0, Atom.den, List.map_cons, List.map_nil]
    rw [c1]
  · intro y hy
    simp only [List.mem_cons, List.not_mem_nil, or_false] at hy
    rcases hy with rfl | rfl
    · intro s hs; simp only [List.mem_singleton] at hs; subst hs
      exact ⟨us l, by simp [AG], by simp [hE.len], us_one _⟩
    · exact ⟨by simp, by rw [c1]; exact h1⟩
end
theorem of_c (g off cap : Nat) (b : List Int) (lb : b.length = 56) (yb : By b) (W : World) (hr : Rd W g off b) : Calls Try.prog 26 #[.slice (some ⟨g, off, none⟩) 56 cap] W (OutEV (z (bval b)) (.int .i64 0) W) :=
  (of_any g off cap b lb W hr).mono fun _ _ ⟨h1, h2⟩ => ⟨_, h1, of_E b lb yb, h2⟩
theorem of_bad_c (a : Option Addr) (n cap : Nat) (hn : n ≠ 56) (W : World) : Calls Try.prog 26 #[.slice a n cap] W (OutEV 0 (.int .i64 11) W) :=
  (of_bad a n cap hn W).mono fun _ _ ⟨h1, h2⟩ => ⟨_, h1, zero_E, h2⟩
theorem dec_key (b : List Int) (lb : b.length = 56) (yb : By b) : bytesF (ofF b) = b ↔ bval b < P := by
  rw [bytes_eq (of_E b lb yb), ← fits_key b lb yb]
  exact ⟨Eq.symm, Eq.symm⟩
theorem decode_c (g off cap : Nat) (b : List Int) (lb : b.length = 56) (yb : By b) (W : World) (hr : Rd W g off b) : Calls Try.prog 27 #[.slice (some ⟨g, off, none⟩) 56 cap] W
    (OutEV (if bval b < P then z (bval b) else 0) (.int .i64 (if bval b < P then 0 else 12)) W) := by
  refine (decode_any g off cap b lb yb W hr).mono fun e w' ⟨h1, h2⟩ => ?_
  have k := dec_key b lb yb
  by_cases hb : bval b < P
  · rw [if_pos (k.2 hb), if_pos (k.2 hb)] at h1
    rw [if_pos hb, if_pos hb]; exact ⟨_, h1, of_E b lb yb, h2⟩
  · rw [if_neg (fun h => hb (k.1 h)), if_neg (fun h => hb (k.1 h))] at h1
    rw [if_neg hb, if_neg hb]; exact ⟨_, h1, zero_E, h2⟩
theorem decode_bad_c (a : Option Addr) (n cap : Nat) (hn : n ≠ 56) (W : World) : Calls Try.prog 27 #[.slice a n cap] W (OutEV 0 (.int .i64 11) W) :=
  (decode_bad a n cap hn W).mono fun _ _ ⟨h1, h2⟩ => ⟨_, h1, zero_E, h2⟩
theorem p_c (W : World) : Calls Try.prog 29 #[] W (OutB (rawF primeL) W) := p_any W
/-- two rows of bytes that are the same -/
theorem same_c {w0 W : World} {env : List Value} {gs : List Nat} {bl : Mem} (h : Mm w0 W env gs bl) (xs : List Int) (v u : Value) (hv : Sv W v xs) (hu : Sv W u xs) (hl : xs.length ≤ 1000000) :
    Calls Try.prog 28 #[v, u] W (OutV (.bool true) W) := by
  have := lawEq_any xs xs v u W hv hu hl
  rwa [decide_eq_true rfl] at this
def o_bytesLaw : Orc := { ans := [(8, .one ⟨.leaf (.atom (.var 0)), 1, []⟩), (9, .two ⟨.leaf (.atom (.const (.bool true))), 0, []⟩ ⟨.leaf (.atom (.const (.bool false))), 0, []⟩), (10, .one ⟨.leaf (.atom (.const (.bool true))), 0, []⟩), (13, .one ⟨.tup [.agg [.whole 0 8], .atom (.var 1)], 2, []⟩), (18, .one ⟨.tup [.agg [.whole 0 8], .atom (.var 1)], 2, []⟩), (21, .one ⟨.leaf (.atom (.slcx 0 0 0)), 3, [([.rest 1, .junk 2], 5)]⟩), (22, .one ⟨.leaf (.atom (.slcx 0 0 0)), 3, [([.rest 1, .junk 2], 5)]⟩), (23, .one ⟨.leaf (.atom (.const (.bool true))), 0, []⟩), (24, .one ⟨.leaf (.atom (.var 0)), 1, []⟩), (26, .one ⟨.leaf (.atom (.var 0)), 1, []⟩), (27, .two ⟨.leaf (.atom (.const (.bool true))), 0, []⟩ ⟨.leaf (.atom (.const (.bool false))), 0, []⟩), (28, .one ⟨.leaf (.atom (.var 0)), 1, []⟩), (29, .one ⟨.leaf (.atom (.const (.bool true))), 0, []⟩), (32, .two ⟨.leaf (.atom (.const (.bool true))), 0, []⟩ ⟨.leaf (.atom (.const (.bool false))), 0, []⟩), (33, .one ⟨.leaf (.atom (.var 0)), 1, []⟩), (35, .one ⟨.leaf (.atom (.var 0)), 1, []⟩), (36, .one ⟨.leaf (.atom (.const (.bool true))), 0, []⟩), (37, .one ⟨.leaf (.atom (.var 0)), 1, []⟩), (40, .two ⟨.leaf (.atom (.const (.bool true))), 0, []⟩ ⟨.leaf (.atom (.const (.bool false))), 0, []⟩), (41, .one ⟨.leaf (.atom (.var 0)), 1, []⟩), (43, .one ⟨.leaf (.atom (.const (.bool true))), 0, []⟩), (44, .one ⟨.leaf (.atom (.var 0)), 1, []⟩), (46, .two ⟨.leaf (.atom (.const (.bool true))), 0, []⟩ ⟨.leaf (.atom (.const (.bool false))), 0, []⟩), (48, .one ⟨.leaf (.atom (.var 0)), 1, []⟩), (50, .one ⟨.leaf (.agg [.whole 0 16]), 1, []⟩), (51, .one ⟨.leaf (.atom (.const (.bool true))), 0, []⟩), (52, .one ⟨.leaf (.atom (.var 0)), 1, []⟩), (53, .one ⟨.leaf (.atom (.var 0)), 1, []⟩), (55, .two ⟨.leaf (.atom (.const (.bool true))), 0, []⟩ ⟨.leaf (.atom (.const (.bool false))), 0, []⟩), (56, .one ⟨.leaf (.atom (.var 0)), 1, []⟩), (57, .one ⟨.leaf (.atom (.var 0)), 1, []⟩), (58, .one ⟨.leaf (.atom (.const (.bool true))), 0, []⟩), (61, .two ⟨.leaf (.atom (.const (.bool true))), 0, []⟩ ⟨.leaf (.atom (.const (.bool false))), 0, []⟩), (62, .one ⟨.leaf (.atom (.var 0)), 1, []⟩), (64, .one ⟨.leaf (.atom (.const (.bool true))), 0, []⟩), (65, .one ⟨.leaf (.atom (.var 0)), 1, []⟩), (67, .two ⟨.leaf (.atom (.const (.bool true))), 0, []⟩ ⟨.leaf (.atom (.const (.bool false))), 0, []⟩), (69, .one ⟨.leaf (.atom (.var 0)), 1, []⟩), (70, .one ⟨.leaf (.atom (.slcx 0 0 0)), 3, [([.rest 1, .junk 2], 5)]⟩), (72, .one ⟨.leaf (.atom (.const (.bool true))), 0, []⟩), (73, .one ⟨.leaf (.atom (.var 0)), 1, []⟩), (75, .one ⟨.leaf (.atom (.const (.bool true))), 0, []⟩), (76, .one ⟨.leaf (.atom (.var 0)), 1, []⟩)], lps := [] }
def t_bytesLaw : Tree :=
  .calc (.call { callee := .builtin .len, args := #[.tmp 7], argTypes := #[47] }) 3 [(7, .leaf (.atom (.var 0)))] ([], []) (.leaf (.atom (.var 1))) 1 <|
  .calc2 (.binOp .gtr 3 (.tmp 8) (.const (.int .i64 100)) 3) 4 [(8, .leaf (.atom (.var 1)))] ([], []) (.leaf (.atom (.const (.bool true)))) 0 (
    .call 20 [] ([], []) (.leaf (.atom (.const (.bool true)))) 0 [] <|
    .ret ([], []) (.leaf (.atom (.const (.bool true))))) (.leaf (.atom (.const (.bool false)))) 0 <|
  .call 26 [.atom (.var 0)] ([], []) (.tup [.agg [.whole 2 8], .atom (.var 3)]) 2 [] <|
  .new <|
  .call 27 [.atom (.var 0)] ([], []) (.tup [.agg [.whole 4 8], .atom (.var 5)]) 2 [] <|
  .new <|
  .call 29 [] ([], []) (.leaf (.atom (.slcx 2 0 6))) 3 [([.rest 7, .junk 8], 5)] <|
  .call 30 [] ([], []) (.leaf (.atom (.slcx 3 0 9))) 3 [([.rest 10, .junk 11], 5)] <|
  .call 28 [.atom (.slcx 2 0 6), .atom (.slcx 3 0 9)] ([([.whole 2 8], 27), ([.whole 4 8], 27), ([.rest 7, .junk 8], 5), ([.rest 10, .junk 11], 5)], []) (.leaf (.atom (.const (.bool true)))) 0 [] <|
  .calc (.call { callee := .builtin .len, args := #[.tmp 25], argTypes := #[47] }) 3 [(25, .leaf (.atom (.var 0)))] ([], []) (.leaf (.atom (.var 12))) 1 <|
  .calc2 (.binOp .neq 3 (.tmp 26) (.const (.int .i64 56)) 3) 4 [(26, .leaf (.atom (.var 12)))] ([], []) (.leaf (.atom (.const (.bool true)))) 0 (
    .call 24 [.agg [.whole 2 8]] ([], []) (.leaf (.atom (.const (.bool true)))) 0 [] <|
    .calc2 (.binOp .eql 48 (.tmp 31) (.const (.int .i64 11)) 48) 4 [(31, .leaf (.atom (.var 3)))] ([], []) (.leaf (.atom (.const (.bool true)))) 0 (
      .call 24 [.agg [.whole 4 8]] ([], []) (.leaf (.atom (.const (.bool true)))) 0 [] <|
      .calc2 (.binOp .eql 48 (.tmp 39) (.const (.int .i64 11)) 48) 4 [(39, .leaf (.atom (.var 5)))] ([], []) (.leaf (.atom (.const (.bool true)))) 0 (
        .call 20 [] ([], []) (.leaf (.atom (.const (.bool true)))) 0 [] <|
        .ret ([], []) (.leaf (.atom (.const (.bool true))))) (.leaf (.atom (.const (.bool false)))) 0 <|
      .ret ([], []) (.leaf (.atom (.const (.bool false))))) (.leaf (.atom (.const (.bool false)))) 0 <|
    .ret ([], []) (.leaf (.atom (.const (.bool false))))) (.leaf (.atom (.const (.bool false)))) 0 <|
  .calc2 (.binOp .neq 48 (.tmp 45) (.const (.int .i64 0)) 48) 4 [(45, .leaf (.atom (.var 3)))] ([], []) (.leaf (.atom (.const (.bool true)))) 0 (
    .ret ([], []) (.leaf (.atom (.const (.bool false))))) (.leaf (.atom (.const (.bool false)))) 0 <|
  .call 31 [.atom (.var 0)] ([], []) (.leaf (.agg [.whole 13 16])) 1 [] <|
  .call 13 [.agg [.whole 2 8], .agg [.whole 13 16]] ([], []) (.leaf (.atom (.const (.bool true)))) 0 [] <|
  .call2 32 [.atom (.var 0)] ([], []) (.leaf (.atom (.const (.bool true)))) 0 [] (
    .calc2 (.binOp .eql 48 (.tmp 66) (.const (.int .i64 0)) 48) 4 [(66, .leaf (.atom (.var 5)))] ([], []) (.leaf (.atom (.const (.bool true)))) 0 (
      .call 33 [.agg [.whole 4 8]] ([], []) (.leaf (.atom (.slcx 4 0 14))) 3 [([.rest 15, .junk 16], 5)] <|
      .call 28 [.atom (.slcx 4 0 14), .atom (.var 0)] ([([.whole 2 8], 27), ([.whole 4 8], 27), ([.rest 7, .junk 8], 5), ([.rest 10, .junk 11], 5), ([.rest 15, .junk 16], 5)], []) (.leaf (.atom (.const (.bool true)))) 0 [] <|
      .call 20 [] ([], []) (.leaf (.atom (.const (.bool true)))) 0 [] <|
      .ret ([], []) (.leaf (.atom (.const (.bool true))))) (.leaf (.atom (.const (.bool false)))) 0 <|
    .ret ([], []) (.leaf (.atom (.const (.bool false))))) (.leaf (.atom (.const (.bool false)))) 0 [] <|
  .call 24 [.agg [.whole 4 8]] ([], []) (.leaf (.atom (.const (.bool true)))) 0 [] <|
  .calc2 (.binOp .eql 48 (.tmp 60) (.const (.int .i64 12)) 48) 4 [(60, .leaf (.atom (.var 5)))] ([], []) (.leaf (.atom (.const (.bool true)))) 0 (
    .call 20 [] ([], []) (.leaf (.atom (.const (.bool true)))) 0 [] <|
    .ret ([], []) (.leaf (.atom (.const (.bool true))))) (.leaf (.atom (.const (.bool false)))) 0 <|
  .ret ([], []) (.leaf (.atom (.const (.bool false))))
theorem c_bytesLaw : compF Try.prog Try.f5 o_bytesLaw (Try.f5.body.getD .skip) (symIn [.atom (.var 0)] Try.f5.ntmps 1) = some t_bytesLaw := by kernel_rfl


theorem bytesLaw_bad (a : Option Addr) (cap n : Nat) (hl : n ≠ 56) (w : World) : Calls Try.prog 5 #[.slice a n cap] w (OutV (.bool true) w) := by
  refine calls_tree o_bytesLaw [.atom (.var 0)] [.slice a n cap] Try.func5 rfl c_bytesLaw rfl (by intro x hx; simp at hx; subst hx; exact ⟨by simp, rfl⟩) ?_
  refine tw_len rfl tlS rfl ?_
  conv => enter [6]; dsimp only [List.cons_append, List.nil_append]
  refine tw_cmp _ rfl rfl (bin_gtr _ _ _ _) (fun ht => ?_) (fun hf => ?_)
  · refine tw_yes true (fun W _ => awake_c W) rfl ?_
    exact tw_retV rfl rfl
  refine tw_EV 0 (.int .i64 11) (fun W _ => of_bad_c a n cap hl W) rfl rfl rfl fun lx e1 => ?_
  conv => enter [6]; dsimp only [List.cons_append, List.nil_append]
  refine tw_new fun _ => ?_
  refine tw_EV 0 (.int .i64 11) (fun W _ => decode_bad_c a n cap hl W) rfl rfl rfl fun ly e2 => ?_
  conv => enter [6]; dsimp only [List.cons_append, List.nil_append]
  refine tw_new fun _ => ?_
  have lp : (rawF primeL).length ≤ 1000000 := by simp
  refine tw_B (rawF primeL) (fun W _ => p_c W) rfl rfl fun g1 c1 s1 => ?_
  conv => enter [6]; dsimp only [List.cons_append, List.nil_append]
  refine tw_B (rawF primeL) (fun W _ => rprimeB_c W) rfl rfl fun g2 c2 s2 => ?_
  conv => enter [6]; dsimp only [List.cons_append, List.nil_append]
  generalize rawF primeL = pr at *
  refine tw_yes true (fun W hW => same_c hW pr (.slice (some ⟨g1, 0, none⟩) pr.length c1) (.slice (some ⟨g2, 0, none⟩) pr.length c2) (sv_of (hW.rd 2 g1 pr s1 _ rfl)) (sv_of (hW.rd 3 g2 pr s2 _ rfl)) lp) rfl ?_
  refine tw_len rfl tlS rfl ?_
  conv => enter [6]; dsimp only [List.cons_append, List.nil_append]
  refine tw_cmp _ rfl rfl (bin_neq _ _ _ _) (fun _ => ?_) (fun h => by simp at h; omega)
  refine tw_yes true (fun W _ => by have := zero_c e1 W; rwa [decide_eq_true rfl] at this) rfl ?_
  refine tw_cmp _ rfl rfl (bin_eql _ _ _ _) (fun _ => ?_) (fun h => by simp at h)
  refine tw_yes true (fun W _ => by have := zero_c e2 W; rwa [decide_eq_true rfl] at this) rfl ?_
  refine tw_cmp _ rfl rfl (bin_eql _ _ _ _) (fun _ => ?_) (fun h => by simp at h)
  refine tw_yes true (fun W _ => awake_c W) rfl ?_
  exact tw_retV rfl rfl

theorem bytesLaw_56 (g off cap : Nat) (b : List Int) (lb : b.length = 56) (yb : By b) (w : World) (hr : Rd w g off b) : Calls Try.prog 5 #[.slice (some ⟨g, off, none⟩) 56 cap] w (OutV (.bool true) w) := by
  have Hr := hide hr; clear hr
  refine calls_tree o_bytesLaw [.atom (.var 0)] [.slice (some ⟨g, off, none⟩) 56 cap] Try.func5 rfl c_bytesLaw rfl (by intro x hx; simp at hx; subst hx; exact ⟨by simp, rfl⟩) ?_
  refine tw_len rfl tlS rfl ?_
  conv => enter [6]; dsimp only [List.cons_append, List.nil_append]
  refine tw_cmp _ rfl rfl (bin_gtr _ _ _ _) (fun ht => by simp at ht) (fun _ => ?_)
  refine tw_EV (z (bval b)) (.int .i64 0) (fun W hW => of_c g off cap b lb yb W (Hr.out.below hW.1.below)) rfl rfl rfl fun lx e1 => ?_
  conv => enter [6]; dsimp only [List.cons_append, List.nil_append]
  refine tw_new fun _ => ?_
  have dec := decode_c g off cap b lb yb
  generalize hq : (if bval b < P then (0 : Int) else 12) = q at dec
  refine tw_EV (if bval b < P then z (bval b) else 0) (.int .i64 q) (fun W hW => dec W (Hr.out.below hW.1.below)) rfl rfl rfl fun ly e2 => ?_
  conv => enter [6]; dsimp only [List.cons_append, List.nil_append]
  refine tw_new fun _ => ?_
  have lp : (rawF primeL).length ≤ 1000000 := by simp
  refine tw_B (rawF primeL) (fun W _ => p_c W) rfl rfl fun g1 c1 s1 => ?_
  conv => enter [6]; dsimp only [List.cons_append, List.nil_append]
  refine tw_B (rawF primeL) (fun W _ => rprimeB_c W) rfl rfl fun g2 c2 s2 => ?_
  conv => enter [6]; dsimp only [List.cons_append, List.nil_append]
  generalize rawF primeL = pr at *
  refine tw_yes true (fun W hW => same_c hW pr (.slice (some ⟨g1, 0, none⟩) pr.length c1) (.slice (some ⟨g2, 0, none⟩) pr.length c2) (sv_of (hW.rd 2 g1 pr s1 _ rfl)) (sv_of (hW.rd 3 g2 pr s2 _ rfl)) lp) rfl ?_
  refine tw_len rfl tlS rfl ?_
  conv => enter [6]; dsimp only [List.cons_append, List.nil_append]
  refine tw_cmp _ rfl rfl (bin_neq _ _ _ _) (fun h => by simp at h) (fun _ => ?_)
  refine tw_cmp _ rfl rfl (bin_neq _ _ _ _) (fun h => by simp at h) (fun _ => ?_)
  refine tw_F (z (bval b)) (fun W hW => rof_c g off cap b lb yb W (Hr.out.below hW.1.below)) rfl ?_
  conv => enter [6]; dsimp only [List.cons_append, List.nil_append]
  refine tw_yes true (fun W _ => by have := is_c e1 (z (bval b)) W; rwa [decide_eq_true rfl] at this) rfl ?_
  refine tw_bool (decide (bval b < P)) (fun W hW => rfits_c g off cap b lb yb W (Hr.out.below hW.1.below)) (fun ht => ?_) (fun hf => ?_)
  · have hb := of_decide_eq_true ht
    rw [if_pos hb] at hq e2
    subst hq
    have hby : bytesF ly = b := by rw [bytes_eq e2]; exact ((fits_key b lb yb).2 hb).symm
    refine tw_cmp _ rfl rfl (bin_eql _ _ _ _) (fun _ => ?_) (fun h => by simp at h)
    refine tw_B b (fun W _ => by have := bytes_any ly e2.len e2.bd W; rw [hby] at this; exact this) rfl rfl fun g3 c3 s3 => ?_
    conv => enter [6]; dsimp only [List.cons_append, List.nil_append]
    refine tw_yes true (fun W hW => same_c hW b (.slice (some ⟨g3, 0, none⟩) b.length c3) (.slice (some ⟨g, off, none⟩) 56 cap) (sv_of (hW.rd 4 g3 b s3 _ rfl)) ⟨_, _, by rw [lb], fun _ => ⟨_, _, rfl, Hr.out.below hW.1.below⟩⟩ (by omega)) rfl ?_
    refine tw_yes true (fun W _ => awake_c W) rfl ?_
    exact tw_retV rfl rfl
  · have hb := of_decide_eq_false hf
    rw [if_neg hb] at hq e2
    subst hq
    refine tw_yes true (fun W _ => by have := zero_c e2 W; rwa [decide_eq_true rfl] at this) rfl ?_
    refine tw_cmp _ rfl rfl (bin_eql _ _ _ _) (fun _ => ?_) (fun h => by simp at h)
    refine tw_yes true (fun W _ => awake_c W) rfl ?_
    exact tw_retV rfl rfl

theorem bytesLaw_any (v : Value) (b : List Int) (yb : By b) (w : World) (hv : Sv w v b) : Calls Try.prog 5 #[v] w (OutV (.bool true) w) := by
  obtain ⟨a, cap, rfl, h⟩ := hv
  by_cases hl : b.length = 56
  · obtain ⟨g, off, rfl, hr⟩ := h (by omega)
    rw [hl]
    exact bytesLaw_56 g off cap b hl yb w hr
  · exact bytesLaw_bad a cap _ hl w
end Go.Proofs.Ytdpongijmmdnoaa
