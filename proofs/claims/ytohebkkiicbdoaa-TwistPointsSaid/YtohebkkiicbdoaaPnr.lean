/- The document's points -/
import Derived.Test.YtohebkkiicbdoaaPnw
set_option linter.unusedSimpArgs false
set_option linter.unusedVariables false
namespace Go.Proofs.Ytohebkkiicbdoaa
open Go.RowKit FdP FdP.Ch
def tblr : Tab := tb_radd :: tb_rsub :: tb_rmul :: tb_rneg :: tb_rint :: tb_rsame :: []
theorem tblr_ok : tblr.OK Try.prog := tab_cons tb_radd_ok <| tab_cons tb_rsub_ok <| tab_cons tb_rmul_ok <| tab_cons tb_rneg_ok <| tab_cons tb_rint_ok <| tab_cons tb_rsame_ok <| tab_nil _
def o_rD : Orc := { ans := [(1, oA 16)], lps := [] }
def t_rD : Tree :=
 .new <|
 .call 34 [.atom (.const (.int .i64 (-39081)))] ([], []) (.leaf (.agg [.whole 0 16])) 1 [] <|
 .ret ([], []) (.leaf (.agg [.whole 0 16]))
theorem c_rD : compF Try.prog Try.f74 o_rD (Try.f74.body.getD .skip) (symIn [] Try.f74.ntmps 0) = some t_rD := by kernel_rfl
theorem g_rD : goodC Try.prog o_rD.ords (Try.f74.body.getD .skip) = true := by kernel_rfl
def tb_rD : FuncId × Trans := (74, auto Try.prog tblr [] 0 t_rD)
theorem tb_rD_ok : Con Try.prog tb_rD.1 tb_rD.2 := con_tree tblr_ok o_rD [] 0 Try.func74 rfl c_rD (fun _ _ h => h) g_rD
def tblr1 : Tab := tb_rD :: tblr
theorem tblr1_ok : tblr1.OK Try.prog := tab_cons tb_rD_ok <| tblr_ok
theorem r_t (x y a b : F) : z (-39081) * (x * b * (a * y)) = cd * (x * a * (y * b)) := by show cd * _ = _; grind
theorem r_x (a s d : F) : a * s * d = a * d * s := by grind
theorem r_z (a b : F) : a * b = b * a := by grind
def o_arpadd : Orc := { ans := [(14, oV), (15, oA 16), (16, oV), (17, oA 16), (18, oA 16), (19, oA 16), (20, oA 16), (21, oA 16), (22, oV), (23, oA 16), (24, oV), (25, oA 16), (26, oA 16), (27, oV), (28, oA 16), (29, oV), (30, oA 16), (31, oA 16), (32, oA 16), (33, oA 16), (34, oA 16), (35, oA 16), (36, oA 16), (37, oA 16), (38, oA 16), (39, oA 16), (40, oA 16), (41, oA 16), (42, oA 16), (43, oA 16), (44, oA 16), (45, oA 16), (46, oA 16), (47, oA 16), (48, oA 16), (49, oV), (50, oA 16), (51, oV), (52, oA 16), (53, oA 16), (54, oV), (55, oA 16), (56, oV), (57, oA 16), (58, oA 16), (59, oA 16), (60, oA 16), (61, oA 16), (62, oA 16), (63, oA 16), (64, oA 16), (65, oA 16), (66, oA 16), (67, oA 16), (68, oA 16), (69, oA 16)], lps := [], ords := [(5, [.quiet 1, .quiet 2, .call 0 [5], .call 3 [5], .call 4 [5], .make 5 [], .last 6]), (8, [.quiet 0, .quiet 1, .quiet 2, .call 3 [5], .call 4 [5], .make 5 [], .last 6]), (9, [.quiet 0, .quiet 1, .quiet 2, .quiet 3, .quiet 4, .quiet 6, .quiet 7, .quiet 8, .quiet 9, .call 5 [13], .call 10 [13], .call 11 [13], .call 12 [13], .make 13 [], .last 14]), (10, [.quiet 0, .quiet 1, .quiet 3, .quiet 4, .quiet 6, .quiet 7, .call 2 [], .call 5 [], .call 8 [], .quiet 9, .last 10])] }
def t_arpadd : Tree :=
 .new <|
 .new <|
 .new <|
 .call 52 [.agg [.whole 2 16], .agg [.whole 5 16]] ([], []) (.leaf (.agg [.whole 6 16])) 1 [] <|
 .new <|
 .call 52 [.agg [.whole 6 16], .agg [.whole 6 16]] ([], []) (.leaf (.agg [.whole 7 16])) 1 [] <|
 .new <|
 .call 52 [.agg [.whole 0 16], .agg [.whole 4 16]] ([], []) (.leaf (.agg [.whole 8 16])) 1 [] <|
 .new <|
 .call 52 [.agg [.whole 3 16], .agg [.whole 1 16]] ([], []) (.leaf (.agg [.whole 9 16])) 1 [] <|
 .new <|
 .call 74 [] ([], []) (.leaf (.agg [.whole 10 16])) 1 [] <|
 .call 52 [.agg [.whole 8 16], .agg [.whole 9 16]] ([], []) (.leaf (.agg [.whole 11 16])) 1 [] <|
 .call 52 [.agg [.whole 10 16], .agg [.whole 11 16]] ([], []) (.leaf (.agg [.whole 12 16])) 1 [] <|
 .new <|
 .call 53 [.agg [.whole 7 16], .agg [.whole 12 16]] ([], []) (.leaf (.agg [.whole 13 16])) 1 [] <|
 .new <|
 .call 55 [.agg [.whole 7 16], .agg [.whole 12 16]] ([], []) (.leaf (.agg [.whole 14 16])) 1 [] <|
 .new <|
 .call 53 [.agg [.whole 8 16], .agg [.whole 9 16]] ([], []) (.leaf (.agg [.whole 15 16])) 1 [] <|
 .call 52 [.agg [.whole 6 16], .agg [.whole 15 16]] ([], []) (.leaf (.agg [.whole 16 16])) 1 [] <|
 .new <|
 .call 52 [.agg [.whole 1 16], .agg [.whole 4 16]] ([], []) (.leaf (.agg [.whole 17 16])) 1 [] <|
 .call 52 [.agg [.whole 0 16], .agg [.whole 3 16]] ([], []) (.leaf (.agg [.whole 18 16])) 1 [] <|
 .call 55 [.agg [.whole 17 16], .agg [.whole 18 16]] ([], []) (.leaf (.agg [.whole 19 16])) 1 [] <|
 .call 52 [.agg [.whole 6 16], .agg [.whole 19 16]] ([], []) (.leaf (.agg [.whole 20 16])) 1 [] <|
 .new <|
 .call 52 [.agg [.whole 16 16], .agg [.whole 14 16]] ([], []) (.leaf (.agg [.whole 21 16])) 1 [] <|
 .call 52 [.agg [.whole 20 16], .agg [.whole 13 16]] ([], []) (.leaf (.agg [.whole 22 16])) 1 [] <|
 .call 52 [.agg [.whole 13 16], .agg [.whole 14 16]] ([], []) (.leaf (.agg [.whole 23 16])) 1 [] <|
 .ret ([], []) (.leaf (.agg [.whole 21 16, .whole 22 16, .whole 23 16]))
theorem c_arpadd : compF Try.prog Try.f41 o_arpadd (Try.f41.body.getD .skip) (symIn [.agg [.whole 0 16, .whole 1 16, .whole 2 16], .agg [.whole 3 16, .whole 4 16, .whole 5 16]] Try.f41.ntmps 6) = some t_arpadd := by kernel_rfl
theorem g_arpadd : goodC Try.prog o_arpadd.ords (Try.f41.body.getD .skip) = true := by kernel_rfl
def tb_arpadd : FuncId × Trans := (41, auto Try.prog tblr1 [.agg [.whole 0 16, .whole 1 16, .whole 2 16], .agg [.whole 3 16, .whole 4 16, .whole 5 16]] 6 t_arpadd)
theorem tb_arpadd_ok : Con Try.prog tb_arpadd.1 tb_arpadd.2 := con_tree tblr1_ok o_arpadd [.agg [.whole 0 16, .whole 1 16, .whole 2 16], .agg [.whole 3 16, .whole 4 16, .whole 5 16]] 6 Try.func41 rfl c_arpadd (fun _ _ h => h) g_arpadd
def tb_rpadd : FuncId × Trans := (41, tG2 AV.fpt? (fun g => .ob (.fpt g)) (· + ·))
set_option maxRecDepth 100000 in
theorem tb_rpadd_ok : Con Try.prog tb_rpadd.1 tb_rpadd.2 := con_G2 way_fpt tb_arpadd_ok (by
 rintro _ _ g h ⟨x, y, w, rfl, p⟩ ⟨x', y', w', rfl, q⟩
 repeat ((conv => whnf) <;> first | refine ⟨rfl, ?_⟩ | refine ⟨⟨by decide, by decide⟩, ?_⟩)
 (conv => whnf)
 exact ⟨_, _, _, rfl, Rep.add p q rfl rfl (r_t x y x' y') rfl rfl rfl (r_x _ _ _) (r_x _ _ _) (r_z _ _)⟩)
def o_arpid : Orc := { ans := [(2, oA 16), (3, oA 16)], lps := [] }
def t_arpid : Tree :=
 .new <|
 .call 34 [.atom (.const (.int .i64 1))] ([], []) (.leaf (.agg [.whole 0 16])) 1 [] <|
 .call 34 [.atom (.const (.int .i64 1))] ([], []) (.leaf (.agg [.whole 1 16])) 1 [] <|
 .ret ([], []) (.leaf (.agg [.lit [.int .i64 0, .int .i64 0, .int .i64 0, .int .i64 0, .int .i64 0, .int .i64 0, .int .i64 0, .int .i64 0, .int .i64 0, .int .i64 0, .int .i64 0, .int .i64 0, .int .i64 0, .int .i64 0, .int .i64 0, .int .i64 0], .whole 0 16, .whole 1 16]))
theorem c_arpid : compF Try.prog Try.f40 o_arpid (Try.f40.body.getD .skip) (symIn [] Try.f40.ntmps 0) = some t_arpid := by kernel_rfl
theorem g_arpid : goodC Try.prog o_arpid.ords (Try.f40.body.getD .skip) = true := by kernel_rfl
def tb_arpid : FuncId × Trans := (40, auto Try.prog tblr1 [] 0 t_arpid)
theorem tb_arpid_ok : Con Try.prog tb_arpid.1 tb_arpid.2 := con_tree tblr1_ok o_arpid [] 0 Try.func40 rfl c_arpid (fun _ _ h => h) g_arpid
theorem con_G0w {P : Program} {fn : FuncId} {g0 : Trans} {g : G} (hc : Con P fn g0) (hm : g0 [] (fun r => ∃ b, RF b g ∧ ∀ (β : Base) v, valR β r v → valR β b v)) : Con P fn (tG0 (fun g => .ob (.fpt g)) g) := by
 intro w x vals zs Q hx hv hg
 unfold tG0 at hg
 split at hg
 ·exact (hc w x vals [] _ hx hv hm).mono fun e w' ⟨v, a, he, hr, ⟨b, hb, hbv⟩, hF⟩ => OutA.mk he (way_fpt.shuts hb (hbv _ _ hr.R)).1 hg hF
 ·exact hg.elim
theorem lit_fg {β : Base} {l : List AV} {v : Value} (h : valR β (.agg (.lit (List.replicate 16 (.int .i64 0)) :: l)) v) : valR β (.agg (.fg (z 0) :: l)) v := by
 obtain ⟨cs, rfl, c, d, e, hn, ⟨hc, _⟩, hd⟩ := valR0.agg (a := .agg (.lit (List.replicate 16 (.int .i64 0)) :: l)) h rfl
 refine valR0.mk (a := .agg (.fg (z 0) :: l)) rfl ⟨c, d, e, hn, ?_, hd⟩
 show c = is (dgs (z 0))
 rw [hc, z_zero, fg_zero]
def tb_rpid : FuncId × Trans := (40, tG0 (fun g => .ob (.fpt g)) 0)
set_option maxRecDepth 100000 in
theorem tb_rpid_ok : Con Try.prog tb_rpid.1 tb_rpid.2 := con_G0w tb_arpid_ok (by
 repeat ((conv => whnf) <;> first | refine ⟨rfl, ?_⟩ | refine ⟨⟨by decide, by decide⟩, ?_⟩)
 (conv => whnf)
 exact ⟨_, ⟨_, _, _, rfl, Rep.zero⟩, fun β v hv => lit_fg hv⟩)
end Go.Proofs.Ytohebkkiicbdoaa
