/- A part of the proof: what the functions that the law calls answer, as pure values. -/
import Derived.Test.YtjmfepncipfenaaDoorK9aa6ab23cd97
import Derived.Test.YtjmfepncipfenaaDoorKc8088f81fe82
import Derived.Test.YtjmfepncipfenaaDoorKd09733fbfdbc
set_option linter.unusedSimpArgs false
set_option linter.unusedVariables false
set_option maxRecDepth 100000
set_option maxHeartbeats 4000000
namespace Go.Abs
open Go.Proofs
def m_laws_markBindS_D_AC (fuel : Nat) : Prop := ∀ (x1 : (List Bind)) (x2 : Int) (r : (Int × (List Bind))), m_laws_markBindS fuel x1 x2 = some r → AC Tryd.prog 12 [.ar 9300, .t (.sc (.int .i64 x2))] (objs [(9300, .dar (x1.map (Bind.rowD 3)) 34)]) (.t (.sc (.int .i64 r.1))) (objs [(9300, .dar (r.2.map (Bind.rowD 3)) 34)])
theorem m_laws_markBindS_D_ok (fuel : Nat) : m_laws_markBindS_D_AC fuel := by
 intro x1 x2 r hF0
 unfold m_laws_markBindS at hF0
 refine AC_i [.t (.sc (.int .i64 r.1))] Tryd.func12 rfl Tryd.ntmps12 ?_
 intro C hC
 refine awp_seq (awp_region ?_)
 refine s_as ?_
 refine k_nil (k_seq (awp_seq (awp_seq (awp_region ?_))))
 refine s_as ?_
 refine k_nil (k_seq (awp_block ?_))
 refine awp_fr (β := Int × Int × (List Bind)) [1, 5, 6, 7, 8, 9, 10, 11, 12, 13, 14, 15, 16, 17, 18, 19, 20, 21, 22, 23, 24, 25, 26, 27, 28, 29, 30, 31, 32, 33] [9300] [24] (fun a => [(1, .t (.sc (.int .i64 a.2.1))), (5, .t (.sc (.int .i64 a.2.2.1)))]) (fun a => [(9300, .dar (a.2.2.2.map (Bind.rowD 3)) 34)]) (fun a => a.1 ≤ fuel ∧ m_laws_markBindS_l1 a.1  a.2.1 a.2.2.1 a.2.2.2 = some r) (fuel, x2, 0, x1) ⟨Nat.le_refl _, hF0⟩ ?_
 clear hF0
 rintro ⟨fu, g1, g2, g3⟩ ⟨hl4, hF1⟩
 dsimp only at hl4 hF1 ⊢
 obtain _ | fu := fu
 · rw [m_laws_markBindS_l1] at hF1; cases hF1
 rw [m_laws_markBindS_l1] at hF1
 refine awp_seq (awp_seq (awp_region ?_))
 refine s_mv ?_
 refine s_mv ?_
 refine s_lenD yU22 ?_
 refine s_lt ?_
 refine k_nil (k_seq ?_)
 refine w_cond hF1 ?_ ?_ <;> intro hc5 hF2
 refine awp_skip (k_seq (awp_seq (awp_block (awp_seq (awp_region ?_)))))
 iterate 3 refine s_mv ?_
 obtain ⟨v6, hv6, hF3⟩ := bind_some' hF2
 refine s_pure [] (m_laws_markText_D_ok fu _ _ hv6) ?_
 obtain ⟨v7, hv7, hF4⟩ := bind_some' hF3
 refine s_ixD (Bind.rowD 3) hv7 yE22 ?_
 refine s_fa yF34_0 ?_
 refine s_stC (q := 9300) (off := 0) (u := .sc (.str v6)) (Bind.rowD 3) (Bind.mk v6 v7.scopes v7.id) hv7 (by rw [(Bind.rowDE _ _), (Bind.rowDE _ _)]; rfl) yS9 yS34 (hw := by rw [(Bind.rowDE _ _)]; rfl) ?_
 refine k_nil (k_seq (awp_seq (awp_region ?_)))
 refine s_mv ?_
 refine s_add rfl ?_
 refine s_as ?_
 refine k_nil (k_seq (awp_seq (awp_region ?_)))
 refine s_mv ?_
 refine s_mv ?_
 obtain ⟨v8, hv8, hF5⟩ := bind_some' hF4
 refine s_ixD (Bind.rowD 3) hv8 yE22 ?_
 refine s_fa yF34_1 ?_
 refine s_ldHA (Bind.rowD 3) rI v8.scopes plain_rI hv8 yA32 yS34 (hw := by rw [(Bind.rowDE _ _)]; rfl) ?_
 refine s_mv ?_
 obtain ⟨v9, hv9, hF6⟩ := bind_some' hF5
 refine s_call [(9300, 24)] [] _ _ (m_laws_markIntS_D_ok fu _ _ _ hv9) ?_
 refine s_as ?_
 refine k_nil (k_seq ?_)
 refine awp_jsA 9300 24 [.sc (.str v8.name), .ow 3 (v9.2.map rI), .sc (.int .i64 v8.id)] hv8 (row := (Bind.rowD 3)) (hj := by rw [(Bind.rowDE _ _)]; rfl) (hf := by rw [(Bind.rowDE _ _)]; rfl) ?_
 refine awp_nsH 9300 (row := (Bind.rowD 3)) (fs := [.sc (.str v8.name), .ow 3 (v9.2.map rI), .sc (.int .i64 v8.id)]) (Bind.mk v8.name v9.2 v8.id) (Bind.rowDE _ _) ?_
 refine awp_seq (awp_region ?_)
 iterate 3 refine s_mv ?_
 obtain ⟨v10, hv10, hF7⟩ := bind_some' hF6
 refine s_ixD (Bind.rowD 3) hv10 yE22 ?_
 refine s_fa yF34_2 ?_
 refine s_stC (q := 9300) (off := 2) (u := .sc (.int .i64 v9.1)) (Bind.rowD 3) (Bind.mk v10.name v10.scopes v9.1) hv10 (by rw [(Bind.rowDE _ _), (Bind.rowDE _ _)]; rfl) yS3 yS34 (hw := by rw [(Bind.rowDE _ _)]; rfl) ?_
 refine k_nil (k_seq (awp_region ?_))
 refine s_mv ?_
 refine s_add rfl ?_
 refine s_as ?_
 refine k_nil (k_blk (k_seq (awp_region ?_)))
 refine s_mv ?_
 refine s_add rfl ?_
 refine s_as ?_
 refine k_nil ?_
 exact s_rn (fu, (w64 (v9.1 + 1)), (w64 (g2 + 1)), (((g3.set g2.toNat (Bind.mk v6 v7.scopes v7.id)).set g2.toNat (Bind.mk v8.name v9.2 v8.id)).set g2.toNat (Bind.mk v10.name v10.scopes v9.1))) ⟨by first | omega | (dsimp only; omega), hF7⟩
 refine awp_exit (k_seq_exit (k_rnd_exit2 (k_blk_exit (k_seq (awp_seq (awp_region ?_))))))
 refine s_mv ?_
 refine s_as ?_
 refine k_nil (k_seq (awp_ret (k_fin ?_)))
 cases hF2
 exact ends_a _ [] Tryd.results12
def m_laws_markFormS_D_AC (fuel : Nat) : Prop := ∀ (x1 : (List Form)) (x2 : Int) (r : (Int × (List Form))), m_laws_markFormS fuel x1 x2 = some r → AC Tryd.prog 20 [.ar 9300, .t (.sc (.int .i64 x2))] (objs [(9300, .dar (x1.map (Form.rowD 3 55)) 55)]) (.t (.sc (.int .i64 r.1))) (objs [(9300, .dar (r.2.map (Form.rowD 3 55)) 55)])
theorem m_laws_markFormS_D_st (fu : Nat) (ih_m_laws_markFormS_D : ∀ k, k ≤ fu → m_laws_markFormS_D_AC k) : m_laws_markFormS_D_AC (fu + 1) := by
 intro x1 x2 r hF0
 rw [m_laws_markFormS] at hF0
 refine AC_i [.t (.sc (.int .i64 r.1))] Tryd.func20 rfl Tryd.ntmps20 ?_
 intro C hC
 refine awp_seq (awp_region ?_)
 refine s_as ?_
 refine k_nil (k_seq (awp_seq (awp_seq (awp_region ?_))))
 refine s_as ?_
 refine k_nil (k_seq (awp_block ?_))
 refine awp_fr (β := Int × Int × (List Form)) [1, 5, 6, 7, 8, 9, 10, 11, 12, 13, 14, 15, 16, 17, 18, 19, 20, 21, 22, 23, 24, 25, 26, 27, 28, 29, 30, 31, 32, 33, 34, 35, 36, 37, 38, 39, 40, 41, 42, 43, 44, 45, 46, 47] [9300] [38, 45] (fun a => [(1, .t (.sc (.int .i64 a.2.1))), (5, .t (.sc (.int .i64 a.2.2.1)))]) (fun a => [(9300, .dar (a.2.2.2.map (Form.rowD 3 55)) 55)]) (fun a => a.1 ≤ fu ∧ m_laws_markFormS_l1 a.1  a.2.1 a.2.2.1 a.2.2.2 = some r) (fu, x2, 0, x1) ⟨Nat.le_refl _, hF0⟩ ?_
 clear hF0
 rintro ⟨fu, g1, g2, g3⟩ ⟨hl4, hF1⟩
 dsimp only at hl4 hF1 ⊢
 obtain _ | fu := fu
 · rw [m_laws_markFormS_l1] at hF1; cases hF1
 rw [m_laws_markFormS_l1] at hF1
 refine awp_seq (awp_seq (awp_region ?_))
 refine s_mv ?_
 refine s_mv ?_
 refine s_lenD yU42 ?_
 refine s_lt ?_
 refine k_nil (k_seq ?_)
 refine w_cond hF1 ?_ ?_ <;> intro hc5 hF2
 refine awp_skip (k_seq (awp_seq (awp_block (awp_seq (awp_region ?_)))))
 iterate 3 refine s_mv ?_
 obtain ⟨v6, hv6, hF3⟩ := bind_some' hF2
 refine s_ixD (Form.rowD 3 55) hv6 yE42 ?_
 refine s_fa yF55_0 ?_
 refine s_stC (q := 9300) (off := 0) (u := .sc (.int .i64 g1)) (Form.rowD 3 55) (Form.mk g1 v6.name v6.n v6.scopes v6.kids) hv6 (by rw [(Form.rowDE _ _ _), (Form.rowDE _ _ _)]; rfl) yS3 yS55 (hw := by rw [(Form.rowDE _ _ _)]; rfl) ?_
 refine k_nil (k_seq (awp_seq (awp_region ?_)))
 refine s_mv ?_
 refine s_add rfl ?_
 refine s_as ?_
 refine k_nil (k_seq (awp_seq (awp_region ?_)))
 iterate 3 refine s_mv ?_
 obtain ⟨v7, hv7, hF4⟩ := bind_some' hF3
 refine s_pure [] (m_laws_markText_D_ok fu _ _ hv7) ?_
 obtain ⟨v8, hv8, hF5⟩ := bind_some' hF4
 refine s_ixD (Form.rowD 3 55) hv8 yE42 ?_
 refine s_fa yF55_1 ?_
 refine s_stC (q := 9300) (off := 1) (u := .sc (.str v7)) (Form.rowD 3 55) (Form.mk v8.kind v7 v8.n v8.scopes v8.kids) hv8 (by rw [(Form.rowDE _ _ _), (Form.rowDE _ _ _)]; rfl) yS9 yS55 (hw := by rw [(Form.rowDE _ _ _)]; rfl) ?_
 refine k_nil (k_seq (awp_seq (awp_region ?_)))
 refine s_mv ?_
 refine s_add rfl ?_
 refine s_as ?_
 refine k_nil (k_seq (awp_seq (awp_region ?_)))
 iterate 3 refine s_mv ?_
 obtain ⟨v9, hv9, hF6⟩ := bind_some' hF5
 refine s_ixD (Form.rowD 3 55) hv9 yE42 ?_
 refine s_fa yF55_2 ?_
 refine s_stC (q := 9300) (off := 2) (u := .sc (.int .i64 (w64 ((w64 (g1 + 1)) + 1)))) (Form.rowD 3 55) (Form.mk v9.kind v9.name (w64 ((w64 (g1 + 1)) + 1)) v9.scopes v9.kids) hv9 (by rw [(Form.rowDE _ _ _), (Form.rowDE _ _ _)]; rfl) yS3 yS55 (hw := by rw [(Form.rowDE _ _ _)]; rfl) ?_
 refine k_nil (k_seq (awp_seq (awp_region ?_)))
 refine s_mv ?_
 refine s_add rfl ?_
 refine s_as ?_
 refine k_nil (k_seq (awp_seq (awp_region ?_)))
 refine s_mv ?_
 refine s_mv ?_
 obtain ⟨v10, hv10, hF7⟩ := bind_some' hF6
 refine s_ixD (Form.rowD 3 55) hv10 yE42 ?_
 refine s_fa yF55_3 ?_
 refine s_ldHA (Form.rowD 3 55) rI v10.scopes plain_rI hv10 yA32 yS55 (hw := by rw [(Form.rowDE _ _ _)]; rfl) ?_
 refine s_mv ?_
 obtain ⟨v11, hv11, hF8⟩ := bind_some' hF7
 refine s_call [(9300, 38)] [] _ _ (m_laws_markIntS_D_ok fu _ _ _ hv11) ?_
 refine s_as ?_
 refine k_nil (k_seq ?_)
 refine awp_jsA 9300 38 [.sc (.int .i64 v10.kind), .sc (.str v10.name), .sc (.int .i64 v10.n), .ow 3 (v11.2.map rI), .ow 55 (v10.kids.map (Form.rowD 3 55))] hv10 (row := (Form.rowD 3 55)) (hj := by rw [(Form.rowDE _ _ _)]; rfl) (hf := by rw [(Form.rowDE _ _ _)]; rfl) ?_
 refine awp_nsH 9300 (row := (Form.rowD 3 55)) (fs := [.sc (.int .i64 v10.kind), .sc (.str v10.name), .sc (.int .i64 v10.n), .ow 3 (v11.2.map rI), .ow 55 (v10.kids.map (Form.rowD 3 55))]) (Form.mk v10.kind v10.name v10.n v11.2 v10.kids) (Form.rowDE _ _ _) ?_
 refine awp_region ?_
 refine s_mv ?_
 refine s_mv ?_
 obtain ⟨v12, hv12, hF9⟩ := bind_some' hF8
 refine s_ixD (Form.rowD 3 55) hv12 yE42 ?_
 refine s_fa yF55_4 ?_
 refine s_ldHD (Form.rowD 3 55) (Form.rowD 3 55) v12.kids hv12 yA42 yS55 (hw := by rw [(Form.rowDE _ _ _)]; rfl) ?_
 refine s_mv ?_
 obtain ⟨v13, hv13, hF10⟩ := bind_some' hF9
 refine s_call [(9300, 45)] [] _ _ (ih_m_laws_markFormS_D fu (by omega) _ _ _ hv13) ?_
 refine s_as ?_
 refine k_nil (k_blk (k_seq ?_))
 refine awp_jsD 9300 45 [.sc (.int .i64 v12.kind), .sc (.str v12.name), .sc (.int .i64 v12.n), .ow 3 (v12.scopes.map rI), .ow 55 (v13.2.map (Form.rowD 3 55))] hv12 (row := (Form.rowD 3 55)) (hj := by rw [(Form.rowDE _ _ _)]; rfl) (hf := by rw [(Form.rowDE _ _ _)]; rfl) ?_
 refine awp_nsH 9300 (row := (Form.rowD 3 55)) (fs := [.sc (.int .i64 v12.kind), .sc (.str v12.name), .sc (.int .i64 v12.n), .ow 3 (v12.scopes.map rI), .ow 55 (v13.2.map (Form.rowD 3 55))]) (Form.mk v12.kind v12.name v12.n v12.scopes v13.2) (Form.rowDE _ _ _) ?_
 refine awp_region ?_
 refine s_mv ?_
 refine s_add rfl ?_
 refine s_as ?_
 refine k_nil ?_
 exact s_rn (fu, v13.1, (w64 (g2 + 1)), (((((g3.set g2.toNat (Form.mk g1 v6.name v6.n v6.scopes v6.kids)).set g2.toNat (Form.mk v8.kind v7 v8.n v8.scopes v8.kids)).set g2.toNat (Form.mk v9.kind v9.name (w64 ((w64 (g1 + 1)) + 1)) v9.scopes v9.kids)).set g2.toNat (Form.mk v10.kind v10.name v10.n v11.2 v10.kids)).set g2.toNat (Form.mk v12.kind v12.name v12.n v12.scopes v13.2))) ⟨by first | omega | (dsimp only; omega), hF10⟩
 refine awp_exit (k_seq_exit (k_rnd_exit2 (k_blk_exit (k_seq (awp_seq (awp_region ?_))))))
 refine s_mv ?_
 refine s_as ?_
 refine k_nil (k_seq (awp_ret (k_fin ?_)))
 cases hF2
 exact ends_a _ [] Tryd.results20
theorem m_laws_markFormS_D_all (fuel : Nat) : m_laws_markFormS_D_AC fuel := by
 induction fuel using Nat.strongRecOn with
 | _ N ih =>
   cases N with
   | zero => exact (by intro x1 x2 r h; rw [m_laws_markFormS] at h; cases h)
   | succ fu => exact m_laws_markFormS_D_st fu (fun k hk => (ih k (by omega)))
theorem m_laws_markFormS_D_ok (fuel : Nat) : m_laws_markFormS_D_AC fuel := (m_laws_markFormS_D_all fuel)
def m_laws_markRuleS_D_AC (fuel : Nat) : Prop := ∀ (x1 : (List Rule)) (x2 : Int) (r : (Int × (List Rule))), m_laws_markRuleS fuel x1 x2 = some r → AC Tryd.prog 21 [.ar 9300, .t (.sc (.int .i64 x2))] (objs [(9300, .dar (x1.map (Rule.rowD 3 55)) 57)]) (.t (.sc (.int .i64 r.1))) (objs [(9300, .dar (r.2.map (Rule.rowD 3 55)) 57)])
theorem m_laws_markRuleS_D_ok (fuel : Nat) : m_laws_markRuleS_D_AC fuel := by
 intro x1 x2 r hF0
 unfold m_laws_markRuleS at hF0
 refine AC_i [.t (.sc (.int .i64 r.1))] Tryd.func21 rfl Tryd.ntmps21 ?_
 intro C hC
 refine awp_seq (awp_region ?_)
 refine s_as ?_
 refine k_nil (k_seq (awp_seq (awp_seq (awp_region ?_))))
 refine s_as ?_
 refine k_nil (k_seq (awp_block ?_))
 refine awp_fr (β := Int × Int × (List Rule)) [1, 5, 6, 7, 8, 9, 10, 11, 12, 13, 14, 15, 16, 17, 18, 19, 20, 21, 22, 23, 24, 25, 26, 27, 28, 29, 30, 31, 32, 33, 34, 35, 36, 37, 38, 39, 40, 41, 42, 43, 44, 45, 46, 47, 48, 49, 50, 51, 52, 53, 54, 55, 56, 57, 58, 59, 60, 61, 62, 63, 64, 65, 66, 67, 68, 69, 70, 71, 72, 73, 74, 75, 76, 77, 78, 79, 80, 81, 82, 83, 84, 85, 86, 87, 88, 89, 90, 91, 92, 93] [9300] [42, 50, 83, 91] (fun a => [(1, .t (.sc (.int .i64 a.2.1))), (5, .t (.sc (.int .i64 a.2.2.1)))]) (fun a => [(9300, .dar (a.2.2.2.map (Rule.rowD 3 55)) 57)]) (fun a => a.1 ≤ fuel ∧ m_laws_markRuleS_l1 a.1  a.2.1 a.2.2.1 a.2.2.2 = some r) (fuel, x2, 0, x1) ⟨Nat.le_refl _, hF0⟩ ?_
 clear hF0
 rintro ⟨fu, g1, g2, g3⟩ ⟨hl4, hF1⟩
 dsimp only at hl4 hF1 ⊢
 obtain _ | fu := fu
 · rw [m_laws_markRuleS_l1] at hF1; cases hF1
 rw [m_laws_markRuleS_l1] at hF1
 refine awp_seq (awp_seq (awp_region ?_))
 refine s_mv ?_
 refine s_mv ?_
 refine s_lenD yU43 ?_
 refine s_lt ?_
 refine k_nil (k_seq ?_)
 refine w_cond hF1 ?_ ?_ <;> intro hc5 hF2
 refine awp_skip (k_seq (awp_seq (awp_block (awp_seq (awp_region ?_)))))
 iterate 3 refine s_mv ?_
 obtain ⟨v6, hv6, hF3⟩ := bind_some' hF2
 refine s_ixD (Rule.rowD 3 55) hv6 yE43 ?_
 refine s_fa yF57_0 ?_
 refine s_fa yF55_0 ?_
 refine s_stC (q := 9300) (off := 0) (u := .sc (.int .i64 g1)) (Rule.rowD 3 55) (Rule.mk (Form.mk g1 v6.pattern.name v6.pattern.n v6.pattern.scopes v6.pattern.kids) v6.template) hv6 (by rw [(Rule.rowDE _ _ _), (Rule.rowDE _ _ _)]; rfl) yS3 yS57 (hw := by rw [(Rule.rowDE _ _ _)]; rfl) ?_
 refine k_nil (k_seq (awp_seq (awp_region ?_)))
 refine s_mv ?_
 refine s_add rfl ?_
 refine s_as ?_
 refine k_nil (k_seq (awp_seq (awp_region ?_)))
 iterate 3 refine s_mv ?_
 obtain ⟨v7, hv7, hF4⟩ := bind_some' hF3
 refine s_pure [] (m_laws_markText_D_ok fu _ _ hv7) ?_
 obtain ⟨v8, hv8, hF5⟩ := bind_some' hF4
 refine s_ixD (Rule.rowD 3 55) hv8 yE43 ?_
 refine s_fa yF57_0 ?_
 refine s_fa yF55_1 ?_
 refine s_stC (q := 9300) (off := 1) (u := .sc (.str v7)) (Rule.rowD 3 55) (Rule.mk (Form.mk v8.pattern.kind v7 v8.pattern.n v8.pattern.scopes v8.pattern.kids) v8.template) hv8 (by rw [(Rule.rowDE _ _ _), (Rule.rowDE _ _ _)]; rfl) yS9 yS57 (hw := by rw [(Rule.rowDE _ _ _)]; rfl) ?_
 refine k_nil (k_seq (awp_seq (awp_region ?_)))
 refine s_mv ?_
 refine s_add rfl ?_
 refine s_as ?_
 refine k_nil (k_seq (awp_seq (awp_region ?_)))
 iterate 3 refine s_mv ?_
 obtain ⟨v9, hv9, hF6⟩ := bind_some' hF5
 refine s_ixD (Rule.rowD 3 55) hv9 yE43 ?_
 refine s_fa yF57_0 ?_
 refine s_fa yF55_2 ?_
 refine s_stC (q := 9300) (off := 2) (u := .sc (.int .i64 (w64 ((w64 (g1 + 1)) + 1)))) (Rule.rowD 3 55) (Rule.mk (Form.mk v9.pattern.kind v9.pattern.name (w64 ((w64 (g1 + 1)) + 1)) v9.pattern.scopes v9.pattern.kids) v9.template) hv9 (by rw [(Rule.rowDE _ _ _), (Rule.rowDE _ _ _)]; rfl) yS3 yS57 (hw := by rw [(Rule.rowDE _ _ _)]; rfl) ?_
 refine k_nil (k_seq (awp_seq (awp_region ?_)))
 refine s_mv ?_
 refine s_add rfl ?_
 refine s_as ?_
 refine k_nil (k_seq (awp_seq (awp_region ?_)))
 refine s_mv ?_
 refine s_mv ?_
 obtain ⟨v10, hv10, hF7⟩ := bind_some' hF6
 refine s_ixD (Rule.rowD 3 55) hv10 yE43 ?_
 refine s_fa yF57_0 ?_
 refine s_fa yF55_3 ?_
 refine s_ldHA (Rule.rowD 3 55) rI v10.pattern.scopes plain_rI hv10 yA32 yS57 (hw := by rw [(Rule.rowDE _ _ _)]; rfl) ?_
 refine s_mv ?_
 obtain ⟨v11, hv11, hF8⟩ := bind_some' hF7
 refine s_call [(9300, 42)] [] _ _ (m_laws_markIntS_D_ok fu _ _ _ hv11) ?_
 refine s_as ?_
 refine k_nil (k_seq ?_)
 refine awp_jsA 9300 42 [.sc (.int .i64 v10.pattern.kind), .sc (.str v10.pattern.name), .sc (.int .i64 v10.pattern.n), .ow 3 (v11.2.map rI), .ow 55 (v10.pattern.kids.map (Form.rowD 3 55)), .sc (.int .i64 v10.template.kind), .sc (.str v10.template.name), .sc (.int .i64 v10.template.n), .ow 3 (v10.template.scopes.map rI), .ow 55 (v10.template.kids.map (Form.rowD 3 55))] hv10 (row := (Rule.rowD 3 55)) (hj := by rw [(Rule.rowDE _ _ _)]; rfl) (hf := by rw [(Rule.rowDE _ _ _)]; rfl) ?_
 refine awp_nsH 9300 (row := (Rule.rowD 3 55)) (fs := [.sc (.int .i64 v10.pattern.kind), .sc (.str v10.pattern.name), .sc (.int .i64 v10.pattern.n), .ow 3 (v11.2.map rI), .ow 55 (v10.pattern.kids.map (Form.rowD 3 55)), .sc (.int .i64 v10.template.kind), .sc (.str v10.template.name), .sc (.int .i64 v10.template.n), .ow 3 (v10.template.scopes.map rI), .ow 55 (v10.template.kids.map (Form.rowD 3 55))]) (Rule.mk (Form.mk v10.pattern.kind v10.pattern.name v10.pattern.n v11.2 v10.pattern.kids) v10.template) (Rule.rowDE _ _ _) ?_
 refine awp_seq (awp_region ?_)
 refine s_mv ?_
 refine s_mv ?_
 obtain ⟨v12, hv12, hF9⟩ := bind_some' hF8
 refine s_ixD (Rule.rowD 3 55) hv12 yE43 ?_
 refine s_fa yF57_0 ?_
 refine s_fa yF55_4 ?_
 refine s_ldHD (Rule.rowD 3 55) (Form.rowD 3 55) v12.pattern.kids hv12 yA42 yS57 (hw := by rw [(Rule.rowDE _ _ _)]; rfl) ?_
 refine s_mv ?_
 obtain ⟨v13, hv13, hF10⟩ := bind_some' hF9
 refine s_call [(9300, 50)] [] _ _ (m_laws_markFormS_D_ok fu _ _ _ hv13) ?_
 refine s_as ?_
 refine k_nil (k_seq ?_)
 refine awp_jsD 9300 50 [.sc (.int .i64 v12.pattern.kind), .sc (.str v12.pattern.name), .sc (.int .i64 v12.pattern.n), .ow 3 (v12.pattern.scopes.map rI), .ow 55 (v13.2.map (Form.rowD 3 55)), .sc (.int .i64 v12.template.kind), .sc (.str v12.template.name), .sc (.int .i64 v12.template.n), .ow 3 (v12.template.scopes.map rI), .ow 55 (v12.template.kids.map (Form.rowD 3 55))] hv12 (row := (Rule.rowD 3 55)) (hj := by rw [(Rule.rowDE _ _ _)]; rfl) (hf := by rw [(Rule.rowDE _ _ _)]; rfl) ?_
 refine awp_nsH 9300 (row := (Rule.rowD 3 55)) (fs := [.sc (.int .i64 v12.pattern.kind), .sc (.str v12.pattern.name), .sc (.int .i64 v12.pattern.n), .ow 3 (v12.pattern.scopes.map rI), .ow 55 (v13.2.map (Form.rowD 3 55)), .sc (.int .i64 v12.template.kind), .sc (.str v12.template.name), .sc (.int .i64 v12.template.n), .ow 3 (v12.template.scopes.map rI), .ow 55 (v12.template.kids.map (Form.rowD 3 55))]) (Rule.mk (Form.mk v12.pattern.kind v12.pattern.name v12.pattern.n v12.pattern.scopes v13.2) v12.template) (Rule.rowDE _ _ _) ?_
 refine awp_seq (awp_region ?_)
 iterate 3 refine s_mv ?_
 obtain ⟨v14, hv14, hF11⟩ := bind_some' hF10
 refine s_ixD (Rule.rowD 3 55) hv14 yE43 ?_
 refine s_fa yF57_1 ?_
 refine s_fa yF55_0 ?_
 refine s_stC (q := 9300) (off := 5) (u := .sc (.int .i64 v13.1)) (Rule.rowD 3 55) (Rule.mk v14.pattern (Form.mk v13.1 v14.template.name v14.template.n v14.template.scopes v14.template.kids)) hv14 (by rw [(Rule.rowDE _ _ _), (Rule.rowDE _ _ _)]; rfl) yS3 yS57 (hw := by rw [(Rule.rowDE _ _ _)]; rfl) ?_
 refine k_nil (k_seq (awp_seq (awp_region ?_)))
 refine s_mv ?_
 refine s_add rfl ?_
 refine s_as ?_
 refine k_nil (k_seq (awp_seq (awp_region ?_)))
 iterate 3 refine s_mv ?_
 obtain ⟨v15, hv15, hF12⟩ := bind_some' hF11
 refine s_pure [] (m_laws_markText_D_ok fu _ _ hv15) ?_
 obtain ⟨v16, hv16, hF13⟩ := bind_some' hF12
 refine s_ixD (Rule.rowD 3 55) hv16 yE43 ?_
 refine s_fa yF57_1 ?_
 refine s_fa yF55_1 ?_
 refine s_stC (q := 9300) (off := 6) (u := .sc (.str v15)) (Rule.rowD 3 55) (Rule.mk v16.pattern (Form.mk v16.template.kind v15 v16.template.n v16.template.scopes v16.template.kids)) hv16 (by rw [(Rule.rowDE _ _ _), (Rule.rowDE _ _ _)]; rfl) yS9 yS57 (hw := by rw [(Rule.rowDE _ _ _)]; rfl) ?_
 refine k_nil (k_seq (awp_seq (awp_region ?_)))
 refine s_mv ?_
 refine s_add rfl ?_
 refine s_as ?_
 refine k_nil (k_seq (awp_seq (awp_region ?_)))
 iterate 3 refine s_mv ?_
 obtain ⟨v17, hv17, hF14⟩ := bind_some' hF13
 refine s_ixD (Rule.rowD 3 55) hv17 yE43 ?_
 refine s_fa yF57_1 ?_
 refine s_fa yF55_2 ?_
 refine s_stC (q := 9300) (off := 7) (u := .sc (.int .i64 (w64 ((w64 (v13.1 + 1)) + 1)))) (Rule.rowD 3 55) (Rule.mk v17.pattern (Form.mk v17.template.kind v17.template.name (w64 ((w64 (v13.1 + 1)) + 1)) v17.template.scopes v17.template.kids)) hv17 (by rw [(Rule.rowDE _ _ _), (Rule.rowDE _ _ _)]; rfl) yS3 yS57 (hw := by rw [(Rule.rowDE _ _ _)]; rfl) ?_
 refine k_nil (k_seq (awp_seq (awp_region ?_)))
 refine s_mv ?_
 refine s_add rfl ?_
 refine s_as ?_
 refine k_nil (k_seq (awp_seq (awp_region ?_)))
 refine s_mv ?_
 refine s_mv ?_
 obtain ⟨v18, hv18, hF15⟩ := bind_some' hF14
 refine s_ixD (Rule.rowD 3 55) hv18 yE43 ?_
 refine s_fa yF57_1 ?_
 refine s_fa yF55_3 ?_
 refine s_ldHA (Rule.rowD 3 55) rI v18.template.scopes plain_rI hv18 yA32 yS57 (hw := by rw [(Rule.rowDE _ _ _)]; rfl) ?_
 refine s_mv ?_
 obtain ⟨v19, hv19, hF16⟩ := bind_some' hF15
 refine s_call [(9300, 83)] [] _ _ (m_laws_markIntS_D_ok fu _ _ _ hv19) ?_
 refine s_as ?_
 refine k_nil (k_seq ?_)
 refine awp_jsA 9300 83 [.sc (.int .i64 v18.pattern.kind), .sc (.str v18.pattern.name), .sc (.int .i64 v18.pattern.n), .ow 3 (v18.pattern.scopes.map rI), .ow 55 (v18.pattern.kids.map (Form.rowD 3 55)), .sc (.int .i64 v18.template.kind), .sc (.str v18.template.name), .sc (.int .i64 v18.template.n), .ow 3 (v19.2.map rI), .ow 55 (v18.template.kids.map (Form.rowD 3 55))] hv18 (row := (Rule.rowD 3 55)) (hj := by rw [(Rule.rowDE _ _ _)]; rfl) (hf := by rw [(Rule.rowDE _ _ _)]; rfl) ?_
 refine awp_nsH 9300 (row := (Rule.rowD 3 55)) (fs := [.sc (.int .i64 v18.pattern.kind), .sc (.str v18.pattern.name), .sc (.int .i64 v18.pattern.n), .ow 3 (v18.pattern.scopes.map rI), .ow 55 (v18.pattern.kids.map (Form.rowD 3 55)), .sc (.int .i64 v18.template.kind), .sc (.str v18.template.name), .sc (.int .i64 v18.template.n), .ow 3 (v19.2.map rI), .ow 55 (v18.template.kids.map (Form.rowD 3 55))]) (Rule.mk v18.pattern (Form.mk v18.template.kind v18.template.name v18.template.n v19.2 v18.template.kids)) (Rule.rowDE _ _ _) ?_
 refine awp_region ?_
 refine s_mv ?_
 refine s_mv ?_
 obtain ⟨v20, hv20, hF17⟩ := bind_some' hF16
 refine s_ixD (Rule.rowD 3 55) hv20 yE43 ?_
 refine s_fa yF57_1 ?_
 refine s_fa yF55_4 ?_
 refine s_ldHD (Rule.rowD 3 55) (Form.rowD 3 55) v20.template.kids hv20 yA42 yS57 (hw := by rw [(Rule.rowDE _ _ _)]; rfl) ?_
 refine s_mv ?_
 obtain ⟨v21, hv21, hF18⟩ := bind_some' hF17
 refine s_call [(9300, 91)] [] _ _ (m_laws_markFormS_D_ok fu _ _ _ hv21) ?_
 refine s_as ?_
 refine k_nil (k_blk (k_seq ?_))
 refine awp_jsD 9300 91 [.sc (.int .i64 v20.pattern.kind), .sc (.str v20.pattern.name), .sc (.int .i64 v20.pattern.n), .ow 3 (v20.pattern.scopes.map rI), .ow 55 (v20.pattern.kids.map (Form.rowD 3 55)), .sc (.int .i64 v20.template.kind), .sc (.str v20.template.name), .sc (.int .i64 v20.template.n), .ow 3 (v20.template.scopes.map rI), .ow 55 (v21.2.map (Form.rowD 3 55))] hv20 (row := (Rule.rowD 3 55)) (hj := by rw [(Rule.rowDE _ _ _)]; rfl) (hf := by rw [(Rule.rowDE _ _ _)]; rfl) ?_
 refine awp_nsH 9300 (row := (Rule.rowD 3 55)) (fs := [.sc (.int .i64 v20.pattern.kind), .sc (.str v20.pattern.name), .sc (.int .i64 v20.pattern.n), .ow 3 (v20.pattern.scopes.map rI), .ow 55 (v20.pattern.kids.map (Form.rowD 3 55)), .sc (.int .i64 v20.template.kind), .sc (.str v20.template.name), .sc (.int .i64 v20.template.n), .ow 3 (v20.template.scopes.map rI), .ow 55 (v21.2.map (Form.rowD 3 55))]) (Rule.mk v20.pattern (Form.mk v20.template.kind v20.template.name v20.template.n v20.template.scopes v21.2)) (Rule.rowDE _ _ _) ?_
 refine awp_region ?_
 refine s_mv ?_
 refine s_add rfl ?_
 refine s_as ?_
 refine k_nil ?_
 exact s_rn (fu, v21.1, (w64 (g2 + 1)), ((((((((((g3.set g2.toNat (Rule.mk (Form.mk g1 v6.pattern.name v6.pattern.n v6.pattern.scopes v6.pattern.kids) v6.template)).set g2.toNat (Rule.mk (Form.mk v8.pattern.kind v7 v8.pattern.n v8.pattern.scopes v8.pattern.kids) v8.template)).set g2.toNat (Rule.mk (Form.mk v9.pattern.kind v9.pattern.name (w64 ((w64 (g1 + 1)) + 1)) v9.pattern.scopes v9.pattern.kids) v9.template)).set g2.toNat (Rule.mk (Form.mk v10.pattern.kind v10.pattern.name v10.pattern.n v11.2 v10.pattern.kids) v10.template)).set g2.toNat (Rule.mk (Form.mk v12.pattern.kind v12.pattern.name v12.pattern.n v12.pattern.scopes v13.2) v12.template)).set g2.toNat (Rule.mk v14.pattern (Form.mk v13.1 v14.template.name v14.template.n v14.template.scopes v14.template.kids))).set g2.toNat (Rule.mk v16.pattern (Form.mk v16.template.kind v15 v16.template.n v16.template.scopes v16.template.kids))).set g2.toNat (Rule.mk v17.pattern (Form.mk v17.template.kind v17.template.name (w64 ((w64 (v13.1 + 1)) + 1)) v17.template.scopes v17.template.kids))).set g2.toNat (Rule.mk v18.pattern (Form.mk v18.template.kind v18.template.name v18.template.n v19.2 v18.template.kids))).set g2.toNat (Rule.mk v20.pattern (Form.mk v20.template.kind v20.template.name v20.template.n v20.template.scopes v21.2)))) ⟨by first | omega | (dsimp only; omega), hF18⟩
 refine awp_exit (k_seq_exit (k_rnd_exit2 (k_blk_exit (k_seq (awp_seq (awp_region ?_))))))
 refine s_mv ?_
 refine s_as ?_
 refine k_nil (k_seq (awp_ret (k_fin ?_)))
 cases hF2
 exact ends_a _ [] Tryd.results21
def m_laws_markMacroS_D_AC (fuel : Nat) : Prop := ∀ (x1 : (List Macro)) (x2 : Int) (r : (Int × (List Macro))), m_laws_markMacroS fuel x1 x2 = some r → AC Tryd.prog 13 [.ar 9300, .t (.sc (.int .i64 x2))] (objs [(9300, .dar (x1.map (Macro.rowD 3 55 57)) 45)]) (.t (.sc (.int .i64 r.1))) (objs [(9300, .dar (r.2.map (Macro.rowD 3 55 57)) 45)])
theorem m_laws_markMacroS_D_ok (fuel : Nat) : m_laws_markMacroS_D_AC fuel := by
 intro x1 x2 r hF0
 unfold m_laws_markMacroS at hF0
 refine AC_i [.t (.sc (.int .i64 r.1))] Tryd.func13 rfl Tryd.ntmps13 ?_
 intro C hC
 refine awp_seq (awp_region ?_)
 refine s_as ?_
 refine k_nil (k_seq (awp_seq (awp_seq (awp_region ?_))))
 refine s_as ?_
 refine k_nil (k_seq (awp_block ?_))
 refine awp_fr (β := Int × Int × (List Macro)) [1, 5, 6, 7, 8, 9, 10, 11, 12, 13, 14, 15, 16, 17, 18, 19, 20, 21, 22, 23, 24, 25, 26, 27, 28, 29, 30, 31, 32] [9300] [23, 30] (fun a => [(1, .t (.sc (.int .i64 a.2.1))), (5, .t (.sc (.int .i64 a.2.2.1)))]) (fun a => [(9300, .dar (a.2.2.2.map (Macro.rowD 3 55 57)) 45)]) (fun a => a.1 ≤ fuel ∧ m_laws_markMacroS_l1 a.1  a.2.1 a.2.2.1 a.2.2.2 = some r) (fuel, x2, 0, x1) ⟨Nat.le_refl _, hF0⟩ ?_
 clear hF0
 rintro ⟨fu, g1, g2, g3⟩ ⟨hl4, hF1⟩
 dsimp only at hl4 hF1 ⊢
 obtain _ | fu := fu
 · rw [m_laws_markMacroS_l1] at hF1; cases hF1
 rw [m_laws_markMacroS_l1] at hF1
 refine awp_seq (awp_seq (awp_region ?_))
 refine s_mv ?_
 refine s_mv ?_
 refine s_lenD yU23 ?_
 refine s_lt ?_
 refine k_nil (k_seq ?_)
 refine w_cond hF1 ?_ ?_ <;> intro hc5 hF2
 refine awp_skip (k_seq (awp_seq (awp_block (awp_seq (awp_region ?_)))))
 iterate 3 refine s_mv ?_
 obtain ⟨v6, hv6, hF3⟩ := bind_some' hF2
 refine s_ixD (Macro.rowD 3 55 57) hv6 yE23 ?_
 refine s_fa yF45_0 ?_
 refine s_stC (q := 9300) (off := 0) (u := .sc (.int .i64 g1)) (Macro.rowD 3 55 57) (Macro.mk g1 v6.literals v6.rules) hv6 (by rw [(Macro.rowDE _ _ _ _), (Macro.rowDE _ _ _ _)]; rfl) yS3 yS45 (hw := by rw [(Macro.rowDE _ _ _ _)]; rfl) ?_
 refine k_nil (k_seq (awp_seq (awp_region ?_)))
 refine s_mv ?_
 refine s_add rfl ?_
 refine s_as ?_
 refine k_nil (k_seq (awp_seq (awp_region ?_)))
 refine s_mv ?_
 refine s_mv ?_
 obtain ⟨v7, hv7, hF4⟩ := bind_some' hF3
 refine s_ixD (Macro.rowD 3 55 57) hv7 yE23 ?_
 refine s_fa yF45_1 ?_
 refine s_ldHD (Macro.rowD 3 55 57) (Form.rowD 3 55) v7.literals hv7 yA42 yS45 (hw := by rw [(Macro.rowDE _ _ _ _)]; rfl) ?_
 refine s_mv ?_
 obtain ⟨v8, hv8, hF5⟩ := bind_some' hF4
 refine s_call [(9300, 23)] [] _ _ (m_laws_markFormS_D_ok fu _ _ _ hv8) ?_
 refine s_as ?_
 refine k_nil (k_seq ?_)
 refine awp_jsD 9300 23 [.sc (.int .i64 v7.id), .ow 55 (v8.2.map (Form.rowD 3 55)), .ow 57 (v7.rules.map (Rule.rowD 3 55))] hv7 (row := (Macro.rowD 3 55 57)) (hj := by rw [(Macro.rowDE _ _ _ _)]; rfl) (hf := by rw [(Macro.rowDE _ _ _ _)]; rfl) ?_
 refine awp_nsH 9300 (row := (Macro.rowD 3 55 57)) (fs := [.sc (.int .i64 v7.id), .ow 55 (v8.2.map (Form.rowD 3 55)), .ow 57 (v7.rules.map (Rule.rowD 3 55))]) (Macro.mk v7.id v8.2 v7.rules) (Macro.rowDE _ _ _ _) ?_
 refine awp_region ?_
 refine s_mv ?_
 refine s_mv ?_
 obtain ⟨v9, hv9, hF6⟩ := bind_some' hF5
 refine s_ixD (Macro.rowD 3 55 57) hv9 yE23 ?_
 refine s_fa yF45_2 ?_
 refine s_ldHD (Macro.rowD 3 55 57) (Rule.rowD 3 55) v9.rules hv9 yA43 yS45 (hw := by rw [(Macro.rowDE _ _ _ _)]; rfl) ?_
 refine s_mv ?_
 obtain ⟨v10, hv10, hF7⟩ := bind_some' hF6
 refine s_call [(9300, 30)] [] _ _ (m_laws_markRuleS_D_ok fu _ _ _ hv10) ?_
 refine s_as ?_
 refine k_nil (k_blk (k_seq ?_))
 refine awp_jsD 9300 30 [.sc (.int .i64 v9.id), .ow 55 (v9.literals.map (Form.rowD 3 55)), .ow 57 (v10.2.map (Rule.rowD 3 55))] hv9 (row := (Macro.rowD 3 55 57)) (hj := by rw [(Macro.rowDE _ _ _ _)]; rfl) (hf := by rw [(Macro.rowDE _ _ _ _)]; rfl) ?_
 refine awp_nsH 9300 (row := (Macro.rowD 3 55 57)) (fs := [.sc (.int .i64 v9.id), .ow 55 (v9.literals.map (Form.rowD 3 55)), .ow 57 (v10.2.map (Rule.rowD 3 55))]) (Macro.mk v9.id v9.literals v10.2) (Macro.rowDE _ _ _ _) ?_
 refine awp_region ?_
 refine s_mv ?_
 refine s_add rfl ?_
 refine s_as ?_
 refine k_nil ?_
 exact s_rn (fu, v10.1, (w64 (g2 + 1)), (((g3.set g2.toNat (Macro.mk g1 v6.literals v6.rules)).set g2.toNat (Macro.mk v7.id v8.2 v7.rules)).set g2.toNat (Macro.mk v9.id v9.literals v10.2))) ⟨by first | omega | (dsimp only; omega), hF7⟩
 refine awp_exit (k_seq_exit (k_rnd_exit2 (k_blk_exit (k_seq (awp_seq (awp_region ?_))))))
 refine s_mv ?_
 refine s_as ?_
 refine k_nil (k_seq (awp_ret (k_fin ?_)))
 cases hF2
 exact ends_a _ [] Tryd.results13
def m_laws_markExpansion_D_AC (fuel : Nat) : Prop := ∀ (x1 : Expansion) (x2 : Int) (r : (Int × (List Bind) × (List Macro))), m_laws_markExpansion fuel x1 x2 = some r → AC Tryd.prog 7 [.ag [.ar 9300, .ar 9301, .t (.sc (.int .i64 x1.scope)), .t (.sc (.int .i64 x1.id)), .t (.sc (.int .i64 x1.steps))], .t (.sc (.int .i64 x2))] (objs [(9300, .dar (x1.binds.map (Bind.rowD 3)) 34), (9301, .dar (x1.macros.map (Macro.rowD 3 55 57)) 45)]) (.t (.sc (.int .i64 r.1))) (objs [(9300, .dar (r.2.1.map (Bind.rowD 3)) 34), (9301, .dar (r.2.2.map (Macro.rowD 3 55 57)) 45)])
theorem m_laws_markExpansion_D_ok (fuel : Nat) : m_laws_markExpansion_D_AC fuel := by
 intro x1 x2 r hF0
 unfold m_laws_markExpansion at hF0
 refine AC_i [.t (.sc (.int .i64 r.1))] Tryd.func7 rfl Tryd.ntmps7 ?_
 intro C hC
 refine awp_seq (awp_region ?_)
 refine s_box ?_
 refine s_as ?_
 refine k_nil (k_seq (awp_seq (awp_region ?_)))
 refine s_fa yF25_0 ?_
 refine s_ld1 yA22 ?_
 refine s_mv ?_
 obtain ⟨v1, hv1, hF1⟩ := bind_some' hF0
 refine s_call [(9300, 9300)] [] _ _ (m_laws_markBindS_D_ok fuel _ _ _ hv1) ?_
 refine s_as ?_
 refine k_nil (k_seq (awp_seq (awp_region ?_)))
 refine s_fa yF25_1 ?_
 refine s_ld1 yA23 ?_
 refine s_mv ?_
 obtain ⟨v2, hv2, hF2⟩ := bind_some' hF1
 refine s_call [(9300, 9301)] [] _ _ (m_laws_markMacroS_D_ok fuel _ _ _ hv2) ?_
 refine s_as ?_
 refine k_nil (k_seq (awp_seq (awp_region ?_)))
 refine s_mv ?_
 refine s_as ?_
 refine k_nil (k_seq (awp_ret (k_fin ?_)))
 cases hF2
 exact ends_a _ [] Tryd.results7
def m_laws_heldIntS_AC (fuel : Nat) : Prop := ∀ (x1 : (List Int)) (x2 : Int) (r : Int), m_laws_heldIntS fuel x1 x2 = some r → AC Tryd.prog 22 [.t (.sl (x1.map rI)), .t (.sc (.int .i64 x2))] noOb (.t (.sc (.int .i64 r))) noOb
theorem m_laws_heldIntS_ok (fuel : Nat) : m_laws_heldIntS_AC fuel := by
 intro x1 x2 r hF0
 unfold m_laws_heldIntS at hF0
 refine AC_i [.t (.sc (.int .i64 r))] Tryd.func22 rfl Tryd.ntmps22 ?_
 intro C hC
 refine awp_seq (awp_region ?_)
 refine s_as ?_
 refine k_nil (k_seq (awp_seq (awp_seq (awp_region ?_))))
 refine s_as ?_
 refine k_nil (k_seq (awp_block ?_))
 refine awp_fr (β := Int × Int) [1, 4, 5, 6, 7, 8, 9, 10, 11, 12, 13, 14, 15, 16, 17, 18, 19] [] [] (fun a => [(1, .t (.sc (.int .i64 a.2.1))), (5, .t (.sc (.int .i64 a.2.2)))]) (fun a => []) (fun a => a.1 ≤ fuel ∧ m_laws_heldIntS_l1 a.1 x1 a.2.1 a.2.2 = some r ∧ 0 ≤ a.2.2) (fuel, x2, 0) ⟨Nat.le_refl _, hF0, by simp⟩ ?_
 clear hF0
 rintro ⟨fu, g1, g2⟩ ⟨hl3, hF1, hn_g2⟩
 dsimp only at hl3 hF1 hn_g2 ⊢
 obtain _ | fu := fu
 · rw [m_laws_heldIntS_l1] at hF1; cases hF1
 rw [m_laws_heldIntS_l1] at hF1
 refine awp_seq (awp_seq (awp_region ?_))
 refine s_mv ?_
 refine s_mv ?_
 refine s_lenT yU32 ?_
 refine s_lt ?_
 refine k_nil (k_seq ?_)
 refine w_cond hF1 ?_ ?_ <;> intro hc4 hF2
 refine awp_lenT 0 (fun hb5 => ?_)
 refine awp_skip (k_seq (awp_seq (awp_block (awp_seq (awp_seq (awp_region ?_))))))
 refine s_mv ?_
 refine s_mv ?_
 obtain ⟨v6, hv6, hF3⟩ := bind_some' hF2
 refine s_ixT rI hv6 rfl yE32 ?_
 refine s_ld1 yA3 ?_
 refine s_mv ?_
 refine s_ne ?_
 refine k_nil (k_seq ?_)
 refine w_cond hF3 ?_ ?_ <;> intro hc7 hF4
 refine awp_seq (awp_region ?_)
 refine s_as ?_
 refine k_nil (k_seq (awp_ret (k_seq_ret (k_blk_ret (k_seq_ret (k_rnd_ret2 (k_blk_ret (k_seq_ret (k_fin ?_)))))))))
 cases hF4
 exact ends_a [] [] Tryd.results22
 refine awp_skip (k_seq (awp_region ?_))
 refine s_mv ?_
 refine s_add rfl ?_
 refine s_as ?_
 refine k_nil (k_blk (k_seq (awp_region ?_)))
 refine s_mv ?_
 refine s_add (winc2 hc4 hb5 hn_g2) ?_
 refine s_as ?_
 refine k_nil ?_
 exact s_rn (fu, (w64 (g1 + 1)), (g2 + 1)) ⟨by first | omega | (dsimp only; omega), hF4, by first | omega | (dsimp only; omega)⟩
 refine awp_exit (k_seq_exit (k_rnd_exit2 (k_blk_exit (k_seq (awp_seq (awp_region ?_))))))
 refine s_mv ?_
 refine s_as ?_
 refine k_nil (k_seq (awp_ret (k_fin ?_)))
 cases hF2
 exact ends_a [] [] Tryd.results22
def m_laws_heldBindS_AC (fuel : Nat) : Prop := ∀ (x1 : (List Bind)) (x2 : Int) (r : Int), m_laws_heldBindS fuel x1 x2 = some r → AC Tryd.prog 14 [.t (.sl (x1.map Bind.row)), .t (.sc (.int .i64 x2))] noOb (.t (.sc (.int .i64 r))) noOb
theorem m_laws_heldBindS_ok (fuel : Nat) : m_laws_heldBindS_AC fuel := by
 intro x1 x2 r hF0
 unfold m_laws_heldBindS at hF0
 refine AC_i [.t (.sc (.int .i64 r))] Tryd.func14 rfl Tryd.ntmps14 ?_
 intro C hC
 refine awp_seq (awp_region ?_)
 refine s_as ?_
 refine k_nil (k_seq (awp_seq (awp_seq (awp_region ?_))))
 refine s_as ?_
 refine k_nil (k_seq (awp_block ?_))
 refine awp_fr (β := Int × Int) [1, 4, 5, 6, 7, 8, 9, 10, 11, 12, 13, 14, 15, 16, 17, 18, 19, 20, 21, 22, 23, 24, 25, 26, 27, 28, 29, 30, 31, 32, 33, 34, 35, 36, 37, 38, 39] [] [] (fun a => [(1, .t (.sc (.int .i64 a.2.1))), (5, .t (.sc (.int .i64 a.2.2)))]) (fun a => []) (fun a => a.1 ≤ fuel ∧ m_laws_heldBindS_l1 a.1 x1 a.2.1 a.2.2 = some r ∧ 0 ≤ a.2.2) (fuel, x2, 0) ⟨Nat.le_refl _, hF0, by simp⟩ ?_
 clear hF0
 rintro ⟨fu, g1, g2⟩ ⟨hl3, hF1, hn_g2⟩
 dsimp only at hl3 hF1 hn_g2 ⊢
 obtain _ | fu := fu
 · rw [m_laws_heldBindS_l1] at hF1; cases hF1
 rw [m_laws_heldBindS_l1] at hF1
 refine awp_seq (awp_seq (awp_region ?_))
 refine s_mv ?_
 refine s_mv ?_
 refine s_lenT yU22 ?_
 refine s_lt ?_
 refine k_nil (k_seq ?_)
 refine w_cond hF1 ?_ ?_ <;> intro hc4 hF2
 refine awp_lenT 0 (fun hb5 => ?_)
 refine awp_skip (k_seq (awp_seq (awp_block (awp_seq (awp_seq ?_)))))
 refine awp_draw yMix (by kernel_rfl) ?_
 refine s_mv ?_
 refine s_mv ?_
 obtain ⟨v6, hv6, hF3⟩ := bind_some' hF2
 refine s_ixT Bind.row hv6 (Bind.row_eq _) yE22 ?_
 refine s_fa yF34_0 ?_
 refine s_ld1 yA9 ?_
 refine s_mv ?_
 obtain ⟨v7, hv7, hF4⟩ := bind_some' hF3
 refine s_pure [] (m_laws_markText_D_ok fu _ _ hv7) ?_
 refine s_neS ?_
 refine k_nilD (by kernel_rfl) ?_
 refine k_seq ?_
 refine w_cond hF4 ?_ ?_ <;> intro hc8 hF5
 refine awp_seq (awp_region ?_)
 refine s_as ?_
 refine k_nil (k_seq (awp_ret (k_seq_ret (k_blk_ret (k_seq_ret (k_rnd_ret2 (k_blk_ret (k_seq_ret (k_fin ?_)))))))))
 cases hF5
 exact ends_a [] [] Tryd.results14
 refine awp_skip (k_seq (awp_seq (awp_region ?_)))
 refine s_mv ?_
 refine s_add rfl ?_
 refine s_as ?_
 refine k_nil (k_seq (awp_seq (awp_region ?_)))
 refine s_mv ?_
 refine s_mv ?_
 obtain ⟨v9, hv9, hF6⟩ := bind_some' hF5
 refine s_ixT Bind.row hv9 (Bind.row_eq _) yE22 ?_
 refine s_fa yF34_1 ?_
 refine s_ld1 yA32 ?_
 refine s_mv ?_
 obtain ⟨v10, hv10, hF7⟩ := bind_some' hF6
 refine s_pure [] (m_laws_heldIntS_ok fu _ _ _ hv10) ?_
 refine s_as ?_
 refine k_nil (k_seq (awp_seq (awp_seq (awp_region ?_))))
 refine s_mv ?_
 refine s_lt ?_
 refine k_nil (k_seq ?_)
 refine w_cond hF7 ?_ ?_ <;> intro hc11 hF8
 refine awp_seq (awp_region ?_)
 refine s_as ?_
 refine k_nil (k_seq (awp_ret (k_seq_ret (k_blk_ret (k_seq_ret (k_rnd_ret2 (k_blk_ret (k_seq_ret (k_fin ?_)))))))))
 cases hF8
 exact ends_a [] [] Tryd.results14
 refine awp_skip (k_seq (awp_seq (awp_seq (awp_region ?_))))
 refine s_mv ?_
 refine s_mv ?_
 obtain ⟨v12, hv12, hF9⟩ := bind_some' hF8
 refine s_ixT Bind.row hv12 (Bind.row_eq _) yE22 ?_
 refine s_fa yF34_2 ?_
 refine s_ld1 yA3 ?_
 refine s_mv ?_
 refine s_ne ?_
 refine k_nil (k_seq ?_)
 refine w_cond hF9 ?_ ?_ <;> intro hc13 hF10
 refine awp_seq (awp_region ?_)
 refine s_as ?_
 refine k_nil (k_seq (awp_ret (k_seq_ret (k_blk_ret (k_seq_ret (k_rnd_ret2 (k_blk_ret (k_seq_ret (k_fin ?_)))))))))
 cases hF10
 exact ends_a [] [] Tryd.results14
 refine awp_skip (k_seq (awp_region ?_))
 refine s_mv ?_
 refine s_add rfl ?_
 refine s_as ?_
 refine k_nil (k_blk (k_seq (awp_region ?_)))
 refine s_mv ?_
 refine s_add (winc2 hc4 hb5 hn_g2) ?_
 refine s_as ?_
 refine k_nil ?_
 exact s_rn (fu, (w64 (v10 + 1)), (g2 + 1)) ⟨by first | omega | (dsimp only; omega), hF10, by first | omega | (dsimp only; omega)⟩
 refine awp_exit (k_seq_exit (k_rnd_exit2 (k_blk_exit (k_seq (awp_seq (awp_region ?_))))))
 refine s_mv ?_
 refine s_as ?_
 refine k_nil (k_seq (awp_ret (k_fin ?_)))
 cases hF2
 exact ends_a [] [] Tryd.results14
def m_laws_heldFormS_AC (fuel : Nat) : Prop := ∀ (x1 : (List Form)) (x2 : Int) (r : Int), m_laws_heldFormS fuel x1 x2 = some r → AC Tryd.prog 23 [.t (.sl (x1.map Form.row)), .t (.sc (.int .i64 x2))] noOb (.t (.sc (.int .i64 r))) noOb
theorem m_laws_heldFormS_st (fu : Nat) (ih_m_laws_heldFormS : ∀ k, k ≤ fu → m_laws_heldFormS_AC k) : m_laws_heldFormS_AC (fu + 1) := by
 intro x1 x2 r hF0
 rw [m_laws_heldFormS] at hF0
 refine AC_i [.t (.sc (.int .i64 r))] Tryd.func23 rfl Tryd.ntmps23 ?_
 intro C hC
 refine awp_seq (awp_region ?_)
 refine s_as ?_
 refine k_nil (k_seq (awp_seq (awp_seq (awp_region ?_))))
 refine s_as ?_
 refine k_nil (k_seq (awp_block ?_))
 refine awp_fr (β := Int × Int) [1, 4, 5, 6, 7, 8, 9, 10, 11, 12, 13, 14, 15, 16, 17, 18, 19, 20, 21, 22, 23, 24, 25, 26, 27, 28, 29, 30, 31, 32, 33, 34, 35, 36, 37, 38, 39, 40, 41, 42, 43, 44, 45, 46, 47, 48, 49, 50, 51, 52, 53, 54, 55, 56, 57] [] [] (fun a => [(1, .t (.sc (.int .i64 a.2.1))), (5, .t (.sc (.int .i64 a.2.2)))]) (fun a => []) (fun a => a.1 ≤ fu ∧ m_laws_heldFormS_l1 a.1 x1 a.2.1 a.2.2 = some r ∧ 0 ≤ a.2.2) (fu, x2, 0) ⟨Nat.le_refl _, hF0, by simp⟩ ?_
 clear hF0
 rintro ⟨fu, g1, g2⟩ ⟨hl3, hF1, hn_g2⟩
 dsimp only at hl3 hF1 hn_g2 ⊢
 obtain _ | fu := fu
 · rw [m_laws_heldFormS_l1] at hF1; cases hF1
 rw [m_laws_heldFormS_l1] at hF1
 refine awp_seq (awp_seq (awp_region ?_))
 refine s_mv ?_
 refine s_mv ?_
 refine s_lenT yU42 ?_
 refine s_lt ?_
 refine k_nil (k_seq ?_)
 refine w_cond hF1 ?_ ?_ <;> intro hc4 hF2
 refine awp_lenT 0 (fun hb5 => ?_)
 refine awp_skip (k_seq (awp_seq (awp_block (awp_seq (awp_seq (awp_region ?_))))))
 refine s_mv ?_
 refine s_mv ?_
 obtain ⟨v6, hv6, hF3⟩ := bind_some' hF2
 refine s_ixT Form.row hv6 (Form.row_eq _) yE42 ?_
 refine s_fa yF55_0 ?_
 refine s_ld1 yA3 ?_
 refine s_mv ?_
 refine s_ne ?_
 refine k_nil (k_seq ?_)
 refine w_cond hF3 ?_ ?_ <;> intro hc7 hF4
 refine awp_seq (awp_region ?_)
 refine s_as ?_
 refine k_nil (k_seq (awp_ret (k_seq_ret (k_blk_ret (k_seq_ret (k_rnd_ret2 (k_blk_ret (k_seq_ret (k_fin ?_)))))))))
 cases hF4
 exact ends_a [] [] Tryd.results23
 refine awp_skip (k_seq (awp_seq (awp_region ?_)))
 refine s_mv ?_
 refine s_add rfl ?_
 refine s_as ?_
 refine k_nil (k_seq (awp_seq (awp_seq ?_)))
 refine awp_draw yMix (by kernel_rfl) ?_
 refine s_mv ?_
 refine s_mv ?_
 obtain ⟨v8, hv8, hF5⟩ := bind_some' hF4
 refine s_ixT Form.row hv8 (Form.row_eq _) yE42 ?_
 refine s_fa yF55_1 ?_
 refine s_ld1 yA9 ?_
 refine s_mv ?_
 obtain ⟨v9, hv9, hF6⟩ := bind_some' hF5
 refine s_pure [] (m_laws_markText_D_ok fu _ _ hv9) ?_
 refine s_neS ?_
 refine k_nilD (by kernel_rfl) ?_
 refine k_seq ?_
 refine w_cond hF6 ?_ ?_ <;> intro hc10 hF7
 refine awp_seq (awp_region ?_)
 refine s_as ?_
 refine k_nil (k_seq (awp_ret (k_seq_ret (k_blk_ret (k_seq_ret (k_rnd_ret2 (k_blk_ret (k_seq_ret (k_fin ?_)))))))))
 cases hF7
 exact ends_a [] [] Tryd.results23
 refine awp_skip (k_seq (awp_seq (awp_region ?_)))
 refine s_mv ?_
 refine s_add rfl ?_
 refine s_as ?_
 refine k_nil (k_seq (awp_seq (awp_seq (awp_region ?_))))
 refine s_mv ?_
 refine s_mv ?_
 obtain ⟨v11, hv11, hF8⟩ := bind_some' hF7
 refine s_ixT Form.row hv11 (Form.row_eq _) yE42 ?_
 refine s_fa yF55_2 ?_
 refine s_ld1 yA3 ?_
 refine s_mv ?_
 refine s_ne ?_
 refine k_nil (k_seq ?_)
 refine w_cond hF8 ?_ ?_ <;> intro hc12 hF9
 refine awp_seq (awp_region ?_)
 refine s_as ?_
 refine k_nil (k_seq (awp_ret (k_seq_ret (k_blk_ret (k_seq_ret (k_rnd_ret2 (k_blk_ret (k_seq_ret (k_fin ?_)))))))))
 cases hF9
 exact ends_a [] [] Tryd.results23
 refine awp_skip (k_seq (awp_seq (awp_region ?_)))
 refine s_mv ?_
 refine s_add rfl ?_
 refine s_as ?_
 refine k_nil (k_seq (awp_seq (awp_region ?_)))
 refine s_mv ?_
 refine s_mv ?_
 obtain ⟨v13, hv13, hF10⟩ := bind_some' hF9
 refine s_ixT Form.row hv13 (Form.row_eq _) yE42 ?_
 refine s_fa yF55_3 ?_
 refine s_ld1 yA32 ?_
 refine s_mv ?_
 obtain ⟨v14, hv14, hF11⟩ := bind_some' hF10
 refine s_pure [] (m_laws_heldIntS_ok fu _ _ _ hv14) ?_
 refine s_as ?_
 refine k_nil (k_seq (awp_seq (awp_seq (awp_region ?_))))
 refine s_mv ?_
 refine s_lt ?_
 refine k_nil (k_seq ?_)
 refine w_cond hF11 ?_ ?_ <;> intro hc15 hF12
 refine awp_seq (awp_region ?_)
 refine s_as ?_
 refine k_nil (k_seq (awp_ret (k_seq_ret (k_blk_ret (k_seq_ret (k_rnd_ret2 (k_blk_ret (k_seq_ret (k_fin ?_)))))))))
 cases hF12
 exact ends_a [] [] Tryd.results23
 refine awp_skip (k_seq (awp_seq (awp_region ?_)))
 refine s_mv ?_
 refine s_mv ?_
 obtain ⟨v16, hv16, hF13⟩ := bind_some' hF12
 refine s_ixT Form.row hv16 (Form.row_eq _) yE42 ?_
 refine s_fa yF55_4 ?_
 refine s_ld1 yA42 ?_
 refine s_mv ?_
 obtain ⟨v17, hv17, hF14⟩ := bind_some' hF13
 refine s_pure [] (ih_m_laws_heldFormS fu (by omega) _ _ _ hv17) ?_
 refine s_as ?_
 refine k_nil (k_seq (awp_seq (awp_region ?_)))
 refine s_mv ?_
 refine s_lt ?_
 refine k_nil (k_seq ?_)
 refine w_cond hF14 ?_ ?_ <;> intro hc18 hF15
 refine awp_seq (awp_region ?_)
 refine s_as ?_
 refine k_nil (k_seq (awp_ret (k_blk_ret (k_seq_ret (k_rnd_ret2 (k_blk_ret (k_seq_ret (k_fin ?_))))))))
 cases hF15
 exact ends_a [] [] Tryd.results23
 refine awp_skip (k_blk (k_seq (awp_region ?_)))
 refine s_mv ?_
 refine s_add (winc2 hc4 hb5 hn_g2) ?_
 refine s_as ?_
 refine k_nil ?_
 exact s_rn (fu, v17, (g2 + 1)) ⟨by first | omega | (dsimp only; omega), hF15, by first | omega | (dsimp only; omega)⟩
 refine awp_exit (k_seq_exit (k_rnd_exit2 (k_blk_exit (k_seq (awp_seq (awp_region ?_))))))
 refine s_mv ?_
 refine s_as ?_
 refine k_nil (k_seq (awp_ret (k_fin ?_)))
 cases hF2
 exact ends_a [] [] Tryd.results23
end Go.Abs
