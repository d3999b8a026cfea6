/- A part of the proof: what the functions that the law calls answer, as pure values. -/
import Derived.Test.YtbkdbbfgdjcfgaaK095c9cd77914
import Derived.Test.YtbkdbbfgdjcfgaaK59f2f0d3f59e
import Derived.Test.YtbkdbbfgdjcfgaaK71f3fdb1c4f3
import Derived.Test.YtbkdbbfgdjcfgaaKa66c5c62e785
import Derived.Test.YtbkdbbfgdjcfgaaKe176bb8ad65c
set_option linter.unusedSimpArgs false
set_option linter.unusedVariables false
set_option maxRecDepth 100000
set_option maxHeartbeats 4000000
namespace Go.Abs
open Go.Proofs
def m_laws_eqCore_AC (fuel : Nat) : Prop := ∀ (x1 : Core) (x2 : Core) (r : Bool), m_laws_eqCore fuel x1 x2 = some r → AC Try.prog 16 [.ag [.t (.sc (.int .i64 x1.kind)), .t (.sc (.int .i64 x1.id)), .t (.sc (.str x1.name)), .t (.sc (.int .i64 x1.n)), .t (.sl (x1.ids.map rI)), .t (.sc (.int .i64 x1.data.kind)), .t (.sc (.str x1.data.name)), .t (.sc (.int .i64 x1.data.n)), .t (.sl (x1.data.scopes.map rI)), .t (.sl (x1.data.kids.map Form.row)), .t (.sl (x1.kids.map Core.row))], .ag [.t (.sc (.int .i64 x2.kind)), .t (.sc (.int .i64 x2.id)), .t (.sc (.str x2.name)), .t (.sc (.int .i64 x2.n)), .t (.sl (x2.ids.map rI)), .t (.sc (.int .i64 x2.data.kind)), .t (.sc (.str x2.data.name)), .t (.sc (.int .i64 x2.data.n)), .t (.sl (x2.data.scopes.map rI)), .t (.sl (x2.data.kids.map Form.row)), .t (.sl (x2.kids.map Core.row))]] noOb (.t (.sc (.bool r))) noOb
def m_laws_eqCoreS_AC (fuel : Nat) : Prop := ∀ (x1 : (List Core)) (x2 : (List Core)) (r : Bool), m_laws_eqCoreS fuel x1 x2 = some r → AC Try.prog 68 [.t (.sl (x1.map Core.row)), .t (.sl (x2.map Core.row))] noOb (.t (.sc (.bool r))) noOb
theorem m_laws_eqCore_st (fu : Nat) (ih_m_laws_eqCore : ∀ k, k ≤ fu → m_laws_eqCore_AC k) (ih_m_laws_eqCoreS : ∀ k, k ≤ fu → m_laws_eqCoreS_AC k) : m_laws_eqCore_AC (fu + 1) := by
 intro x1 x2 r hF0
 rw [m_laws_eqCore] at hF0
 refine AC_i [.t (.sc (.bool r))] Try.func16 rfl Try.ntmps16 ?_
 intro C hC
 refine awp_seq (awp_region ?_)
 refine s_box ?_
 refine s_box ?_
 refine s_as ?_
 refine k_nil (k_seq (awp_seq (awp_seq (awp_region ?_))))
 refine s_fa yF37_0 ?_
 refine s_ld1 yA3 ?_
 refine s_fa yF37_0 ?_
 refine s_ld1 yA3 ?_
 refine s_ne ?_
 refine k_nil (k_seq ?_)
 refine w_cond hF0 ?_ ?_ <;> intro hc1 hF1
 refine awp_seq (awp_region ?_)
 refine s_as ?_
 refine k_nil (k_seq (awp_ret (k_seq_ret (k_fin ?_))))
 cases hF1
 exact ends_a [] [] Try.results16
 refine awp_skip (k_seq (awp_seq (awp_seq (awp_region ?_))))
 refine s_fa yF37_1 ?_
 refine s_ld1 yA3 ?_
 refine s_fa yF37_1 ?_
 refine s_ld1 yA3 ?_
 refine s_ne ?_
 refine k_nil (k_seq ?_)
 refine w_cond hF1 ?_ ?_ <;> intro hc2 hF2
 refine awp_seq (awp_region ?_)
 refine s_as ?_
 refine k_nil (k_seq (awp_ret (k_seq_ret (k_fin ?_))))
 cases hF2
 exact ends_a [] [] Try.results16
 refine awp_skip (k_seq (awp_seq (awp_seq (awp_region ?_))))
 refine s_fa yF37_2 ?_
 refine s_ld1 yA9 ?_
 refine s_fa yF37_2 ?_
 refine s_ld1 yA9 ?_
 refine s_neS ?_
 refine k_nil (k_seq ?_)
 refine w_cond hF2 ?_ ?_ <;> intro hc3 hF3
 refine awp_seq (awp_region ?_)
 refine s_as ?_
 refine k_nil (k_seq (awp_ret (k_seq_ret (k_fin ?_))))
 cases hF3
 exact ends_a [] [] Try.results16
 refine awp_skip (k_seq (awp_seq (awp_seq (awp_region ?_))))
 refine s_fa yF37_3 ?_
 refine s_ld1 yA3 ?_
 refine s_fa yF37_3 ?_
 refine s_ld1 yA3 ?_
 refine s_ne ?_
 refine k_nil (k_seq ?_)
 refine w_cond hF3 ?_ ?_ <;> intro hc4 hF4
 refine awp_seq (awp_region ?_)
 refine s_as ?_
 refine k_nil (k_seq (awp_ret (k_seq_ret (k_fin ?_))))
 cases hF4
 exact ends_a [] [] Try.results16
 refine awp_skip (k_seq (awp_seq (awp_seq (awp_region ?_))))
 refine s_fa yF37_4 ?_
 refine s_ld1 yA22 ?_
 refine s_fa yF37_4 ?_
 refine s_ld1 yA22 ?_
 obtain ⟨v5, hv5, hF5⟩ := bind_some' hF4
 refine s_pure [] (m_laws_eqIntS_ok fu _ _ _ hv5) ?_
 refine s_not ?_
 refine k_nil (k_seq ?_)
 refine w_cond hF5 ?_ ?_ <;> intro hc6 hF6
 refine awp_seq (awp_region ?_)
 refine s_as ?_
 refine k_nil (k_seq (awp_ret (k_seq_ret (k_fin ?_))))
 cases hF6
 exact ends_a [] [] Try.results16
 refine awp_skip (k_seq (awp_seq (awp_seq (awp_region ?_))))
 refine s_fa yF37_5 ?_
 refine s_ldN yA34 yS34 ?_
 refine s_fa yF37_5 ?_
 refine s_ldN yA34 yS34 ?_
 obtain ⟨v7, hv7, hF7⟩ := bind_some' hF6
 refine s_pure [] (m_laws_eqForm_ok fu _ _ _ hv7) ?_
 refine s_not ?_
 refine k_nil (k_seq ?_)
 refine w_cond hF7 ?_ ?_ <;> intro hc8 hF8
 refine awp_seq (awp_region ?_)
 refine s_as ?_
 refine k_nil (k_seq (awp_ret (k_seq_ret (k_fin ?_))))
 cases hF8
 exact ends_a [] [] Try.results16
 refine awp_skip (k_seq (awp_seq (awp_seq (awp_region ?_))))
 refine s_fa yF37_6 ?_
 refine s_ld1 yA35 ?_
 refine s_fa yF37_6 ?_
 refine s_ld1 yA35 ?_
 obtain ⟨v9, hv9, hF9⟩ := bind_some' hF8
 refine s_pure [] (ih_m_laws_eqCoreS fu (by omega) _ _ _ hv9) ?_
 refine s_not ?_
 refine k_nil (k_seq ?_)
 refine w_cond hF9 ?_ ?_ <;> intro hc10 hF10
 refine awp_seq (awp_region ?_)
 refine s_as ?_
 refine k_nil (k_seq (awp_ret (k_seq_ret (k_fin ?_))))
 cases hF10
 exact ends_a [] [] Try.results16
 refine awp_skip (k_seq (awp_seq (awp_region ?_)))
 refine s_as ?_
 refine k_nil (k_seq (awp_ret (k_fin ?_)))
 cases hF10
 exact ends_a [] [] Try.results16
theorem m_laws_eqCoreS_st (fu : Nat) (ih_m_laws_eqCore : ∀ k, k ≤ fu → m_laws_eqCore_AC k) (ih_m_laws_eqCoreS : ∀ k, k ≤ fu → m_laws_eqCoreS_AC k) : m_laws_eqCoreS_AC (fu + 1) := by
 intro x1 x2 r hF0
 rw [m_laws_eqCoreS] at hF0
 refine AC_i [.t (.sc (.bool r))] Try.func68 rfl Try.ntmps68 ?_
 intro C hC
 refine awp_seq (awp_region ?_)
 refine s_as ?_
 refine k_nil (k_seq (awp_seq (awp_seq (awp_region ?_))))
 refine s_mv ?_
 refine s_lenT yU35 ?_
 refine s_mv ?_
 refine s_lenT yU35 ?_
 refine s_ne ?_
 refine k_nil (k_seq ?_)
 refine w_cond hF0 ?_ ?_ <;> intro hc1 hF1
 refine awp_seq (awp_region ?_)
 refine s_as ?_
 refine k_nil (k_seq (awp_ret (k_seq_ret (k_fin ?_))))
 cases hF1
 exact ends_a [] [] Try.results68
 refine awp_skip (k_seq (awp_seq (awp_seq (awp_region ?_))))
 refine s_as ?_
 refine k_nil (k_seq (awp_block ?_))
 refine awp_fr (β := Int) [4, 5, 11, 12, 13, 14, 15, 16, 17, 18, 19, 20, 21, 22, 23, 24, 25, 26] [] [] (fun a => [(5, .t (.sc (.int .i64 a.2)))]) (fun a => []) (fun a => a.1 ≤ fu ∧ m_laws_eqCoreS_l1 a.1 x1 x2 a.2 = some r ∧ 0 ≤ a.2) (fu, 0) ⟨Nat.le_refl _, hF1, by simp⟩ ?_
 clear hF1
 rintro ⟨fu, g2⟩ ⟨hl3, hF2, hn_g2⟩
 dsimp only at hl3 hF2 hn_g2 ⊢
 obtain _ | fu := fu
 · rw [m_laws_eqCoreS_l1] at hF2; cases hF2
 rw [m_laws_eqCoreS_l1] at hF2
 refine awp_seq (awp_seq (awp_region ?_))
 refine s_mv ?_
 refine s_mv ?_
 refine s_lenT yU35 ?_
 refine s_lt ?_
 refine k_nil (k_seq ?_)
 refine w_cond hF2 ?_ ?_ <;> intro hc4 hF3
 refine awp_lenT 0 (fun hb5 => ?_)
 refine awp_skip (k_seq (awp_seq (awp_block (awp_seq ?_))))
 refine awp_draw yMix (by kernel_rfl) ?_
 refine s_mv ?_
 refine s_mv ?_
 obtain ⟨v6, hv6, hF4⟩ := bind_some' hF3
 refine s_ixT Core.row hv6 (Core.row_eq _) yE35 ?_
 refine s_ldN yA37 yS37 ?_
 refine s_mv ?_
 refine s_mv ?_
 obtain ⟨v7, hv7, hF5⟩ := bind_some' hF4
 refine s_ixT Core.row hv7 (Core.row_eq _) yE35 ?_
 refine s_ldN yA37 yS37 ?_
 obtain ⟨v8, hv8, hF6⟩ := bind_some' hF5
 refine s_pure [] (ih_m_laws_eqCore fu (by omega) _ _ _ hv8) ?_
 refine s_not ?_
 refine k_nilD (by kernel_rfl) ?_
 refine k_seq ?_
 refine w_cond hF6 ?_ ?_ <;> intro hc9 hF7
 refine awp_seq (awp_region ?_)
 refine s_as ?_
 refine k_nil (k_seq (awp_ret (k_blk_ret (k_seq_ret (k_rnd_ret2 (k_blk_ret (k_seq_ret (k_fin ?_))))))))
 cases hF7
 exact ends_a [] [] Try.results68
 refine awp_skip (k_blk (k_seq (awp_region ?_)))
 refine s_mv ?_
 refine s_add (winc2 hc4 hb5 hn_g2) ?_
 refine s_as ?_
 refine k_nil ?_
 exact s_rn (fu, (g2 + 1)) ⟨by first | omega | (dsimp only; omega), hF7, by first | omega | (dsimp only; omega)⟩
 refine awp_exit (k_seq_exit (k_rnd_exit2 (k_blk_exit (k_seq (awp_seq (awp_region ?_))))))
 refine s_as ?_
 refine k_nil (k_seq (awp_ret (k_fin ?_)))
 cases hF3
 exact ends_a [] [] Try.results68
theorem m_laws_eqCore_all (fuel : Nat) : m_laws_eqCore_AC fuel ∧ m_laws_eqCoreS_AC fuel := by
 induction fuel using Nat.strongRecOn with
 | _ N ih =>
   cases N with
   | zero => exact ⟨(by intro x1 x2 r h; rw [m_laws_eqCore] at h; cases h), (by intro x1 x2 r h; rw [m_laws_eqCoreS] at h; cases h)⟩
   | succ fu => exact ⟨m_laws_eqCore_st fu (fun k hk => (ih k (by omega)).1) (fun k hk => (ih k (by omega)).2), m_laws_eqCoreS_st fu (fun k hk => (ih k (by omega)).1) (fun k hk => (ih k (by omega)).2)⟩
theorem m_laws_eqCore_ok (fuel : Nat) : m_laws_eqCore_AC fuel := (m_laws_eqCore_all fuel).1
def m_laws_markCoreS_D_AC (fuel : Nat) : Prop := ∀ (x1 : (List Core)) (x2 : Int) (r : (Int × (List Core))), m_laws_markCoreS fuel x1 x2 = some r → AC Try.prog 69 [.ar 9300, .t (.sc (.int .i64 x2))] (objs [(9300, .dar (x1.map (Core.rowD 3 34 37)) 37)]) (.t (.sc (.int .i64 r.1))) (objs [(9300, .dar (r.2.map (Core.rowD 3 34 37)) 37)])
theorem m_laws_markCoreS_D_st (fu : Nat) (ih_m_laws_markCoreS_D : ∀ k, k ≤ fu → m_laws_markCoreS_D_AC k) : m_laws_markCoreS_D_AC (fu + 1) := by
 intro x1 x2 r hF0
 rw [m_laws_markCoreS] at hF0
 refine AC_i [.t (.sc (.int .i64 r.1))] Try.func69 rfl Try.ntmps69 ?_
 intro C hC
 refine awp_seq (awp_region ?_)
 refine s_as ?_
 refine k_nil (k_seq (awp_seq (awp_seq (awp_region ?_))))
 refine s_as ?_
 refine k_nil (k_seq (awp_block ?_))
 refine awp_fr (β := Int × Int × (List Core)) [1, 5, 6, 7, 8, 9, 10, 11, 12, 13, 14, 15, 16, 17, 18, 19, 20, 21, 22, 23, 24, 25, 26, 27, 28, 29, 30, 31, 32, 33, 34, 35, 36, 37, 38, 39, 40, 41, 42, 43, 44, 45, 46, 47, 48, 49, 50, 51, 52, 53, 54, 55, 56, 57, 58, 59, 60, 61, 62, 63, 64, 65, 66, 67, 68, 69, 70, 71, 72, 73, 74, 75, 76, 77, 78, 79, 80, 81, 82, 83, 84, 85, 86, 87, 88, 89, 90, 91, 92, 93, 94, 95] [9300] [45, 78, 86, 93] (fun a => [(1, .t (.sc (.int .i64 a.2.1))), (5, .t (.sc (.int .i64 a.2.2.1)))]) (fun a => [(9300, .dar (a.2.2.2.map (Core.rowD 3 34 37)) 37)]) (fun a => a.1 ≤ fu ∧ m_laws_markCoreS_l1 a.1  a.2.1 a.2.2.1 a.2.2.2 = some r) (fu, x2, 0, x1) ⟨Nat.le_refl _, hF0⟩ ?_
 clear hF0
 rintro ⟨fu, g1, g2, g3⟩ ⟨hl4, hF1⟩
 dsimp only at hl4 hF1 ⊢
 obtain _ | fu := fu
 · rw [m_laws_markCoreS_l1] at hF1; cases hF1
 rw [m_laws_markCoreS_l1] at hF1
 refine awp_seq (awp_seq (awp_region ?_))
 refine s_mv ?_
 refine s_mv ?_
 refine s_lenD yU35 ?_
 refine s_lt ?_
 refine k_nil (k_seq ?_)
 refine w_cond hF1 ?_ ?_ <;> intro hc5 hF2
 refine awp_skip (k_seq (awp_seq (awp_block (awp_seq (awp_region ?_)))))
 iterate 3 refine s_mv ?_
 obtain ⟨v6, hv6, hF3⟩ := bind_some' hF2
 refine s_ixD (Core.rowD 3 34 37) hv6 yE35 ?_
 refine s_fa yF37_0 ?_
 refine s_stC (q := 9300) (off := 0) (u := .sc (.int .i64 g1)) (Core.rowD 3 34 37) (Core.mk g1 v6.id v6.name v6.n v6.ids v6.data v6.kids) hv6 (by rw [(Core.rowDE _ _ _ _), (Core.rowDE _ _ _ _)]; rfl) yS3 yS37 (hw := by rw [(Core.rowDE _ _ _ _)]; rfl) ?_
 refine k_nil (k_seq (awp_seq (awp_region ?_)))
 refine s_mv ?_
 refine s_add rfl ?_
 refine s_as ?_
 refine k_nil (k_seq (awp_seq (awp_region ?_)))
 iterate 3 refine s_mv ?_
 obtain ⟨v7, hv7, hF4⟩ := bind_some' hF3
 refine s_ixD (Core.rowD 3 34 37) hv7 yE35 ?_
 refine s_fa yF37_1 ?_
 refine s_stC (q := 9300) (off := 1) (u := .sc (.int .i64 (w64 (g1 + 1)))) (Core.rowD 3 34 37) (Core.mk v7.kind (w64 (g1 + 1)) v7.name v7.n v7.ids v7.data v7.kids) hv7 (by rw [(Core.rowDE _ _ _ _), (Core.rowDE _ _ _ _)]; rfl) yS3 yS37 (hw := by rw [(Core.rowDE _ _ _ _)]; rfl) ?_
 refine k_nil (k_seq (awp_seq (awp_region ?_)))
 refine s_mv ?_
 refine s_add rfl ?_
 refine s_as ?_
 refine k_nil (k_seq (awp_seq (awp_region ?_)))
 iterate 3 refine s_mv ?_
 obtain ⟨v8, hv8, hF5⟩ := bind_some' hF4
 refine s_pure [] (m_laws_markText_D_ok fu _ _ hv8) ?_
 obtain ⟨v9, hv9, hF6⟩ := bind_some' hF5
 refine s_ixD (Core.rowD 3 34 37) hv9 yE35 ?_
 refine s_fa yF37_2 ?_
 refine s_stC (q := 9300) (off := 2) (u := .sc (.str v8)) (Core.rowD 3 34 37) (Core.mk v9.kind v9.id v8 v9.n v9.ids v9.data v9.kids) hv9 (by rw [(Core.rowDE _ _ _ _), (Core.rowDE _ _ _ _)]; rfl) yS9 yS37 (hw := by rw [(Core.rowDE _ _ _ _)]; rfl) ?_
 refine k_nil (k_seq (awp_seq (awp_region ?_)))
 refine s_mv ?_
 refine s_add rfl ?_
 refine s_as ?_
 refine k_nil (k_seq (awp_seq (awp_region ?_)))
 iterate 3 refine s_mv ?_
 obtain ⟨v10, hv10, hF7⟩ := bind_some' hF6
 refine s_ixD (Core.rowD 3 34 37) hv10 yE35 ?_
 refine s_fa yF37_3 ?_
 refine s_stC (q := 9300) (off := 3) (u := .sc (.int .i64 (w64 ((w64 ((w64 (g1 + 1)) + 1)) + 1)))) (Core.rowD 3 34 37) (Core.mk v10.kind v10.id v10.name (w64 ((w64 ((w64 (g1 + 1)) + 1)) + 1)) v10.ids v10.data v10.kids) hv10 (by rw [(Core.rowDE _ _ _ _), (Core.rowDE _ _ _ _)]; rfl) yS3 yS37 (hw := by rw [(Core.rowDE _ _ _ _)]; rfl) ?_
 refine k_nil (k_seq (awp_seq (awp_region ?_)))
 refine s_mv ?_
 refine s_add rfl ?_
 refine s_as ?_
 refine k_nil (k_seq (awp_seq (awp_region ?_)))
 refine s_mv ?_
 refine s_mv ?_
 obtain ⟨v11, hv11, hF8⟩ := bind_some' hF7
 refine s_ixD (Core.rowD 3 34 37) hv11 yE35 ?_
 refine s_fa yF37_4 ?_
 refine s_ldHA (Core.rowD 3 34 37) rI v11.ids plain_rI hv11 yA22 yS37 (hw := by rw [(Core.rowDE _ _ _ _)]; rfl) ?_
 refine s_mv ?_
 obtain ⟨v12, hv12, hF9⟩ := bind_some' hF8
 refine s_call [(9300, 45)] [] _ _ (m_laws_markIntS_D_ok fu _ _ _ hv12) ?_
 refine s_as ?_
 refine k_nil (k_seq ?_)
 refine awp_jsA 9300 45 [.sc (.int .i64 v11.kind), .sc (.int .i64 v11.id), .sc (.str v11.name), .sc (.int .i64 v11.n), .ow 3 (v12.2.map rI), .sc (.int .i64 v11.data.kind), .sc (.str v11.data.name), .sc (.int .i64 v11.data.n), .ow 3 (v11.data.scopes.map rI), .ow 34 (v11.data.kids.map (Form.rowD 3 34)), .ow 37 (v11.kids.map (Core.rowD 3 34 37))] hv11 (row := (Core.rowD 3 34 37)) (hj := by rw [(Core.rowDE _ _ _ _)]; rfl) (hf := by rw [(Core.rowDE _ _ _ _)]; rfl) ?_
 refine awp_nsH 9300 (row := (Core.rowD 3 34 37)) (fs := [.sc (.int .i64 v11.kind), .sc (.int .i64 v11.id), .sc (.str v11.name), .sc (.int .i64 v11.n), .ow 3 (v12.2.map rI), .sc (.int .i64 v11.data.kind), .sc (.str v11.data.name), .sc (.int .i64 v11.data.n), .ow 3 (v11.data.scopes.map rI), .ow 34 (v11.data.kids.map (Form.rowD 3 34)), .ow 37 (v11.kids.map (Core.rowD 3 34 37))]) (Core.mk v11.kind v11.id v11.name v11.n v12.2 v11.data v11.kids) (Core.rowDE _ _ _ _) ?_
 refine awp_seq (awp_region ?_)
 iterate 3 refine s_mv ?_
 obtain ⟨v13, hv13, hF10⟩ := bind_some' hF9
 refine s_ixD (Core.rowD 3 34 37) hv13 yE35 ?_
 refine s_fa yF37_5 ?_
 refine s_fa yF34_0 ?_
 refine s_stC (q := 9300) (off := 5) (u := .sc (.int .i64 v12.1)) (Core.rowD 3 34 37) (Core.mk v13.kind v13.id v13.name v13.n v13.ids (Form.mk v12.1 v13.data.name v13.data.n v13.data.scopes v13.data.kids) v13.kids) hv13 (by rw [(Core.rowDE _ _ _ _), (Core.rowDE _ _ _ _)]; rfl) yS3 yS37 (hw := by rw [(Core.rowDE _ _ _ _)]; rfl) ?_
 refine k_nil (k_seq (awp_seq (awp_region ?_)))
 refine s_mv ?_
 refine s_add rfl ?_
 refine s_as ?_
 refine k_nil (k_seq (awp_seq (awp_region ?_)))
 iterate 3 refine s_mv ?_
 obtain ⟨v14, hv14, hF11⟩ := bind_some' hF10
 refine s_pure [] (m_laws_markText_D_ok fu _ _ hv14) ?_
 obtain ⟨v15, hv15, hF12⟩ := bind_some' hF11
 refine s_ixD (Core.rowD 3 34 37) hv15 yE35 ?_
 refine s_fa yF37_5 ?_
 refine s_fa yF34_1 ?_
 refine s_stC (q := 9300) (off := 6) (u := .sc (.str v14)) (Core.rowD 3 34 37) (Core.mk v15.kind v15.id v15.name v15.n v15.ids (Form.mk v15.data.kind v14 v15.data.n v15.data.scopes v15.data.kids) v15.kids) hv15 (by rw [(Core.rowDE _ _ _ _), (Core.rowDE _ _ _ _)]; rfl) yS9 yS37 (hw := by rw [(Core.rowDE _ _ _ _)]; rfl) ?_
 refine k_nil (k_seq (awp_seq (awp_region ?_)))
 refine s_mv ?_
 refine s_add rfl ?_
 refine s_as ?_
 refine k_nil (k_seq (awp_seq (awp_region ?_)))
 iterate 3 refine s_mv ?_
 obtain ⟨v16, hv16, hF13⟩ := bind_some' hF12
 refine s_ixD (Core.rowD 3 34 37) hv16 yE35 ?_
 refine s_fa yF37_5 ?_
 refine s_fa yF34_2 ?_
 refine s_stC (q := 9300) (off := 7) (u := .sc (.int .i64 (w64 ((w64 (v12.1 + 1)) + 1)))) (Core.rowD 3 34 37) (Core.mk v16.kind v16.id v16.name v16.n v16.ids (Form.mk v16.data.kind v16.data.name (w64 ((w64 (v12.1 + 1)) + 1)) v16.data.scopes v16.data.kids) v16.kids) hv16 (by rw [(Core.rowDE _ _ _ _), (Core.rowDE _ _ _ _)]; rfl) yS3 yS37 (hw := by rw [(Core.rowDE _ _ _ _)]; rfl) ?_
 refine k_nil (k_seq (awp_seq (awp_region ?_)))
 refine s_mv ?_
 refine s_add rfl ?_
 refine s_as ?_
 refine k_nil (k_seq (awp_seq (awp_region ?_)))
 refine s_mv ?_
 refine s_mv ?_
 obtain ⟨v17, hv17, hF14⟩ := bind_some' hF13
 refine s_ixD (Core.rowD 3 34 37) hv17 yE35 ?_
 refine s_fa yF37_5 ?_
 refine s_fa yF34_3 ?_
 refine s_ldHA (Core.rowD 3 34 37) rI v17.data.scopes plain_rI hv17 yA22 yS37 (hw := by rw [(Core.rowDE _ _ _ _)]; rfl) ?_
 refine s_mv ?_
 obtain ⟨v18, hv18, hF15⟩ := bind_some' hF14
 refine s_call [(9300, 78)] [] _ _ (m_laws_markIntS_D_ok fu _ _ _ hv18) ?_
 refine s_as ?_
 refine k_nil (k_seq ?_)
 refine awp_jsA 9300 78 [.sc (.int .i64 v17.kind), .sc (.int .i64 v17.id), .sc (.str v17.name), .sc (.int .i64 v17.n), .ow 3 (v17.ids.map rI), .sc (.int .i64 v17.data.kind), .sc (.str v17.data.name), .sc (.int .i64 v17.data.n), .ow 3 (v18.2.map rI), .ow 34 (v17.data.kids.map (Form.rowD 3 34)), .ow 37 (v17.kids.map (Core.rowD 3 34 37))] hv17 (row := (Core.rowD 3 34 37)) (hj := by rw [(Core.rowDE _ _ _ _)]; rfl) (hf := by rw [(Core.rowDE _ _ _ _)]; rfl) ?_
 refine awp_nsH 9300 (row := (Core.rowD 3 34 37)) (fs := [.sc (.int .i64 v17.kind), .sc (.int .i64 v17.id), .sc (.str v17.name), .sc (.int .i64 v17.n), .ow 3 (v17.ids.map rI), .sc (.int .i64 v17.data.kind), .sc (.str v17.data.name), .sc (.int .i64 v17.data.n), .ow 3 (v18.2.map rI), .ow 34 (v17.data.kids.map (Form.rowD 3 34)), .ow 37 (v17.kids.map (Core.rowD 3 34 37))]) (Core.mk v17.kind v17.id v17.name v17.n v17.ids (Form.mk v17.data.kind v17.data.name v17.data.n v18.2 v17.data.kids) v17.kids) (Core.rowDE _ _ _ _) ?_
 refine awp_seq (awp_region ?_)
 refine s_mv ?_
 refine s_mv ?_
 obtain ⟨v19, hv19, hF16⟩ := bind_some' hF15
 refine s_ixD (Core.rowD 3 34 37) hv19 yE35 ?_
 refine s_fa yF37_5 ?_
 refine s_fa yF34_4 ?_
 refine s_ldHD (Core.rowD 3 34 37) (Form.rowD 3 34) v19.data.kids hv19 yA32 yS37 (hw := by rw [(Core.rowDE _ _ _ _)]; rfl) ?_
 refine s_mv ?_
 obtain ⟨v20, hv20, hF17⟩ := bind_some' hF16
 refine s_call [(9300, 86)] [] _ _ (m_laws_markFormS_D_ok fu _ _ _ hv20) ?_
 refine s_as ?_
 refine k_nil (k_seq ?_)
 refine awp_jsD 9300 86 [.sc (.int .i64 v19.kind), .sc (.int .i64 v19.id), .sc (.str v19.name), .sc (.int .i64 v19.n), .ow 3 (v19.ids.map rI), .sc (.int .i64 v19.data.kind), .sc (.str v19.data.name), .sc (.int .i64 v19.data.n), .ow 3 (v19.data.scopes.map rI), .ow 34 (v20.2.map (Form.rowD 3 34)), .ow 37 (v19.kids.map (Core.rowD 3 34 37))] hv19 (row := (Core.rowD 3 34 37)) (hj := by rw [(Core.rowDE _ _ _ _)]; rfl) (hf := by rw [(Core.rowDE _ _ _ _)]; rfl) ?_
 refine awp_nsH 9300 (row := (Core.rowD 3 34 37)) (fs := [.sc (.int .i64 v19.kind), .sc (.int .i64 v19.id), .sc (.str v19.name), .sc (.int .i64 v19.n), .ow 3 (v19.ids.map rI), .sc (.int .i64 v19.data.kind), .sc (.str v19.data.name), .sc (.int .i64 v19.data.n), .ow 3 (v19.data.scopes.map rI), .ow 34 (v20.2.map (Form.rowD 3 34)), .ow 37 (v19.kids.map (Core.rowD 3 34 37))]) (Core.mk v19.kind v19.id v19.name v19.n v19.ids (Form.mk v19.data.kind v19.data.name v19.data.n v19.data.scopes v20.2) v19.kids) (Core.rowDE _ _ _ _) ?_
 refine awp_region ?_
 refine s_mv ?_
 refine s_mv ?_
 obtain ⟨v21, hv21, hF18⟩ := bind_some' hF17
 refine s_ixD (Core.rowD 3 34 37) hv21 yE35 ?_
 refine s_fa yF37_6 ?_
 refine s_ldHD (Core.rowD 3 34 37) (Core.rowD 3 34 37) v21.kids hv21 yA35 yS37 (hw := by rw [(Core.rowDE _ _ _ _)]; rfl) ?_
 refine s_mv ?_
 obtain ⟨v22, hv22, hF19⟩ := bind_some' hF18
 refine s_call [(9300, 93)] [] _ _ (ih_m_laws_markCoreS_D fu (by omega) _ _ _ hv22) ?_
 refine s_as ?_
 refine k_nil (k_blk (k_seq ?_))
 refine awp_jsD 9300 93 [.sc (.int .i64 v21.kind), .sc (.int .i64 v21.id), .sc (.str v21.name), .sc (.int .i64 v21.n), .ow 3 (v21.ids.map rI), .sc (.int .i64 v21.data.kind), .sc (.str v21.data.name), .sc (.int .i64 v21.data.n), .ow 3 (v21.data.scopes.map rI), .ow 34 (v21.data.kids.map (Form.rowD 3 34)), .ow 37 (v22.2.map (Core.rowD 3 34 37))] hv21 (row := (Core.rowD 3 34 37)) (hj := by rw [(Core.rowDE _ _ _ _)]; rfl) (hf := by rw [(Core.rowDE _ _ _ _)]; rfl) ?_
 refine awp_nsH 9300 (row := (Core.rowD 3 34 37)) (fs := [.sc (.int .i64 v21.kind), .sc (.int .i64 v21.id), .sc (.str v21.name), .sc (.int .i64 v21.n), .ow 3 (v21.ids.map rI), .sc (.int .i64 v21.data.kind), .sc (.str v21.data.name), .sc (.int .i64 v21.data.n), .ow 3 (v21.data.scopes.map rI), .ow 34 (v21.data.kids.map (Form.rowD 3 34)), .ow 37 (v22.2.map (Core.rowD 3 34 37))]) (Core.mk v21.kind v21.id v21.name v21.n v21.ids v21.data v22.2) (Core.rowDE _ _ _ _) ?_
 refine awp_region ?_
 refine s_mv ?_
 refine s_add rfl ?_
 refine s_as ?_
 refine k_nil ?_
 exact s_rn (fu, v22.1, (w64 (g2 + 1)), (((((((((((g3.set g2.toNat (Core.mk g1 v6.id v6.name v6.n v6.ids v6.data v6.kids)).set g2.toNat (Core.mk v7.kind (w64 (g1 + 1)) v7.name v7.n v7.ids v7.data v7.kids)).set g2.toNat (Core.mk v9.kind v9.id v8 v9.n v9.ids v9.data v9.kids)).set g2.toNat (Core.mk v10.kind v10.id v10.name (w64 ((w64 ((w64 (g1 + 1)) + 1)) + 1)) v10.ids v10.data v10.kids)).set g2.toNat (Core.mk v11.kind v11.id v11.name v11.n v12.2 v11.data v11.kids)).set g2.toNat (Core.mk v13.kind v13.id v13.name v13.n v13.ids (Form.mk v12.1 v13.data.name v13.data.n v13.data.scopes v13.data.kids) v13.kids)).set g2.toNat (Core.mk v15.kind v15.id v15.name v15.n v15.ids (Form.mk v15.data.kind v14 v15.data.n v15.data.scopes v15.data.kids) v15.kids)).set g2.toNat (Core.mk v16.kind v16.id v16.name v16.n v16.ids (Form.mk v16.data.kind v16.data.name (w64 ((w64 (v12.1 + 1)) + 1)) v16.data.scopes v16.data.kids) v16.kids)).set g2.toNat (Core.mk v17.kind v17.id v17.name v17.n v17.ids (Form.mk v17.data.kind v17.data.name v17.data.n v18.2 v17.data.kids) v17.kids)).set g2.toNat (Core.mk v19.kind v19.id v19.name v19.n v19.ids (Form.mk v19.data.kind v19.data.name v19.data.n v19.data.scopes v20.2) v19.kids)).set g2.toNat (Core.mk v21.kind v21.id v21.name v21.n v21.ids v21.data v22.2))) ⟨by first | omega | (dsimp only; omega), hF19⟩
 refine awp_exit (k_seq_exit (k_rnd_exit2 (k_blk_exit (k_seq (awp_seq (awp_region ?_))))))
 refine s_mv ?_
 refine s_as ?_
 refine k_nil (k_seq (awp_ret (k_fin ?_)))
 cases hF2
 exact ends_a _ [] Try.results69
theorem m_laws_markCoreS_D_all (fuel : Nat) : m_laws_markCoreS_D_AC fuel := by
 induction fuel using Nat.strongRecOn with
 | _ N ih =>
   cases N with
   | zero => exact (by intro x1 x2 r h; rw [m_laws_markCoreS] at h; cases h)
   | succ fu => exact m_laws_markCoreS_D_st fu (fun k hk => (ih k (by omega)))
theorem m_laws_markCoreS_D_ok (fuel : Nat) : m_laws_markCoreS_D_AC fuel := (m_laws_markCoreS_D_all fuel)
def m_laws_markCore_D_AC (fuel : Nat) : Prop := ∀ (x1 : Core) (x2 : Int) (r : (Int × (List Int) × (List Int) × (List Form) × (List Core))), m_laws_markCore fuel x1 x2 = some r → AC Try.prog 17 [.ag [.t (.sc (.int .i64 x1.kind)), .t (.sc (.int .i64 x1.id)), .t (.sc (.str x1.name)), .t (.sc (.int .i64 x1.n)), .ar 9304, .t (.sc (.int .i64 x1.data.kind)), .t (.sc (.str x1.data.name)), .t (.sc (.int .i64 x1.data.n)), .ar 9308, .ar 9309, .ar 9310], .t (.sc (.int .i64 x2))] (objs [(9304, .arr (x1.ids.map rI) 3 true), (9308, .arr (x1.data.scopes.map rI) 3 true), (9309, .dar (x1.data.kids.map (Form.rowD 3 34)) 34), (9310, .dar (x1.kids.map (Core.rowD 3 34 37)) 37)]) (.t (.sc (.int .i64 r.1))) (objs [(9304, .arr (r.2.1.map rI) 3 true), (9308, .arr (r.2.2.1.map rI) 3 true), (9309, .dar (r.2.2.2.1.map (Form.rowD 3 34)) 34), (9310, .dar (r.2.2.2.2.map (Core.rowD 3 34 37)) 37)])
theorem m_laws_markCore_D_ok (fuel : Nat) : m_laws_markCore_D_AC fuel := by
 intro x1 x2 r hF0
 unfold m_laws_markCore at hF0
 refine AC_i [.t (.sc (.int .i64 r.1))] Try.func17 rfl Try.ntmps17 ?_
 intro C hC
 refine awp_seq (awp_region ?_)
 refine s_box ?_
 refine s_as ?_
 refine k_nil (k_seq (awp_seq (awp_region ?_)))
 refine s_fa yF37_4 ?_
 refine s_ld1 yA22 ?_
 refine s_mv ?_
 obtain ⟨v1, hv1, hF1⟩ := bind_some' hF0
 refine s_call [(9300, 9304)] [] _ _ (m_laws_markIntS_D_ok fuel _ _ _ hv1) ?_
 refine s_as ?_
 refine k_nil (k_seq (awp_seq (awp_region ?_)))
 refine s_fa yF37_5 ?_
 refine s_ldN yA34 yS34 ?_
 refine s_mv ?_
 obtain ⟨v2, hv2, hF2⟩ := bind_some' hF1
 refine s_call [(9303, 9308), (9304, 9309)] [] _ _ (m_laws_markForm_D_ok fuel _ _ _ hv2) ?_
 refine s_as ?_
 refine k_nil (k_seq (awp_seq (awp_region ?_)))
 refine s_fa yF37_6 ?_
 refine s_ld1 yA35 ?_
 refine s_mv ?_
 obtain ⟨v3, hv3, hF3⟩ := bind_some' hF2
 refine s_call [(9300, 9310)] [] _ _ (m_laws_markCoreS_D_ok fuel _ _ _ hv3) ?_
 refine s_as ?_
 refine k_nil (k_seq (awp_seq (awp_region ?_)))
 refine s_mv ?_
 refine s_as ?_
 refine k_nil (k_seq (awp_ret (k_fin ?_)))
 cases hF3
 exact ends_a _ [] Try.results17
def m_laws_heldCoreS_AC (fuel : Nat) : Prop := ∀ (x1 : (List Core)) (x2 : Int) (r : Int), m_laws_heldCoreS fuel x1 x2 = some r → AC Try.prog 101 [.t (.sl (x1.map Core.row)), .t (.sc (.int .i64 x2))] noOb (.t (.sc (.int .i64 r))) noOb
theorem m_laws_heldCoreS_st (fu : Nat) (ih_m_laws_heldCoreS : ∀ k, k ≤ fu → m_laws_heldCoreS_AC k) : m_laws_heldCoreS_AC (fu + 1) := by
 intro x1 x2 r hF0
 rw [m_laws_heldCoreS] at hF0
 refine AC_i [.t (.sc (.int .i64 r))] Try.func101 rfl Try.ntmps101 ?_
 intro C hC
 refine awp_seq (awp_region ?_)
 refine s_as ?_
 refine k_nil (k_seq (awp_seq (awp_seq (awp_region ?_))))
 refine s_as ?_
 refine k_nil (k_seq (awp_block ?_))
 refine awp_fr (β := Int × Int) [1, 4, 5, 6, 7, 8, 9, 10, 11, 12, 13, 14, 15, 16, 17, 18, 19, 20, 21, 22, 23, 24, 25, 26, 27, 28, 29, 30, 31, 32, 33, 34, 35, 36, 37, 38, 39, 40, 41, 42, 43, 44, 45, 46, 47, 48, 49, 50, 51, 52, 53, 54, 55, 56, 57, 58, 59, 60, 61, 62, 63, 64, 65, 66, 67, 68, 69, 70, 71, 72, 73, 74, 75, 76, 77, 78, 79, 80, 81, 82, 83, 84, 85, 86, 87, 88, 89, 90, 91, 92, 93, 94, 95, 96, 97, 98, 99, 100, 101, 102, 103, 104, 105, 106, 107, 108, 109, 110, 111, 112, 113, 114, 115, 116, 117] [] [] (fun a => [(1, .t (.sc (.int .i64 a.2.1))), (5, .t (.sc (.int .i64 a.2.2)))]) (fun a => []) (fun a => a.1 ≤ fu ∧ m_laws_heldCoreS_l1 a.1 x1 a.2.1 a.2.2 = some r ∧ 0 ≤ a.2.2) (fu, x2, 0) ⟨Nat.le_refl _, hF0, by simp⟩ ?_
 clear hF0
 rintro ⟨fu, g1, g2⟩ ⟨hl3, hF1, hn_g2⟩
 dsimp only at hl3 hF1 hn_g2 ⊢
 obtain _ | fu := fu
 · rw [m_laws_heldCoreS_l1] at hF1; cases hF1
 rw [m_laws_heldCoreS_l1] at hF1
 refine awp_seq (awp_seq (awp_region ?_))
 refine s_mv ?_
 refine s_mv ?_
 refine s_lenT yU35 ?_
 refine s_lt ?_
 refine k_nil (k_seq ?_)
 refine w_cond hF1 ?_ ?_ <;> intro hc4 hF2
 refine awp_lenT 0 (fun hb5 => ?_)
 refine awp_skip (k_seq (awp_seq (awp_block (awp_seq (awp_seq (awp_region ?_))))))
 refine s_mv ?_
 refine s_mv ?_
 obtain ⟨v6, hv6, hF3⟩ := bind_some' hF2
 refine s_ixT Core.row hv6 (Core.row_eq _) yE35 ?_
 refine s_fa yF37_0 ?_
 refine s_ld1 yA3 ?_
 refine s_mv ?_
 refine s_ne ?_
 refine k_nil (k_seq ?_)
 refine w_cond hF3 ?_ ?_ <;> intro hc7 hF4
 refine awp_seq (awp_region ?_)
 refine s_as ?_
 refine k_nil (k_seq (awp_ret (k_seq_ret (k_blk_ret (k_seq_ret (k_rnd_ret2 (k_blk_ret (k_seq_ret (k_fin ?_)))))))))
 cases hF4
 exact ends_a [] [] Try.results101
 refine awp_skip (k_seq (awp_seq (awp_region ?_)))
 refine s_mv ?_
 refine s_add rfl ?_
 refine s_as ?_
 refine k_nil (k_seq (awp_seq (awp_seq (awp_region ?_))))
 refine s_mv ?_
 refine s_mv ?_
 obtain ⟨v8, hv8, hF5⟩ := bind_some' hF4
 refine s_ixT Core.row hv8 (Core.row_eq _) yE35 ?_
 refine s_fa yF37_1 ?_
 refine s_ld1 yA3 ?_
 refine s_mv ?_
 refine s_ne ?_
 refine k_nil (k_seq ?_)
 refine w_cond hF5 ?_ ?_ <;> intro hc9 hF6
 refine awp_seq (awp_region ?_)
 refine s_as ?_
 refine k_nil (k_seq (awp_ret (k_seq_ret (k_blk_ret (k_seq_ret (k_rnd_ret2 (k_blk_ret (k_seq_ret (k_fin ?_)))))))))
 cases hF6
 exact ends_a [] [] Try.results101
 refine awp_skip (k_seq (awp_seq (awp_region ?_)))
 refine s_mv ?_
 refine s_add rfl ?_
 refine s_as ?_
 refine k_nil (k_seq (awp_seq (awp_seq ?_)))
 refine awp_draw yMix (by kernel_rfl) ?_
 refine s_mv ?_
 refine s_mv ?_
 obtain ⟨v10, hv10, hF7⟩ := bind_some' hF6
 refine s_ixT Core.row hv10 (Core.row_eq _) yE35 ?_
 refine s_fa yF37_2 ?_
 refine s_ld1 yA9 ?_
 refine s_mv ?_
 obtain ⟨v11, hv11, hF8⟩ := bind_some' hF7
 refine s_pure [] (m_laws_markText_D_ok fu _ _ hv11) ?_
 refine s_neS ?_
 refine k_nilD (by kernel_rfl) ?_
 refine k_seq ?_
 refine w_cond hF8 ?_ ?_ <;> intro hc12 hF9
 refine awp_seq (awp_region ?_)
 refine s_as ?_
 refine k_nil (k_seq (awp_ret (k_seq_ret (k_blk_ret (k_seq_ret (k_rnd_ret2 (k_blk_ret (k_seq_ret (k_fin ?_)))))))))
 cases hF9
 exact ends_a [] [] Try.results101
 refine awp_skip (k_seq (awp_seq (awp_region ?_)))
 refine s_mv ?_
 refine s_add rfl ?_
 refine s_as ?_
 refine k_nil (k_seq (awp_seq (awp_seq (awp_region ?_))))
 refine s_mv ?_
 refine s_mv ?_
 obtain ⟨v13, hv13, hF10⟩ := bind_some' hF9
 refine s_ixT Core.row hv13 (Core.row_eq _) yE35 ?_
 refine s_fa yF37_3 ?_
 refine s_ld1 yA3 ?_
 refine s_mv ?_
 refine s_ne ?_
 refine k_nil (k_seq ?_)
 refine w_cond hF10 ?_ ?_ <;> intro hc14 hF11
 refine awp_seq (awp_region ?_)
 refine s_as ?_
 refine k_nil (k_seq (awp_ret (k_seq_ret (k_blk_ret (k_seq_ret (k_rnd_ret2 (k_blk_ret (k_seq_ret (k_fin ?_)))))))))
 cases hF11
 exact ends_a [] [] Try.results101
 refine awp_skip (k_seq (awp_seq (awp_region ?_)))
 refine s_mv ?_
 refine s_add rfl ?_
 refine s_as ?_
 refine k_nil (k_seq (awp_seq (awp_region ?_)))
 refine s_mv ?_
 refine s_mv ?_
 obtain ⟨v15, hv15, hF12⟩ := bind_some' hF11
 refine s_ixT Core.row hv15 (Core.row_eq _) yE35 ?_
 refine s_fa yF37_4 ?_
 refine s_ld1 yA22 ?_
 refine s_mv ?_
 obtain ⟨v16, hv16, hF13⟩ := bind_some' hF12
 refine s_pure [] (m_laws_heldIntS_ok fu _ _ _ hv16) ?_
 refine s_as ?_
 refine k_nil (k_seq (awp_seq (awp_seq (awp_region ?_))))
 refine s_mv ?_
 refine s_lt ?_
 refine k_nil (k_seq ?_)
 refine w_cond hF13 ?_ ?_ <;> intro hc17 hF14
 refine awp_seq (awp_region ?_)
 refine s_as ?_
 refine k_nil (k_seq (awp_ret (k_seq_ret (k_blk_ret (k_seq_ret (k_rnd_ret2 (k_blk_ret (k_seq_ret (k_fin ?_)))))))))
 cases hF14
 exact ends_a [] [] Try.results101
 refine awp_skip (k_seq (awp_seq (awp_seq (awp_region ?_))))
 refine s_mv ?_
 refine s_mv ?_
 obtain ⟨v18, hv18, hF15⟩ := bind_some' hF14
 refine s_ixT Core.row hv18 (Core.row_eq _) yE35 ?_
 refine s_fa yF37_5 ?_
 refine s_fa yF34_0 ?_
 refine s_ld1 yA3 ?_
 refine s_mv ?_
 refine s_ne ?_
 refine k_nil (k_seq ?_)
 refine w_cond hF15 ?_ ?_ <;> intro hc19 hF16
 refine awp_seq (awp_region ?_)
 refine s_as ?_
 refine k_nil (k_seq (awp_ret (k_seq_ret (k_blk_ret (k_seq_ret (k_rnd_ret2 (k_blk_ret (k_seq_ret (k_fin ?_)))))))))
 cases hF16
 exact ends_a [] [] Try.results101
 refine awp_skip (k_seq (awp_seq (awp_region ?_)))
 refine s_mv ?_
 refine s_add rfl ?_
 refine s_as ?_
 refine k_nil (k_seq (awp_seq (awp_seq ?_)))
 refine awp_draw yMix (by kernel_rfl) ?_
 refine s_mv ?_
 refine s_mv ?_
 obtain ⟨v20, hv20, hF17⟩ := bind_some' hF16
 refine s_ixT Core.row hv20 (Core.row_eq _) yE35 ?_
 refine s_fa yF37_5 ?_
 refine s_fa yF34_1 ?_
 refine s_ld1 yA9 ?_
 refine s_mv ?_
 obtain ⟨v21, hv21, hF18⟩ := bind_some' hF17
 refine s_pure [] (m_laws_markText_D_ok fu _ _ hv21) ?_
 refine s_neS ?_
 refine k_nilD (by kernel_rfl) ?_
 refine k_seq ?_
 refine w_cond hF18 ?_ ?_ <;> intro hc22 hF19
 refine awp_seq (awp_region ?_)
 refine s_as ?_
 refine k_nil (k_seq (awp_ret (k_seq_ret (k_blk_ret (k_seq_ret (k_rnd_ret2 (k_blk_ret (k_seq_ret (k_fin ?_)))))))))
 cases hF19
 exact ends_a [] [] Try.results101
 refine awp_skip (k_seq (awp_seq (awp_region ?_)))
 refine s_mv ?_
 refine s_add rfl ?_
 refine s_as ?_
 refine k_nil (k_seq (awp_seq (awp_seq (awp_region ?_))))
 refine s_mv ?_
 refine s_mv ?_
 obtain ⟨v23, hv23, hF20⟩ := bind_some' hF19
 refine s_ixT Core.row hv23 (Core.row_eq _) yE35 ?_
 refine s_fa yF37_5 ?_
 refine s_fa yF34_2 ?_
 refine s_ld1 yA3 ?_
 refine s_mv ?_
 refine s_ne ?_
 refine k_nil (k_seq ?_)
 refine w_cond hF20 ?_ ?_ <;> intro hc24 hF21
 refine awp_seq (awp_region ?_)
 refine s_as ?_
 refine k_nil (k_seq (awp_ret (k_seq_ret (k_blk_ret (k_seq_ret (k_rnd_ret2 (k_blk_ret (k_seq_ret (k_fin ?_)))))))))
 cases hF21
 exact ends_a [] [] Try.results101
 refine awp_skip (k_seq (awp_seq (awp_region ?_)))
 refine s_mv ?_
 refine s_add rfl ?_
 refine s_as ?_
 refine k_nil (k_seq (awp_seq (awp_region ?_)))
 refine s_mv ?_
 refine s_mv ?_
 obtain ⟨v25, hv25, hF22⟩ := bind_some' hF21
 refine s_ixT Core.row hv25 (Core.row_eq _) yE35 ?_
 refine s_fa yF37_5 ?_
 refine s_fa yF34_3 ?_
 refine s_ld1 yA22 ?_
 refine s_mv ?_
 obtain ⟨v26, hv26, hF23⟩ := bind_some' hF22
 refine s_pure [] (m_laws_heldIntS_ok fu _ _ _ hv26) ?_
 refine s_as ?_
 refine k_nil (k_seq (awp_seq (awp_seq (awp_region ?_))))
 refine s_mv ?_
 refine s_lt ?_
 refine k_nil (k_seq ?_)
 refine w_cond hF23 ?_ ?_ <;> intro hc27 hF24
 refine awp_seq (awp_region ?_)
 refine s_as ?_
 refine k_nil (k_seq (awp_ret (k_seq_ret (k_blk_ret (k_seq_ret (k_rnd_ret2 (k_blk_ret (k_seq_ret (k_fin ?_)))))))))
 cases hF24
 exact ends_a [] [] Try.results101
 refine awp_skip (k_seq (awp_seq (awp_region ?_)))
 refine s_mv ?_
 refine s_mv ?_
 obtain ⟨v28, hv28, hF25⟩ := bind_some' hF24
 refine s_ixT Core.row hv28 (Core.row_eq _) yE35 ?_
 refine s_fa yF37_5 ?_
 refine s_fa yF34_4 ?_
 refine s_ld1 yA32 ?_
 refine s_mv ?_
 obtain ⟨v29, hv29, hF26⟩ := bind_some' hF25
 refine s_pure [] (m_laws_heldFormS_ok fu _ _ _ hv29) ?_
 refine s_as ?_
 refine k_nil (k_seq (awp_seq (awp_seq (awp_region ?_))))
 refine s_mv ?_
 refine s_lt ?_
 refine k_nil (k_seq ?_)
 refine w_cond hF26 ?_ ?_ <;> intro hc30 hF27
 refine awp_seq (awp_region ?_)
 refine s_as ?_
 refine k_nil (k_seq (awp_ret (k_seq_ret (k_blk_ret (k_seq_ret (k_rnd_ret2 (k_blk_ret (k_seq_ret (k_fin ?_)))))))))
 cases hF27
 exact ends_a [] [] Try.results101
 refine awp_skip (k_seq (awp_seq (awp_region ?_)))
 refine s_mv ?_
 refine s_mv ?_
 obtain ⟨v31, hv31, hF28⟩ := bind_some' hF27
 refine s_ixT Core.row hv31 (Core.row_eq _) yE35 ?_
 refine s_fa yF37_6 ?_
 refine s_ld1 yA35 ?_
 refine s_mv ?_
 obtain ⟨v32, hv32, hF29⟩ := bind_some' hF28
 refine s_pure [] (ih_m_laws_heldCoreS fu (by omega) _ _ _ hv32) ?_
 refine s_as ?_
 refine k_nil (k_seq (awp_seq (awp_region ?_)))
 refine s_mv ?_
 refine s_lt ?_
 refine k_nil (k_seq ?_)
 refine w_cond hF29 ?_ ?_ <;> intro hc33 hF30
 refine awp_seq (awp_region ?_)
 refine s_as ?_
 refine k_nil (k_seq (awp_ret (k_blk_ret (k_seq_ret (k_rnd_ret2 (k_blk_ret (k_seq_ret (k_fin ?_))))))))
 cases hF30
 exact ends_a [] [] Try.results101
 refine awp_skip (k_blk (k_seq (awp_region ?_)))
 refine s_mv ?_
 refine s_add (winc2 hc4 hb5 hn_g2) ?_
 refine s_as ?_
 refine k_nil ?_
 exact s_rn (fu, v32, (g2 + 1)) ⟨by first | omega | (dsimp only; omega), hF30, by first | omega | (dsimp only; omega)⟩
 refine awp_exit (k_seq_exit (k_rnd_exit2 (k_blk_exit (k_seq (awp_seq (awp_region ?_))))))
 refine s_mv ?_
 refine s_as ?_
 refine k_nil (k_seq (awp_ret (k_fin ?_)))
 cases hF2
 exact ends_a [] [] Try.results101
theorem m_laws_heldCoreS_all (fuel : Nat) : m_laws_heldCoreS_AC fuel := by
 induction fuel using Nat.strongRecOn with
 | _ N ih =>
   cases N with
   | zero => exact (by intro x1 x2 r h; rw [m_laws_heldCoreS] at h; cases h)
   | succ fu => exact m_laws_heldCoreS_st fu (fun k hk => (ih k (by omega)))
theorem m_laws_heldCoreS_ok (fuel : Nat) : m_laws_heldCoreS_AC fuel := (m_laws_heldCoreS_all fuel)
def m_laws_heldCore_AC (fuel : Nat) : Prop := ∀ (x1 : Core) (x2 : Int) (r : Int), m_laws_heldCore fuel x1 x2 = some r → AC Try.prog 55 [.ag [.t (.sc (.int .i64 x1.kind)), .t (.sc (.int .i64 x1.id)), .t (.sc (.str x1.name)), .t (.sc (.int .i64 x1.n)), .t (.sl (x1.ids.map rI)), .t (.sc (.int .i64 x1.data.kind)), .t (.sc (.str x1.data.name)), .t (.sc (.int .i64 x1.data.n)), .t (.sl (x1.data.scopes.map rI)), .t (.sl (x1.data.kids.map Form.row)), .t (.sl (x1.kids.map Core.row))], .t (.sc (.int .i64 x2))] noOb (.t (.sc (.int .i64 r))) noOb
theorem m_laws_heldCore_ok (fuel : Nat) : m_laws_heldCore_AC fuel := by
 intro x1 x2 r hF0
 unfold m_laws_heldCore at hF0
 refine AC_i [.t (.sc (.int .i64 r))] Try.func55 rfl Try.ntmps55 ?_
 intro C hC
 refine awp_seq (awp_region ?_)
 refine s_box ?_
 refine s_as ?_
 refine k_nil (k_seq (awp_seq (awp_region ?_)))
 refine s_fa yF37_4 ?_
 refine s_ld1 yA22 ?_
 refine s_mv ?_
 obtain ⟨v1, hv1, hF1⟩ := bind_some' hF0
 refine s_pure [] (m_laws_heldIntS_ok fuel _ _ _ hv1) ?_
 refine s_as ?_
 refine k_nil (k_seq (awp_seq (awp_seq (awp_region ?_))))
 refine s_mv ?_
 refine s_lt ?_
 refine k_nil (k_seq ?_)
 refine w_cond hF1 ?_ ?_ <;> intro hc2 hF2
 refine awp_seq (awp_region ?_)
 refine s_as ?_
 refine k_nil (k_seq (awp_ret (k_seq_ret (k_fin ?_))))
 cases hF2
 exact ends_a [] [] Try.results55
 refine awp_skip (k_seq (awp_seq (awp_region ?_)))
 refine s_fa yF37_5 ?_
 refine s_ldN yA34 yS34 ?_
 refine s_mv ?_
 obtain ⟨v3, hv3, hF3⟩ := bind_some' hF2
 refine s_pure [] (m_laws_heldForm_ok fuel _ _ _ hv3) ?_
 refine s_as ?_
 refine k_nil (k_seq (awp_seq (awp_seq (awp_region ?_))))
 refine s_mv ?_
 refine s_lt ?_
 refine k_nil (k_seq ?_)
 refine w_cond hF3 ?_ ?_ <;> intro hc4 hF4
 refine awp_seq (awp_region ?_)
 refine s_as ?_
 refine k_nil (k_seq (awp_ret (k_seq_ret (k_fin ?_))))
 cases hF4
 exact ends_a [] [] Try.results55
 refine awp_skip (k_seq (awp_seq (awp_region ?_)))
 refine s_fa yF37_6 ?_
 refine s_ld1 yA35 ?_
 refine s_mv ?_
 obtain ⟨v5, hv5, hF5⟩ := bind_some' hF4
 refine s_pure [] (m_laws_heldCoreS_ok fuel _ _ _ hv5) ?_
 refine s_as ?_
 refine k_nil (k_seq (awp_seq (awp_seq (awp_region ?_))))
 refine s_mv ?_
 refine s_lt ?_
 refine k_nil (k_seq ?_)
 refine w_cond hF5 ?_ ?_ <;> intro hc6 hF6
 refine awp_seq (awp_region ?_)
 refine s_as ?_
 refine k_nil (k_seq (awp_ret (k_seq_ret (k_fin ?_))))
 cases hF6
 exact ends_a [] [] Try.results55
 refine awp_skip (k_seq (awp_seq (awp_region ?_)))
 refine s_mv ?_
 refine s_as ?_
 refine k_nil (k_seq (awp_ret (k_fin ?_)))
 cases hF6
 exact ends_a [] [] Try.results55
def m_impl_renumber_AC (fuel : Nat) : Prop := ∀ (x1 : Core) (x2 : (Int → Option Int)) (o1 : Int) (r : (Core × Int)), m_impl_renumber fuel x1 x2 o1 = some r → AC Try.prog 100 [.ag [.t (.sc (.int .i64 x1.kind)), .t (.sc (.int .i64 x1.id)), .t (.sc (.str x1.name)), .t (.sc (.int .i64 x1.n)), .t (.sl (x1.ids.map rI)), .t (.sc (.int .i64 x1.data.kind)), .t (.sc (.str x1.data.name)), .t (.sc (.int .i64 x1.data.n)), .t (.sl (x1.data.scopes.map rI)), .t (.sl (x1.data.kids.map Form.row)), .t (.sl (x1.kids.map Core.row))], .ar 9301, .rf 9000 0] (objs [(9301, .mp x2), (9000, .box [.t (.sc (.int .i64 o1))])]) (.ag [.t (.sc (.int .i64 r.1.kind)), .t (.sc (.int .i64 r.1.id)), .t (.sc (.str r.1.name)), .t (.sc (.int .i64 r.1.n)), .t (.sl (r.1.ids.map rI)), .t (.sc (.int .i64 r.1.data.kind)), .t (.sc (.str r.1.data.name)), .t (.sc (.int .i64 r.1.data.n)), .t (.sl (r.1.data.scopes.map rI)), .t (.sl (r.1.data.kids.map Form.row)), .t (.sl (r.1.kids.map Core.row))]) (objs [(9301, .mp x2), (9000, .box [.t (.sc (.int .i64 r.2))])])
theorem m_impl_renumber_st (fu : Nat) (ih_m_impl_renumber : ∀ k, k ≤ fu → m_impl_renumber_AC k) : m_impl_renumber_AC (fu + 1) := by
 intro x1 x2 o1 r hF0
 rw [m_impl_renumber] at hF0
 refine AC_i [.ag [.t (.sc (.int .i64 r.1.kind)), .t (.sc (.int .i64 r.1.id)), .t (.sc (.str r.1.name)), .t (.sc (.int .i64 r.1.n)), .t (.sl (r.1.ids.map rI)), .t (.sc (.int .i64 r.1.data.kind)), .t (.sc (.str r.1.data.name)), .t (.sc (.int .i64 r.1.data.n)), .t (.sl (r.1.data.scopes.map rI)), .t (.sl (r.1.data.kids.map Form.row)), .t (.sl (r.1.kids.map Core.row))]] Try.func100 rfl Try.ntmps100 ?_
 intro C hC
 refine awp_seq (awp_region ?_)
 refine s_box ?_
 refine s_alloc yZ37 ?_
 refine k_nil (k_seq (awp_seq ?_))
 refine awp_draw yMix (by kernel_rfl) ?_
 refine s_fa yF37_0 ?_
 refine s_ld1 yA3 ?_
 refine s_fa yF37_1 ?_
 refine s_ld1 yA3 ?_
 refine s_fa yF37_2 ?_
 refine s_ld1 yA9 ?_
 refine s_fa yF37_3 ?_
 refine s_ld1 yA3 ?_
 refine s_fa yF37_5 ?_
 refine s_ldN yA34 yS34 ?_
 obtain ⟨v1, hv1, hF1⟩ := bind_some' hF0
 refine s_pure [] (m_impl_copyForm_ok fu _ _ hv1) ?_
 refine s_bld yZ37 yL37 ?_
 refine s_alloc yZ37 ?_
 refine s_stW yS37 ?_
 refine k_nilD (by kernel_rfl) ?_
 refine k_seq ?_
 refine awp_jn (α := Nat × Int) [27, 28, 29, 30, 31, 32, 33, 34] [7] [] (fun a => []) (fun a => [(7, .box [.t (.sc (.int .i64 x1.kind)), .t (.sc (.int .i64 a.2)), .t (.sc (.str x1.name)), .t (.sc (.int .i64 x1.n)), .nl, .t (.sc (.int .i64 v1.kind)), .t (.sc (.str v1.name)), .t (.sc (.int .i64 v1.n)), .t (.sl (v1.scopes.map rI)), .t (.sl (v1.kids.map Form.row)), .nl])]) (fun a => a.1 ≤ fu ∧ m_impl_renumber_j1 a.1 x1 x2 o1 v1 a.2 = some r) ?_ ?_
 refine awp_seq (awp_region ?_)
 refine s_fa yF37_0 ?_
 refine s_ld1 yA3 ?_
 refine s_eq ?_
 refine k_nil (k_seq ?_)
 refine w_cond hF1 ?_ ?_ <;> intro hc2 hF2
 refine awp_region ?_
 refine s_mv ?_
 refine s_fa yF37_1 ?_
 refine s_ld1 yA3 ?_
 refine s_look yM149 ?_
 refine s_fa yF37_1 ?_
 refine s_stP yS3 ?_
 refine k_nil ?_
 exact s_jn (fu, (mapGet x2 x1.id)) ⟨by first | omega | (dsimp only; omega), hF2⟩
 refine awp_skip ?_
 exact s_jn (fu, x1.id) ⟨by first | omega | (dsimp only; omega), hF2⟩
 clear hF1
 rintro ⟨fu, g3⟩ ⟨hl4, hF2⟩
 dsimp only at hl4 hF2 ⊢
 obtain _ | fu := fu
 · rw [m_impl_renumber_j1] at hF2; cases hF2
 rw [m_impl_renumber_j1] at hF2
 refine awp_seq (awp_region ?_)
 refine s_mkm ?_
 refine s_as ?_
 refine k_nil (k_seq (awp_seq (awp_seq ?_)))
 refine awp_mpx 9301 (by conv => lhs; whnf) (fun bmhE5 eshE5 clockhE5 hE5 => ?_)
 refine awp_region ?_
 refine s_mv ?_
 refine s_range yM149 ?_
 refine k_nil (k_seq (awp_block ?_))
 refine awp_fr (β := Array Nat × (Int → Option Int)) [9, 10, 38, 39, 40, 41, 42, 43, 44, 45] [35, 37] [] (fun a => []) (fun a => [(35, .mp a.2.2), (37, .it (some bmhE5) clockhE5 a.2.1 clockhE5)]) (fun a => a.1 = (leftL eshE5 a.2.1).length + 1 ∧ WalkI eshE5 a.2.1 x2 a.2.2) ((leftL eshE5 #[]).length + 1, #[], map0) ⟨rfl, walk_start⟩ ?_
 rintro ⟨_, seen, g⟩ ⟨hN, hW⟩
 dsimp only at hN hW ⊢
 subst hN
 refine awp_seq ?_
 refine awp_nextS 9301 hE5 (fun x0 hx0 => ?_) (fun hl => ?_)
 obtain ⟨hm0, k0, v0, hk0, hv0, hf0⟩ := walk_at hE5 hx0
 have hlt0 := walk_less hx0
 refine k_seq (awp_seq (awp_true rfl (awp_skip (k_seq (awp_block (awp_seq (awp_region ?_)))))))
 refine s_entry hE5 hm0 hk0 hv0 (q := 9301) ?_
 refine s_ext ?_
 refine s_ext ?_
 refine s_as ?_
 refine s_as ?_
 refine k_nil (k_seq (awp_region ?_))
 iterate 3 refine s_mv ?_
 refine s_mupd yM149 ?_
 refine k_nil (k_blk ?_)
 exact s_rn ((leftL eshE5 (seen.push x0.born)).length + 1, seen.push x0.born, mapSet g k0 v0) ⟨rfl, walk_step hE5 hx0 hk0 hf0 hW⟩
 have hfg := walk_end hE5 hl hW
 subst hfg
 refine k_seq (awp_seq (awp_false rfl ?_))
 refine awp_exit (k_seq_exit (k_rnd_exit2 (k_blk_exit ?_)))
 refine k_seq ?_
 refine awp_mpo 9301 hE5 (by conv => lhs; whnf) ?_
 refine awp_kill 37 rfl ?_
 refine awp_jn (α := Nat × Int × (Int → Option Int) × (List Int)) [12, 46, 47, 48, 49, 50, 51, 52, 53, 54, 55, 56, 57, 58, 59, 60, 61, 62, 63, 64, 65, 66, 67, 68, 69, 70, 71] [7, 35, 5060, 9000] [] (fun a => []) (fun a => [(7, .box [.t (.sc (.int .i64 x1.kind)), .t (.sc (.int .i64 g3)), .t (.sc (.str x1.name)), .t (.sc (.int .i64 x1.n)), .ar 5060, .t (.sc (.int .i64 v1.kind)), .t (.sc (.str v1.name)), .t (.sc (.int .i64 v1.n)), .t (.sl (v1.scopes.map rI)), .t (.sl (v1.kids.map Form.row)), .nl]), (35, .mp a.2.2.1), (5060, .arr (a.2.2.2.map rI) 3 true), (9000, .box [.t (.sc (.int .i64 a.2.1))])]) (fun a => a.1 ≤ fu ∧ m_impl_renumber_j2 a.1 x1 v1 g3 a.2.1 a.2.2.1 a.2.2.2 = some r) ?_ ?_
 refine awp_seq (awp_region ?_)
 refine s_fa yF37_4 ?_
 refine s_ld1 yA22 ?_
 refine s_lenT yU22 ?_
 refine s_mv ?_
 refine k_nil (k_seq (awp_block ?_))
 refine awp_ownB 7 5060 3 [.t (.sc (.int .i64 x1.kind)), .t (.sc (.int .i64 g3)), .t (.sc (.str x1.name)), .t (.sc (.int .i64 x1.n)), .ar 5060, .t (.sc (.int .i64 v1.kind)), .t (.sc (.str v1.name)), .t (.sc (.int .i64 v1.n)), .t (.sl (v1.scopes.map rI)), .t (.sl (v1.kids.map Form.row)), .nl] yI3.choose_spec ?_
 refine awp_frame2 [12, 49, 50, 51, 52, 53, 54, 55, 56, 57, 58, 59, 60, 61, 62, 63, 64, 65, 66, 67, 68, 69, 70, 71] [7, 35, 5060, 9000] [68, 69] [5060] (fun a : Nat × Int × Int × (List Int) × (Int → Option Int) => a.1) (fun a : Nat × Int × Int × (List Int) × (Int → Option Int) => [(49, .t (.sc (.int .i64 a.2.1)))]) (fun a : Nat × Int × Int × (List Int) × (Int → Option Int) => [(7, .box [.t (.sc (.int .i64 x1.kind)), .t (.sc (.int .i64 g3)), .t (.sc (.str x1.name)), .t (.sc (.int .i64 x1.n)), .ar 5060, .t (.sc (.int .i64 v1.kind)), .t (.sc (.str v1.name)), .t (.sc (.int .i64 v1.n)), .t (.sl (v1.scopes.map rI)), .t (.sl (v1.kids.map Form.row)), .nl]), (35, .mp a.2.2.2.2), (5060, .arr (a.2.2.2.1.map rI) 3 true), (9000, .box [.t (.sc (.int .i64 a.2.2.1))])]) (fun a : Nat × Int × Int × (List Int) × (Int → Option Int) => a.1 ≤ fu ∧ m_impl_renumber_l3 a.1 x1 v1 g3 a.2.1 a.2.2.1 a.2.2.2.1 a.2.2.2.2 = some r ∧ 0 ≤ a.2.1) (fu, 0, o1, ([] : List Int), x2) ⟨Nat.le_refl _, hF2, by simp⟩ (by rfl) (by rfl) (fun _ => rfl) (hasF_cons (by conv => lhs; whnf) (by rfl) hasF_nil) (hasO_cons (by conv => lhs; whnf) (by rfl) (hasO_cons (by conv => lhs; whnf) (by rfl) (hasO_cons (by conv => lhs; whnf) (by rfl) (hasO_cons (by conv => lhs; whnf) (by rfl) hasO_nil)))) (fresh_C hC rfl) (by repeat (first | exact freshS_args rfl | refine freshS_upd rfl ?_ | refine freshS_frame rfl ?_)) (by repeat (first | exact freshM_no | exact objs_fresh rfl | refine freshM_upd rfl ?_ | refine freshM_frame rfl ?_)) ?_
 clear hF2
 rintro ⟨fu, g6, g7, g8, g9⟩ ⟨hl10, hF3, hn_g6⟩
 dsimp only at hl10 hF3 hn_g6 ⊢
 obtain _ | fu := fu
 · rw [m_impl_renumber_l3] at hF3; cases hF3
 rw [m_impl_renumber_l3] at hF3
 refine awp_seq (awp_region ?_)
 refine s_lt ?_
 refine k_nil (k_seq (awp_seq ?_))
 refine w_cond hF3 ?_ ?_ <;> intro hc11 hF4
 refine awp_lenT 47 (fun hb12 => ?_)
 refine awp_skip (k_seq (awp_seq (awp_block (awp_seq (awp_region ?_)))))
 obtain ⟨v13, hv13, hF5⟩ := bind_some' hF4
 refine s_ixT rI hv13 rfl yE22 ?_
 refine s_ld1 yA3 ?_
 refine s_as ?_
 refine k_nil (k_seq (awp_seq (awp_region ?_)))
 refine s_mv ?_
 refine s_nc ?_
 refine s_ld1 yA3 ?_
 refine s_add rfl ?_
 refine s_nc ?_
 refine s_stW yS3 ?_
 refine k_nil (k_seq (awp_seq (awp_region ?_)))
 iterate 3 refine s_mv ?_
 refine s_nc ?_
 refine s_ld1 yA3 ?_
 refine s_mupd yM149 ?_
 refine k_nil (k_seq ?_)
 refine awp_draw yMix (by kernel_rfl) ?_
 refine s_fa yF37_4 ?_
 refine s_ld1 yA22 ?_
 refine s_mv0 ?_
 refine s_nc ?_
 refine s_ld1 yA3 ?_
 refine s_bs rI [(w64 (g7 + 1))] yP22 yR3 ?_
 obtain ⟨hk14, hF6⟩ := chk_some hF5
 refine s_apT rI (fun _ => rfl) hk14 yP22 ?_
 refine s_fa yF37_4 ?_
 refine s_stP yS22 ?_
 refine k_nilD (by kernel_rfl) ?_
 refine k_blk (k_seq (awp_region ?_))
 refine s_add (winc2 hc11 hb12 hn_g6) ?_
 refine s_mv ?_
 refine k_nil ?_
 exact s_rn (fu, (g6 + 1), (w64 (g7 + 1)), (g8 ++ [(w64 (g7 + 1))]), (mapSet g9 v13 (w64 (g7 + 1)))) ⟨by first | omega | (dsimp only; omega), hF6, by first | omega | (dsimp only; omega)⟩ [(5060, 69)]
 refine awp_exit (k_seq_exit (k_rnd_exit2 (k_blk_exit ?_)))
 exact s_jn (fu, g7, g9, g8) ⟨by first | omega | (dsimp only; omega), hF4⟩
 clear hF2
 rintro ⟨fu, g15, g16, g17⟩ ⟨hl18, hF3⟩
 dsimp only at hl18 hF3 ⊢
 obtain _ | fu := fu
 · rw [m_impl_renumber_j2] at hF3; cases hF3
 rw [m_impl_renumber_j2] at hF3
 refine awp_seq (awp_seq (awp_region ?_))
 refine s_fa yF37_6 ?_
 refine s_ld1 yA35 ?_
 refine s_lenT yU35 ?_
 refine s_mv ?_
 refine k_nil (k_seq (awp_block ?_))
 refine awp_ownB 7 5080 37 [.t (.sc (.int .i64 x1.kind)), .t (.sc (.int .i64 g3)), .t (.sc (.str x1.name)), .t (.sc (.int .i64 x1.n)), .ar 5060, .t (.sc (.int .i64 v1.kind)), .t (.sc (.str v1.name)), .t (.sc (.int .i64 v1.n)), .t (.sl (v1.scopes.map rI)), .t (.sl (v1.kids.map Form.row)), .ar 5080] yI37.choose_spec ?_
 refine awp_frame2 [14, 75, 76, 77, 78, 79, 80, 81, 82, 83, 84, 85, 86, 87, 88] [7, 5080, 9000] [14, 85, 86] [5080] (fun a : Nat × Int × Int × (List Core) => a.1) (fun a : Nat × Int × Int × (List Core) => [(75, .t (.sc (.int .i64 a.2.1)))]) (fun a : Nat × Int × Int × (List Core) => [(7, .box [.t (.sc (.int .i64 x1.kind)), .t (.sc (.int .i64 g3)), .t (.sc (.str x1.name)), .t (.sc (.int .i64 x1.n)), .ar 5060, .t (.sc (.int .i64 v1.kind)), .t (.sc (.str v1.name)), .t (.sc (.int .i64 v1.n)), .t (.sl (v1.scopes.map rI)), .t (.sl (v1.kids.map Form.row)), .ar 5080]), (5080, .arr (a.2.2.2.map Core.row) 37 true), (9000, .box [.t (.sc (.int .i64 a.2.2.1))])]) (fun a : Nat × Int × Int × (List Core) => a.1 ≤ fu ∧ m_impl_renumber_l4 a.1 x1 v1 g3 g16 g17 a.2.1 a.2.2.1 a.2.2.2 = some r ∧ 0 ≤ a.2.1) (fu, 0, g15, ([] : List Core)) ⟨Nat.le_refl _, hF3, by simp⟩ (by rfl) (by rfl) (fun _ => rfl) (hasF_cons (by conv => lhs; whnf) (by rfl) hasF_nil) (hasO_cons (by conv => lhs; whnf) (by rfl) (hasO_cons (by conv => lhs; whnf) (by rfl) (hasO_cons (by conv => lhs; whnf) (by rfl) hasO_nil))) (fresh_C hC rfl) (by repeat (first | exact freshS_args rfl | refine freshS_upd rfl ?_ | refine freshS_frame rfl ?_)) (by repeat (first | exact freshM_no | exact objs_fresh rfl | refine freshM_upd rfl ?_ | refine freshM_frame rfl ?_)) ?_
 clear hF3
 rintro ⟨fu, g19, g20, g21⟩ ⟨hl22, hF4, hn_g19⟩
 dsimp only at hl22 hF4 hn_g19 ⊢
 obtain _ | fu := fu
 · rw [m_impl_renumber_l4] at hF4; cases hF4
 rw [m_impl_renumber_l4] at hF4
 refine awp_seq (awp_region ?_)
 refine s_lt ?_
 refine k_nil (k_seq (awp_seq ?_))
 refine w_cond hF4 ?_ ?_ <;> intro hc23 hF5
 refine awp_lenT 73 (fun hb24 => ?_)
 refine awp_skip (k_seq (awp_seq (awp_block (awp_seq (awp_region ?_)))))
 obtain ⟨v25, hv25, hF6⟩ := bind_some' hF5
 refine s_ixT Core.row hv25 (Core.row_eq _) yE35 ?_
 refine s_ldN yA37 yS37 ?_
 refine s_alloc yZ37 ?_
 refine s_stW yS37 ?_
 refine k_nil (k_seq ?_)
 refine awp_draw yMix (by kernel_rfl) ?_
 refine s_fa yF37_6 ?_
 refine s_ld1 yA35 ?_
 refine s_ldW yA37 yS37 ?_
 refine s_mv0 ?_
 refine s_mv0 ?_
 obtain ⟨v26, hv26, hF7⟩ := bind_some' hF6
 refine s_call [(9301, 35), (9000, 9000)] [] _ _ (ih_m_impl_renumber fu (by omega) _ _ _ _ hv26) ?_
 refine s_bs Core.row [v26.1] yP35 yR37 ?_
 obtain ⟨hk27, hF8⟩ := chk_some hF7
 refine s_apT Core.row (fun y => Core.row_len y) hk27 yP35 ?_
 refine s_fa yF37_6 ?_
 refine s_stP yS35 ?_
 refine k_nilD (by kernel_rfl) ?_
 refine k_blk (k_seq (awp_region ?_))
 refine s_add (winc2 hc23 hb24 hn_g19) ?_
 refine s_mv ?_
 refine k_nil ?_
 exact s_rn (fu, (g19 + 1), v26.2, (g21 ++ [v26.1])) ⟨by first | omega | (dsimp only; omega), hF8, by first | omega | (dsimp only; omega)⟩ [(5080, 86)]
 refine awp_exit (k_seq_exit (k_rnd_exit2 (k_blk_exit (k_seq (awp_seq (awp_region ?_))))))
 refine s_ldW yA37 yS37 ?_
 refine s_stW yS37 ?_
 refine k_nil (k_seq (awp_ret (k_fin ?_)))
 cases hF5
 exact ends_gen _ [5060, 5080] (by rw [Try.results100]; exact (res_agg (by conv => lhs; whnf) (by conv => lhs; whnf) yA37 yS37 rfl res_nil))
end Go.Abs
