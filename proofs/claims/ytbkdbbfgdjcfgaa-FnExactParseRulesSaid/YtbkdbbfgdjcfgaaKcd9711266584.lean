/- A part of the proof: what the functions that the law calls answer, as pure values. -/
import Derived.Test.YtbkdbbfgdjcfgaaK0b7d7560d506
import Derived.Test.YtbkdbbfgdjcfgaaK32ad23bb004e
import Derived.Test.YtbkdbbfgdjcfgaaK3f310fa5878f
import Derived.Test.YtbkdbbfgdjcfgaaK40cc0bb93f32
import Derived.Test.YtbkdbbfgdjcfgaaK61500c1b4fa0
import Derived.Test.YtbkdbbfgdjcfgaaK699ce2a2ded9
import Derived.Test.YtbkdbbfgdjcfgaaK737adf4b85c3
import Derived.Test.YtbkdbbfgdjcfgaaKa51fa71ca298
import Derived.Test.YtbkdbbfgdjcfgaaKcda3492cd79b
import Derived.Test.YtbkdbbfgdjcfgaaKd09531658691
set_option linter.unusedSimpArgs false
set_option linter.unusedVariables false
set_option maxRecDepth 100000
set_option maxHeartbeats 4000000
namespace Go.Abs
open Go.Proofs
def m_impl_ParseRules_AC (fuel : Nat) : Prop := ∀ (x1 : Form) (r : ((List Form) × (List Rule) × Bool)), m_impl_ParseRules fuel x1 = some r → AC Try.prog 57 [.ag [.t (.sc (.int .i64 x1.kind)), .t (.sc (.str x1.name)), .t (.sc (.int .i64 x1.n)), .t (.sl (x1.scopes.map rI)), .t (.sl (x1.kids.map Form.row))]] noOb (.tp [.t (.sl (r.1.map Form.row)), .t (.sl (r.2.1.map Rule.row)), .t (.sc (.bool r.2.2))]) noOb
theorem m_impl_ParseRules_ok (fuel : Nat) : m_impl_ParseRules_AC fuel := by
 intro x1 r hF0
 unfold m_impl_ParseRules at hF0
 refine AC_i [.t (.sl (r.1.map Form.row)), .t (.sl (r.2.1.map Rule.row)), .t (.sc (.bool r.2.2))] Try.func57 rfl Try.ntmps57 ?_
 intro C hC
 refine awp_seq (awp_region ?_)
 refine s_box ?_
 iterate 3 refine s_as ?_
 refine k_nil (k_seq (awp_seq ?_))
 refine awp_jn (α := Nat × Bool) [11, 12, 13, 14, 15, 16, 17, 18, 19, 20, 21, 22, 23, 24, 25, 26, 27, 28, 29, 30, 31, 32, 33, 34, 35, 36, 37, 38, 39, 40] [] [] (fun a => [(40, .t (.sc (.bool a.2)))]) (fun a => []) (fun a => a.1 ≤ fuel ∧ m_impl_ParseRules_j1 a.1 x1 a.2 = some r) ?_ ?_
 refine awp_region ?_
 refine s_ldW yA34 yS34 ?_
 obtain ⟨v1, hv1, hF1⟩ := bind_some' hF0
 refine s_pure [] (m_impl_FormValid_ok fuel _ _ hv1) ?_
 refine s_not ?_
 refine s_mv ?_
 refine w_guard _ 14 hF1 ?_ ?_ <;> intro hc2 hF2
 iterate 3 refine r_no rfl ?_
 refine s_pkt ?_
 refine s_mv ?_
 iterate 4 refine r_no rfl ?_
 refine s_pkt ?_
 refine s_mv ?_
 iterate 6 refine r_no rfl ?_
 refine s_pkt ?_
 refine s_mv ?_
 iterate 6 refine r_no rfl ?_
 refine s_pkt ?_
 refine k_nil ?_
 exact s_jn (fuel, true) ⟨by first | omega | (dsimp only; omega), hF2⟩
 refine s_fa yF34_0 ?_
 refine s_ld1 yA3 ?_
 refine s_ne ?_
 refine s_pkf ?_
 refine s_mv ?_
 refine w_guard _ 19 hF2 ?_ ?_ <;> intro hc3 hF3
 iterate 4 refine r_no rfl ?_
 refine s_pkt ?_
 refine s_mv ?_
 iterate 6 refine r_no rfl ?_
 refine s_pkt ?_
 refine s_mv ?_
 iterate 6 refine r_no rfl ?_
 refine s_pkt ?_
 refine k_nil ?_
 exact s_jn (fuel, true) ⟨by first | omega | (dsimp only; omega), hF3⟩
 refine s_fa yF34_4 ?_
 refine s_ld1 yA32 ?_
 refine s_lenT yU32 ?_
 refine s_lt ?_
 refine s_pkf ?_
 refine s_mv ?_
 refine w_guard _ 25 hF3 ?_ ?_ <;> intro hc4 hF4
 iterate 6 refine r_no rfl ?_
 refine s_pkt ?_
 refine s_mv ?_
 iterate 6 refine r_no rfl ?_
 refine s_pkt ?_
 refine k_nil ?_
 exact s_jn (fuel, true) ⟨by first | omega | (dsimp only; omega), hF4⟩
 refine s_fa yF34_4 ?_
 refine s_ld1 yA32 ?_
 obtain ⟨v5, hv5, hF5⟩ := bind_some' hF4
 refine s_ixT Form.row hv5 (Form.row_eq _) yE32 ?_
 refine s_ldN yA34 yS34 ?_
 obtain ⟨v6, hv6, hF6⟩ := bind_some' hF5
 refine s_pure [] (m_impl_named_ok fuel _ _ _ hv6) ?_
 refine s_not ?_
 refine s_pkf ?_
 refine s_mv ?_
 refine w_guard _ 33 hF6 ?_ ?_ <;> intro hc7 hF7
 iterate 6 refine r_no rfl ?_
 refine s_pkt ?_
 refine k_nil ?_
 exact s_jn (fuel, true) ⟨by first | omega | (dsimp only; omega), hF7⟩
 refine s_fa yF34_4 ?_
 refine s_ld1 yA32 ?_
 obtain ⟨v8, hv8, hF8⟩ := bind_some' hF7
 refine s_ixT Form.row hv8 (Form.row_eq _) yE32 ?_
 refine s_fa yF34_0 ?_
 refine s_ld1 yA3 ?_
 refine s_ne ?_
 refine s_pkf ?_
 refine k_nil ?_
 exact s_jn (fuel, (decide (v8.kind ≠ 3))) ⟨by first | omega | (dsimp only; omega), hF8⟩
 clear hF0
 rintro ⟨fu, g9⟩ ⟨hl10, hF1⟩
 dsimp only at hl10 hF1 ⊢
 obtain _ | fu := fu
 · rw [m_impl_ParseRules_j1] at hF1; cases hF1
 rw [m_impl_ParseRules_j1] at hF1
 refine w_cond hF1 ?_ ?_ <;> intro hc11 hF2
 refine awp_seq (awp_region ?_)
 iterate 3 refine s_as ?_
 refine k_nil (k_seq (awp_ret (k_seq_ret (k_fin ?_))))
 cases hF2
 exact ends_a [] [] Try.results57
 refine awp_skip (k_seq (awp_seq (awp_region ?_)))
 refine s_bs Form.row ([] : List Form) yP32 yR34 ?_
 refine s_bs Rule.row ([] : List Rule) yP48 yR105 ?_
 refine s_as ?_
 refine s_as ?_
 refine k_nil (k_seq ?_)
 refine awp_jn (α := Nat × (List Form)) [5, 8, 43, 44, 45, 46, 47, 48, 49, 50, 51, 52, 53, 54, 55, 56, 57, 58] [41, 5060] [] (fun a => [(5, .ar 5060)]) (fun a => [(41, .dead), (5060, .arr (a.2.map Form.row) 34 true)]) (fun a => a.1 ≤ fu ∧ m_impl_ParseRules_j2 a.1 x1 a.2 = some r) ?_ ?_
 refine awp_seq (awp_region ?_)
 refine s_fa yF34_4 ?_
 refine s_ld1 yA32 ?_
 obtain ⟨v12, hv12, hF3⟩ := bind_some' hF2
 refine s_ixT Form.row hv12 (Form.row_eq _) yE32 ?_
 refine s_fa yF34_4 ?_
 refine s_ld1 yA32 ?_
 refine s_lenT yU32 ?_
 refine s_mv ?_
 refine k_nil (k_seq (awp_block ?_))
 refine awp_mv 5 41 5060 (by conv => lhs; whnf) (by conv => lhs; whnf) rfl ?_
 refine awp_frame2 [5, 8, 49, 50, 51, 52, 53, 54, 55, 56, 57, 58] [5060] [8, 56, 57] [5060] (fun a : Nat × (List Form) × Int => a.1) (fun a : Nat × (List Form) × Int => [(5, .ar 5060), (49, .t (.sc (.int .i64 a.2.2)))]) (fun a : Nat × (List Form) × Int => [(5060, .arr (a.2.1.map Form.row) 34 true)]) (fun a : Nat × (List Form) × Int => a.1 ≤ fu ∧ m_impl_ParseRules_l3 a.1 x1 v12 a.2.1 a.2.2 = some r ∧ 0 ≤ a.2.2) (fu, ([] : List Form), 0) ⟨Nat.le_refl _, hF3, by simp⟩ (by rfl) (by rfl) (fun _ => rfl) (hasF_cons (by conv => lhs; whnf) (by rfl) (hasF_cons (by conv => lhs; whnf) (by rfl) hasF_nil)) (hasO_cons (by conv => lhs; whnf) (by rfl) hasO_nil) (fresh_C hC rfl) (by repeat (first | exact freshS_args rfl | refine freshS_upd rfl ?_ | refine freshS_frame rfl ?_)) (by repeat (first | exact freshM_no | exact objs_fresh rfl | refine freshM_upd rfl ?_ | refine freshM_frame rfl ?_)) ?_
 clear hF3
 rintro ⟨fu, g13, g14⟩ ⟨hl15, hF4, hn_g14⟩
 dsimp only at hl15 hF4 hn_g14 ⊢
 obtain _ | fu := fu
 · rw [m_impl_ParseRules_l3] at hF4; cases hF4
 rw [m_impl_ParseRules_l3] at hF4
 refine awp_seq (awp_region ?_)
 refine s_lt ?_
 refine k_nil (k_seq (awp_seq ?_))
 refine w_cond hF4 ?_ ?_ <;> intro hc16 hF5
 refine awp_lenT 47 (fun hb17 => ?_)
 refine awp_skip (k_seq (awp_seq (awp_block (awp_seq (awp_region ?_)))))
 obtain ⟨v18, hv18, hF6⟩ := bind_some' hF5
 refine s_ixT Form.row hv18 (Form.row_eq _) yE32 ?_
 refine s_ldN yA34 yS34 ?_
 refine s_alloc yZ34 ?_
 refine s_stW yS34 ?_
 refine k_nil (k_seq (awp_region ?_))
 refine s_mv ?_
 refine s_ldW yA34 yS34 ?_
 obtain ⟨v19, hv19, hF7⟩ := bind_some' hF6
 refine s_pure [] (m_impl_copyForm_ok fu _ _ hv19) ?_
 refine s_bs Form.row [v19] yP32 yR34 ?_
 obtain ⟨hk20, hF8⟩ := chk_some hF7
 refine s_apT Form.row (fun y => Form.row_len y) hk20 yP32 ?_
 refine s_as ?_
 refine k_nil (k_blk (k_seq (awp_region ?_)))
 refine s_add (winc2 hc16 hb17 hn_g14) ?_
 refine s_mv ?_
 refine k_nil ?_
 exact s_rn (fu, (g13 ++ [v19]), (g14 + 1)) ⟨by first | omega | (dsimp only; omega), hF8, by first | omega | (dsimp only; omega)⟩ [(5060, 57)]
 refine awp_exit (k_seq_exit (k_rnd_exit2 (k_blk_exit ?_)))
 exact s_jn (fu, g13) ⟨by first | omega | (dsimp only; omega), hF5⟩
 clear hF2
 rintro ⟨fu, g21⟩ ⟨hl22, hF3⟩
 dsimp only at hl22 hF3 ⊢
 obtain _ | fu := fu
 · rw [m_impl_ParseRules_j2] at hF3; cases hF3
 rw [m_impl_ParseRules_j2] at hF3
 refine awp_jn (α := Nat × (List Rule)) [2, 3, 4, 6, 10, 59, 60, 61, 62, 63, 64, 65, 66, 67, 68, 69, 70, 71, 72, 73, 74, 75, 76, 77, 78, 79, 80, 81, 82, 83, 84, 85, 86, 87, 88, 89, 90] [42, 5100] [] (fun a => [(6, .ar 5100)]) (fun a => [(42, .dead), (5100, .arr (a.2.map Rule.row) 105 true)]) (fun a => a.1 ≤ fu ∧ m_impl_ParseRules_j4 a.1 g21 a.2 = some r) ?_ ?_
 refine awp_seq (awp_region ?_)
 refine s_fa yF34_4 ?_
 refine s_ld1 yA32 ?_
 obtain ⟨v23, hv23, hF4⟩ := bind_some' hF3
 refine s_sl10 Form.row (fun y => Form.row_len y) hv23 yU32 yE32 ?_
 refine s_lenT yU32 ?_
 refine s_mv ?_
 refine k_nil (k_seq (awp_block ?_))
 refine awp_mv 6 42 5100 (by conv => lhs; whnf) (by conv => lhs; whnf) rfl ?_
 refine awp_frame2 [2, 3, 4, 6, 10, 63, 64, 65, 66, 67, 68, 69, 70, 71, 72, 73, 74, 75, 76, 77, 78, 79, 80, 81, 82, 83, 84, 85, 86, 87, 88, 89, 90] [5100] [10, 88, 89] [5100] (fun a : Nat × (List Rule) × Int => a.1) (fun a : Nat × (List Rule) × Int => [(6, .ar 5100), (63, .t (.sc (.int .i64 a.2.2)))]) (fun a : Nat × (List Rule) × Int => [(5100, .arr (a.2.1.map Rule.row) 105 true)]) (fun a : Nat × (List Rule) × Int => a.1 ≤ fu ∧ m_impl_ParseRules_l5 a.1 g21 v23 a.2.1 a.2.2 = some r ∧ 0 ≤ a.2.2) (fu, ([] : List Rule), 0) ⟨Nat.le_refl _, hF4, by simp⟩ (by rfl) (by rfl) (fun _ => rfl) (hasF_cons (by conv => lhs; whnf) (by rfl) (hasF_cons (by conv => lhs; whnf) (by rfl) hasF_nil)) (hasO_cons (by conv => lhs; whnf) (by rfl) hasO_nil) (fresh_C hC rfl) (by repeat (first | exact freshS_args rfl | refine freshS_upd rfl ?_ | refine freshS_frame rfl ?_)) (by repeat (first | exact freshM_no | exact objs_fresh rfl | refine freshM_upd rfl ?_ | refine freshM_frame rfl ?_)) ?_
 clear hF4
 rintro ⟨fu, g24, g25⟩ ⟨hl26, hF5, hn_g25⟩
 dsimp only at hl26 hF5 hn_g25 ⊢
 obtain _ | fu := fu
 · rw [m_impl_ParseRules_l5] at hF5; cases hF5
 rw [m_impl_ParseRules_l5] at hF5
 refine awp_seq (awp_region ?_)
 refine s_lt ?_
 refine k_nil (k_seq (awp_seq ?_))
 refine w_cond hF5 ?_ ?_ <;> intro hc27 hF6
 refine awp_lenT 61 (fun hb28 => ?_)
 refine awp_skip (k_seq (awp_seq (awp_block (awp_seq (awp_region ?_)))))
 obtain ⟨v29, hv29, hF7⟩ := bind_some' hF6
 refine s_ixT Form.row hv29 (Form.row_eq _) yE32 ?_
 refine s_ldN yA34 yS34 ?_
 refine s_alloc yZ34 ?_
 refine s_stW yS34 ?_
 refine k_nil (k_seq (awp_seq ?_))
 refine awp_jn (α := Nat × Bool) [67, 68, 69, 70, 71, 72, 73, 74, 75] [] [] (fun a => [(75, .t (.sc (.bool a.2)))]) (fun a => []) (fun a => a.1 ≤ fu ∧ m_impl_ParseRules_j6 a.1 g21 v23 g24 g25 v29 a.2 = some r) ?_ ?_
 refine awp_region ?_
 refine s_fa yF34_0 ?_
 refine s_ld1 yA3 ?_
 refine s_ne ?_
 refine s_mv ?_
 refine w_guard _ 70 hF7 ?_ ?_ <;> intro hc30 hF8
 iterate 4 refine r_no rfl ?_
 refine s_pkt ?_
 refine k_nil ?_
 exact s_jn (fu, true) ⟨by first | omega | (dsimp only; omega), hF8⟩
 refine s_fa yF34_4 ?_
 refine s_ld1 yA32 ?_
 refine s_lenT yU32 ?_
 refine s_ne ?_
 refine s_pkf ?_
 refine k_nil ?_
 exact s_jn (fu, (decide ((v29.kids.length : Int) ≠ 2))) ⟨by first | omega | (dsimp only; omega), hF8⟩
 clear hF7
 rintro ⟨fu, g31⟩ ⟨hl32, hF8⟩
 dsimp only at hl32 hF8 ⊢
 obtain _ | fu := fu
 · rw [m_impl_ParseRules_j6] at hF8; cases hF8
 rw [m_impl_ParseRules_j6] at hF8
 refine w_cond hF8 ?_ ?_ <;> intro hc33 hF9
 refine awp_seq (awp_region ?_)
 iterate 3 refine s_as ?_
 refine k_nil (k_seq (awp_ret (k_seq_ret (k_blk_ret (k_seq_ret (k_rnd_ret2 (k_blk_ret (k_jn_ret (k_fin ?_)))))))))
 cases hF9
 exact ends_a [] [] Try.results57
 refine awp_skip (k_seq ?_)
 refine awp_draw yMix (by kernel_rfl) ?_
 refine s_mv0 ?_
 refine s_fa yF34_4 ?_
 refine s_ld1 yA32 ?_
 obtain ⟨v34, hv34, hF10⟩ := bind_some' hF9
 refine s_ixT Form.row hv34 (Form.row_eq _) yE32 ?_
 refine s_ldN yA34 yS34 ?_
 obtain ⟨v35, hv35, hF11⟩ := bind_some' hF10
 refine s_pure [] (m_impl_copyForm_ok fu _ _ hv35) ?_
 refine s_fa yF34_4 ?_
 refine s_ld1 yA32 ?_
 obtain ⟨v36, hv36, hF12⟩ := bind_some' hF11
 refine s_ixT Form.row hv36 (Form.row_eq _) yE32 ?_
 refine s_ldN yA34 yS34 ?_
 obtain ⟨v37, hv37, hF13⟩ := bind_some' hF12
 refine s_pure [] (m_impl_copyForm_ok fu _ _ hv37) ?_
 refine s_bld yZ105 yL105 ?_
 refine s_bs Rule.row [(Rule.mk v35 v37)] yP48 yR105 ?_
 obtain ⟨hk38, hF14⟩ := chk_some hF13
 refine s_apT Rule.row (fun y => Rule.row_len y) hk38 yP48 ?_
 refine s_as ?_
 refine k_nilD (by kernel_rfl) ?_
 refine k_blk (k_seq (awp_region ?_))
 refine s_add (winc2 hc27 hb28 hn_g25) ?_
 refine s_mv ?_
 refine k_nil ?_
 exact s_rn (fu, (g24 ++ [(Rule.mk v35 v37)]), (g25 + 1)) ⟨by first | omega | (dsimp only; omega), hF14, by first | omega | (dsimp only; omega)⟩ [(5100, 89)]
 refine awp_exit (k_seq_exit (k_rnd_exit2 (k_blk_exit ?_)))
 exact s_jn (fu, g24) ⟨by first | omega | (dsimp only; omega), hF6⟩
 clear hF3
 rintro ⟨fu, g39⟩ ⟨hl40, hF4⟩
 dsimp only at hl40 hF4 ⊢
 obtain _ | fu := fu
 · rw [m_impl_ParseRules_j4] at hF4; cases hF4
 rw [m_impl_ParseRules_j4] at hF4
 refine awp_seq (awp_seq (awp_region ?_))
 refine s_mv ?_
 refine s_mv ?_
 obtain ⟨v41, hv41, hF5⟩ := bind_some' hF4
 refine s_pure [5100, 5060] (m_impl_rulesOk_ok fu _ _ _ hv41) ?_
 refine s_not ?_
 refine k_nil (k_seq ?_)
 refine w_cond hF5 ?_ ?_ <;> intro hc42 hF6
 refine awp_seq (awp_region ?_)
 iterate 3 refine s_as ?_
 refine k_nil (k_seq (awp_ret (k_seq_ret (k_fin ?_))))
 cases hF6
 exact ends_a [] [] Try.results57
 refine awp_skip (k_seq (awp_seq (awp_region ?_)))
 refine s_mv ?_
 refine s_mv ?_
 iterate 3 refine s_as ?_
 refine k_nil (k_seq (awp_ret (k_fin ?_)))
 cases hF6
 exact ends_a [] [5060, 5100] Try.results57
def m_laws_FnExactParseRules_AC (fuel : Nat) : Prop := ∀ (x1 : Form) (r : Bool), m_laws_FnExactParseRules fuel x1 = some r → AC Try.prog 9 [.ag [.t (.sc (.int .i64 x1.kind)), .t (.sc (.str x1.name)), .t (.sc (.int .i64 x1.n)), .t (.sl (x1.scopes.map rI)), .t (.sl (x1.kids.map Form.row))]] noOb (.t (.sc (.bool r))) noOb
theorem m_laws_FnExactParseRules_ok (fuel : Nat) : m_laws_FnExactParseRules_AC fuel := by
 intro x1 r hF0
 unfold m_laws_FnExactParseRules at hF0
 refine AC_i [.t (.sc (.bool r))] Try.func9 rfl Try.ntmps9 ?_
 intro C hC
 refine awp_seq (awp_region ?_)
 refine s_box ?_
 refine s_as ?_
 refine k_nil (k_seq (awp_seq (awp_region ?_)))
 refine s_as ?_
 refine k_nil (k_seq (awp_seq (awp_region ?_)))
 refine s_ldW yA25 yS25 ?_
 refine s_mv ?_
 obtain ⟨v1, hv1, hF1⟩ := bind_some' hF0
 refine s_pure [] (m_laws_szForm_ok fuel _ _ _ hv1) ?_
 refine s_as ?_
 refine k_nil (k_seq (awp_seq (awp_seq (awp_region ?_))))
 refine s_mv ?_
 refine s_lt ?_
 refine k_nil (k_seq ?_)
 refine w_cond hF1 ?_ ?_ <;> intro hc2 hF2
 refine awp_seq (awp_region ?_)
 refine s_as ?_
 refine k_nil (k_seq (awp_ret (k_seq_ret (k_fin ?_))))
 cases hF2
 exact ends_a [] [] Try.results9
 refine awp_skip (k_seq (awp_seq (awp_region ?_)))
 refine s_ldW yA25 yS25 ?_
 obtain ⟨v3, hv3, hF3⟩ := bind_some' hF2
 refine s_pure [] (m_laws_toForm_ok fuel _ _ hv3) ?_
 obtain ⟨v4, hv4, hF4⟩ := bind_some' hF3
 refine s_pure [] (m_spec_ParseRules_ok fuel _ _ hv4) ?_
 refine s_mv ?_
 iterate 3 refine s_ext ?_
 iterate 3 refine s_as ?_
 refine k_nil (k_seq (awp_seq (awp_region ?_)))
 refine s_ldW yA25 yS25 ?_
 obtain ⟨v5, hv5, hF5⟩ := bind_some' hF4
 refine s_call [(9203, 2030), (9204, 12030)] [] _ _ (m_laws_toForm_D_ok fuel _ _ hv5) ?_
 refine s_alloc yZ34 ?_
 refine s_stW yS34 ?_
 refine k_nil (k_seq (awp_seq (awp_region ?_)))
 refine s_ldW yA34 yS34 ?_
 obtain ⟨v6, hv6, hF6⟩ := bind_some' hF5
 refine s_call [(9700, 2030), (9701, 12030), (9200, 2033), (9300, 12033)] [] [(9700, .arr (v5.scopes.map rI) 3 true), (9701, .dar (v5.kids.map (Form.rowD 3 34)) 34)] [(9700, .arr (v5.scopes.map rI) 3 true), (9701, .dar (v5.kids.map (Form.rowD 3 34)) 34), (9200, .dar (v6.1.map (Form.rowD 3 34)) 34), (9300, .dar (v6.2.1.map (Rule.rowD 3 34)) 105)] (ac_lend (args := [.ag [.t (.sc (.int .i64 v5.kind)), .t (.sc (.str v5.name)), .t (.sc (.int .i64 v5.n)), .ar 9700, .ar 9701]]) [(9700, .arr (v5.scopes.map rI) 3 true), (9701, .dar (v5.kids.map (Form.rowD 3 34)) 34)] [(9200, .dar (v6.1.map (Form.rowD 3 34)) 34), (9300, .dar (v6.2.1.map (Rule.rowD 3 34)) 105)] (m_impl_ParseRules_D_ok fuel _ _ hv6) rfl (by simp only [V.lendL, V.lend, objs_cons, objs_nil, Nat.reduceEqDiff, reduceIte, if_true, if_false, Form.lendM, Core.lendM, Hit.lendM, Rule.lendM, Bind.lendM, Macro.lendM]; try rfl) (by rfl) (by rfl) (by rfl) (by rfl) (by simp only [List.all_cons, List.all_nil, Ob.flat, flat_rI, flat_rS, Form.flatM, Core.flatM, Hit.flatM, Rule.flatM, Bind.flatM, Macro.flatM, Bool.and_self, Bool.true_and]) (by rfl)) ?_
 refine s_mv ?_
 iterate 3 refine s_ext ?_
 iterate 3 refine s_as ?_
 refine k_nil (k_seq (awp_seq ?_))
 refine awp_jn (α := Nat × Bool) [37, 38, 39, 40, 41, 42, 43, 44, 45, 46, 47, 48, 49, 50, 51] [] [] (fun a => [(51, .t (.sc (.bool a.2)))]) (fun a => []) (fun a => a.1 ≤ fuel ∧ m_laws_FnExactParseRules_j1 a.1 x1 v4 v5 v6 a.2 = some r) ?_ ?_
 refine awp_region ?_
 refine s_mv ?_
 refine s_mv ?_
 obtain ⟨v7, hv7, hF7⟩ := bind_some' hF6
 refine s_call [(9700, 2033)] [] [(9700, .dar (v6.1.map (Form.rowD 3 34)) 34)] [(9700, .dar (v6.1.map (Form.rowD 3 34)) 34)] (ac_lend (args := [.ar 9700, .t (.sl (v4.1.map Form.row))]) [(9700, .dar (v6.1.map (Form.rowD 3 34)) 34)] [] (m_laws_eqFormS_ok fuel _ _ _ hv7) rfl (by simp only [V.lendL, V.lend, objs_cons, objs_nil, Nat.reduceEqDiff, reduceIte, if_true, if_false, Form.lendM, Core.lendM, Hit.lendM, Rule.lendM, Bind.lendM, Macro.lendM]; try rfl) (by rfl) (by rfl) (by rfl) (by rfl) (by simp only [List.all_cons, List.all_nil, Ob.flat, flat_rI, flat_rS, Form.flatM, Core.flatM, Hit.flatM, Rule.flatM, Bind.flatM, Macro.flatM, Bool.and_self, Bool.true_and]) (by rfl)) ?_
 refine s_not ?_
 refine s_mv ?_
 refine w_guard _ 41 hF7 ?_ ?_ <;> intro hc8 hF8
 iterate 4 refine r_no rfl ?_
 refine s_pkt ?_
 refine s_mv ?_
 iterate 3 refine r_no rfl ?_
 refine s_pkt ?_
 refine k_nil ?_
 exact s_jn (fuel, true) ⟨by first | omega | (dsimp only; omega), hF8⟩
 refine s_mv ?_
 refine s_mv ?_
 obtain ⟨v9, hv9, hF9⟩ := bind_some' hF8
 refine s_call [(9700, 12033)] [] [(9700, .dar (v6.2.1.map (Rule.rowD 3 34)) 105)] [(9700, .dar (v6.2.1.map (Rule.rowD 3 34)) 105)] (ac_lend (args := [.ar 9700, .t (.sl (v4.2.1.map Rule.row))]) [(9700, .dar (v6.2.1.map (Rule.rowD 3 34)) 105)] [] (m_laws_eqRuleS_ok fuel _ _ _ hv9) rfl (by simp only [V.lendL, V.lend, objs_cons, objs_nil, Nat.reduceEqDiff, reduceIte, if_true, if_false, Form.lendM, Core.lendM, Hit.lendM, Rule.lendM, Bind.lendM, Macro.lendM]; try rfl) (by rfl) (by rfl) (by rfl) (by rfl) (by simp only [List.all_cons, List.all_nil, Ob.flat, flat_rI, flat_rS, Form.flatM, Core.flatM, Hit.flatM, Rule.flatM, Bind.flatM, Macro.flatM, Bool.and_self, Bool.true_and]) (by rfl)) ?_
 refine s_not ?_
 refine s_pkf ?_
 refine s_mv ?_
 refine w_guard _ 47 hF9 ?_ ?_ <;> intro hc10 hF10
 iterate 3 refine r_no rfl ?_
 refine s_pkt ?_
 refine k_nil ?_
 exact s_jn (fuel, true) ⟨by first | omega | (dsimp only; omega), hF10⟩
 refine s_mv ?_
 refine s_mv ?_
 refine s_neB yU4 ?_
 refine s_pkf ?_
 refine k_nil ?_
 exact s_jn (fuel, (decide (v6.2.2 ≠ v4.2.2))) ⟨by first | omega | (dsimp only; omega), hF10⟩
 clear hF6
 rintro ⟨fu, g11⟩ ⟨hl12, hF7⟩
 dsimp only at hl12 hF7 ⊢
 obtain _ | fu := fu
 · rw [m_laws_FnExactParseRules_j1] at hF7; cases hF7
 rw [m_laws_FnExactParseRules_j1] at hF7
 refine w_cond hF7 ?_ ?_ <;> intro hc13 hF8
 refine awp_seq (awp_region ?_)
 refine s_as ?_
 refine k_nil (k_seq (awp_ret (k_seq_ret (k_fin ?_))))
 cases hF8
 exact ends_a [] [] Try.results9
 refine awp_skip (k_seq (awp_seq (awp_seq ?_)))
 refine awp_draw yMix (by kernel_rfl) ?_
 refine s_ldW yA34 yS34 ?_
 refine s_ldW yA25 yS25 ?_
 obtain ⟨v14, hv14, hF9⟩ := bind_some' hF8
 refine s_pure [] (m_laws_toForm_ok fu _ _ hv14) ?_
 obtain ⟨v15, hv15, hF10⟩ := bind_some' hF9
 refine s_call [(9700, 2030), (9701, 12030)] [] [(9700, .arr (v5.scopes.map rI) 3 true), (9701, .dar (v5.kids.map (Form.rowD 3 34)) 34)] [(9700, .arr (v5.scopes.map rI) 3 true), (9701, .dar (v5.kids.map (Form.rowD 3 34)) 34)] (ac_lend (args := [.ag [.t (.sc (.int .i64 v5.kind)), .t (.sc (.str v5.name)), .t (.sc (.int .i64 v5.n)), .ar 9700, .ar 9701], .ag [.t (.sc (.int .i64 v14.kind)), .t (.sc (.str v14.name)), .t (.sc (.int .i64 v14.n)), .t (.sl (v14.scopes.map rI)), .t (.sl (v14.kids.map Form.row))]]) [(9700, .arr (v5.scopes.map rI) 3 true), (9701, .dar (v5.kids.map (Form.rowD 3 34)) 34)] [] (m_laws_eqForm_ok fu _ _ _ hv15) rfl (by simp only [V.lendL, V.lend, objs_cons, objs_nil, Nat.reduceEqDiff, reduceIte, if_true, if_false, Form.lendM, Core.lendM, Hit.lendM, Rule.lendM, Bind.lendM, Macro.lendM]; try rfl) (by rfl) (by rfl) (by rfl) (by rfl) (by simp only [List.all_cons, List.all_nil, Ob.flat, flat_rI, flat_rS, Form.flatM, Core.flatM, Hit.flatM, Rule.flatM, Bind.flatM, Macro.flatM, Bool.and_self, Bool.true_and]) (by rfl)) ?_
 refine s_not ?_
 refine k_nilD (by kernel_rfl) ?_
 refine k_seq ?_
 refine w_cond hF10 ?_ ?_ <;> intro hc16 hF11
 refine awp_seq (awp_region ?_)
 refine s_as ?_
 refine k_nil (k_seq (awp_ret (k_seq_ret (k_fin ?_))))
 cases hF11
 exact ends_a [] [] Try.results9
 refine awp_skip (k_seq (awp_seq (awp_region ?_)))
 refine s_as ?_
 refine k_nil (k_seq (awp_seq (awp_region ?_)))
 refine s_ldW yA34 yS34 ?_
 refine s_mv ?_
 obtain ⟨v17, hv17, hF12⟩ := bind_some' hF11
 refine s_call [(9303, 2030), (9304, 12030)] [] _ _ (m_laws_markForm_D_ok fu _ _ _ hv17) ?_
 refine s_as ?_
 refine k_nil (k_seq (awp_seq ?_))
 refine awp_jn (α := Nat × Bool) [60, 61, 62, 63, 64, 65, 66, 67, 68, 69, 70, 71, 72, 73, 74, 75, 76, 77, 78] [] [] (fun a => [(78, .t (.sc (.bool a.2)))]) (fun a => []) (fun a => a.1 ≤ fu ∧ m_laws_FnExactParseRules_j2 a.1 x1 v4 v6 a.2 = some r) ?_ ?_
 refine awp_region ?_
 refine s_mv ?_
 refine s_lt ?_
 refine s_mv ?_
 refine w_guard _ 62 hF12 ?_ ?_ <;> intro hc18 hF13
 iterate 4 refine r_no rfl ?_
 refine s_pkt ?_
 refine s_mv ?_
 iterate 4 refine r_no rfl ?_
 refine s_pkt ?_
 refine s_mv ?_
 iterate 3 refine r_no rfl ?_
 refine s_pkt ?_
 refine k_nil ?_
 exact s_jn (fu, true) ⟨by first | omega | (dsimp only; omega), hF13⟩
 refine s_mv ?_
 refine s_mv ?_
 obtain ⟨v19, hv19, hF14⟩ := bind_some' hF13
 refine s_call [(9700, 2033)] [] [(9700, .dar (v6.1.map (Form.rowD 3 34)) 34)] [(9700, .dar (v6.1.map (Form.rowD 3 34)) 34)] (ac_lend (args := [.ar 9700, .t (.sl (v4.1.map Form.row))]) [(9700, .dar (v6.1.map (Form.rowD 3 34)) 34)] [] (m_laws_eqFormS_ok fu _ _ _ hv19) rfl (by simp only [V.lendL, V.lend, objs_cons, objs_nil, Nat.reduceEqDiff, reduceIte, if_true, if_false, Form.lendM, Core.lendM, Hit.lendM, Rule.lendM, Bind.lendM, Macro.lendM]; try rfl) (by rfl) (by rfl) (by rfl) (by rfl) (by simp only [List.all_cons, List.all_nil, Ob.flat, flat_rI, flat_rS, Form.flatM, Core.flatM, Hit.flatM, Rule.flatM, Bind.flatM, Macro.flatM, Bool.and_self, Bool.true_and]) (by rfl)) ?_
 refine s_not ?_
 refine s_pkf ?_
 refine s_mv ?_
 refine w_guard _ 68 hF14 ?_ ?_ <;> intro hc20 hF15
 iterate 4 refine r_no rfl ?_
 refine s_pkt ?_
 refine s_mv ?_
 iterate 3 refine r_no rfl ?_
 refine s_pkt ?_
 refine k_nil ?_
 exact s_jn (fu, true) ⟨by first | omega | (dsimp only; omega), hF15⟩
 refine s_mv ?_
 refine s_mv ?_
 obtain ⟨v21, hv21, hF16⟩ := bind_some' hF15
 refine s_call [(9700, 12033)] [] [(9700, .dar (v6.2.1.map (Rule.rowD 3 34)) 105)] [(9700, .dar (v6.2.1.map (Rule.rowD 3 34)) 105)] (ac_lend (args := [.ar 9700, .t (.sl (v4.2.1.map Rule.row))]) [(9700, .dar (v6.2.1.map (Rule.rowD 3 34)) 105)] [] (m_laws_eqRuleS_ok fu _ _ _ hv21) rfl (by simp only [V.lendL, V.lend, objs_cons, objs_nil, Nat.reduceEqDiff, reduceIte, if_true, if_false, Form.lendM, Core.lendM, Hit.lendM, Rule.lendM, Bind.lendM, Macro.lendM]; try rfl) (by rfl) (by rfl) (by rfl) (by rfl) (by simp only [List.all_cons, List.all_nil, Ob.flat, flat_rI, flat_rS, Form.flatM, Core.flatM, Hit.flatM, Rule.flatM, Bind.flatM, Macro.flatM, Bool.and_self, Bool.true_and]) (by rfl)) ?_
 refine s_not ?_
 refine s_pkf ?_
 refine s_mv ?_
 refine w_guard _ 74 hF16 ?_ ?_ <;> intro hc22 hF17
 iterate 3 refine r_no rfl ?_
 refine s_pkt ?_
 refine k_nil ?_
 exact s_jn (fu, true) ⟨by first | omega | (dsimp only; omega), hF17⟩
 refine s_mv ?_
 refine s_mv ?_
 refine s_neB yU4 ?_
 refine s_pkf ?_
 refine k_nil ?_
 exact s_jn (fu, (decide (v6.2.2 ≠ v4.2.2))) ⟨by first | omega | (dsimp only; omega), hF17⟩
 clear hF12
 rintro ⟨fu, g23⟩ ⟨hl24, hF13⟩
 dsimp only at hl24 hF13 ⊢
 obtain _ | fu := fu
 · rw [m_laws_FnExactParseRules_j2] at hF13; cases hF13
 rw [m_laws_FnExactParseRules_j2] at hF13
 refine w_cond hF13 ?_ ?_ <;> intro hc25 hF14
 refine awp_seq (awp_region ?_)
 refine s_as ?_
 refine k_nil (k_seq (awp_ret (k_seq_ret (k_fin ?_))))
 cases hF14
 exact ends_a [] [] Try.results9
 refine awp_skip (k_seq (awp_seq (awp_region ?_)))
 refine s_as ?_
 refine k_nil (k_seq (awp_seq (awp_region ?_)))
 refine s_mv ?_
 refine s_mv ?_
 obtain ⟨v26, hv26, hF15⟩ := bind_some' hF14
 refine s_call [(9300, 2033)] [] _ _ (m_laws_markFormS_D_ok fu _ _ _ hv26) ?_
 refine s_as ?_
 refine k_nil (k_seq (awp_seq (awp_region ?_)))
 refine s_mv ?_
 refine s_mv ?_
 obtain ⟨v27, hv27, hF16⟩ := bind_some' hF15
 refine s_call [(9300, 12033)] [] _ _ (m_laws_markRuleS_D_ok fu _ _ _ hv27) ?_
 refine s_as ?_
 refine k_nil (k_seq (awp_seq (awp_region ?_)))
 refine s_as ?_
 refine k_nil (k_seq (awp_seq (awp_region ?_)))
 refine s_mv ?_
 refine s_mv ?_
 obtain ⟨v28, hv28, hF17⟩ := bind_some' hF16
 refine s_call [(9700, 2033)] [] [(9700, .dar (v26.2.map (Form.rowD 3 34)) 34)] [(9700, .dar (v26.2.map (Form.rowD 3 34)) 34)] (ac_lend (args := [.ar 9700, .t (.sc (.int .i64 1))]) [(9700, .dar (v26.2.map (Form.rowD 3 34)) 34)] [] (m_laws_heldFormS_ok fu _ _ _ hv28) rfl (by simp only [V.lendL, V.lend, objs_cons, objs_nil, Nat.reduceEqDiff, reduceIte, if_true, if_false, Form.lendM, Core.lendM, Hit.lendM, Rule.lendM, Bind.lendM, Macro.lendM]; try rfl) (by rfl) (by rfl) (by rfl) (by rfl) (by simp only [List.all_cons, List.all_nil, Ob.flat, flat_rI, flat_rS, Form.flatM, Core.flatM, Hit.flatM, Rule.flatM, Bind.flatM, Macro.flatM, Bool.and_self, Bool.true_and]) (by rfl)) ?_
 refine s_as ?_
 refine k_nil (k_seq (awp_seq (awp_seq (awp_region ?_))))
 refine s_mv ?_
 refine s_lt ?_
 refine k_nil (k_seq ?_)
 refine w_cond hF17 ?_ ?_ <;> intro hc29 hF18
 refine awp_seq (awp_region ?_)
 refine s_as ?_
 refine k_nil (k_seq (awp_ret (k_seq_ret (k_fin ?_))))
 cases hF18
 exact ends_a [] [] Try.results9
 refine awp_skip (k_seq (awp_seq (awp_region ?_)))
 refine s_mv ?_
 refine s_mv ?_
 obtain ⟨v30, hv30, hF19⟩ := bind_some' hF18
 refine s_call [(9700, 12033)] [] [(9700, .dar (v27.2.map (Rule.rowD 3 34)) 105)] [(9700, .dar (v27.2.map (Rule.rowD 3 34)) 105)] (ac_lend (args := [.ar 9700, .t (.sc (.int .i64 v28))]) [(9700, .dar (v27.2.map (Rule.rowD 3 34)) 105)] [] (m_laws_heldRuleS_ok fu _ _ _ hv30) rfl (by simp only [V.lendL, V.lend, objs_cons, objs_nil, Nat.reduceEqDiff, reduceIte, if_true, if_false, Form.lendM, Core.lendM, Hit.lendM, Rule.lendM, Bind.lendM, Macro.lendM]; try rfl) (by rfl) (by rfl) (by rfl) (by rfl) (by simp only [List.all_cons, List.all_nil, Ob.flat, flat_rI, flat_rS, Form.flatM, Core.flatM, Hit.flatM, Rule.flatM, Bind.flatM, Macro.flatM, Bool.and_self, Bool.true_and]) (by rfl)) ?_
 refine s_as ?_
 refine k_nil (k_seq (awp_seq (awp_seq (awp_region ?_))))
 refine s_mv ?_
 refine s_lt ?_
 refine k_nil (k_seq ?_)
 refine w_cond hF19 ?_ ?_ <;> intro hc31 hF20
 refine awp_seq (awp_region ?_)
 refine s_as ?_
 refine k_nil (k_seq (awp_ret (k_seq_ret (k_fin ?_))))
 cases hF20
 exact ends_a [] [] Try.results9
 refine awp_skip (k_seq (awp_seq (awp_seq (awp_region ?_))))
 refine s_mv ?_
 refine s_mv ?_
 refine s_ne ?_
 refine k_nil (k_seq ?_)
 refine w_cond hF20 ?_ ?_ <;> intro hc32 hF21
 refine awp_seq (awp_region ?_)
 refine s_as ?_
 refine k_nil (k_seq (awp_ret (k_seq_ret (k_fin ?_))))
 cases hF21
 exact ends_a [] [] Try.results9
 refine awp_skip (k_seq (awp_seq (awp_region ?_)))
 refine s_ldW yA25 yS25 ?_
 obtain ⟨v33, hv33, hF22⟩ := bind_some' hF21
 refine s_pure [] (m_laws_toForm_ok fu _ _ hv33) ?_
 obtain ⟨v34, hv34, hF23⟩ := bind_some' hF22
 refine s_pure [] (m_impl_ParseRules_ok fu _ _ hv34) ?_
 refine s_mv ?_
 iterate 3 refine s_ext ?_
 iterate 3 refine s_as ?_
 refine k_nil (k_seq (awp_seq ?_))
 refine awp_jn (α := Nat × Bool) [105, 106, 107, 108, 109, 110, 111, 112, 113, 114, 115, 116, 117, 118, 119] [] [] (fun a => [(119, .t (.sc (.bool a.2)))]) (fun a => []) (fun a => a.1 ≤ fu ∧ m_laws_FnExactParseRules_j3 a.1 v26 v27 a.2 = some r) ?_ ?_
 refine awp_region ?_
 refine s_mv ?_
 refine s_mv ?_
 obtain ⟨v35, hv35, hF24⟩ := bind_some' hF23
 refine s_pure [] (m_laws_eqFormS_ok fu _ _ _ hv35) ?_
 refine s_not ?_
 refine s_mv ?_
 refine w_guard _ 109 hF24 ?_ ?_ <;> intro hc36 hF25
 iterate 4 refine r_no rfl ?_
 refine s_pkt ?_
 refine s_mv ?_
 iterate 3 refine r_no rfl ?_
 refine s_pkt ?_
 refine k_nil ?_
 exact s_jn (fu, true) ⟨by first | omega | (dsimp only; omega), hF25⟩
 refine s_mv ?_
 refine s_mv ?_
 obtain ⟨v37, hv37, hF26⟩ := bind_some' hF25
 refine s_pure [] (m_laws_eqRuleS_ok fu _ _ _ hv37) ?_
 refine s_not ?_
 refine s_pkf ?_
 refine s_mv ?_
 refine w_guard _ 115 hF26 ?_ ?_ <;> intro hc38 hF27
 iterate 3 refine r_no rfl ?_
 refine s_pkt ?_
 refine k_nil ?_
 exact s_jn (fu, true) ⟨by first | omega | (dsimp only; omega), hF27⟩
 refine s_mv ?_
 refine s_mv ?_
 refine s_neB yU4 ?_
 refine s_pkf ?_
 refine k_nil ?_
 exact s_jn (fu, (decide (v34.2.2 ≠ v4.2.2))) ⟨by first | omega | (dsimp only; omega), hF27⟩
 clear hF23
 rintro ⟨fu, g39⟩ ⟨hl40, hF24⟩
 dsimp only at hl40 hF24 ⊢
 obtain _ | fu := fu
 · rw [m_laws_FnExactParseRules_j3] at hF24; cases hF24
 rw [m_laws_FnExactParseRules_j3] at hF24
 refine w_cond hF24 ?_ ?_ <;> intro hc41 hF25
 refine awp_seq (awp_region ?_)
 refine s_as ?_
 refine k_nil (k_seq (awp_ret (k_seq_ret (k_fin ?_))))
 cases hF25
 exact ends_a [] [] Try.results9
 refine awp_skip (k_seq (awp_seq (awp_region ?_)))
 refine s_as ?_
 refine k_nil (k_seq (awp_seq (awp_region ?_)))
 refine s_mv ?_
 refine s_mv ?_
 obtain ⟨v42, hv42, hF26⟩ := bind_some' hF25
 refine s_call [(9700, 2033)] [] [(9700, .dar (v26.2.map (Form.rowD 3 34)) 34)] [(9700, .dar (v26.2.map (Form.rowD 3 34)) 34)] (ac_lend (args := [.ar 9700, .t (.sc (.int .i64 1))]) [(9700, .dar (v26.2.map (Form.rowD 3 34)) 34)] [] (m_laws_heldFormS_ok fu _ _ _ hv42) rfl (by simp only [V.lendL, V.lend, objs_cons, objs_nil, Nat.reduceEqDiff, reduceIte, if_true, if_false, Form.lendM, Core.lendM, Hit.lendM, Rule.lendM, Bind.lendM, Macro.lendM]; try rfl) (by rfl) (by rfl) (by rfl) (by rfl) (by simp only [List.all_cons, List.all_nil, Ob.flat, flat_rI, flat_rS, Form.flatM, Core.flatM, Hit.flatM, Rule.flatM, Bind.flatM, Macro.flatM, Bool.and_self, Bool.true_and]) (by rfl)) ?_
 refine s_as ?_
 refine k_nil (k_seq (awp_seq (awp_seq (awp_region ?_))))
 refine s_mv ?_
 refine s_lt ?_
 refine k_nil (k_seq ?_)
 refine w_cond hF26 ?_ ?_ <;> intro hc43 hF27
 refine awp_seq (awp_region ?_)
 refine s_as ?_
 refine k_nil (k_seq (awp_ret (k_seq_ret (k_fin ?_))))
 cases hF27
 exact ends_a [] [] Try.results9
 refine awp_skip (k_seq (awp_seq (awp_region ?_)))
 refine s_mv ?_
 refine s_mv ?_
 obtain ⟨v44, hv44, hF28⟩ := bind_some' hF27
 refine s_call [(9700, 12033)] [] [(9700, .dar (v27.2.map (Rule.rowD 3 34)) 105)] [(9700, .dar (v27.2.map (Rule.rowD 3 34)) 105)] (ac_lend (args := [.ar 9700, .t (.sc (.int .i64 v42))]) [(9700, .dar (v27.2.map (Rule.rowD 3 34)) 105)] [] (m_laws_heldRuleS_ok fu _ _ _ hv44) rfl (by simp only [V.lendL, V.lend, objs_cons, objs_nil, Nat.reduceEqDiff, reduceIte, if_true, if_false, Form.lendM, Core.lendM, Hit.lendM, Rule.lendM, Bind.lendM, Macro.lendM]; try rfl) (by rfl) (by rfl) (by rfl) (by rfl) (by simp only [List.all_cons, List.all_nil, Ob.flat, flat_rI, flat_rS, Form.flatM, Core.flatM, Hit.flatM, Rule.flatM, Bind.flatM, Macro.flatM, Bool.and_self, Bool.true_and]) (by rfl)) ?_
 refine s_as ?_
 refine k_nil (k_seq (awp_seq (awp_seq (awp_region ?_))))
 refine s_mv ?_
 refine s_lt ?_
 refine k_nil (k_seq ?_)
 refine w_cond hF28 ?_ ?_ <;> intro hc45 hF29
 refine awp_seq (awp_region ?_)
 refine s_as ?_
 refine k_nil (k_seq (awp_ret (k_seq_ret (k_fin ?_))))
 cases hF29
 exact ends_a [] [] Try.results9
 refine awp_skip (k_seq (awp_seq (awp_seq (awp_region ?_))))
 refine s_mv ?_
 refine s_mv ?_
 refine s_ne ?_
 refine k_nil (k_seq ?_)
 refine w_cond hF29 ?_ ?_ <;> intro hc46 hF30
 refine awp_seq (awp_region ?_)
 refine s_as ?_
 refine k_nil (k_seq (awp_ret (k_seq_ret (k_fin ?_))))
 cases hF30
 exact ends_a [] [] Try.results9
 refine awp_skip (k_seq (awp_seq (awp_region ?_)))
 refine s_as ?_
 refine k_nil (k_seq (awp_ret (k_fin ?_)))
 cases hF30
 exact ends_a [] [] Try.results9
end Go.Abs
