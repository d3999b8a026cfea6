/- A part of the proof: what the functions that the law calls answer, as pure values. -/
import Derived.Test.YtbkdbbfgdjcfgaaK0b7d7560d506
import Derived.Test.YtbkdbbfgdjcfgaaK24fa5a30cc8e
import Derived.Test.YtbkdbbfgdjcfgaaK3f310fa5878f
import Derived.Test.YtbkdbbfgdjcfgaaK61500c1b4fa0
import Derived.Test.YtbkdbbfgdjcfgaaK699ce2a2ded9
import Derived.Test.YtbkdbbfgdjcfgaaK737adf4b85c3
import Derived.Test.YtbkdbbfgdjcfgaaKa51fa71ca298
import Derived.Test.YtbkdbbfgdjcfgaaKcda3492cd79b
import Derived.Test.YtbkdbbfgdjcfgaaKd09531658691
set_option linter.unusedSimpArgs false
set_option linter.unusedVariables false
set_option maxRecDepth 100000
set_option maxHeartbeats 4000000
namespace Go.Abs
open Go.Proofs
def m_spec_ParseRules_AC (fuel : Nat) : Prop := ∀ (x1 : Form) (r : ((List Form) × (List Rule) × Bool)), m_spec_ParseRules fuel x1 = some r → AC Try.prog 56 [.ag [.t (.sc (.int .i64 x1.kind)), .t (.sc (.str x1.name)), .t (.sc (.int .i64 x1.n)), .t (.sl (x1.scopes.map rI)), .t (.sl (x1.kids.map Form.row))]] noOb (.tp [.t (.sl (r.1.map Form.row)), .t (.sl (r.2.1.map Rule.row)), .t (.sc (.bool r.2.2))]) noOb
theorem m_spec_ParseRules_ok (fuel : Nat) : m_spec_ParseRules_AC fuel := by
 intro x1 r hF0
 unfold m_spec_ParseRules at hF0
 refine AC_i [.t (.sl (r.1.map Form.row)), .t (.sl (r.2.1.map Rule.row)), .t (.sc (.bool r.2.2))] Try.func56 rfl Try.ntmps56 ?_
 intro C hC
 refine awp_seq (awp_region ?_)
 refine s_box ?_
 iterate 3 refine s_as ?_
 refine k_nil (k_seq (awp_seq (awp_region ?_)))
 refine s_bs Form.row ([] : List Form) yP32 yR34 ?_
 refine s_as ?_
 refine k_nil (k_seq (awp_seq (awp_region ?_)))
 refine s_bs Rule.row ([] : List Rule) yP48 yR105 ?_
 refine s_as ?_
 refine k_nil (k_seq (awp_seq ?_))
 refine awp_jn (α := Nat × Bool) [11, 12, 13, 14, 15, 16, 17, 18, 19, 20, 21, 22, 23, 24, 25, 26, 27, 28, 29, 30, 31, 32, 33, 34, 35, 36, 37, 38, 39, 40] [] [] (fun a => [(40, .t (.sc (.bool a.2)))]) (fun a => []) (fun a => a.1 ≤ fuel ∧ m_spec_ParseRules_j1 a.1 x1 a.2 = some r) ?_ ?_
 refine awp_region ?_
 refine s_ldW yA34 yS34 ?_
 obtain ⟨v1, hv1, hF1⟩ := bind_some' hF0
 refine s_pure [] (m_spec_FormValid_ok fuel _ _ hv1) ?_
 refine s_not ?_
 refine s_mv ?_
 refine w_guard _ 14 hF1 ?_ ?_ <;> intro hc2 hF2
 iterate 3 refine r_no rfl ?_
 refine s_pkt ?_
 refine s_mv ?_
 iterate 4 refine r_no rfl ?_
 refine s_pkt ?_
 refine s_mv ?_
 iterate 6 refine r_no rfl ?_
 refine s_pkt ?_
 refine s_mv ?_
 iterate 6 refine r_no rfl ?_
 refine s_pkt ?_
 refine k_nil ?_
 exact s_jn (fuel, true) ⟨by first | omega | (dsimp only; omega), hF2⟩
 refine s_fa yF34_0 ?_
 refine s_ld1 yA3 ?_
 refine s_ne ?_
 refine s_pkf ?_
 refine s_mv ?_
 refine w_guard _ 19 hF2 ?_ ?_ <;> intro hc3 hF3
 iterate 4 refine r_no rfl ?_
 refine s_pkt ?_
 refine s_mv ?_
 iterate 6 refine r_no rfl ?_
 refine s_pkt ?_
 refine s_mv ?_
 iterate 6 refine r_no rfl ?_
 refine s_pkt ?_
 refine k_nil ?_
 exact s_jn (fuel, true) ⟨by first | omega | (dsimp only; omega), hF3⟩
 refine s_fa yF34_4 ?_
 refine s_ld1 yA32 ?_
 refine s_lenT yU32 ?_
 refine s_lt ?_
 refine s_pkf ?_
 refine s_mv ?_
 refine w_guard _ 25 hF3 ?_ ?_ <;> intro hc4 hF4
 iterate 6 refine r_no rfl ?_
 refine s_pkt ?_
 refine s_mv ?_
 iterate 6 refine r_no rfl ?_
 refine s_pkt ?_
 refine k_nil ?_
 exact s_jn (fuel, true) ⟨by first | omega | (dsimp only; omega), hF4⟩
 refine s_fa yF34_4 ?_
 refine s_ld1 yA32 ?_
 obtain ⟨v5, hv5, hF5⟩ := bind_some' hF4
 refine s_ixT Form.row hv5 (Form.row_eq _) yE32 ?_
 refine s_fa yF34_1 ?_
 refine s_ld1 yA9 ?_
 refine s_neS ?_
 refine s_pkf ?_
 refine s_mv ?_
 refine w_guard _ 33 hF5 ?_ ?_ <;> intro hc6 hF6
 iterate 6 refine r_no rfl ?_
 refine s_pkt ?_
 refine k_nil ?_
 exact s_jn (fuel, true) ⟨by first | omega | (dsimp only; omega), hF6⟩
 refine s_fa yF34_4 ?_
 refine s_ld1 yA32 ?_
 obtain ⟨v7, hv7, hF7⟩ := bind_some' hF6
 refine s_ixT Form.row hv7 (Form.row_eq _) yE32 ?_
 refine s_fa yF34_0 ?_
 refine s_ld1 yA3 ?_
 refine s_ne ?_
 refine s_pkf ?_
 refine k_nil ?_
 exact s_jn (fuel, (decide (v7.kind ≠ 3))) ⟨by first | omega | (dsimp only; omega), hF7⟩
 clear hF0
 rintro ⟨fu, g8⟩ ⟨hl9, hF1⟩
 dsimp only at hl9 hF1 ⊢
 obtain _ | fu := fu
 · rw [m_spec_ParseRules_j1] at hF1; cases hF1
 rw [m_spec_ParseRules_j1] at hF1
 refine w_cond hF1 ?_ ?_ <;> intro hc10 hF2
 refine awp_seq (awp_region ?_)
 refine s_mv ?_
 refine s_mv ?_
 iterate 3 refine s_as ?_
 refine k_nil (k_seq (awp_ret (k_seq_ret (k_fin ?_))))
 cases hF2
 exact ends_a [] [9, 10] Try.results56
 refine awp_skip (k_seq ?_)
 refine awp_jn (α := Nat × (List Form)) [5, 7, 43, 44, 45, 46, 47, 48, 49, 50, 51, 52, 53, 54, 55, 56, 57, 58, 59, 60, 61, 62, 63, 64] [9, 5060] [] (fun a => [(5, .ar 5060)]) (fun a => [(9, .dead), (5060, .arr (a.2.map Form.row) 34 true)]) (fun a => a.1 ≤ fu ∧ m_spec_ParseRules_j2 a.1 x1 a.2 = some r) ?_ ?_
 refine awp_seq (awp_region ?_)
 refine s_as ?_
 refine k_nil (k_seq (awp_block ?_))
 refine awp_mv 5 9 5060 (by conv => lhs; whnf) (by conv => lhs; whnf) rfl ?_
 refine awp_frame2 [5, 7, 43, 44, 45, 46, 47, 48, 49, 50, 51, 52, 53, 54, 55, 56, 57, 58, 59, 60, 61, 62, 63, 64] [5060] [63, 64, 2062, 12062] [5060] (fun a : Nat × (List Form) × Int => a.1) (fun a : Nat × (List Form) × Int => [(5, .ar 5060), (7, .t (.sc (.int .i64 a.2.2)))]) (fun a : Nat × (List Form) × Int => [(5060, .arr (a.2.1.map Form.row) 34 true)]) (fun a : Nat × (List Form) × Int => a.1 ≤ fu ∧ m_spec_ParseRules_l3 a.1 x1 a.2.1 a.2.2 = some r ∧ 0 ≤ a.2.2) (fu, ([] : List Form), 0) ⟨Nat.le_refl _, hF2, by simp⟩ (by rfl) (by rfl) (fun _ => rfl) (hasF_cons (by conv => lhs; whnf) (by rfl) (hasF_cons (by conv => lhs; whnf) (by rfl) hasF_nil)) (hasO_cons (by conv => lhs; whnf) (by rfl) hasO_nil) (fresh_C hC rfl) (by repeat (first | exact freshS_args rfl | refine freshS_upd rfl ?_ | refine freshS_frame rfl ?_)) (by repeat (first | exact freshM_no | exact objs_fresh rfl | refine freshM_upd rfl ?_ | refine freshM_frame rfl ?_)) ?_
 clear hF2
 rintro ⟨fu, g11, g12⟩ ⟨hl13, hF3, hn_g12⟩
 dsimp only at hl13 hF3 hn_g12 ⊢
 obtain _ | fu := fu
 · rw [m_spec_ParseRules_l3] at hF3; cases hF3
 rw [m_spec_ParseRules_l3] at hF3
 refine awp_seq (awp_seq (awp_region ?_))
 refine s_mv ?_
 refine s_fa yF34_4 ?_
 refine s_ld1 yA32 ?_
 obtain ⟨v14, hv14, hF4⟩ := bind_some' hF3
 refine s_ixT Form.row hv14 (Form.row_eq _) yE32 ?_
 refine s_fa yF34_4 ?_
 refine s_ld1 yA32 ?_
 refine s_lenT yU32 ?_
 refine s_lt ?_
 refine k_nil (k_seq ?_)
 refine w_cond hF4 ?_ ?_ <;> intro hc15 hF5
 refine awp_lenT 48 (fun hb16 => ?_)
 refine awp_skip (k_seq (awp_seq (awp_block (awp_region ?_))))
 refine s_mv ?_
 refine s_fa yF34_4 ?_
 refine s_ld1 yA32 ?_
 obtain ⟨v17, hv17, hF6⟩ := bind_some' hF5
 refine s_ixT Form.row hv17 (Form.row_eq _) yE32 ?_
 refine s_fa yF34_4 ?_
 refine s_ld1 yA32 ?_
 refine s_mv ?_
 obtain ⟨v18, hv18, hF7⟩ := bind_some' hF6
 refine s_ixT Form.row hv18 (Form.row_eq _) yE32 ?_
 refine s_ldN yA34 yS34 ?_
 obtain ⟨v19, hv19, hF8⟩ := bind_some' hF7
 refine s_call [(9203, 2062), (9204, 12062)] [] _ _ (m_spec_l1Copy_ok fu _ _ hv19) ?_
 refine s_bs Form.row [v19] yP32 yR34 ?_
 obtain ⟨hk20, hF9⟩ := chk_some hF8
 refine s_apT Form.row (fun y => Form.row_len y) hk20 yP32 ?_
 refine s_as ?_
 refine k_nil (k_blk (k_seq (awp_region ?_)))
 refine s_mv ?_
 refine s_add (winc2 hc15 hb16 hn_g12) ?_
 refine s_as ?_
 refine k_nil ?_
 exact s_rn (fu, (g11 ++ [v19]), (g12 + 1)) ⟨by first | omega | (dsimp only; omega), hF9, by first | omega | (dsimp only; omega)⟩ [(5060, 64)]
 refine awp_exit (k_seq_exit (k_rnd_exit2 (k_blk_exit ?_)))
 exact s_jn (fu, g11) ⟨by first | omega | (dsimp only; omega), hF5⟩
 clear hF2
 rintro ⟨fu, g21⟩ ⟨hl22, hF3⟩
 dsimp only at hl22 hF3 ⊢
 obtain _ | fu := fu
 · rw [m_spec_ParseRules_j2] at hF3; cases hF3
 rw [m_spec_ParseRules_j2] at hF3
 refine awp_jn (α := Nat × (List Rule)) [2, 3, 4, 6, 8, 65, 66, 67, 68, 69, 70, 71, 72, 73, 74, 75, 76, 77, 78, 79, 80, 81, 82, 83, 84, 85, 86, 87, 88, 89, 90, 91, 92, 93, 94, 95, 96, 97, 98, 99, 100, 101, 102, 103, 104, 105, 106, 107, 108, 109, 110, 111, 112] [10, 5100] [] (fun a => [(6, .ar 5100)]) (fun a => [(10, .dead), (5100, .arr (a.2.map Rule.row) 105 true)]) (fun a => a.1 ≤ fu ∧ m_spec_ParseRules_j4 a.1 g21 a.2 = some r) ?_ ?_
 refine awp_seq (awp_region ?_)
 refine s_as ?_
 refine k_nil (k_seq (awp_block ?_))
 refine awp_mv 6 10 5100 (by conv => lhs; whnf) (by conv => lhs; whnf) rfl ?_
 refine awp_frame2 [2, 3, 4, 6, 8, 65, 66, 67, 68, 69, 70, 71, 72, 73, 74, 75, 76, 77, 78, 79, 80, 81, 82, 83, 84, 85, 86, 87, 88, 89, 90, 91, 92, 93, 94, 95, 96, 97, 98, 99, 100, 101, 102, 103, 104, 105, 106, 107, 108, 109, 110, 111, 112] [5100] [111, 112, 2100, 2109, 12100, 12109] [5100] (fun a : Nat × (List Rule) × Int => a.1) (fun a : Nat × (List Rule) × Int => [(6, .ar 5100), (8, .t (.sc (.int .i64 a.2.2)))]) (fun a : Nat × (List Rule) × Int => [(5100, .arr (a.2.1.map Rule.row) 105 true)]) (fun a : Nat × (List Rule) × Int => a.1 ≤ fu ∧ m_spec_ParseRules_l5 a.1 x1 g21 a.2.1 a.2.2 = some r ∧ 0 ≤ a.2.2) (fu, ([] : List Rule), 2) ⟨Nat.le_refl _, hF3, by simp⟩ (by rfl) (by rfl) (fun _ => rfl) (hasF_cons (by conv => lhs; whnf) (by rfl) (hasF_cons (by conv => lhs; whnf) (by rfl) hasF_nil)) (hasO_cons (by conv => lhs; whnf) (by rfl) hasO_nil) (fresh_C hC rfl) (by repeat (first | exact freshS_args rfl | refine freshS_upd rfl ?_ | refine freshS_frame rfl ?_)) (by repeat (first | exact freshM_no | exact objs_fresh rfl | refine freshM_upd rfl ?_ | refine freshM_frame rfl ?_)) ?_
 clear hF3
 rintro ⟨fu, g23, g24⟩ ⟨hl25, hF4, hn_g24⟩
 dsimp only at hl25 hF4 hn_g24 ⊢
 obtain _ | fu := fu
 · rw [m_spec_ParseRules_l5] at hF4; cases hF4
 rw [m_spec_ParseRules_l5] at hF4
 refine awp_seq (awp_seq (awp_region ?_))
 refine s_mv ?_
 refine s_fa yF34_4 ?_
 refine s_ld1 yA32 ?_
 refine s_lenT yU32 ?_
 refine s_lt ?_
 refine k_nil (k_seq ?_)
 refine w_cond hF4 ?_ ?_ <;> intro hc26 hF5
 refine awp_lenT 67 (fun hb27 => ?_)
 refine awp_skip (k_seq (awp_seq (awp_block (awp_seq ?_))))
 refine awp_jn (α := Nat × Bool) [72, 73, 74, 75, 76, 77, 78, 79, 80, 81, 82, 83, 84, 85, 86, 87, 88] [] [] (fun a => [(88, .t (.sc (.bool a.2)))]) (fun a => []) (fun a => a.1 ≤ fu ∧ m_spec_ParseRules_j6 a.1 x1 g21 g23 g24 a.2 = some r) ?_ ?_
 refine awp_region ?_
 refine s_fa yF34_4 ?_
 refine s_ld1 yA32 ?_
 refine s_mv ?_
 obtain ⟨v28, hv28, hF6⟩ := bind_some' hF5
 refine s_ixT Form.row hv28 (Form.row_eq _) yE32 ?_
 refine s_fa yF34_0 ?_
 refine s_ld1 yA3 ?_
 refine s_ne ?_
 refine s_mv ?_
 refine w_guard _ 79 hF6 ?_ ?_ <;> intro hc29 hF7
 iterate 8 refine r_no rfl ?_
 refine s_pkt ?_
 refine k_nil ?_
 exact s_jn (fu, true) ⟨by first | omega | (dsimp only; omega), hF7⟩
 refine s_fa yF34_4 ?_
 refine s_ld1 yA32 ?_
 refine s_mv ?_
 obtain ⟨v30, hv30, hF8⟩ := bind_some' hF7
 refine s_ixT Form.row hv30 (Form.row_eq _) yE32 ?_
 refine s_fa yF34_4 ?_
 refine s_ld1 yA32 ?_
 refine s_lenT yU32 ?_
 refine s_ne ?_
 refine s_pkf ?_
 refine k_nil ?_
 exact s_jn (fu, (decide ((v30.kids.length : Int) ≠ 2))) ⟨by first | omega | (dsimp only; omega), hF8⟩
 clear hF5
 rintro ⟨fu, g31⟩ ⟨hl32, hF6⟩
 dsimp only at hl32 hF6 ⊢
 obtain _ | fu := fu
 · rw [m_spec_ParseRules_j6] at hF6; cases hF6
 rw [m_spec_ParseRules_j6] at hF6
 refine w_cond hF6 ?_ ?_ <;> intro hc33 hF7
 refine awp_seq (awp_region ?_)
 refine s_bs Form.row ([] : List Form) yP32 yR34 ?_
 refine s_bs Rule.row ([] : List Rule) yP48 yR105 ?_
 iterate 3 refine s_as ?_
 refine k_nil (k_seq (awp_ret (k_seq_ret (k_blk_ret (k_seq_ret (k_rnd_ret2 (k_blk_ret (k_jn_ret (k_fin ?_)))))))))
 cases hF7
 exact ends_a [] [89, 90] Try.results56
 refine awp_skip (k_seq ?_)
 refine awp_draw yMix (by kernel_rfl) ?_
 refine s_mv0 ?_
 refine s_fa yF34_4 ?_
 refine s_ld1 yA32 ?_
 refine s_mv ?_
 obtain ⟨v34, hv34, hF8⟩ := bind_some' hF7
 refine s_ixT Form.row hv34 (Form.row_eq _) yE32 ?_
 refine s_fa yF34_4 ?_
 refine s_ld1 yA32 ?_
 obtain ⟨v35, hv35, hF9⟩ := bind_some' hF8
 refine s_ixT Form.row hv35 (Form.row_eq _) yE32 ?_
 refine s_ldN yA34 yS34 ?_
 obtain ⟨v36, hv36, hF10⟩ := bind_some' hF9
 refine s_call [(9203, 2100), (9204, 12100)] [] _ _ (m_spec_l1Copy_ok fu _ _ hv36) ?_
 refine s_fa yF34_4 ?_
 refine s_ld1 yA32 ?_
 refine s_mv ?_
 obtain ⟨v37, hv37, hF11⟩ := bind_some' hF10
 refine s_ixT Form.row hv37 (Form.row_eq _) yE32 ?_
 refine s_fa yF34_4 ?_
 refine s_ld1 yA32 ?_
 obtain ⟨v38, hv38, hF12⟩ := bind_some' hF11
 refine s_ixT Form.row hv38 (Form.row_eq _) yE32 ?_
 refine s_ldN yA34 yS34 ?_
 obtain ⟨v39, hv39, hF13⟩ := bind_some' hF12
 refine s_call [(9203, 2109), (9204, 12109)] [] _ _ (m_spec_l1Copy_ok fu _ _ hv39) ?_
 refine s_bld yZ105 yL105 ?_
 refine s_bs Rule.row [(Rule.mk v36 v39)] yP48 yR105 ?_
 obtain ⟨hk40, hF14⟩ := chk_some hF13
 refine s_apT Rule.row (fun y => Rule.row_len y) hk40 yP48 ?_
 refine s_as ?_
 refine k_nilD (by kernel_rfl) ?_
 refine k_blk (k_seq (awp_region ?_))
 refine s_mv ?_
 refine s_add (winc2 hc26 hb27 hn_g24) ?_
 refine s_as ?_
 refine k_nil ?_
 exact s_rn (fu, (g23 ++ [(Rule.mk v36 v39)]), (g24 + 1)) ⟨by first | omega | (dsimp only; omega), hF14, by first | omega | (dsimp only; omega)⟩ [(5100, 112)]
 refine awp_exit (k_seq_exit (k_rnd_exit2 (k_blk_exit ?_)))
 exact s_jn (fu, g23) ⟨by first | omega | (dsimp only; omega), hF5⟩
 clear hF3
 rintro ⟨fu, g41⟩ ⟨hl42, hF4⟩
 dsimp only at hl42 hF4 ⊢
 obtain _ | fu := fu
 · rw [m_spec_ParseRules_j4] at hF4; cases hF4
 rw [m_spec_ParseRules_j4] at hF4
 refine awp_seq (awp_seq (awp_region ?_))
 refine s_mv ?_
 refine s_mv ?_
 obtain ⟨v43, hv43, hF5⟩ := bind_some' hF4
 refine s_pure [5100, 5060] (m_spec_l5Rules_ok fu _ _ _ hv43) ?_
 refine s_not ?_
 refine k_nil (k_seq ?_)
 refine w_cond hF5 ?_ ?_ <;> intro hc44 hF6
 refine awp_seq (awp_region ?_)
 refine s_bs Form.row ([] : List Form) yP32 yR34 ?_
 refine s_bs Rule.row ([] : List Rule) yP48 yR105 ?_
 iterate 3 refine s_as ?_
 refine k_nil (k_seq (awp_ret (k_seq_ret (k_fin ?_))))
 cases hF6
 exact ends_a [] [117, 118] Try.results56
 refine awp_skip (k_seq (awp_seq (awp_region ?_)))
 refine s_mv ?_
 refine s_mv ?_
 iterate 3 refine s_as ?_
 refine k_nil (k_seq (awp_ret (k_fin ?_)))
 cases hF6
 exact ends_a [] [5060, 5100] Try.results56
def m_impl_ParseRules_D_AC (fuel : Nat) : Prop := ∀ (x1 : Form) (r : ((List Form) × (List Rule) × Bool)), m_impl_ParseRules fuel x1 = some r → AC Try.prog 57 [.ag [.t (.sc (.int .i64 x1.kind)), .t (.sc (.str x1.name)), .t (.sc (.int .i64 x1.n)), .t (.sl (x1.scopes.map rI)), .t (.sl (x1.kids.map Form.row))]] (objs []) (.tp [.ar 9200, .ar 9300, .t (.sc (.bool r.2.2))]) (objs [(9200, .dar (r.1.map (Form.rowD 3 34)) 34), (9300, .dar (r.2.1.map (Rule.rowD 3 34)) 105)])
theorem m_impl_ParseRules_D_ok (fuel : Nat) : m_impl_ParseRules_D_AC fuel := by
 intro x1 r hF0
 unfold m_impl_ParseRules at hF0
 refine AC_i [.ar 9200, .ar 9300, .t (.sc (.bool r.2.2))] Try.func57 rfl Try.ntmps57 ?_
 intro C hC
 refine awp_seq (awp_region ?_)
 refine s_box ?_
 iterate 3 refine s_as ?_
 refine k_nil (k_seq (awp_seq ?_))
 refine awp_jn (α := Nat × Bool) [11, 12, 13, 14, 15, 16, 17, 18, 19, 20, 21, 22, 23, 24, 25, 26, 27, 28, 29, 30, 31, 32, 33, 34, 35, 36, 37, 38, 39, 40] [] [] (fun a => [(40, .t (.sc (.bool a.2)))]) (fun a => []) (fun a => a.1 ≤ fuel ∧ m_impl_ParseRules_j1 a.1 x1 a.2 = some r) ?_ ?_
 refine awp_region ?_
 refine s_ldW yA34 yS34 ?_
 obtain ⟨v1, hv1, hF1⟩ := bind_some' hF0
 refine s_pure [] (m_impl_FormValid_ok fuel _ _ hv1) ?_
 refine s_not ?_
 refine s_mv ?_
 refine w_guard _ 14 hF1 ?_ ?_ <;> intro hc2 hF2
 iterate 3 refine r_no rfl ?_
 refine s_pkt ?_
 refine s_mv ?_
 iterate 4 refine r_no rfl ?_
 refine s_pkt ?_
 refine s_mv ?_
 iterate 6 refine r_no rfl ?_
 refine s_pkt ?_
 refine s_mv ?_
 iterate 6 refine r_no rfl ?_
 refine s_pkt ?_
 refine k_nil ?_
 exact s_jn (fuel, true) ⟨by first | omega | (dsimp only; omega), hF2⟩
 refine s_fa yF34_0 ?_
 refine s_ld1 yA3 ?_
 refine s_ne ?_
 refine s_pkf ?_
 refine s_mv ?_
 refine w_guard _ 19 hF2 ?_ ?_ <;> intro hc3 hF3
 iterate 4 refine r_no rfl ?_
 refine s_pkt ?_
 refine s_mv ?_
 iterate 6 refine r_no rfl ?_
 refine s_pkt ?_
 refine s_mv ?_
 iterate 6 refine r_no rfl ?_
 refine s_pkt ?_
 refine k_nil ?_
 exact s_jn (fuel, true) ⟨by first | omega | (dsimp only; omega), hF3⟩
 refine s_fa yF34_4 ?_
 refine s_ld1 yA32 ?_
 refine s_lenT yU32 ?_
 refine s_lt ?_
 refine s_pkf ?_
 refine s_mv ?_
 refine w_guard _ 25 hF3 ?_ ?_ <;> intro hc4 hF4
 iterate 6 refine r_no rfl ?_
 refine s_pkt ?_
 refine s_mv ?_
 iterate 6 refine r_no rfl ?_
 refine s_pkt ?_
 refine k_nil ?_
 exact s_jn (fuel, true) ⟨by first | omega | (dsimp only; omega), hF4⟩
 refine s_fa yF34_4 ?_
 refine s_ld1 yA32 ?_
 obtain ⟨v5, hv5, hF5⟩ := bind_some' hF4
 refine s_ixT Form.row hv5 (Form.row_eq _) yE32 ?_
 refine s_ldN yA34 yS34 ?_
 obtain ⟨v6, hv6, hF6⟩ := bind_some' hF5
 refine s_pure [] (m_impl_named_ok fuel _ _ _ hv6) ?_
 refine s_not ?_
 refine s_pkf ?_
 refine s_mv ?_
 refine w_guard _ 33 hF6 ?_ ?_ <;> intro hc7 hF7
 iterate 6 refine r_no rfl ?_
 refine s_pkt ?_
 refine k_nil ?_
 exact s_jn (fuel, true) ⟨by first | omega | (dsimp only; omega), hF7⟩
 refine s_fa yF34_4 ?_
 refine s_ld1 yA32 ?_
 obtain ⟨v8, hv8, hF8⟩ := bind_some' hF7
 refine s_ixT Form.row hv8 (Form.row_eq _) yE32 ?_
 refine s_fa yF34_0 ?_
 refine s_ld1 yA3 ?_
 refine s_ne ?_
 refine s_pkf ?_
 refine k_nil ?_
 exact s_jn (fuel, (decide (v8.kind ≠ 3))) ⟨by first | omega | (dsimp only; omega), hF8⟩
 clear hF0
 rintro ⟨fu, g9⟩ ⟨hl10, hF1⟩
 dsimp only at hl10 hF1 ⊢
 obtain _ | fu := fu
 · rw [m_impl_ParseRules_j1] at hF1; cases hF1
 rw [m_impl_ParseRules_j1] at hF1
 refine w_cond hF1 ?_ ?_ <;> intro hc11 hF2
 refine awp_seq (awp_region ?_)
 iterate 3 refine s_as ?_
 refine k_nil (k_seq ?_)
 refine awp_own 2 9200 34 yI34.choose_spec ?_
 refine awp_toD 9200 (Form.rowD 3 34) (es := ([] : List Form).map Form.row) (by (conv => lhs; whnf) <;> rfl) rfl ?_
 refine awp_own 3 9300 105 yI105.choose_spec ?_
 refine awp_toD 9300 (Rule.rowD 3 34) (es := ([] : List Rule).map Rule.row) (by (conv => lhs; whnf) <;> rfl) rfl ?_
 refine awp_ret (k_seq_ret (k_fin ?_))
 cases hF2
 exact ends_a _ [] Try.results57
 refine awp_skip (k_seq (awp_seq (awp_region ?_)))
 refine s_bs Form.row ([] : List Form) yP32 yR34 ?_
 refine s_bs Rule.row ([] : List Rule) yP48 yR105 ?_
 refine s_as ?_
 refine s_as ?_
 refine k_nil (k_seq ?_)
 refine awp_toD 41 (Form.rowD 3 34) (es := ([] : List Form).map Form.row) (by (conv => lhs; whnf) <;> rfl) rfl ?_
 refine awp_toD 42 (Rule.rowD 3 34) (es := ([] : List Rule).map Rule.row) (by (conv => lhs; whnf) <;> rfl) rfl ?_
 refine awp_jn (α := Nat × (List Form)) [5, 8, 43, 44, 45, 46, 47, 48, 49, 50, 51, 52, 53, 54, 55, 56, 57, 58] [41, 5060] [] (fun a => [(5, .ar 5060)]) (fun a => [(41, .dead), (5060, .dar (a.2.map (Form.rowD 3 34)) 34)]) (fun a => a.1 ≤ fu ∧ m_impl_ParseRules_j2 a.1 x1 a.2 = some r) ?_ ?_
 refine awp_seq (awp_region ?_)
 refine s_fa yF34_4 ?_
 refine s_ld1 yA32 ?_
 obtain ⟨v12, hv12, hF3⟩ := bind_some' hF2
 refine s_ixT Form.row hv12 (Form.row_eq _) yE32 ?_
 refine s_fa yF34_4 ?_
 refine s_ld1 yA32 ?_
 refine s_lenT yU32 ?_
 refine s_mv ?_
 refine k_nil (k_seq (awp_block ?_))
 refine awp_mvD 5 41 5060 (by conv => lhs; whnf) (by conv => lhs; whnf) rfl ?_
 refine awp_frame2 [5, 8, 49, 50, 51, 52, 53, 54, 55, 56, 57, 58] [5060] [8, 56, 57, 2055, 12055] [5060] (fun a : Nat × (List Form) × Int => a.1) (fun a : Nat × (List Form) × Int => [(5, .ar 5060), (49, .t (.sc (.int .i64 a.2.2)))]) (fun a : Nat × (List Form) × Int => [(5060, .dar (a.2.1.map (Form.rowD 3 34)) 34)]) (fun a : Nat × (List Form) × Int => a.1 ≤ fu ∧ m_impl_ParseRules_l3 a.1 x1 v12 a.2.1 a.2.2 = some r ∧ 0 ≤ a.2.2) (fu, ([] : List Form), 0) ⟨Nat.le_refl _, hF3, by simp⟩ (by rfl) (by rfl) (fun _ => rfl) (hasF_cons (by conv => lhs; whnf) (by rfl) (hasF_cons (by conv => lhs; whnf) (by rfl) hasF_nil)) (hasO_cons (by conv => lhs; whnf) (by rfl) hasO_nil) (fresh_C hC rfl) (by repeat (first | exact freshS_args rfl | refine freshS_upd rfl ?_ | refine freshS_frame rfl ?_)) (by repeat (first | exact freshM_no | exact objs_fresh rfl | refine freshM_upd rfl ?_ | refine freshM_frame rfl ?_)) ?_
 clear hF3
 rintro ⟨fu, g13, g14⟩ ⟨hl15, hF4, hn_g14⟩
 dsimp only at hl15 hF4 hn_g14 ⊢
 obtain _ | fu := fu
 · rw [m_impl_ParseRules_l3] at hF4; cases hF4
 rw [m_impl_ParseRules_l3] at hF4
 refine awp_seq (awp_region ?_)
 refine s_lt ?_
 refine k_nil (k_seq (awp_seq ?_))
 refine w_cond hF4 ?_ ?_ <;> intro hc16 hF5
 refine awp_lenT 47 (fun hb17 => ?_)
 refine awp_skip (k_seq (awp_seq (awp_block (awp_seq (awp_region ?_)))))
 obtain ⟨v18, hv18, hF6⟩ := bind_some' hF5
 refine s_ixT Form.row hv18 (Form.row_eq _) yE32 ?_
 refine s_ldN yA34 yS34 ?_
 refine s_alloc yZ34 ?_
 refine s_stW yS34 ?_
 refine k_nil (k_seq (awp_region ?_))
 refine s_mv ?_
 refine s_ldW yA34 yS34 ?_
 obtain ⟨v19, hv19, hF7⟩ := bind_some' hF6
 refine s_call [(9203, 2055), (9204, 12055)] [] _ _ (m_impl_copyForm_D_ok fu _ _ hv19) ?_
 refine s_bsD [.sc (.int .i64 v19.kind), .sc (.str v19.name), .sc (.int .i64 v19.n), .any, .any] [(0, 3, 2055), (0, 4, 12055)] yP32 ?_
 obtain ⟨hk20, hF8⟩ := chk_some hF7
 refine s_apH (Form.rowD 3 34) [(g13.length, 3, 2055), (g13.length, 4, 12055)] hk20 yP32 ?_
 refine s_as ?_
 refine k_nil (k_blk (k_seq ?_))
 refine awp_jaA 57 2055 [.sc (.int .i64 v19.kind), .sc (.str v19.name), .sc (.int .i64 v19.n), .ow 3 (v19.scopes.map rI), .any] ?_
 refine awp_jaD 57 12055 [.sc (.int .i64 v19.kind), .sc (.str v19.name), .sc (.int .i64 v19.n), .ow 3 (v19.scopes.map rI), .ow 34 (v19.kids.map (Form.rowD 3 34))] ?_
 refine awp_naH 57 (row := (Form.rowD 3 34)) (fs := [.sc (.int .i64 v19.kind), .sc (.str v19.name), .sc (.int .i64 v19.n), .ow 3 (v19.scopes.map rI), .ow 34 (v19.kids.map (Form.rowD 3 34))]) v19 (Form.rowDE _ _ _) ?_
 refine awp_region ?_
 refine s_add (winc2 hc16 hb17 hn_g14) ?_
 refine s_mv ?_
 refine k_nil ?_
 exact s_rn (fu, (g13 ++ [v19]), (g14 + 1)) ⟨by first | omega | (dsimp only; omega), hF8, by first | omega | (dsimp only; omega)⟩ [(5060, 57)]
 refine awp_exit (k_seq_exit (k_rnd_exit2 (k_blk_exit ?_)))
 exact s_jn (fu, g13) ⟨by first | omega | (dsimp only; omega), hF5⟩
 clear hF2
 rintro ⟨fu, g21⟩ ⟨hl22, hF3⟩
 dsimp only at hl22 hF3 ⊢
 obtain _ | fu := fu
 · rw [m_impl_ParseRules_j2] at hF3; cases hF3
 rw [m_impl_ParseRules_j2] at hF3
 refine awp_jn (α := Nat × (List Rule)) [2, 3, 4, 6, 10, 59, 60, 61, 62, 63, 64, 65, 66, 67, 68, 69, 70, 71, 72, 73, 74, 75, 76, 77, 78, 79, 80, 81, 82, 83, 84, 85, 86, 87, 88, 89, 90] [42, 5100] [] (fun a => [(6, .ar 5100)]) (fun a => [(42, .dead), (5100, .dar (a.2.map (Rule.rowD 3 34)) 105)]) (fun a => a.1 ≤ fu ∧ m_impl_ParseRules_j4 a.1 g21 a.2 = some r) ?_ ?_
 refine awp_seq (awp_region ?_)
 refine s_fa yF34_4 ?_
 refine s_ld1 yA32 ?_
 obtain ⟨v23, hv23, hF4⟩ := bind_some' hF3
 refine s_sl10 Form.row (fun y => Form.row_len y) hv23 yU32 yE32 ?_
 refine s_lenT yU32 ?_
 refine s_mv ?_
 refine k_nil (k_seq (awp_block ?_))
 refine awp_mvD 6 42 5100 (by conv => lhs; whnf) (by conv => lhs; whnf) rfl ?_
 refine awp_frame2 [2, 3, 4, 6, 10, 63, 64, 65, 66, 67, 68, 69, 70, 71, 72, 73, 74, 75, 76, 77, 78, 79, 80, 81, 82, 83, 84, 85, 86, 87, 88, 89, 90] [5100] [10, 88, 89, 2081, 2086, 12081, 12086] [5100] (fun a : Nat × (List Rule) × Int => a.1) (fun a : Nat × (List Rule) × Int => [(6, .ar 5100), (63, .t (.sc (.int .i64 a.2.2)))]) (fun a : Nat × (List Rule) × Int => [(5100, .dar (a.2.1.map (Rule.rowD 3 34)) 105)]) (fun a : Nat × (List Rule) × Int => a.1 ≤ fu ∧ m_impl_ParseRules_l5 a.1 g21 v23 a.2.1 a.2.2 = some r ∧ 0 ≤ a.2.2) (fu, ([] : List Rule), 0) ⟨Nat.le_refl _, hF4, by simp⟩ (by rfl) (by rfl) (fun _ => rfl) (hasF_cons (by conv => lhs; whnf) (by rfl) (hasF_cons (by conv => lhs; whnf) (by rfl) hasF_nil)) (hasO_cons (by conv => lhs; whnf) (by rfl) hasO_nil) (fresh_C hC rfl) (by repeat (first | exact freshS_args rfl | refine freshS_upd rfl ?_ | refine freshS_frame rfl ?_)) (by repeat (first | exact freshM_no | exact objs_fresh rfl | refine freshM_upd rfl ?_ | refine freshM_frame rfl ?_)) ?_
 clear hF4
 rintro ⟨fu, g24, g25⟩ ⟨hl26, hF5, hn_g25⟩
 dsimp only at hl26 hF5 hn_g25 ⊢
 obtain _ | fu := fu
 · rw [m_impl_ParseRules_l5] at hF5; cases hF5
 rw [m_impl_ParseRules_l5] at hF5
 refine awp_seq (awp_region ?_)
 refine s_lt ?_
 refine k_nil (k_seq (awp_seq ?_))
 refine w_cond hF5 ?_ ?_ <;> intro hc27 hF6
 refine awp_lenT 61 (fun hb28 => ?_)
 refine awp_skip (k_seq (awp_seq (awp_block (awp_seq (awp_region ?_)))))
 obtain ⟨v29, hv29, hF7⟩ := bind_some' hF6
 refine s_ixT Form.row hv29 (Form.row_eq _) yE32 ?_
 refine s_ldN yA34 yS34 ?_
 refine s_alloc yZ34 ?_
 refine s_stW yS34 ?_
 refine k_nil (k_seq (awp_seq ?_))
 refine awp_jn (α := Nat × Bool) [67, 68, 69, 70, 71, 72, 73, 74, 75] [] [] (fun a => [(75, .t (.sc (.bool a.2)))]) (fun a => []) (fun a => a.1 ≤ fu ∧ m_impl_ParseRules_j6 a.1 g21 v23 g24 g25 v29 a.2 = some r) ?_ ?_
 refine awp_region ?_
 refine s_fa yF34_0 ?_
 refine s_ld1 yA3 ?_
 refine s_ne ?_
 refine s_mv ?_
 refine w_guard _ 70 hF7 ?_ ?_ <;> intro hc30 hF8
 iterate 4 refine r_no rfl ?_
 refine s_pkt ?_
 refine k_nil ?_
 exact s_jn (fu, true) ⟨by first | omega | (dsimp only; omega), hF8⟩
 refine s_fa yF34_4 ?_
 refine s_ld1 yA32 ?_
 refine s_lenT yU32 ?_
 refine s_ne ?_
 refine s_pkf ?_
 refine k_nil ?_
 exact s_jn (fu, (decide ((v29.kids.length : Int) ≠ 2))) ⟨by first | omega | (dsimp only; omega), hF8⟩
 clear hF7
 rintro ⟨fu, g31⟩ ⟨hl32, hF8⟩
 dsimp only at hl32 hF8 ⊢
 obtain _ | fu := fu
 · rw [m_impl_ParseRules_j6] at hF8; cases hF8
 rw [m_impl_ParseRules_j6] at hF8
 refine w_cond hF8 ?_ ?_ <;> intro hc33 hF9
 refine awp_seq (awp_region ?_)
 iterate 3 refine s_as ?_
 refine k_nil (k_seq ?_)
 refine awp_own 2 9200 34 yI34.choose_spec ?_
 refine awp_toD 9200 (Form.rowD 3 34) (es := ([] : List Form).map Form.row) (by (conv => lhs; whnf) <;> rfl) rfl ?_
 refine awp_own 3 9300 105 yI105.choose_spec ?_
 refine awp_toD 9300 (Rule.rowD 3 34) (es := ([] : List Rule).map Rule.row) (by (conv => lhs; whnf) <;> rfl) rfl ?_
 refine awp_ret (k_seq_ret (k_blk_ret (k_seq_ret (k_rnd_ret2 (k_blk_ret (k_jn_ret (k_fin ?_)))))))
 cases hF9
 exact ends_a _ [] Try.results57
 refine awp_skip (k_seq ?_)
 refine awp_draw yMix (by kernel_rfl) ?_
 refine s_mv0 ?_
 refine s_fa yF34_4 ?_
 refine s_ld1 yA32 ?_
 obtain ⟨v34, hv34, hF10⟩ := bind_some' hF9
 refine s_ixT Form.row hv34 (Form.row_eq _) yE32 ?_
 refine s_ldN yA34 yS34 ?_
 obtain ⟨v35, hv35, hF11⟩ := bind_some' hF10
 refine s_call [(9203, 2081), (9204, 12081)] [] _ _ (m_impl_copyForm_D_ok fu _ _ hv35) ?_
 refine s_fa yF34_4 ?_
 refine s_ld1 yA32 ?_
 obtain ⟨v36, hv36, hF12⟩ := bind_some' hF11
 refine s_ixT Form.row hv36 (Form.row_eq _) yE32 ?_
 refine s_ldN yA34 yS34 ?_
 obtain ⟨v37, hv37, hF13⟩ := bind_some' hF12
 refine s_call [(9203, 2086), (9204, 12086)] [] _ _ (m_impl_copyForm_D_ok fu _ _ hv37) ?_
 refine s_bld yZ105 yL105 ?_
 refine s_bsD [.sc (.int .i64 v35.kind), .sc (.str v35.name), .sc (.int .i64 v35.n), .any, .any, .sc (.int .i64 v37.kind), .sc (.str v37.name), .sc (.int .i64 v37.n), .any, .any] [(0, 3, 2081), (0, 4, 12081), (0, 8, 2086), (0, 9, 12086)] yP48 ?_
 obtain ⟨hk38, hF14⟩ := chk_some hF13
 refine s_apH (Rule.rowD 3 34) [(g24.length, 3, 2081), (g24.length, 4, 12081), (g24.length, 8, 2086), (g24.length, 9, 12086)] hk38 yP48 ?_
 refine s_as ?_
 refine k_nilD (by kernel_rfl) ?_
 refine k_blk (k_seq ?_)
 refine awp_jaA 89 2081 [.sc (.int .i64 v35.kind), .sc (.str v35.name), .sc (.int .i64 v35.n), .ow 3 (v35.scopes.map rI), .any, .sc (.int .i64 v37.kind), .sc (.str v37.name), .sc (.int .i64 v37.n), .any, .any] ?_
 refine awp_jaD 89 12081 [.sc (.int .i64 v35.kind), .sc (.str v35.name), .sc (.int .i64 v35.n), .ow 3 (v35.scopes.map rI), .ow 34 (v35.kids.map (Form.rowD 3 34)), .sc (.int .i64 v37.kind), .sc (.str v37.name), .sc (.int .i64 v37.n), .any, .any] ?_
 refine awp_jaA 89 2086 [.sc (.int .i64 v35.kind), .sc (.str v35.name), .sc (.int .i64 v35.n), .ow 3 (v35.scopes.map rI), .ow 34 (v35.kids.map (Form.rowD 3 34)), .sc (.int .i64 v37.kind), .sc (.str v37.name), .sc (.int .i64 v37.n), .ow 3 (v37.scopes.map rI), .any] ?_
 refine awp_jaD 89 12086 [.sc (.int .i64 v35.kind), .sc (.str v35.name), .sc (.int .i64 v35.n), .ow 3 (v35.scopes.map rI), .ow 34 (v35.kids.map (Form.rowD 3 34)), .sc (.int .i64 v37.kind), .sc (.str v37.name), .sc (.int .i64 v37.n), .ow 3 (v37.scopes.map rI), .ow 34 (v37.kids.map (Form.rowD 3 34))] ?_
 refine awp_naH 89 (row := (Rule.rowD 3 34)) (fs := [.sc (.int .i64 v35.kind), .sc (.str v35.name), .sc (.int .i64 v35.n), .ow 3 (v35.scopes.map rI), .ow 34 (v35.kids.map (Form.rowD 3 34)), .sc (.int .i64 v37.kind), .sc (.str v37.name), .sc (.int .i64 v37.n), .ow 3 (v37.scopes.map rI), .ow 34 (v37.kids.map (Form.rowD 3 34))]) (Rule.mk v35 v37) (Rule.rowDE _ _ _) ?_
 refine awp_region ?_
 refine s_add (winc2 hc27 hb28 hn_g25) ?_
 refine s_mv ?_
 refine k_nil ?_
 exact s_rn (fu, (g24 ++ [(Rule.mk v35 v37)]), (g25 + 1)) ⟨by first | omega | (dsimp only; omega), hF14, by first | omega | (dsimp only; omega)⟩ [(5100, 89)]
 refine awp_exit (k_seq_exit (k_rnd_exit2 (k_blk_exit ?_)))
 exact s_jn (fu, g24) ⟨by first | omega | (dsimp only; omega), hF6⟩
 clear hF3
 rintro ⟨fu, g39⟩ ⟨hl40, hF4⟩
 dsimp only at hl40 hF4 ⊢
 obtain _ | fu := fu
 · rw [m_impl_ParseRules_j4] at hF4; cases hF4
 rw [m_impl_ParseRules_j4] at hF4
 refine awp_seq (awp_seq (awp_region ?_))
 refine s_mv ?_
 refine s_mv ?_
 obtain ⟨v41, hv41, hF5⟩ := bind_some' hF4
 refine s_call [(9700, 5100), (9701, 5060)] [] [(9700, .dar (g39.map (Rule.rowD 3 34)) 105), (9701, .dar (g21.map (Form.rowD 3 34)) 34)] [(9700, .dar (g39.map (Rule.rowD 3 34)) 105), (9701, .dar (g21.map (Form.rowD 3 34)) 34)] (ac_lend (args := [.ar 9700, .ar 9701]) [(9700, .dar (g39.map (Rule.rowD 3 34)) 105), (9701, .dar (g21.map (Form.rowD 3 34)) 34)] [] (m_impl_rulesOk_ok fu _ _ _ hv41) rfl (by simp only [V.lendL, V.lend, objs_cons, objs_nil, Nat.reduceEqDiff, reduceIte, if_true, if_false, Form.lendM, Core.lendM, Hit.lendM, Rule.lendM, Bind.lendM, Macro.lendM]; try rfl) (by rfl) (by rfl) (by rfl) (by rfl) (by simp only [List.all_cons, List.all_nil, Ob.flat, flat_rI, flat_rS, Form.flatM, Core.flatM, Hit.flatM, Rule.flatM, Bind.flatM, Macro.flatM, Bool.and_self, Bool.true_and]) (by rfl)) ?_
 refine s_not ?_
 refine k_nil (k_seq ?_)
 refine w_cond hF5 ?_ ?_ <;> intro hc42 hF6
 refine awp_seq (awp_region ?_)
 iterate 3 refine s_as ?_
 refine k_nil (k_seq ?_)
 refine awp_own 2 9200 34 yI34.choose_spec ?_
 refine awp_toD 9200 (Form.rowD 3 34) (es := ([] : List Form).map Form.row) (by (conv => lhs; whnf) <;> rfl) rfl ?_
 refine awp_own 3 9300 105 yI105.choose_spec ?_
 refine awp_toD 9300 (Rule.rowD 3 34) (es := ([] : List Rule).map Rule.row) (by (conv => lhs; whnf) <;> rfl) rfl ?_
 refine awp_ret (k_seq_ret (k_fin ?_))
 cases hF6
 exact ends_a _ [] Try.results57
 refine awp_skip (k_seq (awp_seq (awp_region ?_)))
 refine s_mv ?_
 refine s_mv ?_
 iterate 3 refine s_as ?_
 refine k_nil (k_seq ?_)
 refine awp_mvD 2 5060 9200 (by conv => lhs; whnf) (by conv => lhs; whnf) rfl ?_
 refine awp_mvD 3 5100 9300 (by conv => lhs; whnf) (by conv => lhs; whnf) rfl ?_
 refine awp_ret (k_fin ?_)
 cases hF6
 exact ends_a _ [] Try.results57
def m_laws_heldRuleS_AC (fuel : Nat) : Prop := ∀ (x1 : (List Rule)) (x2 : Int) (r : Int), m_laws_heldRuleS fuel x1 x2 = some r → AC Try.prog 58 [.t (.sl (x1.map Rule.row)), .t (.sc (.int .i64 x2))] noOb (.t (.sc (.int .i64 r))) noOb
theorem m_laws_heldRuleS_ok (fuel : Nat) : m_laws_heldRuleS_AC fuel := by
 intro x1 x2 r hF0
 unfold m_laws_heldRuleS at hF0
 refine AC_i [.t (.sc (.int .i64 r))] Try.func58 rfl Try.ntmps58 ?_
 intro C hC
 refine awp_seq (awp_region ?_)
 refine s_as ?_
 refine k_nil (k_seq (awp_seq (awp_seq (awp_region ?_))))
 refine s_as ?_
 refine k_nil (k_seq (awp_block ?_))
 refine awp_fr (β := Int × Int) [1, 4, 5, 6, 7, 8, 9, 10, 11, 12, 13, 14, 15, 16, 17, 18, 19, 20, 21, 22, 23, 24, 25, 26, 27, 28, 29, 30, 31, 32, 33, 34, 35, 36, 37, 38, 39, 40, 41, 42, 43, 44, 45, 46, 47, 48, 49, 50, 51, 52, 53, 54, 55, 56, 57, 58, 59, 60, 61, 62, 63, 64, 65, 66, 67, 68, 69, 70, 71, 72, 73, 74, 75, 76, 77, 78, 79, 80, 81, 82, 83, 84, 85, 86, 87, 88, 89, 90, 91, 92, 93, 94, 95, 96, 97, 98, 99, 100, 101, 102, 103, 104, 105, 106, 107, 108, 109, 110, 111, 112, 113] [] [] (fun a => [(1, .t (.sc (.int .i64 a.2.1))), (5, .t (.sc (.int .i64 a.2.2)))]) (fun a => []) (fun a => a.1 ≤ fuel ∧ m_laws_heldRuleS_l1 a.1 x1 a.2.1 a.2.2 = some r ∧ 0 ≤ a.2.2) (fuel, x2, 0) ⟨Nat.le_refl _, hF0, by simp⟩ ?_
 clear hF0
 rintro ⟨fu, g1, g2⟩ ⟨hl3, hF1, hn_g2⟩
 dsimp only at hl3 hF1 hn_g2 ⊢
 obtain _ | fu := fu
 · rw [m_laws_heldRuleS_l1] at hF1; cases hF1
 rw [m_laws_heldRuleS_l1] at hF1
 refine awp_seq (awp_seq (awp_region ?_))
 refine s_mv ?_
 refine s_mv ?_
 refine s_lenT yU48 ?_
 refine s_lt ?_
 refine k_nil (k_seq ?_)
 refine w_cond hF1 ?_ ?_ <;> intro hc4 hF2
 refine awp_lenT 0 (fun hb5 => ?_)
 refine awp_skip (k_seq (awp_seq (awp_block (awp_seq (awp_seq (awp_region ?_))))))
 refine s_mv ?_
 refine s_mv ?_
 obtain ⟨v6, hv6, hF3⟩ := bind_some' hF2
 refine s_ixT Rule.row hv6 (Rule.row_eq _) yE48 ?_
 refine s_fa yF105_0 ?_
 refine s_fa yF34_0 ?_
 refine s_ld1 yA3 ?_
 refine s_mv ?_
 refine s_ne ?_
 refine k_nil (k_seq ?_)
 refine w_cond hF3 ?_ ?_ <;> intro hc7 hF4
 refine awp_seq (awp_region ?_)
 refine s_as ?_
 refine k_nil (k_seq (awp_ret (k_seq_ret (k_blk_ret (k_seq_ret (k_rnd_ret2 (k_blk_ret (k_seq_ret (k_fin ?_)))))))))
 cases hF4
 exact ends_a [] [] Try.results58
 refine awp_skip (k_seq (awp_seq (awp_region ?_)))
 refine s_mv ?_
 refine s_add rfl ?_
 refine s_as ?_
 refine k_nil (k_seq (awp_seq (awp_seq ?_)))
 refine awp_draw yMix (by kernel_rfl) ?_
 refine s_mv ?_
 refine s_mv ?_
 obtain ⟨v8, hv8, hF5⟩ := bind_some' hF4
 refine s_ixT Rule.row hv8 (Rule.row_eq _) yE48 ?_
 refine s_fa yF105_0 ?_
 refine s_fa yF34_1 ?_
 refine s_ld1 yA9 ?_
 refine s_mv ?_
 obtain ⟨v9, hv9, hF6⟩ := bind_some' hF5
 refine s_pure [] (m_laws_markText_D_ok fu _ _ hv9) ?_
 refine s_neS ?_
 refine k_nilD (by kernel_rfl) ?_
 refine k_seq ?_
 refine w_cond hF6 ?_ ?_ <;> intro hc10 hF7
 refine awp_seq (awp_region ?_)
 refine s_as ?_
 refine k_nil (k_seq (awp_ret (k_seq_ret (k_blk_ret (k_seq_ret (k_rnd_ret2 (k_blk_ret (k_seq_ret (k_fin ?_)))))))))
 cases hF7
 exact ends_a [] [] Try.results58
 refine awp_skip (k_seq (awp_seq (awp_region ?_)))
 refine s_mv ?_
 refine s_add rfl ?_
 refine s_as ?_
 refine k_nil (k_seq (awp_seq (awp_seq (awp_region ?_))))
 refine s_mv ?_
 refine s_mv ?_
 obtain ⟨v11, hv11, hF8⟩ := bind_some' hF7
 refine s_ixT Rule.row hv11 (Rule.row_eq _) yE48 ?_
 refine s_fa yF105_0 ?_
 refine s_fa yF34_2 ?_
 refine s_ld1 yA3 ?_
 refine s_mv ?_
 refine s_ne ?_
 refine k_nil (k_seq ?_)
 refine w_cond hF8 ?_ ?_ <;> intro hc12 hF9
 refine awp_seq (awp_region ?_)
 refine s_as ?_
 refine k_nil (k_seq (awp_ret (k_seq_ret (k_blk_ret (k_seq_ret (k_rnd_ret2 (k_blk_ret (k_seq_ret (k_fin ?_)))))))))
 cases hF9
 exact ends_a [] [] Try.results58
 refine awp_skip (k_seq (awp_seq (awp_region ?_)))
 refine s_mv ?_
 refine s_add rfl ?_
 refine s_as ?_
 refine k_nil (k_seq (awp_seq (awp_region ?_)))
 refine s_mv ?_
 refine s_mv ?_
 obtain ⟨v13, hv13, hF10⟩ := bind_some' hF9
 refine s_ixT Rule.row hv13 (Rule.row_eq _) yE48 ?_
 refine s_fa yF105_0 ?_
 refine s_fa yF34_3 ?_
 refine s_ld1 yA22 ?_
 refine s_mv ?_
 obtain ⟨v14, hv14, hF11⟩ := bind_some' hF10
 refine s_pure [] (m_laws_heldIntS_ok fu _ _ _ hv14) ?_
 refine s_as ?_
 refine k_nil (k_seq (awp_seq (awp_seq (awp_region ?_))))
 refine s_mv ?_
 refine s_lt ?_
 refine k_nil (k_seq ?_)
 refine w_cond hF11 ?_ ?_ <;> intro hc15 hF12
 refine awp_seq (awp_region ?_)
 refine s_as ?_
 refine k_nil (k_seq (awp_ret (k_seq_ret (k_blk_ret (k_seq_ret (k_rnd_ret2 (k_blk_ret (k_seq_ret (k_fin ?_)))))))))
 cases hF12
 exact ends_a [] [] Try.results58
 refine awp_skip (k_seq (awp_seq (awp_region ?_)))
 refine s_mv ?_
 refine s_mv ?_
 obtain ⟨v16, hv16, hF13⟩ := bind_some' hF12
 refine s_ixT Rule.row hv16 (Rule.row_eq _) yE48 ?_
 refine s_fa yF105_0 ?_
 refine s_fa yF34_4 ?_
 refine s_ld1 yA32 ?_
 refine s_mv ?_
 obtain ⟨v17, hv17, hF14⟩ := bind_some' hF13
 refine s_pure [] (m_laws_heldFormS_ok fu _ _ _ hv17) ?_
 refine s_as ?_
 refine k_nil (k_seq (awp_seq (awp_seq (awp_region ?_))))
 refine s_mv ?_
 refine s_lt ?_
 refine k_nil (k_seq ?_)
 refine w_cond hF14 ?_ ?_ <;> intro hc18 hF15
 refine awp_seq (awp_region ?_)
 refine s_as ?_
 refine k_nil (k_seq (awp_ret (k_seq_ret (k_blk_ret (k_seq_ret (k_rnd_ret2 (k_blk_ret (k_seq_ret (k_fin ?_)))))))))
 cases hF15
 exact ends_a [] [] Try.results58
 refine awp_skip (k_seq (awp_seq (awp_seq (awp_region ?_))))
 refine s_mv ?_
 refine s_mv ?_
 obtain ⟨v19, hv19, hF16⟩ := bind_some' hF15
 refine s_ixT Rule.row hv19 (Rule.row_eq _) yE48 ?_
 refine s_fa yF105_1 ?_
 refine s_fa yF34_0 ?_
 refine s_ld1 yA3 ?_
 refine s_mv ?_
 refine s_ne ?_
 refine k_nil (k_seq ?_)
 refine w_cond hF16 ?_ ?_ <;> intro hc20 hF17
 refine awp_seq (awp_region ?_)
 refine s_as ?_
 refine k_nil (k_seq (awp_ret (k_seq_ret (k_blk_ret (k_seq_ret (k_rnd_ret2 (k_blk_ret (k_seq_ret (k_fin ?_)))))))))
 cases hF17
 exact ends_a [] [] Try.results58
 refine awp_skip (k_seq (awp_seq (awp_region ?_)))
 refine s_mv ?_
 refine s_add rfl ?_
 refine s_as ?_
 refine k_nil (k_seq (awp_seq (awp_seq ?_)))
 refine awp_draw yMix (by kernel_rfl) ?_
 refine s_mv ?_
 refine s_mv ?_
 obtain ⟨v21, hv21, hF18⟩ := bind_some' hF17
 refine s_ixT Rule.row hv21 (Rule.row_eq _) yE48 ?_
 refine s_fa yF105_1 ?_
 refine s_fa yF34_1 ?_
 refine s_ld1 yA9 ?_
 refine s_mv ?_
 obtain ⟨v22, hv22, hF19⟩ := bind_some' hF18
 refine s_pure [] (m_laws_markText_D_ok fu _ _ hv22) ?_
 refine s_neS ?_
 refine k_nilD (by kernel_rfl) ?_
 refine k_seq ?_
 refine w_cond hF19 ?_ ?_ <;> intro hc23 hF20
 refine awp_seq (awp_region ?_)
 refine s_as ?_
 refine k_nil (k_seq (awp_ret (k_seq_ret (k_blk_ret (k_seq_ret (k_rnd_ret2 (k_blk_ret (k_seq_ret (k_fin ?_)))))))))
 cases hF20
 exact ends_a [] [] Try.results58
 refine awp_skip (k_seq (awp_seq (awp_region ?_)))
 refine s_mv ?_
 refine s_add rfl ?_
 refine s_as ?_
 refine k_nil (k_seq (awp_seq (awp_seq (awp_region ?_))))
 refine s_mv ?_
 refine s_mv ?_
 obtain ⟨v24, hv24, hF21⟩ := bind_some' hF20
 refine s_ixT Rule.row hv24 (Rule.row_eq _) yE48 ?_
 refine s_fa yF105_1 ?_
 refine s_fa yF34_2 ?_
 refine s_ld1 yA3 ?_
 refine s_mv ?_
 refine s_ne ?_
 refine k_nil (k_seq ?_)
 refine w_cond hF21 ?_ ?_ <;> intro hc25 hF22
 refine awp_seq (awp_region ?_)
 refine s_as ?_
 refine k_nil (k_seq (awp_ret (k_seq_ret (k_blk_ret (k_seq_ret (k_rnd_ret2 (k_blk_ret (k_seq_ret (k_fin ?_)))))))))
 cases hF22
 exact ends_a [] [] Try.results58
 refine awp_skip (k_seq (awp_seq (awp_region ?_)))
 refine s_mv ?_
 refine s_add rfl ?_
 refine s_as ?_
 refine k_nil (k_seq (awp_seq (awp_region ?_)))
 refine s_mv ?_
 refine s_mv ?_
 obtain ⟨v26, hv26, hF23⟩ := bind_some' hF22
 refine s_ixT Rule.row hv26 (Rule.row_eq _) yE48 ?_
 refine s_fa yF105_1 ?_
 refine s_fa yF34_3 ?_
 refine s_ld1 yA22 ?_
 refine s_mv ?_
 obtain ⟨v27, hv27, hF24⟩ := bind_some' hF23
 refine s_pure [] (m_laws_heldIntS_ok fu _ _ _ hv27) ?_
 refine s_as ?_
 refine k_nil (k_seq (awp_seq (awp_seq (awp_region ?_))))
 refine s_mv ?_
 refine s_lt ?_
 refine k_nil (k_seq ?_)
 refine w_cond hF24 ?_ ?_ <;> intro hc28 hF25
 refine awp_seq (awp_region ?_)
 refine s_as ?_
 refine k_nil (k_seq (awp_ret (k_seq_ret (k_blk_ret (k_seq_ret (k_rnd_ret2 (k_blk_ret (k_seq_ret (k_fin ?_)))))))))
 cases hF25
 exact ends_a [] [] Try.results58
 refine awp_skip (k_seq (awp_seq (awp_region ?_)))
 refine s_mv ?_
 refine s_mv ?_
 obtain ⟨v29, hv29, hF26⟩ := bind_some' hF25
 refine s_ixT Rule.row hv29 (Rule.row_eq _) yE48 ?_
 refine s_fa yF105_1 ?_
 refine s_fa yF34_4 ?_
 refine s_ld1 yA32 ?_
 refine s_mv ?_
 obtain ⟨v30, hv30, hF27⟩ := bind_some' hF26
 refine s_pure [] (m_laws_heldFormS_ok fu _ _ _ hv30) ?_
 refine s_as ?_
 refine k_nil (k_seq (awp_seq (awp_region ?_)))
 refine s_mv ?_
 refine s_lt ?_
 refine k_nil (k_seq ?_)
 refine w_cond hF27 ?_ ?_ <;> intro hc31 hF28
 refine awp_seq (awp_region ?_)
 refine s_as ?_
 refine k_nil (k_seq (awp_ret (k_blk_ret (k_seq_ret (k_rnd_ret2 (k_blk_ret (k_seq_ret (k_fin ?_))))))))
 cases hF28
 exact ends_a [] [] Try.results58
 refine awp_skip (k_blk (k_seq (awp_region ?_)))
 refine s_mv ?_
 refine s_add (winc2 hc4 hb5 hn_g2) ?_
 refine s_as ?_
 refine k_nil ?_
 exact s_rn (fu, v30, (g2 + 1)) ⟨by first | omega | (dsimp only; omega), hF28, by first | omega | (dsimp only; omega)⟩
 refine awp_exit (k_seq_exit (k_rnd_exit2 (k_blk_exit (k_seq (awp_seq (awp_region ?_))))))
 refine s_mv ?_
 refine s_as ?_
 refine k_nil (k_seq (awp_ret (k_fin ?_)))
 cases hF2
 exact ends_a [] [] Try.results58
end Go.Abs
