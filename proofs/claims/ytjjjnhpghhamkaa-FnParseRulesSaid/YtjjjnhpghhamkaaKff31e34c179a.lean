/- A part of the proof: what the functions that the law calls answer, as pure values. -/
import Derived.Test.YtjjjnhpghhamkaaK3d4d6f5cdb86
import Derived.Test.YtjjjnhpghhamkaaK6768171cf41d
import Derived.Test.YtjjjnhpghhamkaaKb370a85aa8ee
import Derived.Test.YtjjjnhpghhamkaaKd06de30dae8d
import Derived.Test.YtjjjnhpghhamkaaKdf7d0822b09c
import Derived.Test.YtjjjnhpghhamkaaKfd4ed9e1c77a
set_option linter.unusedSimpArgs false
set_option linter.unusedVariables false
set_option maxRecDepth 100000
set_option maxHeartbeats 4000000
namespace Go.Abs
open Go.Proofs
def m_impl_RuleValid_AC (fuel : Nat) : Prop := ∀ (x1 : Rule) (x2 : (List Form)) (r : Bool), m_impl_RuleValid fuel x1 x2 = some r → AC Try.prog 15 [.ag [.t (.sc (.int .i64 x1.pattern.kind)), .t (.sc (.str x1.pattern.name)), .t (.sc (.int .i64 x1.pattern.n)), .t (.sl (x1.pattern.scopes.map rI)), .t (.sl (x1.pattern.kids.map Form.row)), .t (.sc (.int .i64 x1.template.kind)), .t (.sc (.str x1.template.name)), .t (.sc (.int .i64 x1.template.n)), .t (.sl (x1.template.scopes.map rI)), .t (.sl (x1.template.kids.map Form.row))], .t (.sl (x2.map Form.row))] noOb (.t (.sc (.bool r))) noOb
theorem m_impl_RuleValid_ok (fuel : Nat) : m_impl_RuleValid_AC fuel := by
 intro x1 x2 r hF0
 unfold m_impl_RuleValid at hF0
 refine AC_i [.t (.sc (.bool r))] Try.func15 rfl Try.ntmps15 ?_
 intro C hC
 refine awp_seq (awp_region ?_)
 refine s_box ?_
 refine s_as ?_
 refine k_nil (k_seq (awp_seq (awp_seq (awp_region ?_))))
 refine s_fa yF44_0 ?_
 refine s_ldN yA27 yS27 ?_
 refine s_mv ?_
 obtain ⟨v1, hv1, hF1⟩ := bind_some' hF0
 refine s_pure [] (m_impl_PatternValid_ok fuel _ _ _ hv1) ?_
 refine s_not ?_
 refine s_mv ?_
 refine w_guard _ 12 hF1 ?_ ?_ <;> intro hc2 hF2
 iterate 4 refine r_no rfl ?_
 refine s_pkt ?_
 refine s_mv ?_
 iterate 5 refine r_no rfl ?_
 refine s_pkt ?_
 refine k_nil (k_seq (awp_true rfl (awp_seq (awp_region ?_))))
 refine s_as ?_
 refine k_nil (k_seq (awp_ret (k_seq_ret (k_fin ?_))))
 cases hF2
 exact ends_a [] [] Try.results15
 refine s_fa yF44_0 ?_
 refine s_fa yF27_0 ?_
 refine s_ld1 yA3 ?_
 refine s_ne ?_
 refine s_pkf ?_
 refine s_mv ?_
 refine w_guard _ 18 hF2 ?_ ?_ <;> intro hc3 hF3
 iterate 5 refine r_no rfl ?_
 refine s_pkt ?_
 refine k_nil (k_seq (awp_true rfl (awp_seq (awp_region ?_))))
 refine s_as ?_
 refine k_nil (k_seq (awp_ret (k_seq_ret (k_fin ?_))))
 cases hF3
 exact ends_a [] [] Try.results15
 refine s_fa yF44_0 ?_
 refine s_fa yF27_4 ?_
 refine s_ld1 yA25 ?_
 refine s_lenT yU25 ?_
 refine s_eq ?_
 refine s_pkf ?_
 refine k_nil (k_seq ?_)
 refine w_cond hF3 ?_ ?_ <;> intro hc4 hF4
 refine awp_seq (awp_region ?_)
 refine s_as ?_
 refine k_nil (k_seq (awp_ret (k_seq_ret (k_fin ?_))))
 cases hF4
 exact ends_a [] [] Try.results15
 refine awp_skip (k_seq (awp_seq (awp_region ?_)))
 refine s_fa yF44_0 ?_
 refine s_ldN yA27 yS27 ?_
 refine s_mv ?_
 obtain ⟨v5, hv5, hF5⟩ := bind_some' hF4
 refine s_call [(9200, 2029)] [] _ _ (m_impl_varsOf_ok fuel _ _ _ hv5) ?_
 refine s_mv ?_
 refine s_ext ?_
 refine s_ext ?_
 refine s_as ?_
 refine s_as ?_
 refine k_nil (k_seq (awp_seq (awp_region ?_)))
 refine s_fa yF44_1 ?_
 refine s_ldN yA27 yS27 ?_
 refine s_mv ?_
 refine s_mv ?_
 obtain ⟨v6, hv6, hF6⟩ := bind_some' hF5
 refine s_pure [2029] (m_impl_templateOk_ok fuel _ _ _ _ hv6) ?_
 refine s_as ?_
 refine k_nil (k_seq (awp_ret (k_fin ?_)))
 cases hF6
 exact ends_a [] [] Try.results15
def m_impl_rulesOk_1_AC (fuel : Nat) : Prop := ∀ (x1 : Rule) (o1 : (List Form)) (r : Bool), m_impl_rulesOk_1 fuel x1 o1 = some r → AC Try.prog 80 [.ag [.t (.sc (.int .i64 x1.pattern.kind)), .t (.sc (.str x1.pattern.name)), .t (.sc (.int .i64 x1.pattern.n)), .t (.sl (x1.pattern.scopes.map rI)), .t (.sl (x1.pattern.kids.map Form.row)), .t (.sc (.int .i64 x1.template.kind)), .t (.sc (.str x1.template.name)), .t (.sc (.int .i64 x1.template.n)), .t (.sl (x1.template.scopes.map rI)), .t (.sl (x1.template.kids.map Form.row))], .rf 9000 0] (objs [(9000, .box [.t (.sl (o1.map Form.row))])]) (.t (.sc (.bool r))) (objs [(9000, .box [.t (.sl (o1.map Form.row))])])
theorem m_impl_rulesOk_1_ok (fuel : Nat) : m_impl_rulesOk_1_AC fuel := by
 intro x1 o1 r hF0
 unfold m_impl_rulesOk_1 at hF0
 refine AC_i [.t (.sc (.bool r))] Try.func80 rfl Try.ntmps80 ?_
 intro C hC
 refine awp_seq (awp_region ?_)
 refine s_box ?_
 refine s_as ?_
 refine k_nil (k_seq (awp_seq (awp_region ?_)))
 refine s_ldW yA44 yS44 ?_
 refine s_ld1 yA25 ?_
 obtain ⟨v1, hv1, hF1⟩ := bind_some' hF0
 refine s_pure [] (m_impl_RuleValid_ok fuel _ _ _ hv1) ?_
 refine s_not ?_
 refine s_as ?_
 refine k_nil (k_seq (awp_ret (k_fin ?_)))
 cases hF1
 exact ends_a _ [] Try.results80
def m_slices_IndexFunc_Rule_rulesOk_1_AC (fuel : Nat) : Prop := ∀ (x1 : (List Rule)) (o1 : (List Form)) (r : Int), m_slices_IndexFunc_Rule_rulesOk_1 fuel x1 o1 = some r → AC Try.prog 99 [.t (.sl (x1.map Rule.row)), .fn 80 [.rf 9000 0]] (objs [(9000, .box [.t (.sl (o1.map Form.row))])]) (.t (.sc (.int .i64 r))) (objs [(9000, .box [.t (.sl (o1.map Form.row))])])
theorem m_slices_IndexFunc_Rule_rulesOk_1_ok (fuel : Nat) : m_slices_IndexFunc_Rule_rulesOk_1_AC fuel := by
 intro x1 o1 r hF0
 unfold m_slices_IndexFunc_Rule_rulesOk_1 at hF0
 refine AC_i [.t (.sc (.int .i64 r))] Try.func99 rfl Try.ntmps99 ?_
 intro C hC
 refine awp_seq (awp_region ?_)
 refine s_as ?_
 refine k_nil (k_seq (awp_seq (awp_seq (awp_region ?_))))
 refine s_mv ?_
 refine s_lenT yU38 ?_
 refine s_mv ?_
 refine k_nil (k_seq (awp_block ?_))
 refine awp_fr (β := Int) [4, 5, 8, 9, 10, 11, 12, 13, 14, 15, 16, 17, 18] [] [] (fun a => [(8, .t (.sc (.int .i64 a.2)))]) (fun a => []) (fun a => a.1 ≤ fuel ∧ m_slices_IndexFunc_Rule_rulesOk_1_l1 a.1 x1 o1 a.2 = some r ∧ 0 ≤ a.2) (fuel, 0) ⟨Nat.le_refl _, hF0, by simp⟩ ?_
 clear hF0
 rintro ⟨fu, g1⟩ ⟨hl2, hF1, hn_g1⟩
 dsimp only at hl2 hF1 hn_g1 ⊢
 obtain _ | fu := fu
 · rw [m_slices_IndexFunc_Rule_rulesOk_1_l1] at hF1; cases hF1
 rw [m_slices_IndexFunc_Rule_rulesOk_1_l1] at hF1
 refine awp_seq (awp_region ?_)
 refine s_lt ?_
 refine k_nil (k_seq (awp_seq ?_))
 refine w_cond hF1 ?_ ?_ <;> intro hc3 hF2
 refine awp_lenT 0 (fun hb4 => ?_)
 refine awp_skip (k_seq (awp_seq (awp_block (awp_seq (awp_region ?_)))))
 refine s_mv ?_
 refine s_as ?_
 refine k_nil (k_seq (awp_seq (awp_region ?_)))
 iterate 3 refine s_mv ?_
 obtain ⟨v5, hv5, hF3⟩ := bind_some' hF2
 refine s_ixT Rule.row hv5 (Rule.row_eq _) yE38 ?_
 refine s_ldN yA44 yS44 ?_
 obtain ⟨v6, hv6, hF4⟩ := bind_some' hF3
 refine s_call [(9000, 9000)] [] _ _ (m_impl_rulesOk_1_ok fu _ _ _ hv6) ?_
 refine k_nil (k_seq ?_)
 refine w_cond hF4 ?_ ?_ <;> intro hc7 hF5
 refine awp_seq (awp_region ?_)
 refine s_mv ?_
 refine s_as ?_
 refine k_nil (k_seq (awp_ret (k_blk_ret (k_seq_ret (k_rnd_ret2 (k_blk_ret (k_seq_ret (k_fin ?_))))))))
 cases hF5
 exact ends_a _ [] Try.results99
 refine awp_skip (k_blk (k_seq (awp_region ?_)))
 refine s_add (winc2 hc3 hb4 hn_g1) ?_
 refine s_mv ?_
 refine k_nil ?_
 exact s_rn (fu, (g1 + 1)) ⟨by first | omega | (dsimp only; omega), hF5, by first | omega | (dsimp only; omega)⟩
 refine awp_exit (k_seq_exit (k_rnd_exit2 (k_blk_exit (k_seq (awp_seq (awp_region ?_))))))
 refine s_as ?_
 refine k_nil (k_seq (awp_ret (k_fin ?_)))
 cases hF2
 exact ends_a _ [] Try.results99
def m_slices_ContainsFunc_Rule_rulesOk_1_AC (fuel : Nat) : Prop := ∀ (x1 : (List Rule)) (o1 : (List Form)) (r : Bool), m_slices_ContainsFunc_Rule_rulesOk_1 fuel x1 o1 = some r → AC Try.prog 79 [.t (.sl (x1.map Rule.row)), .fn 80 [.rf 9000 0]] (objs [(9000, .box [.t (.sl (o1.map Form.row))])]) (.t (.sc (.bool r))) (objs [(9000, .box [.t (.sl (o1.map Form.row))])])
theorem m_slices_ContainsFunc_Rule_rulesOk_1_ok (fuel : Nat) : m_slices_ContainsFunc_Rule_rulesOk_1_AC fuel := by
 intro x1 o1 r hF0
 unfold m_slices_ContainsFunc_Rule_rulesOk_1 at hF0
 refine AC_i [.t (.sc (.bool r))] Try.func79 rfl Try.ntmps79 ?_
 intro C hC
 refine awp_seq (awp_region ?_)
 refine s_as ?_
 refine k_nil (k_seq (awp_seq (awp_region ?_)))
 refine s_mv ?_
 refine s_mv ?_
 obtain ⟨v1, hv1, hF1⟩ := bind_some' hF0
 refine s_call [(9000, 9000)] [] _ _ (m_slices_IndexFunc_Rule_rulesOk_1_ok fuel _ _ _ hv1) ?_
 refine s_ge ?_
 refine s_as ?_
 refine k_nil (k_seq (awp_ret (k_fin ?_)))
 cases hF1
 exact ends_a _ [] Try.results79
def m_impl_rulesOk_AC (fuel : Nat) : Prop := ∀ (x1 : (List Rule)) (x2 : (List Form)) (r : Bool), m_impl_rulesOk fuel x1 x2 = some r → AC Try.prog 44 [.t (.sl (x1.map Rule.row)), .t (.sl (x2.map Form.row))] noOb (.t (.sc (.bool r))) noOb
theorem m_impl_rulesOk_ok (fuel : Nat) : m_impl_rulesOk_AC fuel := by
 intro x1 x2 r hF0
 unfold m_impl_rulesOk at hF0
 refine AC_i [.t (.sc (.bool r))] Try.func44 rfl Try.ntmps44 ?_
 intro C hC
 refine awp_seq (awp_region ?_)
 refine s_box ?_
 refine s_as ?_
 refine k_nil (k_seq (awp_seq (awp_region ?_)))
 refine s_mv ?_
 refine s_lenT yU38 ?_
 refine s_le ?_
 refine s_mv ?_
 refine w_guard _ 8 hF0 ?_ ?_ <;> intro hc1 hF1
 refine s_ld1 yA25 ?_
 obtain ⟨v2, hv2, hF2⟩ := bind_some' hF1
 refine s_pure [] (m_impl_literalsOk_ok fuel _ _ hv2) ?_
 refine s_pkt ?_
 refine s_mv ?_
 refine w_guard _ 12 hF2 ?_ ?_ <;> intro hc3 hF3
 refine s_mv ?_
 refine s_fn ?_
 obtain ⟨v4, hv4, hF4⟩ := bind_some' hF3
 refine s_call [(9000, 3)] [] _ _ (m_slices_ContainsFunc_Rule_rulesOk_1_ok fuel _ _ _ hv4) ?_
 refine s_not ?_
 refine s_pkt ?_
 refine s_as ?_
 refine k_nil (k_seq (awp_ret (k_fin ?_)))
 cases hF4
 exact ends_a [] [] Try.results44
 iterate 4 refine r_no rfl ?_
 refine s_pkf ?_
 refine s_as ?_
 refine k_nil (k_seq (awp_ret (k_fin ?_)))
 cases hF3
 exact ends_a [] [] Try.results44
 refine r_no rfl (r_no rfl ?_)
 refine s_pkf ?_
 refine s_mv ?_
 iterate 4 refine r_no rfl ?_
 refine s_pkf ?_
 refine s_as ?_
 refine k_nil (k_seq (awp_ret (k_fin ?_)))
 cases hF1
 exact ends_a [] [] Try.results44
def m_impl_ParseRules_AC (fuel : Nat) : Prop := ∀ (x1 : Form) (r : ((List Form) × (List Rule) × Bool)), m_impl_ParseRules fuel x1 = some r → AC Try.prog 12 [.ag [.t (.sc (.int .i64 x1.kind)), .t (.sc (.str x1.name)), .t (.sc (.int .i64 x1.n)), .t (.sl (x1.scopes.map rI)), .t (.sl (x1.kids.map Form.row))]] noOb (.tp [.t (.sl (r.1.map Form.row)), .t (.sl (r.2.1.map Rule.row)), .t (.sc (.bool r.2.2))]) noOb
theorem m_impl_ParseRules_ok (fuel : Nat) : m_impl_ParseRules_AC fuel := by
 intro x1 r hF0
 unfold m_impl_ParseRules at hF0
 refine AC_i [.t (.sl (r.1.map Form.row)), .t (.sl (r.2.1.map Rule.row)), .t (.sc (.bool r.2.2))] Try.func12 rfl Try.ntmps12 ?_
 intro C hC
 refine awp_seq (awp_region ?_)
 refine s_box ?_
 iterate 3 refine s_as ?_
 refine k_nil (k_seq (awp_seq ?_))
 refine awp_jn (α := Nat × Bool) [11, 12, 13, 14, 15, 16, 17, 18, 19, 20, 21, 22, 23, 24, 25, 26, 27, 28, 29, 30, 31, 32, 33, 34, 35, 36, 37, 38, 39, 40] [] [] (fun a => [(40, .t (.sc (.bool a.2)))]) (fun a => []) (fun a => a.1 ≤ fuel ∧ m_impl_ParseRules_j1 a.1 x1 a.2 = some r) ?_ ?_
 refine awp_region ?_
 refine s_ldW yA27 yS27 ?_
 obtain ⟨v1, hv1, hF1⟩ := bind_some' hF0
 refine s_pure [] (m_impl_FormValid_ok fuel _ _ hv1) ?_
 refine s_not ?_
 refine s_mv ?_
 refine w_guard _ 14 hF1 ?_ ?_ <;> intro hc2 hF2
 iterate 3 refine r_no rfl ?_
 refine s_pkt ?_
 refine s_mv ?_
 iterate 4 refine r_no rfl ?_
 refine s_pkt ?_
 refine s_mv ?_
 iterate 6 refine r_no rfl ?_
 refine s_pkt ?_
 refine s_mv ?_
 iterate 6 refine r_no rfl ?_
 refine s_pkt ?_
 refine k_nil ?_
 exact s_jn (fuel, true) ⟨by first | omega | (dsimp only; omega), hF2⟩
 refine s_fa yF27_0 ?_
 refine s_ld1 yA3 ?_
 refine s_ne ?_
 refine s_pkf ?_
 refine s_mv ?_
 refine w_guard _ 19 hF2 ?_ ?_ <;> intro hc3 hF3
 iterate 4 refine r_no rfl ?_
 refine s_pkt ?_
 refine s_mv ?_
 iterate 6 refine r_no rfl ?_
 refine s_pkt ?_
 refine s_mv ?_
 iterate 6 refine r_no rfl ?_
 refine s_pkt ?_
 refine k_nil ?_
 exact s_jn (fuel, true) ⟨by first | omega | (dsimp only; omega), hF3⟩
 refine s_fa yF27_4 ?_
 refine s_ld1 yA25 ?_
 refine s_lenT yU25 ?_
 refine s_lt ?_
 refine s_pkf ?_
 refine s_mv ?_
 refine w_guard _ 25 hF3 ?_ ?_ <;> intro hc4 hF4
 iterate 6 refine r_no rfl ?_
 refine s_pkt ?_
 refine s_mv ?_
 iterate 6 refine r_no rfl ?_
 refine s_pkt ?_
 refine k_nil ?_
 exact s_jn (fuel, true) ⟨by first | omega | (dsimp only; omega), hF4⟩
 refine s_fa yF27_4 ?_
 refine s_ld1 yA25 ?_
 obtain ⟨v5, hv5, hF5⟩ := bind_some' hF4
 refine s_ixT Form.row hv5 (Form.row_eq _) yE25 ?_
 refine s_ldN yA27 yS27 ?_
 obtain ⟨v6, hv6, hF6⟩ := bind_some' hF5
 refine s_pure [] (m_impl_named_ok fuel _ _ _ hv6) ?_
 refine s_not ?_
 refine s_pkf ?_
 refine s_mv ?_
 refine w_guard _ 33 hF6 ?_ ?_ <;> intro hc7 hF7
 iterate 6 refine r_no rfl ?_
 refine s_pkt ?_
 refine k_nil ?_
 exact s_jn (fuel, true) ⟨by first | omega | (dsimp only; omega), hF7⟩
 refine s_fa yF27_4 ?_
 refine s_ld1 yA25 ?_
 obtain ⟨v8, hv8, hF8⟩ := bind_some' hF7
 refine s_ixT Form.row hv8 (Form.row_eq _) yE25 ?_
 refine s_fa yF27_0 ?_
 refine s_ld1 yA3 ?_
 refine s_ne ?_
 refine s_pkf ?_
 refine k_nil ?_
 exact s_jn (fuel, (decide (v8.kind ≠ 3))) ⟨by first | omega | (dsimp only; omega), hF8⟩
 clear hF0
 rintro ⟨fu, g9⟩ ⟨hl10, hF1⟩
 dsimp only at hl10 hF1 ⊢
 obtain _ | fu := fu
 · rw [m_impl_ParseRules_j1] at hF1; cases hF1
 rw [m_impl_ParseRules_j1] at hF1
 refine w_cond hF1 ?_ ?_ <;> intro hc11 hF2
 refine awp_seq (awp_region ?_)
 iterate 3 refine s_as ?_
 refine k_nil (k_seq (awp_ret (k_seq_ret (k_fin ?_))))
 cases hF2
 exact ends_a [] [] Try.results12
 refine awp_skip (k_seq (awp_seq (awp_region ?_)))
 refine s_bs Form.row ([] : List Form) yP25 yR27 ?_
 refine s_bs Rule.row ([] : List Rule) yP38 yR44 ?_
 refine s_as ?_
 refine s_as ?_
 refine k_nil (k_seq ?_)
 refine awp_jn (α := Nat × (List Form)) [5, 8, 43, 44, 45, 46, 47, 48, 49, 50, 51, 52, 53, 54, 55, 56, 57, 58] [41, 5060] [] (fun a => [(5, .ar 5060)]) (fun a => [(41, .dead), (5060, .arr (a.2.map Form.row) 27 true)]) (fun a => a.1 ≤ fu ∧ m_impl_ParseRules_j2 a.1 x1 a.2 = some r) ?_ ?_
 refine awp_seq (awp_region ?_)
 refine s_fa yF27_4 ?_
 refine s_ld1 yA25 ?_
 obtain ⟨v12, hv12, hF3⟩ := bind_some' hF2
 refine s_ixT Form.row hv12 (Form.row_eq _) yE25 ?_
 refine s_fa yF27_4 ?_
 refine s_ld1 yA25 ?_
 refine s_lenT yU25 ?_
 refine s_mv ?_
 refine k_nil (k_seq (awp_block ?_))
 refine awp_mv 5 41 5060 (by conv => lhs; whnf) (by conv => lhs; whnf) rfl ?_
 refine awp_frame2 [5, 8, 49, 50, 51, 52, 53, 54, 55, 56, 57, 58] [5060] [8, 56, 57] [5060] (fun a : Nat × (List Form) × Int => a.1) (fun a : Nat × (List Form) × Int => [(5, .ar 5060), (49, .t (.sc (.int .i64 a.2.2)))]) (fun a : Nat × (List Form) × Int => [(5060, .arr (a.2.1.map Form.row) 27 true)]) (fun a : Nat × (List Form) × Int => a.1 ≤ fu ∧ m_impl_ParseRules_l3 a.1 x1 v12 a.2.1 a.2.2 = some r ∧ 0 ≤ a.2.2) (fu, ([] : List Form), 0) ⟨Nat.le_refl _, hF3, by simp⟩ (by rfl) (by rfl) (fun _ => rfl) (hasF_cons (by conv => lhs; whnf) (by rfl) (hasF_cons (by conv => lhs; whnf) (by rfl) hasF_nil)) (hasO_cons (by conv => lhs; whnf) (by rfl) hasO_nil) (fresh_C hC rfl) (by repeat (first | exact freshS_args rfl | refine freshS_upd rfl ?_ | refine freshS_frame rfl ?_)) (by repeat (first | exact freshM_no | exact objs_fresh rfl | refine freshM_upd rfl ?_ | refine freshM_frame rfl ?_)) ?_
 clear hF3
 rintro ⟨fu, g13, g14⟩ ⟨hl15, hF4, hn_g14⟩
 dsimp only at hl15 hF4 hn_g14 ⊢
 obtain _ | fu := fu
 · rw [m_impl_ParseRules_l3] at hF4; cases hF4
 rw [m_impl_ParseRules_l3] at hF4
 refine awp_seq (awp_region ?_)
 refine s_lt ?_
 refine k_nil (k_seq (awp_seq ?_))
 refine w_cond hF4 ?_ ?_ <;> intro hc16 hF5
 refine awp_lenT 47 (fun hb17 => ?_)
 refine awp_skip (k_seq (awp_seq (awp_block (awp_seq (awp_region ?_)))))
 obtain ⟨v18, hv18, hF6⟩ := bind_some' hF5
 refine s_ixT Form.row hv18 (Form.row_eq _) yE25 ?_
 refine s_ldN yA27 yS27 ?_
 refine s_alloc yZ27 ?_
 refine s_stW yS27 ?_
 refine k_nil (k_seq (awp_region ?_))
 refine s_mv ?_
 refine s_ldW yA27 yS27 ?_
 obtain ⟨v19, hv19, hF7⟩ := bind_some' hF6
 refine s_pure [] (m_impl_copyForm_ok fu _ _ hv19) ?_
 refine s_bs Form.row [v19] yP25 yR27 ?_
 obtain ⟨hk20, hF8⟩ := chk_some hF7
 refine s_apT Form.row (fun y => Form.row_len y) hk20 yP25 ?_
 refine s_as ?_
 refine k_nil (k_blk (k_seq (awp_region ?_)))
 refine s_add (winc2 hc16 hb17 hn_g14) ?_
 refine s_mv ?_
 refine k_nil ?_
 exact s_rn (fu, (g13 ++ [v19]), (g14 + 1)) ⟨by first | omega | (dsimp only; omega), hF8, by first | omega | (dsimp only; omega)⟩ [(5060, 57)]
 refine awp_exit (k_seq_exit (k_rnd_exit2 (k_blk_exit ?_)))
 exact s_jn (fu, g13) ⟨by first | omega | (dsimp only; omega), hF5⟩
 clear hF2
 rintro ⟨fu, g21⟩ ⟨hl22, hF3⟩
 dsimp only at hl22 hF3 ⊢
 obtain _ | fu := fu
 · rw [m_impl_ParseRules_j2] at hF3; cases hF3
 rw [m_impl_ParseRules_j2] at hF3
 refine awp_jn (α := Nat × (List Rule)) [2, 3, 4, 6, 10, 59, 60, 61, 62, 63, 64, 65, 66, 67, 68, 69, 70, 71, 72, 73, 74, 75, 76, 77, 78, 79, 80, 81, 82, 83, 84, 85, 86, 87, 88, 89, 90] [42, 5100] [] (fun a => [(6, .ar 5100)]) (fun a => [(42, .dead), (5100, .arr (a.2.map Rule.row) 44 true)]) (fun a => a.1 ≤ fu ∧ m_impl_ParseRules_j4 a.1 g21 a.2 = some r) ?_ ?_
 refine awp_seq (awp_region ?_)
 refine s_fa yF27_4 ?_
 refine s_ld1 yA25 ?_
 obtain ⟨v23, hv23, hF4⟩ := bind_some' hF3
 refine s_sl10 Form.row (fun y => Form.row_len y) hv23 yU25 yE25 ?_
 refine s_lenT yU25 ?_
 refine s_mv ?_
 refine k_nil (k_seq (awp_block ?_))
 refine awp_mv 6 42 5100 (by conv => lhs; whnf) (by conv => lhs; whnf) rfl ?_
 refine awp_frame2 [2, 3, 4, 6, 10, 63, 64, 65, 66, 67, 68, 69, 70, 71, 72, 73, 74, 75, 76, 77, 78, 79, 80, 81, 82, 83, 84, 85, 86, 87, 88, 89, 90] [5100] [10, 88, 89] [5100] (fun a : Nat × (List Rule) × Int => a.1) (fun a : Nat × (List Rule) × Int => [(6, .ar 5100), (63, .t (.sc (.int .i64 a.2.2)))]) (fun a : Nat × (List Rule) × Int => [(5100, .arr (a.2.1.map Rule.row) 44 true)]) (fun a : Nat × (List Rule) × Int => a.1 ≤ fu ∧ m_impl_ParseRules_l5 a.1 g21 v23 a.2.1 a.2.2 = some r ∧ 0 ≤ a.2.2) (fu, ([] : List Rule), 0) ⟨Nat.le_refl _, hF4, by simp⟩ (by rfl) (by rfl) (fun _ => rfl) (hasF_cons (by conv => lhs; whnf) (by rfl) (hasF_cons (by conv => lhs; whnf) (by rfl) hasF_nil)) (hasO_cons (by conv => lhs; whnf) (by rfl) hasO_nil) (fresh_C hC rfl) (by repeat (first | exact freshS_args rfl | refine freshS_upd rfl ?_ | refine freshS_frame rfl ?_)) (by repeat (first | exact freshM_no | exact objs_fresh rfl | refine freshM_upd rfl ?_ | refine freshM_frame rfl ?_)) ?_
 clear hF4
 rintro ⟨fu, g24, g25⟩ ⟨hl26, hF5, hn_g25⟩
 dsimp only at hl26 hF5 hn_g25 ⊢
 obtain _ | fu := fu
 · rw [m_impl_ParseRules_l5] at hF5; cases hF5
 rw [m_impl_ParseRules_l5] at hF5
 refine awp_seq (awp_region ?_)
 refine s_lt ?_
 refine k_nil (k_seq (awp_seq ?_))
 refine w_cond hF5 ?_ ?_ <;> intro hc27 hF6
 refine awp_lenT 61 (fun hb28 => ?_)
 refine awp_skip (k_seq (awp_seq (awp_block (awp_seq (awp_region ?_)))))
 obtain ⟨v29, hv29, hF7⟩ := bind_some' hF6
 refine s_ixT Form.row hv29 (Form.row_eq _) yE25 ?_
 refine s_ldN yA27 yS27 ?_
 refine s_alloc yZ27 ?_
 refine s_stW yS27 ?_
 refine k_nil (k_seq (awp_seq ?_))
 refine awp_jn (α := Nat × Bool) [67, 68, 69, 70, 71, 72, 73, 74, 75] [] [] (fun a => [(75, .t (.sc (.bool a.2)))]) (fun a => []) (fun a => a.1 ≤ fu ∧ m_impl_ParseRules_j6 a.1 g21 v23 g24 g25 v29 a.2 = some r) ?_ ?_
 refine awp_region ?_
 refine s_fa yF27_0 ?_
 refine s_ld1 yA3 ?_
 refine s_ne ?_
 refine s_mv ?_
 refine w_guard _ 70 hF7 ?_ ?_ <;> intro hc30 hF8
 iterate 4 refine r_no rfl ?_
 refine s_pkt ?_
 refine k_nil ?_
 exact s_jn (fu, true) ⟨by first | omega | (dsimp only; omega), hF8⟩
 refine s_fa yF27_4 ?_
 refine s_ld1 yA25 ?_
 refine s_lenT yU25 ?_
 refine s_ne ?_
 refine s_pkf ?_
 refine k_nil ?_
 exact s_jn (fu, (decide ((v29.kids.length : Int) ≠ 2))) ⟨by first | omega | (dsimp only; omega), hF8⟩
 clear hF7
 rintro ⟨fu, g31⟩ ⟨hl32, hF8⟩
 dsimp only at hl32 hF8 ⊢
 obtain _ | fu := fu
 · rw [m_impl_ParseRules_j6] at hF8; cases hF8
 rw [m_impl_ParseRules_j6] at hF8
 refine w_cond hF8 ?_ ?_ <;> intro hc33 hF9
 refine awp_seq (awp_region ?_)
 iterate 3 refine s_as ?_
 refine k_nil (k_seq (awp_ret (k_seq_ret (k_blk_ret (k_seq_ret (k_rnd_ret2 (k_blk_ret (k_jn_ret (k_fin ?_)))))))))
 cases hF9
 exact ends_a [] [] Try.results12
 refine awp_skip (k_seq ?_)
 refine awp_draw yMix (by kernel_rfl) ?_
 refine s_mv ?_
 refine s_fa yF27_4 ?_
 refine s_ld1 yA25 ?_
 obtain ⟨v34, hv34, hF10⟩ := bind_some' hF9
 refine s_ixT Form.row hv34 (Form.row_eq _) yE25 ?_
 refine s_ldN yA27 yS27 ?_
 obtain ⟨v35, hv35, hF11⟩ := bind_some' hF10
 refine s_pure [] (m_impl_copyForm_ok fu _ _ hv35) ?_
 refine s_fa yF27_4 ?_
 refine s_ld1 yA25 ?_
 obtain ⟨v36, hv36, hF12⟩ := bind_some' hF11
 refine s_ixT Form.row hv36 (Form.row_eq _) yE25 ?_
 refine s_ldN yA27 yS27 ?_
 obtain ⟨v37, hv37, hF13⟩ := bind_some' hF12
 refine s_pure [] (m_impl_copyForm_ok fu _ _ hv37) ?_
 refine s_bld yZ44 yL44 ?_
 refine s_bs Rule.row [(Rule.mk v35 v37)] yP38 yR44 ?_
 obtain ⟨hk38, hF14⟩ := chk_some hF13
 refine s_apT Rule.row (fun y => Rule.row_len y) hk38 yP38 ?_
 refine s_as ?_
 refine k_nilD (by kernel_rfl) ?_
 refine k_blk (k_seq (awp_region ?_))
 refine s_add (winc2 hc27 hb28 hn_g25) ?_
 refine s_mv ?_
 refine k_nil ?_
 exact s_rn (fu, (g24 ++ [(Rule.mk v35 v37)]), (g25 + 1)) ⟨by first | omega | (dsimp only; omega), hF14, by first | omega | (dsimp only; omega)⟩ [(5100, 89)]
 refine awp_exit (k_seq_exit (k_rnd_exit2 (k_blk_exit ?_)))
 exact s_jn (fu, g24) ⟨by first | omega | (dsimp only; omega), hF6⟩
 clear hF3
 rintro ⟨fu, g39⟩ ⟨hl40, hF4⟩
 dsimp only at hl40 hF4 ⊢
 obtain _ | fu := fu
 · rw [m_impl_ParseRules_j4] at hF4; cases hF4
 rw [m_impl_ParseRules_j4] at hF4
 refine awp_seq (awp_seq (awp_region ?_))
 refine s_mv ?_
 refine s_mv ?_
 obtain ⟨v41, hv41, hF5⟩ := bind_some' hF4
 refine s_pure [5100, 5060] (m_impl_rulesOk_ok fu _ _ _ hv41) ?_
 refine s_not ?_
 refine k_nil (k_seq ?_)
 refine w_cond hF5 ?_ ?_ <;> intro hc42 hF6
 refine awp_seq (awp_region ?_)
 iterate 3 refine s_as ?_
 refine k_nil (k_seq (awp_ret (k_seq_ret (k_fin ?_))))
 cases hF6
 exact ends_a [] [] Try.results12
 refine awp_skip (k_seq (awp_seq (awp_region ?_)))
 refine s_mv ?_
 refine s_mv ?_
 iterate 3 refine s_as ?_
 refine k_nil (k_seq (awp_ret (k_fin ?_)))
 cases hF6
 exact ends_a [] [5060, 5100] Try.results12
def m_spec_l3Is_AC (fuel : Nat) : Prop := ∀ (x1 : Form) (r : Bool), m_spec_l3Is fuel x1 = some r → AC Try.prog 86 [.ag [.t (.sc (.int .i64 x1.kind)), .t (.sc (.str x1.name)), .t (.sc (.int .i64 x1.n)), .t (.sl (x1.scopes.map rI)), .t (.sl (x1.kids.map Form.row))]] noOb (.t (.sc (.bool r))) noOb
theorem m_spec_l3Is_ok (fuel : Nat) : m_spec_l3Is_AC fuel := by
 intro x1 r hF0
 unfold m_spec_l3Is at hF0
 refine AC_i [.t (.sc (.bool r))] Try.func86 rfl Try.ntmps86 ?_
 intro C hC
 refine awp_seq (awp_region ?_)
 refine s_box ?_
 refine s_as ?_
 refine k_nil (k_seq (awp_seq (awp_region ?_)))
 refine s_fa yF27_0 ?_
 refine s_ld1 yA3 ?_
 refine s_eq ?_
 refine s_mv ?_
 refine w_guard _ 6 hF0 ?_ ?_ <;> intro hc1 hF1
 refine s_ldW yA27 yS27 ?_
 obtain ⟨v2, hv2, hF2⟩ := bind_some' hF1
 refine s_pure [] (m_spec_FormValid_ok fuel _ _ hv2) ?_
 refine s_pkt ?_
 refine s_as ?_
 refine k_nil (k_seq (awp_ret (k_fin ?_)))
 cases hF2
 exact ends_a [] [] Try.results86
 refine r_no rfl (r_no rfl ?_)
 refine s_pkf ?_
 refine s_as ?_
 refine k_nil (k_seq (awp_ret (k_fin ?_)))
 cases hF1
 exact ends_a [] [] Try.results86
def m_spec_l1Ints_AC (fuel : Nat) : Prop := ∀ (x1 : (List Int)) (x2 : (List Int)) (r : Bool), m_spec_l1Ints fuel x1 x2 = some r → AC Try.prog 57 [.t (.sl (x1.map rI)), .t (.sl (x2.map rI))] noOb (.t (.sc (.bool r))) noOb
theorem m_spec_l1Ints_ok (fuel : Nat) : m_spec_l1Ints_AC fuel := by
 intro x1 x2 r hF0
 unfold m_spec_l1Ints at hF0
 refine AC_i [.t (.sc (.bool r))] Try.func57 rfl Try.ntmps57 ?_
 intro C hC
 refine awp_seq (awp_region ?_)
 refine s_as ?_
 refine k_nil (k_seq (awp_seq (awp_seq (awp_region ?_))))
 refine s_mv ?_
 refine s_lenT yU24 ?_
 refine s_mv ?_
 refine s_lenT yU24 ?_
 refine s_ne ?_
 refine k_nil (k_seq ?_)
 refine w_cond hF0 ?_ ?_ <;> intro hc1 hF1
 refine awp_seq (awp_region ?_)
 refine s_as ?_
 refine k_nil (k_seq (awp_ret (k_seq_ret (k_fin ?_))))
 cases hF1
 exact ends_a [] [] Try.results57
 refine awp_skip (k_seq (awp_seq (awp_seq (awp_region ?_))))
 refine s_as ?_
 refine k_nil (k_seq (awp_block ?_))
 refine awp_fr (β := Int) [4, 5, 11, 12, 13, 14, 15, 16, 17, 18, 19, 20, 21, 22, 23, 24, 25] [] [] (fun a => [(5, .t (.sc (.int .i64 a.2)))]) (fun a => []) (fun a => a.1 ≤ fuel ∧ m_spec_l1Ints_l1 a.1 x1 x2 a.2 = some r ∧ 0 ≤ a.2) (fuel, 0) ⟨Nat.le_refl _, hF1, by simp⟩ ?_
 clear hF1
 rintro ⟨fu, g2⟩ ⟨hl3, hF2, hn_g2⟩
 dsimp only at hl3 hF2 hn_g2 ⊢
 obtain _ | fu := fu
 · rw [m_spec_l1Ints_l1] at hF2; cases hF2
 rw [m_spec_l1Ints_l1] at hF2
 refine awp_seq (awp_seq (awp_region ?_))
 refine s_mv ?_
 refine s_mv ?_
 refine s_lenT yU24 ?_
 refine s_lt ?_
 refine k_nil (k_seq ?_)
 refine w_cond hF2 ?_ ?_ <;> intro hc4 hF3
 refine awp_lenT 0 (fun hb5 => ?_)
 refine awp_skip (k_seq (awp_seq (awp_block (awp_seq ?_))))
 refine awp_draw yMix (by kernel_rfl) ?_
 refine s_mv ?_
 refine s_mv ?_
 obtain ⟨v6, hv6, hF4⟩ := bind_some' hF3
 refine s_ixT rI hv6 rfl yE24 ?_
 refine s_ld1 yA3 ?_
 refine s_mv ?_
 refine s_mv ?_
 obtain ⟨v7, hv7, hF5⟩ := bind_some' hF4
 refine s_ixT rI hv7 rfl yE24 ?_
 refine s_ld1 yA3 ?_
 refine s_ne ?_
 refine k_nilD (by kernel_rfl) ?_
 refine k_seq ?_
 refine w_cond hF5 ?_ ?_ <;> intro hc8 hF6
 refine awp_seq (awp_region ?_)
 refine s_as ?_
 refine k_nil (k_seq (awp_ret (k_blk_ret (k_seq_ret (k_rnd_ret2 (k_blk_ret (k_seq_ret (k_fin ?_))))))))
 cases hF6
 exact ends_a [] [] Try.results57
 refine awp_skip (k_blk (k_seq (awp_region ?_)))
 refine s_mv ?_
 refine s_add (winc2 hc4 hb5 hn_g2) ?_
 refine s_as ?_
 refine k_nil ?_
 exact s_rn (fu, (g2 + 1)) ⟨by first | omega | (dsimp only; omega), hF6, by first | omega | (dsimp only; omega)⟩
 refine awp_exit (k_seq_exit (k_rnd_exit2 (k_blk_exit (k_seq (awp_seq (awp_region ?_))))))
 refine s_as ?_
 refine k_nil (k_seq (awp_ret (k_fin ?_)))
 cases hF3
 exact ends_a [] [] Try.results57
def m_spec_FormSame_AC (fuel : Nat) : Prop := ∀ (x1 : Form) (x2 : Form) (r : Bool), m_spec_FormSame fuel x1 x2 = some r → AC Try.prog 66 [.ag [.t (.sc (.int .i64 x1.kind)), .t (.sc (.str x1.name)), .t (.sc (.int .i64 x1.n)), .t (.sl (x1.scopes.map rI)), .t (.sl (x1.kids.map Form.row))], .ag [.t (.sc (.int .i64 x2.kind)), .t (.sc (.str x2.name)), .t (.sc (.int .i64 x2.n)), .t (.sl (x2.scopes.map rI)), .t (.sl (x2.kids.map Form.row))]] noOb (.t (.sc (.bool r))) noOb
theorem m_spec_FormSame_st (fu : Nat) (ih_m_spec_FormSame : ∀ k, k ≤ fu → m_spec_FormSame_AC k) : m_spec_FormSame_AC (fu + 1) := by
 intro x1 x2 r hF0
 rw [m_spec_FormSame] at hF0
 refine AC_i [.t (.sc (.bool r))] Try.func66 rfl Try.ntmps66 ?_
 intro C hC
 refine awp_seq (awp_region ?_)
 refine s_box ?_
 refine s_box ?_
 refine s_as ?_
 refine k_nil (k_seq (awp_seq (awp_seq (awp_region ?_))))
 refine s_fa yF27_0 ?_
 refine s_ld1 yA3 ?_
 refine s_fa yF27_0 ?_
 refine s_ld1 yA3 ?_
 refine s_ne ?_
 refine s_mv ?_
 refine w_guard _ 11 hF0 ?_ ?_ <;> intro hc1 hF1
 iterate 5 refine r_no rfl ?_
 refine s_pkt ?_
 refine s_mv ?_
 iterate 5 refine r_no rfl ?_
 refine s_pkt ?_
 refine s_mv ?_
 iterate 6 refine r_no rfl ?_
 refine s_pkt ?_
 refine s_mv ?_
 iterate 7 refine r_no rfl ?_
 refine s_pkt ?_
 refine k_nil (k_seq (awp_true rfl (awp_seq (awp_region ?_))))
 refine s_as ?_
 refine k_nil (k_seq (awp_ret (k_seq_ret (k_fin ?_))))
 cases hF1
 exact ends_a [] [] Try.results66
 refine s_fa yF27_1 ?_
 refine s_ld1 yA9 ?_
 refine s_fa yF27_1 ?_
 refine s_ld1 yA9 ?_
 refine s_neS ?_
 refine s_pkf ?_
 refine s_mv ?_
 refine w_guard _ 18 hF1 ?_ ?_ <;> intro hc2 hF2
 iterate 5 refine r_no rfl ?_
 refine s_pkt ?_
 refine s_mv ?_
 iterate 6 refine r_no rfl ?_
 refine s_pkt ?_
 refine s_mv ?_
 iterate 7 refine r_no rfl ?_
 refine s_pkt ?_
 refine k_nil (k_seq (awp_true rfl (awp_seq (awp_region ?_))))
 refine s_as ?_
 refine k_nil (k_seq (awp_ret (k_seq_ret (k_fin ?_))))
 cases hF2
 exact ends_a [] [] Try.results66
 refine s_fa yF27_2 ?_
 refine s_ld1 yA3 ?_
 refine s_fa yF27_2 ?_
 refine s_ld1 yA3 ?_
 refine s_ne ?_
 refine s_pkf ?_
 refine s_mv ?_
 refine w_guard _ 25 hF2 ?_ ?_ <;> intro hc3 hF3
 iterate 6 refine r_no rfl ?_
 refine s_pkt ?_
 refine s_mv ?_
 iterate 7 refine r_no rfl ?_
 refine s_pkt ?_
 refine k_nil (k_seq (awp_true rfl (awp_seq (awp_region ?_))))
 refine s_as ?_
 refine k_nil (k_seq (awp_ret (k_seq_ret (k_fin ?_))))
 cases hF3
 exact ends_a [] [] Try.results66
 refine s_fa yF27_3 ?_
 refine s_ld1 yA24 ?_
 refine s_fa yF27_3 ?_
 refine s_ld1 yA24 ?_
 obtain ⟨v4, hv4, hF4⟩ := bind_some' hF3
 refine s_pure [] (m_spec_l1Ints_ok fu _ _ _ hv4) ?_
 refine s_not ?_
 refine s_pkf ?_
 refine s_mv ?_
 refine w_guard _ 33 hF4 ?_ ?_ <;> intro hc5 hF5
 iterate 7 refine r_no rfl ?_
 refine s_pkt ?_
 refine k_nil (k_seq (awp_true rfl (awp_seq (awp_region ?_))))
 refine s_as ?_
 refine k_nil (k_seq (awp_ret (k_seq_ret (k_fin ?_))))
 cases hF5
 exact ends_a [] [] Try.results66
 refine s_fa yF27_4 ?_
 refine s_ld1 yA25 ?_
 refine s_lenT yU25 ?_
 refine s_fa yF27_4 ?_
 refine s_ld1 yA25 ?_
 refine s_lenT yU25 ?_
 refine s_ne ?_
 refine s_pkf ?_
 refine k_nil (k_seq ?_)
 refine w_cond hF5 ?_ ?_ <;> intro hc6 hF6
 refine awp_seq (awp_region ?_)
 refine s_as ?_
 refine k_nil (k_seq (awp_ret (k_seq_ret (k_fin ?_))))
 cases hF6
 exact ends_a [] [] Try.results66
 refine awp_skip (k_seq (awp_seq (awp_seq (awp_region ?_))))
 refine s_as ?_
 refine k_nil (k_seq (awp_block ?_))
 refine awp_fr (β := Int) [4, 5, 42, 43, 44, 45, 46, 47, 48, 49, 50, 51, 52, 53, 54, 55, 56, 57, 58, 59, 60] [] [] (fun a => [(5, .t (.sc (.int .i64 a.2)))]) (fun a => []) (fun a => a.1 ≤ fu ∧ m_spec_FormSame_l1 a.1 x1 x2 a.2 = some r ∧ 0 ≤ a.2) (fu, 0) ⟨Nat.le_refl _, hF6, by simp⟩ ?_
 clear hF6
 rintro ⟨fu, g7⟩ ⟨hl8, hF7, hn_g7⟩
 dsimp only at hl8 hF7 hn_g7 ⊢
 obtain _ | fu := fu
 · rw [m_spec_FormSame_l1] at hF7; cases hF7
 rw [m_spec_FormSame_l1] at hF7
 refine awp_seq (awp_seq (awp_region ?_))
 refine s_mv ?_
 refine s_fa yF27_4 ?_
 refine s_ld1 yA25 ?_
 refine s_lenT yU25 ?_
 refine s_lt ?_
 refine k_nil (k_seq ?_)
 refine w_cond hF7 ?_ ?_ <;> intro hc9 hF8
 refine awp_lenT 35 (fun hb10 => ?_)
 refine awp_skip (k_seq (awp_seq (awp_block (awp_seq ?_))))
 refine awp_draw yMix (by kernel_rfl) ?_
 refine s_fa yF27_4 ?_
 refine s_ld1 yA25 ?_
 refine s_mv ?_
 obtain ⟨v11, hv11, hF9⟩ := bind_some' hF8
 refine s_ixT Form.row hv11 (Form.row_eq _) yE25 ?_
 refine s_ldN yA27 yS27 ?_
 refine s_fa yF27_4 ?_
 refine s_ld1 yA25 ?_
 refine s_mv ?_
 obtain ⟨v12, hv12, hF10⟩ := bind_some' hF9
 refine s_ixT Form.row hv12 (Form.row_eq _) yE25 ?_
 refine s_ldN yA27 yS27 ?_
 obtain ⟨v13, hv13, hF11⟩ := bind_some' hF10
 refine s_pure [] (ih_m_spec_FormSame fu (by omega) _ _ _ hv13) ?_
 refine s_not ?_
 refine k_nilD (by kernel_rfl) ?_
 refine k_seq ?_
 refine w_cond hF11 ?_ ?_ <;> intro hc14 hF12
 refine awp_seq (awp_region ?_)
 refine s_as ?_
 refine k_nil (k_seq (awp_ret (k_blk_ret (k_seq_ret (k_rnd_ret2 (k_blk_ret (k_seq_ret (k_fin ?_))))))))
 cases hF12
 exact ends_a [] [] Try.results66
 refine awp_skip (k_blk (k_seq (awp_region ?_)))
 refine s_mv ?_
 refine s_add (winc2 hc9 hb10 hn_g7) ?_
 refine s_as ?_
 refine k_nil ?_
 exact s_rn (fu, (g7 + 1)) ⟨by first | omega | (dsimp only; omega), hF12, by first | omega | (dsimp only; omega)⟩
 refine awp_exit (k_seq_exit (k_rnd_exit2 (k_blk_exit (k_seq (awp_seq (awp_region ?_))))))
 refine s_as ?_
 refine k_nil (k_seq (awp_ret (k_fin ?_)))
 cases hF8
 exact ends_a [] [] Try.results66
theorem m_spec_FormSame_all (fuel : Nat) : m_spec_FormSame_AC fuel := by
 induction fuel using Nat.strongRecOn with
 | _ N ih =>
   cases N with
   | zero => exact (by intro x1 x2 r h; rw [m_spec_FormSame] at h; cases h)
   | succ fu => exact m_spec_FormSame_st fu (fun k hk => (ih k (by omega)))
theorem m_spec_FormSame_ok (fuel : Nat) : m_spec_FormSame_AC fuel := (m_spec_FormSame_all fuel)
def m_spec_l4In_AC (fuel : Nat) : Prop := ∀ (x1 : (List Form)) (x2 : Form) (r : Bool), m_spec_l4In fuel x1 x2 = some r → AC Try.prog 61 [.t (.sl (x1.map Form.row)), .ag [.t (.sc (.int .i64 x2.kind)), .t (.sc (.str x2.name)), .t (.sc (.int .i64 x2.n)), .t (.sl (x2.scopes.map rI)), .t (.sl (x2.kids.map Form.row))]] noOb (.t (.sc (.bool r))) noOb
theorem m_spec_l4In_ok (fuel : Nat) : m_spec_l4In_AC fuel := by
 intro x1 x2 r hF0
 unfold m_spec_l4In at hF0
 refine AC_i [.t (.sc (.bool r))] Try.func61 rfl Try.ntmps61 ?_
 intro C hC
 refine awp_seq (awp_region ?_)
 refine s_box ?_
 refine s_as ?_
 refine k_nil (k_seq (awp_seq (awp_seq (awp_region ?_))))
 refine s_as ?_
 refine k_nil (k_seq (awp_block ?_))
 refine awp_fr (β := Int) [4, 5, 6, 7, 8, 9, 10, 11, 12, 13, 14, 15, 16, 17] [] [] (fun a => [(5, .t (.sc (.int .i64 a.2)))]) (fun a => []) (fun a => a.1 ≤ fuel ∧ m_spec_l4In_l1 a.1 x1 x2 a.2 = some r ∧ 0 ≤ a.2) (fuel, 0) ⟨Nat.le_refl _, hF0, by simp⟩ ?_
 clear hF0
 rintro ⟨fu, g1⟩ ⟨hl2, hF1, hn_g1⟩
 dsimp only at hl2 hF1 hn_g1 ⊢
 obtain _ | fu := fu
 · rw [m_spec_l4In_l1] at hF1; cases hF1
 rw [m_spec_l4In_l1] at hF1
 refine awp_seq (awp_seq (awp_region ?_))
 refine s_mv ?_
 refine s_mv ?_
 refine s_lenT yU25 ?_
 refine s_lt ?_
 refine k_nil (k_seq ?_)
 refine w_cond hF1 ?_ ?_ <;> intro hc3 hF2
 refine awp_lenT 0 (fun hb4 => ?_)
 refine awp_skip (k_seq (awp_seq (awp_block (awp_seq ?_))))
 refine awp_draw yMix (by kernel_rfl) ?_
 refine s_mv ?_
 refine s_mv ?_
 obtain ⟨v5, hv5, hF3⟩ := bind_some' hF2
 refine s_ixT Form.row hv5 (Form.row_eq _) yE25 ?_
 refine s_ldN yA27 yS27 ?_
 refine s_ldW yA27 yS27 ?_
 obtain ⟨v6, hv6, hF4⟩ := bind_some' hF3
 refine s_pure [] (m_spec_FormSame_ok fu _ _ _ hv6) ?_
 refine k_nilD (by kernel_rfl) ?_
 refine k_seq ?_
 refine w_cond hF4 ?_ ?_ <;> intro hc7 hF5
 refine awp_seq (awp_region ?_)
 refine s_as ?_
 refine k_nil (k_seq (awp_ret (k_blk_ret (k_seq_ret (k_rnd_ret2 (k_blk_ret (k_seq_ret (k_fin ?_))))))))
 cases hF5
 exact ends_a [] [] Try.results61
 refine awp_skip (k_blk (k_seq (awp_region ?_)))
 refine s_mv ?_
 refine s_add (winc2 hc3 hb4 hn_g1) ?_
 refine s_as ?_
 refine k_nil ?_
 exact s_rn (fu, (g1 + 1)) ⟨by first | omega | (dsimp only; omega), hF5, by first | omega | (dsimp only; omega)⟩
 refine awp_exit (k_seq_exit (k_rnd_exit2 (k_blk_exit (k_seq (awp_seq (awp_region ?_))))))
 refine s_as ?_
 refine k_nil (k_seq (awp_ret (k_fin ?_)))
 cases hF2
 exact ends_a [] [] Try.results61
def m_spec_l4Literals_AC (fuel : Nat) : Prop := ∀ (x1 : (List Form)) (r : Bool), m_spec_l4Literals fuel x1 = some r → AC Try.prog 58 [.t (.sl (x1.map Form.row))] noOb (.t (.sc (.bool r))) noOb
theorem m_spec_l4Literals_ok (fuel : Nat) : m_spec_l4Literals_AC fuel := by
 intro x1 r hF0
 unfold m_spec_l4Literals at hF0
 refine AC_i [.t (.sc (.bool r))] Try.func58 rfl Try.ntmps58 ?_
 intro C hC
 refine awp_seq (awp_region ?_)
 refine s_as ?_
 refine k_nil (k_seq (awp_seq (awp_seq (awp_region ?_))))
 refine s_as ?_
 refine k_nil (k_seq (awp_block ?_))
 refine awp_fr (β := Int) [2, 3, 4, 5, 6, 7, 8, 9, 10, 11, 12, 13, 14, 15, 16, 17, 18, 19, 20, 21, 22, 23, 24, 25, 26, 27, 28, 29, 30, 31, 32, 33, 34, 35, 36, 37, 38, 39, 40, 41, 42, 43, 44, 45] [] [] (fun a => [(3, .t (.sc (.int .i64 a.2)))]) (fun a => []) (fun a => a.1 ≤ fuel ∧ m_spec_l4Literals_l1 a.1 x1 a.2 = some r) (fuel, 0) ⟨Nat.le_refl _, hF0⟩ ?_
 clear hF0
 rintro ⟨fu, g1⟩ ⟨hl2, hF1⟩
 dsimp only at hl2 hF1 ⊢
 obtain _ | fu := fu
 · rw [m_spec_l4Literals_l1] at hF1; cases hF1
 rw [m_spec_l4Literals_l1] at hF1
 refine awp_seq (awp_seq (awp_region ?_))
 refine s_mv ?_
 refine s_mv ?_
 refine s_lenT yU25 ?_
 refine s_lt ?_
 refine s_mv ?_
 refine w_guard _ 8 hF1 ?_ ?_ <;> intro hc3 hF2
 refine s_mv ?_
 refine s_lt ?_
 refine s_pkt ?_
 refine k_nil (k_seq ?_)
 refine w_cond hF2 ?_ ?_ <;> intro hc4 hF3
 refine awp_skip (k_seq (awp_seq (awp_block (awp_seq ?_))))
 refine awp_draw yMix (by kernel_rfl) ?_
 refine s_mv ?_
 refine s_mv ?_
 obtain ⟨v5, hv5, hF4⟩ := bind_some' hF3
 refine s_ixT Form.row hv5 (Form.row_eq _) yE25 ?_
 refine s_ldN yA27 yS27 ?_
 obtain ⟨v6, hv6, hF5⟩ := bind_some' hF4
 refine s_pure [] (m_spec_l3Is_ok fu _ _ hv6) ?_
 refine s_not ?_
 refine s_mv ?_
 refine w_guard _ 20 hF5 ?_ ?_ <;> intro hc7 hF6
 iterate 6 refine r_no rfl ?_
 refine s_pkt ?_
 refine s_mv ?_
 iterate 6 refine r_no rfl ?_
 refine s_pkt ?_
 refine s_mv ?_
 iterate 8 refine r_no rfl ?_
 refine s_pkt ?_
 refine k_nilD (by kernel_rfl) ?_
 refine k_seq (awp_true rfl (awp_seq (awp_region ?_)))
 refine s_as ?_
 refine k_nil (k_seq (awp_ret (k_blk_ret (k_seq_ret (k_rnd_ret2 (k_blk_ret (k_seq_ret (k_fin ?_))))))))
 cases hF6
 exact ends_a [] [] Try.results58
 refine s_mv ?_
 refine s_mv ?_
 obtain ⟨v8, hv8, hF7⟩ := bind_some' hF6
 refine s_ixT Form.row hv8 (Form.row_eq _) yE25 ?_
 refine s_fa yF27_1 ?_
 refine s_ld1 yA9 ?_
 refine s_eqS ?_
 refine s_pkf ?_
 refine s_mv ?_
 refine w_guard _ 28 hF7 ?_ ?_ <;> intro hc9 hF8
 iterate 6 refine r_no rfl ?_
 refine s_pkt ?_
 refine s_mv ?_
 iterate 8 refine r_no rfl ?_
 refine s_pkt ?_
 refine k_nilD (by kernel_rfl) ?_
 refine k_seq (awp_true rfl (awp_seq (awp_region ?_)))
 refine s_as ?_
 refine k_nil (k_seq (awp_ret (k_blk_ret (k_seq_ret (k_rnd_ret2 (k_blk_ret (k_seq_ret (k_fin ?_))))))))
 cases hF8
 exact ends_a [] [] Try.results58
 refine s_mv ?_
 refine s_mv ?_
 obtain ⟨v10, hv10, hF9⟩ := bind_some' hF8
 refine s_ixT Form.row hv10 (Form.row_eq _) yE25 ?_
 refine s_fa yF27_1 ?_
 refine s_ld1 yA9 ?_
 refine s_eqS ?_
 refine s_pkf ?_
 refine s_mv ?_
 refine w_guard _ 36 hF9 ?_ ?_ <;> intro hc11 hF10
 iterate 8 refine r_no rfl ?_
 refine s_pkt ?_
 refine k_nilD (by kernel_rfl) ?_
 refine k_seq (awp_true rfl (awp_seq (awp_region ?_)))
 refine s_as ?_
 refine k_nil (k_seq (awp_ret (k_blk_ret (k_seq_ret (k_rnd_ret2 (k_blk_ret (k_seq_ret (k_fin ?_))))))))
 cases hF10
 exact ends_a [] [] Try.results58
 refine s_mv ?_
 refine s_mv ?_
 obtain ⟨v12, hv12, hF11⟩ := bind_some' hF10
 refine s_sl01 Form.row (fun y => Form.row_len y) hv12 yU25 yE25 ?_
 refine s_mv ?_
 refine s_mv ?_
 obtain ⟨v13, hv13, hF12⟩ := bind_some' hF11
 refine s_ixT Form.row hv13 (Form.row_eq _) yE25 ?_
 refine s_ldN yA27 yS27 ?_
 obtain ⟨v14, hv14, hF13⟩ := bind_some' hF12
 refine s_pure [] (m_spec_l4In_ok fu _ _ _ hv14) ?_
 refine s_pkf ?_
 refine k_nilD (by kernel_rfl) ?_
 refine k_seq ?_
 refine w_cond hF13 ?_ ?_ <;> intro hc15 hF14
 refine awp_seq (awp_region ?_)
 refine s_as ?_
 refine k_nil (k_seq (awp_ret (k_blk_ret (k_seq_ret (k_rnd_ret2 (k_blk_ret (k_seq_ret (k_fin ?_))))))))
 cases hF14
 exact ends_a [] [] Try.results58
 refine awp_skip (k_blk (k_seq (awp_region ?_)))
 refine s_mv ?_
 refine s_add rfl ?_
 refine s_as ?_
 refine k_nil ?_
 exact s_rn (fu, (w64 (g1 + 1))) ⟨by first | omega | (dsimp only; omega), hF14⟩
 refine awp_exit (k_seq_exit (k_rnd_exit2 (k_blk_exit (k_seq (awp_seq (awp_region ?_))))))
 refine s_mv ?_
 refine s_lenT yU25 ?_
 refine s_lt ?_
 refine s_as ?_
 refine k_nil (k_seq (awp_ret (k_fin ?_)))
 cases hF3
 exact ends_a [] [] Try.results58
 refine r_no rfl (r_no rfl ?_)
 refine s_pkf ?_
 refine k_nil (k_seq (awp_false rfl (awp_exit (k_seq_exit (k_rnd_exit2 (k_blk_exit (k_seq (awp_seq (awp_region ?_)))))))))
 refine s_mv ?_
 refine s_lenT yU25 ?_
 refine s_lt ?_
 refine s_as ?_
 refine k_nil (k_seq (awp_ret (k_fin ?_)))
 cases hF2
 exact ends_a [] [] Try.results58
def m_spec_l4Dots_AC (fuel : Nat) : Prop := ∀ (x1 : Form) (r : Bool), m_spec_l4Dots fuel x1 = some r → AC Try.prog 87 [.ag [.t (.sc (.int .i64 x1.kind)), .t (.sc (.str x1.name)), .t (.sc (.int .i64 x1.n)), .t (.sl (x1.scopes.map rI)), .t (.sl (x1.kids.map Form.row))]] noOb (.t (.sc (.bool r))) noOb
theorem m_spec_l4Dots_ok (fuel : Nat) : m_spec_l4Dots_AC fuel := by
 intro x1 r hF0
 unfold m_spec_l4Dots at hF0
 refine AC_i [.t (.sc (.bool r))] Try.func87 rfl Try.ntmps87 ?_
 intro C hC
 refine awp_seq (awp_region ?_)
 refine s_box ?_
 refine s_as ?_
 refine k_nil (k_seq (awp_seq (awp_region ?_)))
 refine s_fa yF27_0 ?_
 refine s_ld1 yA3 ?_
 refine s_eq ?_
 refine s_mv ?_
 refine w_guard _ 6 hF0 ?_ ?_ <;> intro hc1 hF1
 refine s_fa yF27_1 ?_
 refine s_ld1 yA9 ?_
 refine s_eqS ?_
 refine s_pkt ?_
 refine s_as ?_
 refine k_nil (k_seq (awp_ret (k_fin ?_)))
 cases hF1
 exact ends_a [] [] Try.results87
 iterate 3 refine r_no rfl ?_
 refine s_pkf ?_
 refine s_as ?_
 refine k_nil (k_seq (awp_ret (k_fin ?_)))
 cases hF1
 exact ends_a [] [] Try.results87
end Go.Abs
