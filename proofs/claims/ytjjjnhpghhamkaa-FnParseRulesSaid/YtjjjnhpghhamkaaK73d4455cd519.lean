/- A part of the proof: what the functions that the law calls answer, as pure values. -/
import Derived.Test.YtjjjnhpghhamkaaK3d4d6f5cdb86
import Derived.Test.YtjjjnhpghhamkaaK46fe60e336e3
import Derived.Test.YtjjjnhpghhamkaaKb370a85aa8ee
import Derived.Test.YtjjjnhpghhamkaaKdf7d0822b09c
import Derived.Test.YtjjjnhpghhamkaaKfab6a4459ac9
import Derived.Test.YtjjjnhpghhamkaaKff31e34c179a
set_option linter.unusedSimpArgs false
set_option linter.unusedVariables false
set_option maxRecDepth 100000
set_option maxHeartbeats 4000000
namespace Go.Abs
open Go.Proofs
def m_laws_FnParseRules_AC (fuel : Nat) : Prop := ∀ (x1 : (List Int)) (r : Bool), m_laws_FnParseRules fuel x1 = some r → AC Try.prog 4 [.t (.sl (x1.map rB))] noOb (.t (.sc (.bool r))) noOb
theorem m_laws_FnParseRules_ok (fuel : Nat) : m_laws_FnParseRules_AC fuel := by
 intro x1 r hF0
 unfold m_laws_FnParseRules at hF0
 refine AC_i [.t (.sc (.bool r))] Try.func4 rfl Try.ntmps4 ?_
 intro C hC
 refine awp_seq (awp_region ?_)
 refine s_as ?_
 refine k_nil (k_seq (awp_seq (awp_seq (awp_region ?_))))
 refine s_mv ?_
 refine s_lenT yU22 ?_
 refine s_gt ?_
 refine k_nil (k_seq ?_)
 refine w_cond hF0 ?_ ?_ <;> intro hc1 hF1
 refine awp_lenT 0 (fun hb2 => ?_)
 refine awp_seq (awp_region ?_)
 refine s_as ?_
 refine k_nil (k_seq (awp_ret (k_seq_ret (k_fin ?_))))
 cases hF1
 exact ends_a [] [] Try.results4
 refine awp_skip (k_seq (awp_seq (awp_region ?_)))
 refine s_mv ?_
 obtain ⟨v3, hv3, hF2⟩ := bind_some' hF1
 refine s_pure [] (m_spec_DrawParseRules_ok fuel _ _ hv3) ?_
 refine s_alloc yZ27 ?_
 refine s_stW yS27 ?_
 refine k_nil (k_seq (awp_seq (awp_region ?_)))
 refine s_ldW yA27 yS27 ?_
 obtain ⟨v4, hv4, hF3⟩ := bind_some' hF2
 refine s_pure [] (m_impl_ParseRules_ok fuel _ _ hv4) ?_
 refine s_mv ?_
 iterate 3 refine s_ext ?_
 iterate 3 refine s_as ?_
 refine k_nil (k_seq (awp_seq (awp_region ?_)))
 refine s_ldW yA27 yS27 ?_
 obtain ⟨v5, hv5, hF4⟩ := bind_some' hF3
 refine s_pure [] (m_spec_ParseRules_ok fuel _ _ hv5) ?_
 refine s_mv ?_
 iterate 3 refine s_ext ?_
 iterate 3 refine s_as ?_
 refine k_nil (k_seq (awp_seq ?_))
 refine awp_jn (α := Nat × Bool) [28, 29, 30, 31, 32, 33, 34, 35, 36, 37, 38, 39, 40, 41, 42, 43, 44, 45, 46, 47] [] [] (fun a => [(47, .t (.sc (.bool a.2)))]) (fun a => []) (fun a => a.1 ≤ fuel ∧ m_laws_FnParseRules_j1 a.1 v3 v4 v5 a.2 = some r) ?_ ?_
 refine awp_region ?_
 refine s_mv ?_
 refine s_mv ?_
 obtain ⟨v6, hv6, hF5⟩ := bind_some' hF4
 refine s_pure [] (m_laws_mxForms_ok fuel _ _ _ hv6) ?_
 refine s_not ?_
 refine s_mv ?_
 refine w_guard _ 32 hF5 ?_ ?_ <;> intro hc7 hF6
 iterate 5 refine r_no rfl ?_
 refine s_pkt ?_
 refine s_mv ?_
 iterate 3 refine r_no rfl ?_
 refine s_pkt ?_
 refine s_mv ?_
 refine r_no rfl (r_no rfl ?_)
 refine s_pkt ?_
 refine k_nil ?_
 exact s_jn (fuel, true) ⟨by first | omega | (dsimp only; omega), hF6⟩
 refine s_mv ?_
 refine s_lenT yU38 ?_
 refine s_mv ?_
 refine s_lenT yU38 ?_
 refine s_ne ?_
 refine s_pkf ?_
 refine s_mv ?_
 refine w_guard _ 39 hF6 ?_ ?_ <;> intro hc8 hF7
 iterate 3 refine r_no rfl ?_
 refine s_pkt ?_
 refine s_mv ?_
 refine r_no rfl (r_no rfl ?_)
 refine s_pkt ?_
 refine k_nil ?_
 exact s_jn (fuel, true) ⟨by first | omega | (dsimp only; omega), hF7⟩
 refine s_mv ?_
 refine s_mv ?_
 refine s_neB yU4 ?_
 refine s_pkf ?_
 refine s_mv ?_
 refine w_guard _ 44 hF7 ?_ ?_ <;> intro hc9 hF8
 refine r_no rfl (r_no rfl ?_)
 refine s_pkt ?_
 refine k_nil ?_
 exact s_jn (fuel, true) ⟨by first | omega | (dsimp only; omega), hF8⟩
 refine s_mv ?_
 refine s_not ?_
 refine s_pkf ?_
 refine k_nil ?_
 exact s_jn (fuel, (!v4.2.2)) ⟨by first | omega | (dsimp only; omega), hF8⟩
 clear hF4
 rintro ⟨fu, g10⟩ ⟨hl11, hF5⟩
 dsimp only at hl11 hF5 ⊢
 obtain _ | fu := fu
 · rw [m_laws_FnParseRules_j1] at hF5; cases hF5
 rw [m_laws_FnParseRules_j1] at hF5
 refine w_cond hF5 ?_ ?_ <;> intro hc12 hF6
 refine awp_jn (α := Nat × Bool) [2, 48, 49, 50, 51, 52, 53, 54, 55, 56, 57, 58, 59, 60, 61, 62] [] [] (fun a => [(2, .t (.sc (.bool a.2)))]) (fun a => []) (fun a => a.1 ≤ fu ∧ m_laws_FnParseRules_j2 a.1  a.2 = some r) ?_ ?_
 refine awp_region ?_
 refine s_mv ?_
 refine s_mv ?_
 obtain ⟨v13, hv13, hF7⟩ := bind_some' hF6
 refine s_pure [] (m_laws_mxForms_ok fu _ _ _ hv13) ?_
 refine s_mv ?_
 refine w_guard _ 51 hF7 ?_ ?_ <;> intro hc14 hF8
 refine s_mv ?_
 refine s_lenT yU38 ?_
 refine s_mv ?_
 refine s_lenT yU38 ?_
 refine s_eq ?_
 refine s_pkt ?_
 refine s_mv ?_
 refine w_guard _ 58 hF8 ?_ ?_ <;> intro hc15 hF9
 refine s_mv ?_
 refine s_mv ?_
 refine s_eqB yU4 ?_
 refine s_pkt ?_
 refine s_as ?_
 refine k_nil ?_
 exact s_jn (fu, (decide (v4.2.2 = v5.2.2))) ⟨by first | omega | (dsimp only; omega), hF9⟩
 iterate 3 refine r_no rfl ?_
 refine s_pkf ?_
 refine s_as ?_
 refine k_nil ?_
 exact s_jn (fu, false) ⟨by first | omega | (dsimp only; omega), hF9⟩
 iterate 5 refine r_no rfl ?_
 refine s_pkf ?_
 refine s_mv ?_
 iterate 3 refine r_no rfl ?_
 refine s_pkf ?_
 refine s_as ?_
 refine k_nil ?_
 exact s_jn (fu, false) ⟨by first | omega | (dsimp only; omega), hF8⟩
 clear hF6
 rintro ⟨fu, g16⟩ ⟨hl17, hF7⟩
 dsimp only at hl17 hF7 ⊢
 obtain _ | fu := fu
 · rw [m_laws_FnParseRules_j2] at hF7; cases hF7
 rw [m_laws_FnParseRules_j2] at hF7
 refine awp_ret (k_seq_ret (k_fin ?_))
 cases hF7
 exact ends_a [] [] Try.results4
 refine awp_skip (k_seq ?_)
 refine awp_jn (α := Nat) [2, 10, 63, 64, 65, 66, 67, 68, 69, 70, 71, 72, 73, 74, 75, 76, 77, 78, 79, 80, 81, 82, 83, 84, 85, 86, 87, 88, 89, 90, 91, 92, 93, 94, 95, 96, 97, 98, 99, 100, 101, 102, 103, 104, 105, 106, 107, 108, 109, 110, 111] [] [] (fun a => []) (fun a => []) (fun a => a ≤ fu ∧ m_laws_FnParseRules_j3 a v3 v4  = some r) ?_ ?_
 refine awp_seq (awp_region ?_)
 refine s_as ?_
 refine k_nil (k_seq (awp_block ?_))
 refine awp_fr (β := Int) [2, 10, 63, 64, 65, 66, 67, 68, 69, 70, 71, 72, 73, 74, 75, 76, 77, 78, 79, 80, 81, 82, 83, 84, 85, 86, 87, 88, 89, 90, 91, 92, 93, 94, 95, 96, 97, 98, 99, 100, 101, 102, 103, 104, 105, 106, 107, 108, 109, 110, 111] [] [] (fun a => [(10, .t (.sc (.int .i64 a.2)))]) (fun a => []) (fun a => a.1 ≤ fu ∧ m_laws_FnParseRules_l4 a.1 v3 v4 a.2 = some r ∧ 0 ≤ a.2) (fu, 0) ⟨Nat.le_refl _, hF6, by simp⟩ ?_
 clear hF6
 rintro ⟨fu, g18⟩ ⟨hl19, hF7, hn_g18⟩
 dsimp only at hl19 hF7 hn_g18 ⊢
 obtain _ | fu := fu
 · rw [m_laws_FnParseRules_l4] at hF7; cases hF7
 rw [m_laws_FnParseRules_l4] at hF7
 refine awp_seq (awp_seq (awp_region ?_))
 refine s_mv ?_
 refine s_mv ?_
 refine s_lenT yU38 ?_
 refine s_lt ?_
 refine k_nil (k_seq ?_)
 refine w_cond hF7 ?_ ?_ <;> intro hc20 hF8
 refine awp_lenT 5 (fun hb21 => ?_)
 refine awp_skip (k_seq (awp_seq (awp_block (awp_seq ?_))))
 refine awp_draw yMix (by kernel_rfl) ?_
 refine s_mv ?_
 refine s_mv ?_
 obtain ⟨v22, hv22, hF9⟩ := bind_some' hF8
 refine s_ixT Rule.row hv22 (Rule.row_eq _) yE38 ?_
 refine s_ldN yA44 yS44 ?_
 refine s_mv ?_
 obtain ⟨v23, hv23, hF10⟩ := bind_some' hF9
 refine s_pure [] (m_impl_RuleValid_ok fu _ _ _ hv23) ?_
 refine s_not ?_
 refine s_mv ?_
 refine w_guard _ 76 hF10 ?_ ?_ <;> intro hc24 hF11
 iterate 16 refine r_no rfl ?_
 refine s_pkt ?_
 refine s_mv ?_
 iterate 16 refine r_no rfl ?_
 refine s_pkt ?_
 refine k_nilD (by kernel_rfl) ?_
 refine k_seq (awp_true rfl (awp_seq (awp_region ?_)))
 refine s_as ?_
 refine k_nil (k_seq (awp_ret (k_blk_ret (k_seq_ret (k_rnd_ret2 (k_blk_ret (k_jn_ret (k_fin ?_))))))))
 cases hF11
 exact ends_a [] [] Try.results4
 refine s_mv ?_
 refine s_mv ?_
 obtain ⟨v25, hv25, hF12⟩ := bind_some' hF11
 refine s_ixT Rule.row hv25 (Rule.row_eq _) yE38 ?_
 refine s_fa yF44_0 ?_
 refine s_ldN yA27 yS27 ?_
 refine s_fa yF27_4 ?_
 refine s_ld1 yA25 ?_
 refine s_mv ?_
 refine s_add rfl ?_
 obtain ⟨v26, hv26, hF13⟩ := bind_some' hF12
 refine s_ixT Form.row hv26 (Form.row_eq _) yE25 ?_
 refine s_fa yF27_4 ?_
 refine s_ld1 yA25 ?_
 obtain ⟨v27, hv27, hF14⟩ := bind_some' hF13
 refine s_ixT Form.row hv27 (Form.row_eq _) yE25 ?_
 refine s_ldN yA27 yS27 ?_
 obtain ⟨v28, hv28, hF15⟩ := bind_some' hF14
 refine s_pure [] (m_impl_FormSame_ok fu _ _ _ hv28) ?_
 refine s_not ?_
 refine s_pkf ?_
 refine s_mv ?_
 refine w_guard _ 94 hF15 ?_ ?_ <;> intro hc29 hF16
 iterate 16 refine r_no rfl ?_
 refine s_pkt ?_
 refine k_nilD (by kernel_rfl) ?_
 refine k_seq (awp_true rfl (awp_seq (awp_region ?_)))
 refine s_as ?_
 refine k_nil (k_seq (awp_ret (k_blk_ret (k_seq_ret (k_rnd_ret2 (k_blk_ret (k_jn_ret (k_fin ?_))))))))
 cases hF16
 exact ends_a [] [] Try.results4
 refine s_mv ?_
 refine s_mv ?_
 obtain ⟨v30, hv30, hF17⟩ := bind_some' hF16
 refine s_ixT Rule.row hv30 (Rule.row_eq _) yE38 ?_
 refine s_fa yF44_1 ?_
 refine s_ldN yA27 yS27 ?_
 refine s_fa yF27_4 ?_
 refine s_ld1 yA25 ?_
 refine s_mv ?_
 refine s_add rfl ?_
 obtain ⟨v31, hv31, hF18⟩ := bind_some' hF17
 refine s_ixT Form.row hv31 (Form.row_eq _) yE25 ?_
 refine s_fa yF27_4 ?_
 refine s_ld1 yA25 ?_
 obtain ⟨v32, hv32, hF19⟩ := bind_some' hF18
 refine s_ixT Form.row hv32 (Form.row_eq _) yE25 ?_
 refine s_ldN yA27 yS27 ?_
 obtain ⟨v33, hv33, hF20⟩ := bind_some' hF19
 refine s_pure [] (m_impl_FormSame_ok fu _ _ _ hv33) ?_
 refine s_not ?_
 refine s_pkf ?_
 refine k_nilD (by kernel_rfl) ?_
 refine k_seq ?_
 refine w_cond hF20 ?_ ?_ <;> intro hc34 hF21
 refine awp_seq (awp_region ?_)
 refine s_as ?_
 refine k_nil (k_seq (awp_ret (k_blk_ret (k_seq_ret (k_rnd_ret2 (k_blk_ret (k_jn_ret (k_fin ?_))))))))
 cases hF21
 exact ends_a [] [] Try.results4
 refine awp_skip (k_blk (k_seq (awp_region ?_)))
 refine s_mv ?_
 refine s_add (winc2 hc20 hb21 hn_g18) ?_
 refine s_as ?_
 refine k_nil ?_
 exact s_rn (fu, (g18 + 1)) ⟨by first | omega | (dsimp only; omega), hF21, by first | omega | (dsimp only; omega)⟩
 refine awp_exit (k_seq_exit (k_rnd_exit2 (k_blk_exit ?_)))
 exact s_jn (fu) ⟨by first | omega | (dsimp only; omega), hF8⟩
 clear hF6
 rintro fu ⟨hl35, hF7⟩
 obtain _ | fu := fu
 · rw [m_laws_FnParseRules_j3] at hF7; cases hF7
 rw [m_laws_FnParseRules_j3] at hF7
 refine awp_seq (awp_region ?_)
 refine s_mv ?_
 refine s_lenT yU38 ?_
 refine s_fa yF27_4 ?_
 refine s_ld1 yA25 ?_
 refine s_lenT yU25 ?_
 refine s_sub rfl ?_
 refine s_eq ?_
 refine s_mv ?_
 refine w_guard _ 119 hF7 ?_ ?_ <;> intro hc36 hF8
 refine s_mv ?_
 refine s_fa yF27_4 ?_
 refine s_ld1 yA25 ?_
 obtain ⟨v37, hv37, hF9⟩ := bind_some' hF8
 refine s_ixT Form.row hv37 (Form.row_eq _) yE25 ?_
 refine s_fa yF27_4 ?_
 refine s_ld1 yA25 ?_
 obtain ⟨v38, hv38, hF10⟩ := bind_some' hF9
 refine s_pure [] (m_laws_mxForms_ok fu _ _ _ hv38) ?_
 refine s_pkt ?_
 refine s_as ?_
 refine k_nil (k_seq (awp_ret (k_fin ?_)))
 cases hF10
 exact ends_a [] [] Try.results4
 iterate 7 refine r_no rfl ?_
 refine s_pkf ?_
 refine s_as ?_
 refine k_nil (k_seq (awp_ret (k_fin ?_)))
 cases hF8
 exact ends_a [] [] Try.results4
end Go.Abs
