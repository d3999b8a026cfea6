/- A part of the proof: what the functions that the law calls answer, as pure values. -/
import Derived.Test.YtjjjnhpghhamkaaGreatK2563cecb0659
import Derived.Test.YtjjjnhpghhamkaaGreatK35a552f26911
import Derived.Test.YtjjjnhpghhamkaaGreatK4aeef59f488b
import Derived.Test.YtjjjnhpghhamkaaGreatK4c649c528dc8
import Derived.Test.YtjjjnhpghhamkaaGreatK51b78b869065
import Derived.Test.YtjjjnhpghhamkaaGreatK7db75e138112
import Derived.Test.YtjjjnhpghhamkaaGreatKc64556009615
import Derived.Test.YtjjjnhpghhamkaaGreatKeb23205d8aa7
import Derived.Test.YtjjjnhpghhamkaaGreatKff06b70fb889
set_option linter.unusedSimpArgs false
set_option linter.unusedVariables false
set_option maxRecDepth 100000
set_option maxHeartbeats 4000000
namespace Go.Abs
open Go.Proofs
def m_impl_rulesOk_AC (fuel : Nat) : Prop := ∀ (x1 : (List Rule)) (x2 : (List Form)) (r : Bool), m_impl_rulesOk fuel x1 x2 = some r → AC Tryz.prog 98 [.t (.sl (x1.map Rule.row)), .t (.sl (x2.map Form.row))] noOb (.t (.sc (.bool r))) noOb
theorem m_impl_rulesOk_ok (fuel : Nat) : m_impl_rulesOk_AC fuel := by
 intro x1 x2 r hF0
 unfold m_impl_rulesOk at hF0
 refine AC_i [.t (.sc (.bool r))] Tryz.func98 rfl Tryz.ntmps98 ?_
 intro C hC
 refine awp_seq (awp_region ?_)
 refine s_box ?_
 refine s_as ?_
 refine k_nil (k_seq (awp_seq (awp_region ?_)))
 refine s_mv ?_
 refine s_lenT yU62 ?_
 refine s_le ?_
 refine s_mv ?_
 refine w_guard _ 8 hF0 ?_ ?_ <;> intro hc1 hF1
 refine s_ld1 yA25 ?_
 obtain ⟨v2, hv2, hF2⟩ := bind_some' hF1
 refine s_pure [] (m_impl_literalsOk_ok fuel _ _ hv2) ?_
 refine s_pkt ?_
 refine s_mv ?_
 refine w_guard _ 12 hF2 ?_ ?_ <;> intro hc3 hF3
 refine s_mv ?_
 refine s_fn ?_
 obtain ⟨v4, hv4, hF4⟩ := bind_some' hF3
 refine s_call [(9000, 3)] [] _ _ (m_slices_ContainsFunc_Rule_rulesOk_1_ok fuel _ _ _ hv4) ?_
 refine s_not ?_
 refine s_pkt ?_
 refine s_as ?_
 refine k_nil (k_seq (awp_ret (k_fin ?_)))
 cases hF4
 exact ends_a [] [] Tryz.results98
 iterate 4 refine r_no rfl ?_
 refine s_pkf ?_
 refine s_as ?_
 refine k_nil (k_seq (awp_ret (k_fin ?_)))
 cases hF3
 exact ends_a [] [] Tryz.results98
 refine r_no rfl (r_no rfl ?_)
 refine s_pkf ?_
 refine s_mv ?_
 iterate 4 refine r_no rfl ?_
 refine s_pkf ?_
 refine s_as ?_
 refine k_nil (k_seq (awp_ret (k_fin ?_)))
 cases hF1
 exact ends_a [] [] Tryz.results98
def m_impl_FirstRule_AC (fuel : Nat) : Prop := ∀ (x1 : (List Bind)) (x2 : (List Rule)) (x3 : (List Form)) (x4 : Form) (r : (Int × Bool)), m_impl_FirstRule fuel x1 x2 x3 x4 = some r → AC Tryz.prog 38 [.t (.sl (x1.map Bind.row)), .t (.sl (x2.map Rule.row)), .t (.sl (x3.map Form.row)), .ag [.t (.sc (.int .i64 x4.kind)), .t (.sc (.str x4.name)), .t (.sc (.int .i64 x4.n)), .t (.sl (x4.scopes.map rI)), .t (.sl (x4.kids.map Form.row))]] noOb (.tp [.t (.sc (.int .i64 r.1)), .t (.sc (.bool r.2))]) noOb
theorem m_impl_FirstRule_ok (fuel : Nat) : m_impl_FirstRule_AC fuel := by
 intro x1 x2 x3 x4 r hF0
 unfold m_impl_FirstRule at hF0
 refine AC_i [.t (.sc (.int .i64 r.1)), .t (.sc (.bool r.2))] Tryz.func38 rfl Tryz.ntmps38 ?_
 intro C hC
 refine awp_seq (awp_region ?_)
 refine s_box ?_
 refine s_as ?_
 refine s_as ?_
 refine k_nil (k_seq (awp_seq ?_))
 refine awp_jn (α := Nat × Bool) [14, 15, 16, 17, 18, 19, 20, 21, 22, 23, 24, 25, 26, 27] [] [] (fun a => [(27, .t (.sc (.bool a.2)))]) (fun a => []) (fun a => a.1 ≤ fuel ∧ m_impl_FirstRule_j1 a.1 x1 x2 x3 x4 a.2 = some r) ?_ ?_
 refine awp_region ?_
 refine s_mv ?_
 obtain ⟨v1, hv1, hF1⟩ := bind_some' hF0
 refine s_pure [] (m_impl_BindsValid_ok fuel _ _ hv1) ?_
 refine s_not ?_
 refine s_mv ?_
 refine w_guard _ 17 hF1 ?_ ?_ <;> intro hc2 hF2
 iterate 4 refine r_no rfl ?_
 refine s_pkt ?_
 refine s_mv ?_
 iterate 3 refine r_no rfl ?_
 refine s_pkt ?_
 refine k_nil ?_
 exact s_jn (fuel, true) ⟨by first | omega | (dsimp only; omega), hF2⟩
 refine s_mv ?_
 refine s_mv ?_
 obtain ⟨v3, hv3, hF3⟩ := bind_some' hF2
 refine s_pure [] (m_impl_rulesOk_ok fuel _ _ _ hv3) ?_
 refine s_not ?_
 refine s_pkf ?_
 refine s_mv ?_
 refine w_guard _ 23 hF3 ?_ ?_ <;> intro hc4 hF4
 iterate 3 refine r_no rfl ?_
 refine s_pkt ?_
 refine k_nil ?_
 exact s_jn (fuel, true) ⟨by first | omega | (dsimp only; omega), hF4⟩
 refine s_ldW yA27 yS27 ?_
 obtain ⟨v5, hv5, hF5⟩ := bind_some' hF4
 refine s_pure [] (m_impl_FormValid_ok fuel _ _ hv5) ?_
 refine s_not ?_
 refine s_pkf ?_
 refine k_nil ?_
 exact s_jn (fuel, (!v5)) ⟨by first | omega | (dsimp only; omega), hF5⟩
 clear hF0
 rintro ⟨fu, g6⟩ ⟨hl7, hF1⟩
 dsimp only at hl7 hF1 ⊢
 obtain _ | fu := fu
 · rw [m_impl_FirstRule_j1] at hF1; cases hF1
 rw [m_impl_FirstRule_j1] at hF1
 refine w_cond hF1 ?_ ?_ <;> intro hc8 hF2
 refine awp_seq (awp_region ?_)
 refine s_as ?_
 refine s_as ?_
 refine k_nil (k_seq (awp_ret (k_seq_ret (k_fin ?_))))
 cases hF2
 exact ends_a [] [] Tryz.results38
 refine awp_skip (k_seq (awp_seq (awp_seq (awp_region ?_))))
 refine s_mv ?_
 refine s_lenT yU62 ?_
 refine s_mv ?_
 refine k_nil (k_seq (awp_block ?_))
 refine awp_fr (β := Int) [8, 9, 10, 11, 12, 13, 30, 31, 32, 33, 34, 35, 36, 37, 38, 39, 40, 41, 42, 43, 44, 45, 46] [] [11] (fun a => [(30, .t (.sc (.int .i64 a.2)))]) (fun a => []) (fun a => a.1 ≤ fu ∧ m_impl_FirstRule_l2 a.1 x1 x2 x3 x4 a.2 = some r ∧ 0 ≤ a.2) (fu, 0) ⟨Nat.le_refl _, hF2, by simp⟩ ?_
 clear hF2
 rintro ⟨fu, g9⟩ ⟨hl10, hF3, hn_g9⟩
 dsimp only at hl10 hF3 hn_g9 ⊢
 obtain _ | fu := fu
 · rw [m_impl_FirstRule_l2] at hF3; cases hF3
 rw [m_impl_FirstRule_l2] at hF3
 refine awp_seq (awp_region ?_)
 refine s_lt ?_
 refine k_nil (k_seq (awp_seq ?_))
 refine w_cond hF3 ?_ ?_ <;> intro hc11 hF4
 refine awp_lenT 1 (fun hb12 => ?_)
 refine awp_skip (k_seq (awp_seq (awp_block (awp_seq (awp_region ?_)))))
 refine s_mv ?_
 obtain ⟨v13, hv13, hF5⟩ := bind_some' hF4
 refine s_ixT Rule.row hv13 (Rule.row_eq _) yE62 ?_
 refine s_ldN yA73 yS73 ?_
 refine s_alloc yZ73 ?_
 refine s_as ?_
 refine s_stW yS73 ?_
 refine k_nil (k_seq (awp_seq (awp_region ?_)))
 refine s_mv ?_
 refine s_fa yF73_0 ?_
 refine s_ldN yA27 yS27 ?_
 refine s_mv ?_
 refine s_ldW yA27 yS27 ?_
 obtain ⟨v14, hv14, hF6⟩ := bind_some' hF5
 refine s_pure [] (m_impl_match_ok fu _ _ _ _ _ hv14) ?_
 refine s_mv ?_
 refine s_ext ?_
 refine s_ext ?_
 refine s_as ?_
 refine s_as ?_
 refine k_nil (k_seq (awp_seq (awp_region ?_)))
 refine s_mv ?_
 refine k_nil (k_seq ?_)
 refine w_cond hF6 ?_ ?_ <;> intro hc15 hF7
 refine awp_seq (awp_region ?_)
 refine s_mv ?_
 refine s_as ?_
 refine s_as ?_
 refine k_nil (k_seq (awp_ret (k_blk_ret (k_seq_ret (k_rnd_ret2 (k_blk_ret (k_seq_ret (k_fin ?_))))))))
 cases hF7
 exact ends_a [] [] Tryz.results38
 refine awp_skip (k_blk (k_seq (awp_region ?_)))
 refine s_add (winc2 hc11 hb12 hn_g9) ?_
 refine s_mv ?_
 refine k_nil ?_
 exact s_rn (fu, (g9 + 1)) ⟨by first | omega | (dsimp only; omega), hF7, by first | omega | (dsimp only; omega)⟩
 refine awp_exit (k_seq_exit (k_rnd_exit2 (k_blk_exit (k_seq (awp_seq (awp_region ?_))))))
 refine s_as ?_
 refine s_as ?_
 refine k_nil (k_seq (awp_ret (k_fin ?_)))
 cases hF4
 exact ends_a [] [] Tryz.results38
def m_spec_l5Texts_AC (fuel : Nat) : Prop := ∀  (r : (List (List ByteArray))), m_spec_l5Texts fuel  = some r → AC Tryz.prog 156 [] noOb (.t (.sl (r.map (rL rS)))) noOb
theorem m_spec_l5Texts_ok (fuel : Nat) : m_spec_l5Texts_AC fuel := by
 intro  r hF0
 unfold m_spec_l5Texts at hF0
 refine AC_i [.t (.sl (r.map (rL rS)))] Tryz.func156 rfl Tryz.ntmps156 ?_
 intro C hC
 refine awp_seq (awp_region ?_)
 refine s_as ?_
 refine k_nil (k_seq (awp_seq (awp_region ?_)))
 refine s_bs rS [(⟨#[40, 114, 117, 108, 101, 115, 32, 40, 41, 32, 40, 40, 95, 32, 97, 32, 98, 41, 32, 40, 108, 101, 116, 32, 40, 40, 116, 109, 112, 32, 97, 41, 41, 32, 40, 108, 105, 115, 116, 32, 98, 32, 116, 109, 112, 41, 41, 41, 41]⟩ : ByteArray), (⟨#[40, 115, 119, 97, 112, 32, 120, 32, 121, 41]⟩ : ByteArray)] yP36 yR9 ?_
 refine s_bs rS [(⟨#[40, 114, 117, 108, 101, 115, 32, 40, 41, 32, 40, 40, 95, 41, 32, 48, 41, 32, 40, 40, 95, 32, 97, 41, 32, 97, 41, 32, 40, 40, 95, 32, 97, 32, 98, 32, 46, 46, 46, 41, 32, 40, 105, 102, 32, 97, 32, 49, 32, 40, 111, 114, 32, 98, 32, 46, 46, 46, 41, 41, 41, 41]⟩ : ByteArray), (⟨#[40, 111, 114, 32, 120, 32, 121, 32, 122, 41]⟩ : ByteArray)] yP36 yR9 ?_
 refine s_bs rS [(⟨#[40, 114, 117, 108, 101, 115, 32, 40, 41, 32, 40, 40, 95, 32, 40, 40, 120, 32, 118, 41, 32, 46, 46, 46, 41, 32, 98, 111, 100, 121, 41, 32, 40, 40, 108, 97, 109, 98, 100, 97, 32, 40, 120, 32, 46, 46, 46, 41, 32, 98, 111, 100, 121, 41, 32, 118, 32, 46, 46, 46, 41, 41, 41]⟩ : ByteArray), (⟨#[40, 109, 121, 108, 101, 116, 32, 40, 40, 112, 32, 49, 41, 32, 40, 113, 32, 50, 41, 41, 32, 40, 102, 32, 112, 32, 113, 41, 41]⟩ : ByteArray)] yP36 yR9 ?_
 refine s_bs rS [(⟨#[40, 114, 117, 108, 101, 115, 32, 40, 101, 108, 115, 101, 41, 32, 40, 40, 95, 32, 101, 108, 115, 101, 32, 101, 41, 32, 101, 41, 32, 40, 40, 95, 32, 99, 32, 101, 32, 114, 32, 46, 46, 46, 41, 32, 40, 105, 102, 32, 99, 32, 101, 32, 40, 99, 111, 110, 100, 32, 114, 32, 46, 46, 46, 41, 41, 41, 41]⟩ : ByteArray), (⟨#[40, 99, 111, 110, 100, 32, 112, 32, 49, 32, 101, 108, 115, 101, 32, 50, 41]⟩ : ByteArray)] yP36 yR9 ?_
 refine s_bs rS [(⟨#[40, 114, 117, 108, 101, 115, 32, 40, 41, 32, 40, 40, 95, 32, 40, 97, 32, 98, 32, 46, 46, 46, 41, 32, 46, 46, 46, 41, 32, 40, 109, 32, 40, 97, 32, 46, 46, 46, 41, 32, 40, 40, 97, 32, 98, 32, 46, 46, 46, 41, 32, 46, 46, 46, 41, 32, 49, 41, 41, 41]⟩ : ByteArray), (⟨#[40, 109, 32, 40, 120, 32, 49, 32, 50, 41, 32, 40, 121, 41, 41]⟩ : ByteArray)] yP36 yR9 ?_
 refine s_bs rS [(⟨#[40, 114, 117, 108, 101, 115, 32, 40, 41, 32, 40, 40, 95, 32, 97, 32, 46, 46, 46, 41, 32, 40, 108, 105, 115, 116, 32, 97, 32, 46, 46, 46, 32, 97, 32, 46, 46, 46, 41, 41, 41]⟩ : ByteArray), (⟨#[40, 116, 119, 105, 99, 101, 32, 49, 32, 50, 41]⟩ : ByteArray)] yP36 yR9 ?_
 refine s_bs rS [(⟨#[40, 114, 117, 108, 101, 115, 32, 40, 41, 32, 40, 40, 95, 32, 97, 32, 46, 46, 46, 41, 32, 40, 40, 97, 32, 49, 41, 32, 46, 46, 46, 41, 41, 32, 40, 40, 95, 32, 98, 41, 32, 98, 41, 41]⟩ : ByteArray), (⟨#[40, 112, 97, 105, 114, 115, 32, 112, 32, 113, 41]⟩ : ByteArray)] yP36 yR9 ?_
 refine s_bs rS [(⟨#[40, 114, 117, 108, 101, 115, 32, 40, 41, 32, 40, 40, 95, 32, 97, 41, 32, 97, 41, 32, 40, 40, 95, 32, 53, 41, 32, 54, 41, 32, 40, 40, 95, 32, 97, 32, 98, 41, 32, 98, 41, 41]⟩ : ByteArray), (⟨#[40, 107, 32, 53, 41]⟩ : ByteArray)] yP36 yR9 ?_
 refine s_bs (rL rS) [[(⟨#[40, 114, 117, 108, 101, 115, 32, 40, 41, 32, 40, 40, 95, 32, 97, 32, 98, 41, 32, 40, 108, 101, 116, 32, 40, 40, 116, 109, 112, 32, 97, 41, 41, 32, 40, 108, 105, 115, 116, 32, 98, 32, 116, 109, 112, 41, 41, 41, 41]⟩ : ByteArray), (⟨#[40, 115, 119, 97, 112, 32, 120, 32, 121, 41]⟩ : ByteArray)], [(⟨#[40, 114, 117, 108, 101, 115, 32, 40, 41, 32, 40, 40, 95, 41, 32, 48, 41, 32, 40, 40, 95, 32, 97, 41, 32, 97, 41, 32, 40, 40, 95, 32, 97, 32, 98, 32, 46, 46, 46, 41, 32, 40, 105, 102, 32, 97, 32, 49, 32, 40, 111, 114, 32, 98, 32, 46, 46, 46, 41, 41, 41, 41]⟩ : ByteArray), (⟨#[40, 111, 114, 32, 120, 32, 121, 32, 122, 41]⟩ : ByteArray)], [(⟨#[40, 114, 117, 108, 101, 115, 32, 40, 41, 32, 40, 40, 95, 32, 40, 40, 120, 32, 118, 41, 32, 46, 46, 46, 41, 32, 98, 111, 100, 121, 41, 32, 40, 40, 108, 97, 109, 98, 100, 97, 32, 40, 120, 32, 46, 46, 46, 41, 32, 98, 111, 100, 121, 41, 32, 118, 32, 46, 46, 46, 41, 41, 41]⟩ : ByteArray), (⟨#[40, 109, 121, 108, 101, 116, 32, 40, 40, 112, 32, 49, 41, 32, 40, 113, 32, 50, 41, 41, 32, 40, 102, 32, 112, 32, 113, 41, 41]⟩ : ByteArray)], [(⟨#[40, 114, 117, 108, 101, 115, 32, 40, 101, 108, 115, 101, 41, 32, 40, 40, 95, 32, 101, 108, 115, 101, 32, 101, 41, 32, 101, 41, 32, 40, 40, 95, 32, 99, 32, 101, 32, 114, 32, 46, 46, 46, 41, 32, 40, 105, 102, 32, 99, 32, 101, 32, 40, 99, 111, 110, 100, 32, 114, 32, 46, 46, 46, 41, 41, 41, 41]⟩ : ByteArray), (⟨#[40, 99, 111, 110, 100, 32, 112, 32, 49, 32, 101, 108, 115, 101, 32, 50, 41]⟩ : ByteArray)], [(⟨#[40, 114, 117, 108, 101, 115, 32, 40, 41, 32, 40, 40, 95, 32, 40, 97, 32, 98, 32, 46, 46, 46, 41, 32, 46, 46, 46, 41, 32, 40, 109, 32, 40, 97, 32, 46, 46, 46, 41, 32, 40, 40, 97, 32, 98, 32, 46, 46, 46, 41, 32, 46, 46, 46, 41, 32, 49, 41, 41, 41]⟩ : ByteArray), (⟨#[40, 109, 32, 40, 120, 32, 49, 32, 50, 41, 32, 40, 121, 41, 41]⟩ : ByteArray)], [(⟨#[40, 114, 117, 108, 101, 115, 32, 40, 41, 32, 40, 40, 95, 32, 97, 32, 46, 46, 46, 41, 32, 40, 108, 105, 115, 116, 32, 97, 32, 46, 46, 46, 32, 97, 32, 46, 46, 46, 41, 41, 41]⟩ : ByteArray), (⟨#[40, 116, 119, 105, 99, 101, 32, 49, 32, 50, 41]⟩ : ByteArray)], [(⟨#[40, 114, 117, 108, 101, 115, 32, 40, 41, 32, 40, 40, 95, 32, 97, 32, 46, 46, 46, 41, 32, 40, 40, 97, 32, 49, 41, 32, 46, 46, 46, 41, 41, 32, 40, 40, 95, 32, 98, 41, 32, 98, 41, 41]⟩ : ByteArray), (⟨#[40, 112, 97, 105, 114, 115, 32, 112, 32, 113, 41]⟩ : ByteArray)], [(⟨#[40, 114, 117, 108, 101, 115, 32, 40, 41, 32, 40, 40, 95, 32, 97, 41, 32, 97, 41, 32, 40, 40, 95, 32, 53, 41, 32, 54, 41, 32, 40, 40, 95, 32, 97, 32, 98, 41, 32, 98, 41, 41]⟩ : ByteArray), (⟨#[40, 107, 32, 53, 41]⟩ : ByteArray)]] yP140 yR36 ?_
 refine s_as ?_
 refine k_nil (k_seq (awp_ret (k_fin ?_)))
 cases hF0
 exact ends_a [] [9] Tryz.results156
def m_spec_ParseRules_AC (fuel : Nat) : Prop := ∀ (x1 : Form) (r : ((List Form) × (List Rule) × Bool)), m_spec_ParseRules fuel x1 = some r → AC Tryz.prog 157 [.ag [.t (.sc (.int .i64 x1.kind)), .t (.sc (.str x1.name)), .t (.sc (.int .i64 x1.n)), .t (.sl (x1.scopes.map rI)), .t (.sl (x1.kids.map Form.row))]] noOb (.tp [.t (.sl (r.1.map Form.row)), .t (.sl (r.2.1.map Rule.row)), .t (.sc (.bool r.2.2))]) noOb
theorem m_spec_ParseRules_ok (fuel : Nat) : m_spec_ParseRules_AC fuel := by
 intro x1 r hF0
 unfold m_spec_ParseRules at hF0
 refine AC_i [.t (.sl (r.1.map Form.row)), .t (.sl (r.2.1.map Rule.row)), .t (.sc (.bool r.2.2))] Tryz.func157 rfl Tryz.ntmps157 ?_
 intro C hC
 refine awp_seq (awp_region ?_)
 refine s_box ?_
 iterate 3 refine s_as ?_
 refine k_nil (k_seq (awp_seq (awp_region ?_)))
 refine s_bs Form.row ([] : List Form) yP25 yR27 ?_
 refine s_as ?_
 refine k_nil (k_seq (awp_seq (awp_region ?_)))
 refine s_bs Rule.row ([] : List Rule) yP62 yR73 ?_
 refine s_as ?_
 refine k_nil (k_seq (awp_seq ?_))
 refine awp_jn (α := Nat × Bool) [11, 12, 13, 14, 15, 16, 17, 18, 19, 20, 21, 22, 23, 24, 25, 26, 27, 28, 29, 30, 31, 32, 33, 34, 35, 36, 37, 38, 39, 40] [] [] (fun a => [(40, .t (.sc (.bool a.2)))]) (fun a => []) (fun a => a.1 ≤ fuel ∧ m_spec_ParseRules_j1 a.1 x1 a.2 = some r) ?_ ?_
 refine awp_region ?_
 refine s_ldW yA27 yS27 ?_
 obtain ⟨v1, hv1, hF1⟩ := bind_some' hF0
 refine s_pure [] (m_spec_FormValid_ok fuel _ _ hv1) ?_
 refine s_not ?_
 refine s_mv ?_
 refine w_guard _ 14 hF1 ?_ ?_ <;> intro hc2 hF2
 iterate 3 refine r_no rfl ?_
 refine s_pkt ?_
 refine s_mv ?_
 iterate 4 refine r_no rfl ?_
 refine s_pkt ?_
 refine s_mv ?_
 iterate 6 refine r_no rfl ?_
 refine s_pkt ?_
 refine s_mv ?_
 iterate 6 refine r_no rfl ?_
 refine s_pkt ?_
 refine k_nil ?_
 exact s_jn (fuel, true) ⟨by first | omega | (dsimp only; omega), hF2⟩
 refine s_fa yF27_0 ?_
 refine s_ld1 yA3 ?_
 refine s_ne ?_
 refine s_pkf ?_
 refine s_mv ?_
 refine w_guard _ 19 hF2 ?_ ?_ <;> intro hc3 hF3
 iterate 4 refine r_no rfl ?_
 refine s_pkt ?_
 refine s_mv ?_
 iterate 6 refine r_no rfl ?_
 refine s_pkt ?_
 refine s_mv ?_
 iterate 6 refine r_no rfl ?_
 refine s_pkt ?_
 refine k_nil ?_
 exact s_jn (fuel, true) ⟨by first | omega | (dsimp only; omega), hF3⟩
 refine s_fa yF27_4 ?_
 refine s_ld1 yA25 ?_
 refine s_lenT yU25 ?_
 refine s_lt ?_
 refine s_pkf ?_
 refine s_mv ?_
 refine w_guard _ 25 hF3 ?_ ?_ <;> intro hc4 hF4
 iterate 6 refine r_no rfl ?_
 refine s_pkt ?_
 refine s_mv ?_
 iterate 6 refine r_no rfl ?_
 refine s_pkt ?_
 refine k_nil ?_
 exact s_jn (fuel, true) ⟨by first | omega | (dsimp only; omega), hF4⟩
 refine s_fa yF27_4 ?_
 refine s_ld1 yA25 ?_
 obtain ⟨v5, hv5, hF5⟩ := bind_some' hF4
 refine s_ixT Form.row hv5 (Form.row_eq _) yE25 ?_
 refine s_fa yF27_1 ?_
 refine s_ld1 yA9 ?_
 refine s_neS ?_
 refine s_pkf ?_
 refine s_mv ?_
 refine w_guard _ 33 hF5 ?_ ?_ <;> intro hc6 hF6
 iterate 6 refine r_no rfl ?_
 refine s_pkt ?_
 refine k_nil ?_
 exact s_jn (fuel, true) ⟨by first | omega | (dsimp only; omega), hF6⟩
 refine s_fa yF27_4 ?_
 refine s_ld1 yA25 ?_
 obtain ⟨v7, hv7, hF7⟩ := bind_some' hF6
 refine s_ixT Form.row hv7 (Form.row_eq _) yE25 ?_
 refine s_fa yF27_0 ?_
 refine s_ld1 yA3 ?_
 refine s_ne ?_
 refine s_pkf ?_
 refine k_nil ?_
 exact s_jn (fuel, (decide (v7.kind ≠ 3))) ⟨by first | omega | (dsimp only; omega), hF7⟩
 clear hF0
 rintro ⟨fu, g8⟩ ⟨hl9, hF1⟩
 dsimp only at hl9 hF1 ⊢
 obtain _ | fu := fu
 · rw [m_spec_ParseRules_j1] at hF1; cases hF1
 rw [m_spec_ParseRules_j1] at hF1
 refine w_cond hF1 ?_ ?_ <;> intro hc10 hF2
 refine awp_seq (awp_region ?_)
 refine s_mv ?_
 refine s_mv ?_
 iterate 3 refine s_as ?_
 refine k_nil (k_seq (awp_ret (k_seq_ret (k_fin ?_))))
 cases hF2
 exact ends_a [] [9, 10] Tryz.results157
 refine awp_skip (k_seq ?_)
 refine awp_jn (α := Nat × (List Form)) [5, 7, 43, 44, 45, 46, 47, 48, 49, 50, 51, 52, 53, 54, 55, 56, 57, 58, 59, 60, 61, 62, 63, 64] [9, 5060] [] (fun a => [(5, .ar 5060)]) (fun a => [(9, .dead), (5060, .arr (a.2.map Form.row) 27 true)]) (fun a => a.1 ≤ fu ∧ m_spec_ParseRules_j2 a.1 x1 a.2 = some r) ?_ ?_
 refine awp_seq (awp_region ?_)
 refine s_as ?_
 refine k_nil (k_seq (awp_block ?_))
 refine awp_mv 5 9 5060 (by conv => lhs; whnf) (by conv => lhs; whnf) rfl ?_
 refine awp_frame2 [5, 7, 43, 44, 45, 46, 47, 48, 49, 50, 51, 52, 53, 54, 55, 56, 57, 58, 59, 60, 61, 62, 63, 64] [5060] [63, 64, 2062, 12062] [5060] (fun a : Nat × (List Form) × Int => a.1) (fun a : Nat × (List Form) × Int => [(5, .ar 5060), (7, .t (.sc (.int .i64 a.2.2)))]) (fun a : Nat × (List Form) × Int => [(5060, .arr (a.2.1.map Form.row) 27 true)]) (fun a : Nat × (List Form) × Int => a.1 ≤ fu ∧ m_spec_ParseRules_l3 a.1 x1 a.2.1 a.2.2 = some r ∧ 0 ≤ a.2.2) (fu, ([] : List Form), 0) ⟨Nat.le_refl _, hF2, by simp⟩ (by rfl) (by rfl) (fun _ => rfl) (hasF_cons (by conv => lhs; whnf) (by rfl) (hasF_cons (by conv => lhs; whnf) (by rfl) hasF_nil)) (hasO_cons (by conv => lhs; whnf) (by rfl) hasO_nil) (fresh_C hC rfl) (by repeat (first | exact freshS_args rfl | refine freshS_upd rfl ?_ | refine freshS_frame rfl ?_)) (by repeat (first | exact freshM_no | exact objs_fresh rfl | refine freshM_upd rfl ?_ | refine freshM_frame rfl ?_)) ?_
 clear hF2
 rintro ⟨fu, g11, g12⟩ ⟨hl13, hF3, hn_g12⟩
 dsimp only at hl13 hF3 hn_g12 ⊢
 obtain _ | fu := fu
 · rw [m_spec_ParseRules_l3] at hF3; cases hF3
 rw [m_spec_ParseRules_l3] at hF3
 refine awp_seq (awp_seq (awp_region ?_))
 refine s_mv ?_
 refine s_fa yF27_4 ?_
 refine s_ld1 yA25 ?_
 obtain ⟨v14, hv14, hF4⟩ := bind_some' hF3
 refine s_ixT Form.row hv14 (Form.row_eq _) yE25 ?_
 refine s_fa yF27_4 ?_
 refine s_ld1 yA25 ?_
 refine s_lenT yU25 ?_
 refine s_lt ?_
 refine k_nil (k_seq ?_)
 refine w_cond hF4 ?_ ?_ <;> intro hc15 hF5
 refine awp_lenT 48 (fun hb16 => ?_)
 refine awp_skip (k_seq (awp_seq (awp_block (awp_region ?_))))
 refine s_mv ?_
 refine s_fa yF27_4 ?_
 refine s_ld1 yA25 ?_
 obtain ⟨v17, hv17, hF6⟩ := bind_some' hF5
 refine s_ixT Form.row hv17 (Form.row_eq _) yE25 ?_
 refine s_fa yF27_4 ?_
 refine s_ld1 yA25 ?_
 refine s_mv ?_
 obtain ⟨v18, hv18, hF7⟩ := bind_some' hF6
 refine s_ixT Form.row hv18 (Form.row_eq _) yE25 ?_
 refine s_ldN yA27 yS27 ?_
 obtain ⟨v19, hv19, hF8⟩ := bind_some' hF7
 refine s_call [(9203, 2062), (9204, 12062)] [] _ _ (m_spec_l1Copy_ok fu _ _ hv19) ?_
 refine s_bs Form.row [v19] yP25 yR27 ?_
 obtain ⟨hk20, hF9⟩ := chk_some hF8
 refine s_apT Form.row (fun y => Form.row_len y) hk20 yP25 ?_
 refine s_as ?_
 refine k_nil (k_blk (k_seq (awp_region ?_)))
 refine s_mv ?_
 refine s_add (winc2 hc15 hb16 hn_g12) ?_
 refine s_as ?_
 refine k_nil ?_
 exact s_rn (fu, (g11 ++ [v19]), (g12 + 1)) ⟨by first | omega | (dsimp only; omega), hF9, by first | omega | (dsimp only; omega)⟩ [(5060, 64)]
 refine awp_exit (k_seq_exit (k_rnd_exit2 (k_blk_exit ?_)))
 exact s_jn (fu, g11) ⟨by first | omega | (dsimp only; omega), hF5⟩
 clear hF2
 rintro ⟨fu, g21⟩ ⟨hl22, hF3⟩
 dsimp only at hl22 hF3 ⊢
 obtain _ | fu := fu
 · rw [m_spec_ParseRules_j2] at hF3; cases hF3
 rw [m_spec_ParseRules_j2] at hF3
 refine awp_jn (α := Nat × (List Rule)) [2, 3, 4, 6, 8, 65, 66, 67, 68, 69, 70, 71, 72, 73, 74, 75, 76, 77, 78, 79, 80, 81, 82, 83, 84, 85, 86, 87, 88, 89, 90, 91, 92, 93, 94, 95, 96, 97, 98, 99, 100, 101, 102, 103, 104, 105, 106, 107, 108, 109, 110, 111, 112] [10, 5100] [] (fun a => [(6, .ar 5100)]) (fun a => [(10, .dead), (5100, .arr (a.2.map Rule.row) 73 true)]) (fun a => a.1 ≤ fu ∧ m_spec_ParseRules_j4 a.1 g21 a.2 = some r) ?_ ?_
 refine awp_seq (awp_region ?_)
 refine s_as ?_
 refine k_nil (k_seq (awp_block ?_))
 refine awp_mv 6 10 5100 (by conv => lhs; whnf) (by conv => lhs; whnf) rfl ?_
 refine awp_frame2 [2, 3, 4, 6, 8, 65, 66, 67, 68, 69, 70, 71, 72, 73, 74, 75, 76, 77, 78, 79, 80, 81, 82, 83, 84, 85, 86, 87, 88, 89, 90, 91, 92, 93, 94, 95, 96, 97, 98, 99, 100, 101, 102, 103, 104, 105, 106, 107, 108, 109, 110, 111, 112] [5100] [111, 112, 2100, 2109, 12100, 12109] [5100] (fun a : Nat × (List Rule) × Int => a.1) (fun a : Nat × (List Rule) × Int => [(6, .ar 5100), (8, .t (.sc (.int .i64 a.2.2)))]) (fun a : Nat × (List Rule) × Int => [(5100, .arr (a.2.1.map Rule.row) 73 true)]) (fun a : Nat × (List Rule) × Int => a.1 ≤ fu ∧ m_spec_ParseRules_l5 a.1 x1 g21 a.2.1 a.2.2 = some r ∧ 0 ≤ a.2.2) (fu, ([] : List Rule), 2) ⟨Nat.le_refl _, hF3, by simp⟩ (by rfl) (by rfl) (fun _ => rfl) (hasF_cons (by conv => lhs; whnf) (by rfl) (hasF_cons (by conv => lhs; whnf) (by rfl) hasF_nil)) (hasO_cons (by conv => lhs; whnf) (by rfl) hasO_nil) (fresh_C hC rfl) (by repeat (first | exact freshS_args rfl | refine freshS_upd rfl ?_ | refine freshS_frame rfl ?_)) (by repeat (first | exact freshM_no | exact objs_fresh rfl | refine freshM_upd rfl ?_ | refine freshM_frame rfl ?_)) ?_
 clear hF3
 rintro ⟨fu, g23, g24⟩ ⟨hl25, hF4, hn_g24⟩
 dsimp only at hl25 hF4 hn_g24 ⊢
 obtain _ | fu := fu
 · rw [m_spec_ParseRules_l5] at hF4; cases hF4
 rw [m_spec_ParseRules_l5] at hF4
 refine awp_seq (awp_seq (awp_region ?_))
 refine s_mv ?_
 refine s_fa yF27_4 ?_
 refine s_ld1 yA25 ?_
 refine s_lenT yU25 ?_
 refine s_lt ?_
 refine k_nil (k_seq ?_)
 refine w_cond hF4 ?_ ?_ <;> intro hc26 hF5
 refine awp_lenT 67 (fun hb27 => ?_)
 refine awp_skip (k_seq (awp_seq (awp_block (awp_seq ?_))))
 refine awp_jn (α := Nat × Bool) [72, 73, 74, 75, 76, 77, 78, 79, 80, 81, 82, 83, 84, 85, 86, 87, 88] [] [] (fun a => [(88, .t (.sc (.bool a.2)))]) (fun a => []) (fun a => a.1 ≤ fu ∧ m_spec_ParseRules_j6 a.1 x1 g21 g23 g24 a.2 = some r) ?_ ?_
 refine awp_region ?_
 refine s_fa yF27_4 ?_
 refine s_ld1 yA25 ?_
 refine s_mv ?_
 obtain ⟨v28, hv28, hF6⟩ := bind_some' hF5
 refine s_ixT Form.row hv28 (Form.row_eq _) yE25 ?_
 refine s_fa yF27_0 ?_
 refine s_ld1 yA3 ?_
 refine s_ne ?_
 refine s_mv ?_
 refine w_guard _ 79 hF6 ?_ ?_ <;> intro hc29 hF7
 iterate 8 refine r_no rfl ?_
 refine s_pkt ?_
 refine k_nil ?_
 exact s_jn (fu, true) ⟨by first | omega | (dsimp only; omega), hF7⟩
 refine s_fa yF27_4 ?_
 refine s_ld1 yA25 ?_
 refine s_mv ?_
 obtain ⟨v30, hv30, hF8⟩ := bind_some' hF7
 refine s_ixT Form.row hv30 (Form.row_eq _) yE25 ?_
 refine s_fa yF27_4 ?_
 refine s_ld1 yA25 ?_
 refine s_lenT yU25 ?_
 refine s_ne ?_
 refine s_pkf ?_
 refine k_nil ?_
 exact s_jn (fu, (decide ((v30.kids.length : Int) ≠ 2))) ⟨by first | omega | (dsimp only; omega), hF8⟩
 clear hF5
 rintro ⟨fu, g31⟩ ⟨hl32, hF6⟩
 dsimp only at hl32 hF6 ⊢
 obtain _ | fu := fu
 · rw [m_spec_ParseRules_j6] at hF6; cases hF6
 rw [m_spec_ParseRules_j6] at hF6
 refine w_cond hF6 ?_ ?_ <;> intro hc33 hF7
 refine awp_seq (awp_region ?_)
 refine s_bs Form.row ([] : List Form) yP25 yR27 ?_
 refine s_bs Rule.row ([] : List Rule) yP62 yR73 ?_
 iterate 3 refine s_as ?_
 refine k_nil (k_seq (awp_ret (k_seq_ret (k_blk_ret (k_seq_ret (k_rnd_ret2 (k_blk_ret (k_jn_ret (k_fin ?_)))))))))
 cases hF7
 exact ends_a [] [89, 90] Tryz.results157
 refine awp_skip (k_seq ?_)
 refine awp_draw yMix (by kernel_rfl) ?_
 refine s_mv ?_
 refine s_fa yF27_4 ?_
 refine s_ld1 yA25 ?_
 refine s_mv ?_
 obtain ⟨v34, hv34, hF8⟩ := bind_some' hF7
 refine s_ixT Form.row hv34 (Form.row_eq _) yE25 ?_
 refine s_fa yF27_4 ?_
 refine s_ld1 yA25 ?_
 obtain ⟨v35, hv35, hF9⟩ := bind_some' hF8
 refine s_ixT Form.row hv35 (Form.row_eq _) yE25 ?_
 refine s_ldN yA27 yS27 ?_
 obtain ⟨v36, hv36, hF10⟩ := bind_some' hF9
 refine s_call [(9203, 2100), (9204, 12100)] [] _ _ (m_spec_l1Copy_ok fu _ _ hv36) ?_
 refine s_fa yF27_4 ?_
 refine s_ld1 yA25 ?_
 refine s_mv ?_
 obtain ⟨v37, hv37, hF11⟩ := bind_some' hF10
 refine s_ixT Form.row hv37 (Form.row_eq _) yE25 ?_
 refine s_fa yF27_4 ?_
 refine s_ld1 yA25 ?_
 obtain ⟨v38, hv38, hF12⟩ := bind_some' hF11
 refine s_ixT Form.row hv38 (Form.row_eq _) yE25 ?_
 refine s_ldN yA27 yS27 ?_
 obtain ⟨v39, hv39, hF13⟩ := bind_some' hF12
 refine s_call [(9203, 2109), (9204, 12109)] [] _ _ (m_spec_l1Copy_ok fu _ _ hv39) ?_
 refine s_bld yZ73 yL73 ?_
 refine s_bs Rule.row [(Rule.mk v36 v39)] yP62 yR73 ?_
 obtain ⟨hk40, hF14⟩ := chk_some hF13
 refine s_apT Rule.row (fun y => Rule.row_len y) hk40 yP62 ?_
 refine s_as ?_
 refine k_nilD (by kernel_rfl) ?_
 refine k_blk (k_seq (awp_region ?_))
 refine s_mv ?_
 refine s_add (winc2 hc26 hb27 hn_g24) ?_
 refine s_as ?_
 refine k_nil ?_
 exact s_rn (fu, (g23 ++ [(Rule.mk v36 v39)]), (g24 + 1)) ⟨by first | omega | (dsimp only; omega), hF14, by first | omega | (dsimp only; omega)⟩ [(5100, 112)]
 refine awp_exit (k_seq_exit (k_rnd_exit2 (k_blk_exit ?_)))
 exact s_jn (fu, g23) ⟨by first | omega | (dsimp only; omega), hF5⟩
 clear hF3
 rintro ⟨fu, g41⟩ ⟨hl42, hF4⟩
 dsimp only at hl42 hF4 ⊢
 obtain _ | fu := fu
 · rw [m_spec_ParseRules_j4] at hF4; cases hF4
 rw [m_spec_ParseRules_j4] at hF4
 refine awp_seq (awp_seq (awp_region ?_))
 refine s_mv ?_
 refine s_mv ?_
 obtain ⟨v43, hv43, hF5⟩ := bind_some' hF4
 refine s_pure [5100, 5060] (m_spec_l5Rules_ok fu _ _ _ hv43) ?_
 refine s_not ?_
 refine k_nil (k_seq ?_)
 refine w_cond hF5 ?_ ?_ <;> intro hc44 hF6
 refine awp_seq (awp_region ?_)
 refine s_bs Form.row ([] : List Form) yP25 yR27 ?_
 refine s_bs Rule.row ([] : List Rule) yP62 yR73 ?_
 iterate 3 refine s_as ?_
 refine k_nil (k_seq (awp_ret (k_seq_ret (k_fin ?_))))
 cases hF6
 exact ends_a [] [117, 118] Tryz.results157
 refine awp_skip (k_seq (awp_seq (awp_region ?_)))
 refine s_mv ?_
 refine s_mv ?_
 iterate 3 refine s_as ?_
 refine k_nil (k_seq (awp_ret (k_fin ?_)))
 cases hF6
 exact ends_a [] [5060, 5100] Tryz.results157
def m_spec_l5Case_AC (fuel : Nat) : Prop := ∀ (x1 : (List Int)) (r : ((List Form) × (List Rule) × Form)), m_spec_l5Case fuel x1 = some r → AC Tryz.prog 102 [.t (.sl (x1.map rB))] noOb (.tp [.t (.sl (r.1.map Form.row)), .t (.sl (r.2.1.map Rule.row)), .ag [.t (.sc (.int .i64 r.2.2.kind)), .t (.sc (.str r.2.2.name)), .t (.sc (.int .i64 r.2.2.n)), .t (.sl (r.2.2.scopes.map rI)), .t (.sl (r.2.2.kids.map Form.row))]]) noOb
theorem m_spec_l5Case_ok (fuel : Nat) : m_spec_l5Case_AC fuel := by
 intro x1 r hF0
 unfold m_spec_l5Case at hF0
 refine AC_i [.t (.sl (r.1.map Form.row)), .t (.sl (r.2.1.map Rule.row)), .ag [.t (.sc (.int .i64 r.2.2.kind)), .t (.sc (.str r.2.2.name)), .t (.sc (.int .i64 r.2.2.n)), .t (.sl (r.2.2.scopes.map rI)), .t (.sl (r.2.2.kids.map Form.row))]] Tryz.func102 rfl Tryz.ntmps102 ?_
 intro C hC
 refine awp_seq (awp_region ?_)
 refine s_as ?_
 refine s_as ?_
 refine s_alloc yZ27 ?_
 refine k_nil (k_seq (awp_seq (awp_region ?_)))
 refine s_mv ?_
 obtain ⟨v1, hv1, hF1⟩ := bind_some' hF0
 refine s_call [(10, 14)] [] _ _ (m_spec_l15Open_ok fuel _ _ hv1) ?_
 refine s_as ?_
 refine k_nil (k_seq (awp_seq (awp_region ?_)))
 obtain ⟨v2, hv2, hF2⟩ := bind_some' hF1
 refine s_pure [] (m_spec_l5Texts_ok fuel _ hv2) ?_
 refine s_as ?_
 refine k_nil (k_seq (awp_seq (awp_region ?_)))
 refine s_mv ?_
 refine s_mv ?_
 refine s_lenT yU140 ?_
 obtain ⟨v3, hv3, hF3⟩ := bind_some' hF2
 refine s_call [(9000, 14)] [] _ _ (m_spec_l15Rd_pick_ok fuel _ _ _ hv3) ?_
 refine s_as ?_
 refine k_nil (k_seq (awp_seq (awp_region ?_)))
 refine s_mv ?_
 refine s_mv ?_
 obtain ⟨v4, hv4, hF4⟩ := bind_some' hF3
 refine s_ixT (rL rS) hv4 rfl yE140 ?_
 refine s_ld1 yA36 ?_
 obtain ⟨v5, hv5, hF5⟩ := bind_some' hF4
 refine s_ixT rS hv5 rfl yE36 ?_
 refine s_ld1 yA9 ?_
 obtain ⟨v6, hv6, hF6⟩ := bind_some' hF5
 refine s_pure [] (m_spec_l1Parse_ok fuel _ _ hv6) ?_
 refine s_alloc yZ27 ?_
 refine s_stW yS27 ?_
 refine k_nil (k_seq ?_)
 refine awp_jn (α := Nat × (List Int) × Int × Int × ByteArray × Int × (List Int) × (List Form)) [27, 28, 29, 30, 31, 32, 33, 34] [8, 14] [] (fun a => []) (fun a => [(8, .box [.t (.sc (.int .i64 a.2.2.2.1)), .t (.sc (.str a.2.2.2.2.1)), .t (.sc (.int .i64 a.2.2.2.2.2.1)), .t (.sl (a.2.2.2.2.2.2.1.map rI)), .t (.sl (a.2.2.2.2.2.2.2.map Form.row))]), (14, .box [.t (.sl (a.2.1.map rB)), .t (.sc (.int .i64 a.2.2.1))])]) (fun a => a.1 ≤ fuel ∧ m_spec_l5Case_j1 a.1 v2 v3 a.2.1 a.2.2.1 a.2.2.2.1 a.2.2.2.2.1 a.2.2.2.2.2.1 a.2.2.2.2.2.2.1 a.2.2.2.2.2.2.2 = some r) ?_ ?_
 refine awp_seq (awp_region ?_)
 refine s_mv ?_
 obtain ⟨v7, hv7, hF7⟩ := bind_some' hF6
 refine s_call [(9000, 14)] [] _ _ (m_spec_l15Rd_pick_ok fuel _ _ _ hv7) ?_
 refine s_eq ?_
 refine k_nil (k_seq ?_)
 refine w_cond hF7 ?_ ?_ <;> intro hc8 hF8
 refine awp_region ?_
 refine s_mv ?_
 refine s_mv ?_
 refine s_ldW yA27 yS27 ?_
 obtain ⟨v9, hv9, hF9⟩ := bind_some' hF8
 refine s_call [(9000, 14)] [] _ _ (m_spec_l1Mutate_ok fuel _ _ _ hv9) ?_
 obtain ⟨v10, hv10, hF10⟩ := bind_some' hF9
 refine s_call [(9000, 14)] [] _ _ (m_spec_l1Mutate_ok fuel _ _ _ hv10) ?_
 refine s_stW yS27 ?_
 refine k_nil ?_
 exact s_jn (fuel, v10.2.b, v10.2.p, v10.1.kind, v10.1.name, v10.1.n, v10.1.scopes, v10.1.kids) ⟨by first | omega | (dsimp only; omega), hF10⟩
 refine awp_skip ?_
 exact s_jn (fuel, v7.2.b, v7.2.p, v6.kind, v6.name, v6.n, v6.scopes, v6.kids) ⟨by first | omega | (dsimp only; omega), hF8⟩
 clear hF6
 rintro ⟨fu, g11, g12, g13, g14, g15, g16, g17⟩ ⟨hl18, hF7⟩
 dsimp only at hl18 hF7 ⊢
 obtain _ | fu := fu
 · rw [m_spec_l5Case_j1] at hF7; cases hF7
 rw [m_spec_l5Case_j1] at hF7
 refine awp_seq (awp_region ?_)
 refine s_ldW yA27 yS27 ?_
 obtain ⟨v19, hv19, hF8⟩ := bind_some' hF7
 refine s_pure [] (m_spec_ParseRules_ok fu _ _ hv19) ?_
 refine s_mv ?_
 iterate 3 refine s_ext ?_
 iterate 3 refine s_as ?_
 refine k_nil (k_seq ?_)
 refine awp_jn (α := Nat × (List Form) × (List Rule)) [9, 10, 41, 42, 43, 44, 45, 46, 47, 48, 49, 50, 51, 52, 53] [] [] (fun a => [(9, .t (.sl (a.2.1.map Form.row))), (10, .t (.sl (a.2.2.map Rule.row)))]) (fun a => []) (fun a => a.1 ≤ fu ∧ m_spec_l5Case_j2 a.1 v2 v3 g11 g12 a.2.1 a.2.2 = some r) ?_ ?_
 refine awp_seq (awp_region ?_)
 refine s_mv ?_
 refine s_not ?_
 refine k_nil (k_seq ?_)
 refine w_cond hF8 ?_ ?_ <;> intro hc20 hF9
 refine awp_region ?_
 refine s_mv ?_
 obtain ⟨v21, hv21, hF10⟩ := bind_some' hF9
 refine s_ixT (rL rS) hv21 rfl yE140 ?_
 refine s_ld1 yA36 ?_
 obtain ⟨v22, hv22, hF11⟩ := bind_some' hF10
 refine s_ixT rS hv22 rfl yE36 ?_
 refine s_ld1 yA9 ?_
 obtain ⟨v23, hv23, hF12⟩ := bind_some' hF11
 refine s_pure [] (m_spec_l1Parse_ok fu _ _ hv23) ?_
 obtain ⟨v24, hv24, hF13⟩ := bind_some' hF12
 refine s_pure [] (m_spec_ParseRules_ok fu _ _ hv24) ?_
 refine s_mv ?_
 iterate 3 refine s_ext ?_
 refine s_as ?_
 refine s_as ?_
 refine k_nil ?_
 exact s_jn (fu, v24.1, v24.2.1) ⟨by first | omega | (dsimp only; omega), hF13⟩
 refine awp_skip ?_
 exact s_jn (fu, v19.1, v19.2.1) ⟨by first | omega | (dsimp only; omega), hF9⟩
 clear hF8
 rintro ⟨fu, g25, g26⟩ ⟨hl27, hF9⟩
 dsimp only at hl27 hF9 ⊢
 obtain _ | fu := fu
 · rw [m_spec_l5Case_j2] at hF9; cases hF9
 rw [m_spec_l5Case_j2] at hF9
 refine awp_seq (awp_region ?_)
 refine s_mv ?_
 refine s_mv ?_
 obtain ⟨v28, hv28, hF10⟩ := bind_some' hF9
 refine s_ixT (rL rS) hv28 rfl yE140 ?_
 refine s_ld1 yA36 ?_
 obtain ⟨v29, hv29, hF11⟩ := bind_some' hF10
 refine s_ixT rS hv29 rfl yE36 ?_
 refine s_ld1 yA9 ?_
 obtain ⟨v30, hv30, hF12⟩ := bind_some' hF11
 refine s_pure [] (m_spec_l1Parse_ok fu _ _ hv30) ?_
 refine s_alloc yZ27 ?_
 refine s_stW yS27 ?_
 refine k_nil (k_seq (awp_seq (awp_seq (awp_region ?_))))
 refine s_mv ?_
 obtain ⟨v31, hv31, hF13⟩ := bind_some' hF12
 refine s_call [(9000, 14)] [] _ _ (m_spec_l15Rd_pick_ok fu _ _ _ hv31) ?_
 refine k_nil (k_seq (awp_block (awp_seq (awp_region ?_))))
 refine s_eq ?_
 refine s_as ?_
 refine k_nil (k_seq ?_)
 refine w_cond hF13 ?_ ?_ <;> intro hc32 hF14
 refine awp_region ?_
 iterate 3 refine s_mv ?_
 refine s_lenT yU140 ?_
 obtain ⟨v33, hv33, hF15⟩ := bind_some' hF14
 refine s_call [(9000, 14)] [] _ _ (m_spec_l15Rd_pick_ok fu _ _ _ hv33) ?_
 obtain ⟨v34, hv34, hF16⟩ := bind_some' hF15
 refine s_ixT (rL rS) hv34 rfl yE140 ?_
 refine s_ld1 yA36 ?_
 obtain ⟨v35, hv35, hF17⟩ := bind_some' hF16
 refine s_ixT rS hv35 rfl yE36 ?_
 refine s_ld1 yA9 ?_
 obtain ⟨v36, hv36, hF18⟩ := bind_some' hF17
 refine s_pure [] (m_spec_l1Parse_ok fu _ _ hv36) ?_
 refine s_stW yS27 ?_
 refine k_nil (k_blk (k_seq (awp_seq ?_)))
 refine awp_draw yMix (by kernel_rfl) ?_
 refine s_mv ?_
 refine s_mv ?_
 refine s_ldW yA27 yS27 ?_
 refine s_as ?_
 refine s_as ?_
 refine s_stW yS27 ?_
 refine k_nilD (by kernel_rfl) ?_
 refine k_seq (awp_ret (k_fin ?_))
 cases hF18
 exact ends_gen [] [] (by rw [Tryz.results102]; exact (res_tmp (by conv => lhs; whnf) (res_tmp (by conv => lhs; whnf) (res_agg (by conv => lhs; whnf) (by conv => lhs; whnf) yA27 yS27 rfl res_nil))))
 refine awp_seq (awp_region ?_)
 refine s_eq ?_
 refine s_as ?_
 refine k_nil (k_seq ?_)
 refine w_cond hF14 ?_ ?_ <;> intro hc37 hF15
 refine awp_region ?_
 refine s_mv ?_
 refine s_mv ?_
 refine s_ldW yA27 yS27 ?_
 obtain ⟨v38, hv38, hF16⟩ := bind_some' hF15
 refine s_call [(9000, 14)] [] _ _ (m_spec_l1Mutate_ok fu _ _ _ hv38) ?_
 obtain ⟨v39, hv39, hF17⟩ := bind_some' hF16
 refine s_call [(9000, 14)] [] _ _ (m_spec_l1Mutate_ok fu _ _ _ hv39) ?_
 refine s_stW yS27 ?_
 refine k_nil (k_blk (k_seq (awp_seq ?_)))
 refine awp_draw yMix (by kernel_rfl) ?_
 refine s_mv ?_
 refine s_mv ?_
 refine s_ldW yA27 yS27 ?_
 refine s_as ?_
 refine s_as ?_
 refine s_stW yS27 ?_
 refine k_nilD (by kernel_rfl) ?_
 refine k_seq (awp_ret (k_fin ?_))
 cases hF17
 exact ends_gen [] [] (by rw [Tryz.results102]; exact (res_tmp (by conv => lhs; whnf) (res_tmp (by conv => lhs; whnf) (res_agg (by conv => lhs; whnf) (by conv => lhs; whnf) yA27 yS27 rfl res_nil))))
 refine awp_seq (awp_region ?_)
 refine s_eq ?_
 refine s_as ?_
 refine k_nil (k_seq ?_)
 refine w_cond hF15 ?_ ?_ <;> intro hc40 hF16
 refine awp_region ?_
 refine s_mv ?_
 refine s_ldW yA27 yS27 ?_
 obtain ⟨v41, hv41, hF17⟩ := bind_some' hF16
 refine s_call [(9000, 14)] [] _ _ (m_spec_l1Dress_ok fu _ _ _ hv41) ?_
 refine s_stW yS27 ?_
 refine k_nil (k_blk (k_seq (awp_seq ?_)))
 refine awp_draw yMix (by kernel_rfl) ?_
 refine s_mv ?_
 refine s_mv ?_
 refine s_ldW yA27 yS27 ?_
 refine s_as ?_
 refine s_as ?_
 refine s_stW yS27 ?_
 refine k_nilD (by kernel_rfl) ?_
 refine k_seq (awp_ret (k_fin ?_))
 cases hF17
 exact ends_gen [] [] (by rw [Tryz.results102]; exact (res_tmp (by conv => lhs; whnf) (res_tmp (by conv => lhs; whnf) (res_agg (by conv => lhs; whnf) (by conv => lhs; whnf) yA27 yS27 rfl res_nil))))
 refine awp_skip (k_blk (k_seq (awp_seq ?_)))
 refine awp_draw yMix (by kernel_rfl) ?_
 refine s_mv ?_
 refine s_mv ?_
 refine s_ldW yA27 yS27 ?_
 refine s_as ?_
 refine s_as ?_
 refine s_stW yS27 ?_
 refine k_nilD (by kernel_rfl) ?_
 refine k_seq (awp_ret (k_fin ?_))
 cases hF16
 exact ends_gen [] [] (by rw [Tryz.results102]; exact (res_tmp (by conv => lhs; whnf) (res_tmp (by conv => lhs; whnf) (res_agg (by conv => lhs; whnf) (by conv => lhs; whnf) yA27 yS27 rfl res_nil))))
def m_spec_DrawFirstRule_AC (fuel : Nat) : Prop := ∀ (x1 : (List Int)) (r : ((List Bind) × (List Rule) × (List Form) × Form)), m_spec_DrawFirstRule fuel x1 = some r → AC Tryz.prog 43 [.t (.sl (x1.map rB))] noOb (.tp [.t (.sl (r.1.map Bind.row)), .t (.sl (r.2.1.map Rule.row)), .t (.sl (r.2.2.1.map Form.row)), .ag [.t (.sc (.int .i64 r.2.2.2.kind)), .t (.sc (.str r.2.2.2.name)), .t (.sc (.int .i64 r.2.2.2.n)), .t (.sl (r.2.2.2.scopes.map rI)), .t (.sl (r.2.2.2.kids.map Form.row))]]) noOb
theorem m_spec_DrawFirstRule_ok (fuel : Nat) : m_spec_DrawFirstRule_AC fuel := by
 intro x1 r hF0
 unfold m_spec_DrawFirstRule at hF0
 refine AC_i [.t (.sl (r.1.map Bind.row)), .t (.sl (r.2.1.map Rule.row)), .t (.sl (r.2.2.1.map Form.row)), .ag [.t (.sc (.int .i64 r.2.2.2.kind)), .t (.sc (.str r.2.2.2.name)), .t (.sc (.int .i64 r.2.2.2.n)), .t (.sl (r.2.2.2.scopes.map rI)), .t (.sl (r.2.2.2.kids.map Form.row))]] Tryz.func43 rfl Tryz.ntmps43 ?_
 intro C hC
 refine awp_seq (awp_region ?_)
 iterate 3 refine s_as ?_
 refine s_alloc yZ27 ?_
 refine k_nil (k_seq (awp_seq (awp_region ?_)))
 refine s_mv ?_
 obtain ⟨v1, hv1, hF1⟩ := bind_some' hF0
 refine s_pure [] (m_spec_l5Case_ok fuel _ _ hv1) ?_
 refine s_mv ?_
 iterate 3 refine s_ext ?_
 refine s_alloc yZ27 ?_
 refine s_as ?_
 refine s_as ?_
 refine s_stW yS27 ?_
 refine k_nil (k_seq (awp_seq ?_))
 refine awp_draw yMix (by kernel_rfl) ?_
 refine s_bs Bind.row ([] : List Bind) yP23 yR93 ?_
 refine s_mv ?_
 refine s_mv ?_
 refine s_ldW yA27 yS27 ?_
 iterate 3 refine s_as ?_
 refine s_stW yS27 ?_
 refine k_nilD (by kernel_rfl) ?_
 refine k_seq (awp_ret (k_fin ?_))
 cases hF1
 exact ends_gen [] [15] (by rw [Tryz.results43]; exact (res_tmp (by conv => lhs; whnf) (res_tmp (by conv => lhs; whnf) (res_tmp (by conv => lhs; whnf) (res_agg (by conv => lhs; whnf) (by conv => lhs; whnf) yA27 yS27 rfl res_nil)))))
def m_laws_FnFirstRule_AC (fuel : Nat) : Prop := ∀ (x1 : (List Int)) (r : Bool), m_laws_FnFirstRule fuel x1 = some r → AC Tryz.prog 9 [.t (.sl (x1.map rB))] noOb (.t (.sc (.bool r))) noOb
theorem m_laws_FnFirstRule_ok (fuel : Nat) : m_laws_FnFirstRule_AC fuel := by
 intro x1 r hF0
 unfold m_laws_FnFirstRule at hF0
 refine AC_i [.t (.sc (.bool r))] Tryz.func9 rfl Tryz.ntmps9 ?_
 intro C hC
 refine awp_seq (awp_region ?_)
 refine s_as ?_
 refine k_nil (k_seq (awp_seq (awp_seq (awp_region ?_))))
 refine s_mv ?_
 refine s_lenT yU22 ?_
 refine s_gt ?_
 refine k_nil (k_seq ?_)
 refine w_cond hF0 ?_ ?_ <;> intro hc1 hF1
 refine awp_lenT 0 (fun hb2 => ?_)
 refine awp_seq (awp_region ?_)
 refine s_as ?_
 refine k_nil (k_seq (awp_ret (k_seq_ret (k_fin ?_))))
 cases hF1
 exact ends_a [] [] Tryz.results9
 refine awp_skip (k_seq (awp_seq (awp_region ?_)))
 refine s_mv ?_
 obtain ⟨v3, hv3, hF2⟩ := bind_some' hF1
 refine s_pure [] (m_spec_DrawFirstRule_ok fuel _ _ hv3) ?_
 refine s_mv ?_
 iterate 4 refine s_ext ?_
 refine s_alloc yZ27 ?_
 iterate 3 refine s_as ?_
 refine s_stW yS27 ?_
 refine k_nil (k_seq (awp_seq (awp_region ?_)))
 iterate 3 refine s_mv ?_
 refine s_ldW yA27 yS27 ?_
 obtain ⟨v4, hv4, hF3⟩ := bind_some' hF2
 refine s_pure [] (m_impl_FirstRule_ok fuel _ _ _ _ _ hv4) ?_
 refine s_mv ?_
 refine s_ext ?_
 refine s_ext ?_
 refine s_as ?_
 refine s_as ?_
 refine k_nil (k_seq (awp_seq (awp_region ?_)))
 iterate 3 refine s_mv ?_
 refine s_ldW yA27 yS27 ?_
 obtain ⟨v5, hv5, hF4⟩ := bind_some' hF3
 refine s_pure [] (m_spec_FirstRule_ok fuel _ _ _ _ _ hv5) ?_
 refine s_mv ?_
 refine s_ext ?_
 refine s_ext ?_
 refine s_as ?_
 refine s_as ?_
 refine k_nil (k_seq (awp_seq ?_))
 refine awp_jn (α := Nat × Bool) [40, 41, 42, 43, 44, 45, 46, 47, 48, 49, 50, 51] [] [] (fun a => [(51, .t (.sc (.bool a.2)))]) (fun a => []) (fun a => a.1 ≤ fuel ∧ m_laws_FnFirstRule_j1 a.1 v3 v4 v5 a.2 = some r) ?_ ?_
 refine awp_region ?_
 refine s_mv ?_
 refine s_mv ?_
 refine s_ne ?_
 refine s_mv ?_
 refine w_guard _ 43 hF4 ?_ ?_ <;> intro hc6 hF5
 iterate 3 refine r_no rfl ?_
 refine s_pkt ?_
 refine s_mv ?_
 refine r_no rfl (r_no rfl ?_)
 refine s_pkt ?_
 refine k_nil ?_
 exact s_jn (fuel, true) ⟨by first | omega | (dsimp only; omega), hF5⟩
 refine s_mv ?_
 refine s_mv ?_
 refine s_neB yU4 ?_
 refine s_pkf ?_
 refine s_mv ?_
 refine w_guard _ 48 hF5 ?_ ?_ <;> intro hc7 hF6
 refine r_no rfl (r_no rfl ?_)
 refine s_pkt ?_
 refine k_nil ?_
 exact s_jn (fuel, true) ⟨by first | omega | (dsimp only; omega), hF6⟩
 refine s_mv ?_
 refine s_not ?_
 refine s_pkf ?_
 refine k_nil ?_
 exact s_jn (fuel, (!v4.2)) ⟨by first | omega | (dsimp only; omega), hF6⟩
 clear hF4
 rintro ⟨fu, g8⟩ ⟨hl9, hF5⟩
 dsimp only at hl9 hF5 ⊢
 obtain _ | fu := fu
 · rw [m_laws_FnFirstRule_j1] at hF5; cases hF5
 rw [m_laws_FnFirstRule_j1] at hF5
 refine w_cond hF5 ?_ ?_ <;> intro hc10 hF6
 refine awp_jn (α := Nat × Bool) [2, 52, 53, 54, 55, 56, 57, 58, 59, 60, 61, 62, 63] [] [] (fun a => [(2, .t (.sc (.bool a.2)))]) (fun a => []) (fun a => a.1 ≤ fu ∧ m_laws_FnFirstRule_j2 a.1  a.2 = some r) ?_ ?_
 refine awp_region ?_
 refine s_mv ?_
 refine s_mv ?_
 refine s_eq ?_
 refine s_mv ?_
 refine w_guard _ 55 hF6 ?_ ?_ <;> intro hc11 hF7
 refine s_mv ?_
 refine s_mv ?_
 refine s_eqB yU4 ?_
 refine s_pkt ?_
 refine s_mv ?_
 refine w_guard _ 60 hF7 ?_ ?_ <;> intro hc12 hF8
 refine s_mv ?_
 refine s_eq ?_
 refine s_pkt ?_
 refine s_as ?_
 refine k_nil ?_
 exact s_jn (fu, (decide (v4.1 = 0))) ⟨by first | omega | (dsimp only; omega), hF8⟩
 refine r_no rfl (r_no rfl ?_)
 refine s_pkf ?_
 refine s_as ?_
 refine k_nil ?_
 exact s_jn (fu, false) ⟨by first | omega | (dsimp only; omega), hF8⟩
 iterate 3 refine r_no rfl ?_
 refine s_pkf ?_
 refine s_mv ?_
 refine r_no rfl (r_no rfl ?_)
 refine s_pkf ?_
 refine s_as ?_
 refine k_nil ?_
 exact s_jn (fu, false) ⟨by first | omega | (dsimp only; omega), hF7⟩
 clear hF6
 rintro ⟨fu, g13⟩ ⟨hl14, hF7⟩
 dsimp only at hl14 hF7 ⊢
 obtain _ | fu := fu
 · rw [m_laws_FnFirstRule_j2] at hF7; cases hF7
 rw [m_laws_FnFirstRule_j2] at hF7
 refine awp_ret (k_seq_ret (k_fin ?_))
 cases hF7
 exact ends_a [] [] Tryz.results9
 refine awp_skip (k_seq (awp_seq (awp_seq (awp_region ?_))))
 refine s_as ?_
 refine k_nil (k_seq (awp_block ?_))
 refine awp_fr (β := Int) [2, 11, 12, 13, 64, 65, 66, 67, 68, 69, 70, 71, 72, 73, 74, 75, 76, 77, 78, 79, 80, 81, 82, 83, 84, 85, 86, 87, 88, 89, 90, 91, 92, 93, 94] [] [] (fun a => [(11, .t (.sc (.int .i64 a.2)))]) (fun a => []) (fun a => a.1 ≤ fu ∧ m_laws_FnFirstRule_l3 a.1 v3 v4 a.2 = some r) (fu, 0) ⟨Nat.le_refl _, hF6⟩ ?_
 clear hF6
 rintro ⟨fu, g15⟩ ⟨hl16, hF7⟩
 dsimp only at hl16 hF7 ⊢
 obtain _ | fu := fu
 · rw [m_laws_FnFirstRule_l3] at hF7; cases hF7
 rw [m_laws_FnFirstRule_l3] at hF7
 refine awp_seq (awp_seq (awp_region ?_))
 refine s_mv ?_
 refine s_mv ?_
 refine s_le ?_
 refine k_nil (k_seq ?_)
 refine w_cond hF7 ?_ ?_ <;> intro hc17 hF8
 refine awp_skip (k_seq (awp_seq (awp_block (awp_seq ?_))))
 refine awp_draw yMix (by kernel_rfl) ?_
 iterate 3 refine s_mv ?_
 obtain ⟨v18, hv18, hF9⟩ := bind_some' hF8
 refine s_ixT Rule.row hv18 (Rule.row_eq _) yE62 ?_
 refine s_fa yF73_0 ?_
 refine s_ldN yA27 yS27 ?_
 refine s_mv ?_
 refine s_ldW yA27 yS27 ?_
 obtain ⟨v19, hv19, hF10⟩ := bind_some' hF9
 refine s_pure [] (m_impl_MatchPattern_ok fu _ _ _ _ _ hv19) ?_
 refine s_mv ?_
 refine s_ext ?_
 refine s_ext ?_
 refine s_as ?_
 refine s_as ?_
 refine k_nilD (by kernel_rfl) ?_
 refine k_seq (awp_seq (awp_region ?_))
 iterate 3 refine s_mv ?_
 refine s_eq ?_
 refine s_neB yU4 ?_
 refine s_mv ?_
 refine w_guard _ 86 hF10 ?_ ?_ <;> intro hc20 hF11
 iterate 7 refine r_no rfl ?_
 refine s_pkt ?_
 refine k_nil (k_seq (awp_true rfl (awp_seq (awp_region ?_))))
 refine s_as ?_
 refine k_nil (k_seq (awp_ret (k_blk_ret (k_seq_ret (k_rnd_ret2 (k_blk_ret (k_seq_ret (k_fin ?_))))))))
 cases hF11
 exact ends_a [] [] Tryz.results9
 refine s_mv ?_
 refine s_mv ?_
 obtain ⟨v21, hv21, hF12⟩ := bind_some' hF11
 refine s_ixT Rule.row hv21 (Rule.row_eq _) yE62 ?_
 refine s_ldN yA73 yS73 ?_
 refine s_mv ?_
 obtain ⟨v22, hv22, hF13⟩ := bind_some' hF12
 refine s_pure [] (m_impl_RuleValid_ok fu _ _ _ hv22) ?_
 refine s_not ?_
 refine s_pkf ?_
 refine k_nil (k_seq ?_)
 refine w_cond hF13 ?_ ?_ <;> intro hc23 hF14
 refine awp_seq (awp_region ?_)
 refine s_as ?_
 refine k_nil (k_seq (awp_ret (k_blk_ret (k_seq_ret (k_rnd_ret2 (k_blk_ret (k_seq_ret (k_fin ?_))))))))
 cases hF14
 exact ends_a [] [] Tryz.results9
 refine awp_skip (k_blk (k_seq (awp_region ?_)))
 refine s_mv ?_
 refine s_add rfl ?_
 refine s_as ?_
 refine k_nil ?_
 exact s_rn (fu, (w64 (g15 + 1))) ⟨by first | omega | (dsimp only; omega), hF14⟩
 refine awp_exit (k_seq_exit (k_rnd_exit2 (k_blk_exit (k_seq (awp_seq (awp_region ?_))))))
 refine s_as ?_
 refine k_nil (k_seq (awp_ret (k_fin ?_)))
 cases hF8
 exact ends_a [] [] Tryz.results9
end Go.Abs
