/- A part of the proof: what the functions that the law calls answer, as pure values. -/
import Derived.Test.YtjjjnhpghhamkaaGreatK0781cfe2fccc
import Derived.Test.YtjjjnhpghhamkaaGreatK35a552f26911
import Derived.Test.YtjjjnhpghhamkaaGreatK4aeef59f488b
import Derived.Test.YtjjjnhpghhamkaaGreatK4c649c528dc8
import Derived.Test.YtjjjnhpghhamkaaGreatK7db75e138112
import Derived.Test.YtjjjnhpghhamkaaGreatK99890290b866
import Derived.Test.YtjjjnhpghhamkaaGreatKc011f3581fd7
import Derived.Test.YtjjjnhpghhamkaaGreatKc64556009615
import Derived.Test.YtjjjnhpghhamkaaGreatKe01c64def741
import Derived.Test.YtjjjnhpghhamkaaGreatKff06b70fb889
set_option linter.unusedSimpArgs false
set_option linter.unusedVariables false
set_option maxRecDepth 100000
set_option maxHeartbeats 4000000
namespace Go.Abs
open Go.Proofs
theorem m_spec_l5Is_all (fuel : Nat) : m_spec_l5Is_AC fuel := by
 induction fuel using Nat.strongRecOn with
 | _ N ih =>
   cases N with
   | zero => exact (by intro x1 x2 r h; rw [m_spec_l5Is] at h; cases h)
   | succ fu => exact m_spec_l5Is_st fu (fun k hk => (ih k (by omega)))
theorem m_spec_l5Is_ok (fuel : Nat) : m_spec_l5Is_AC fuel := (m_spec_l5Is_all fuel)
def m_spec_l5Rule_AC (fuel : Nat) : Prop := ∀ (x1 : Rule) (x2 : (List Form)) (r : Bool), m_spec_l5Rule fuel x1 x2 = some r → AC Tryz.prog 154 [.ag [.t (.sc (.int .i64 x1.pattern.kind)), .t (.sc (.str x1.pattern.name)), .t (.sc (.int .i64 x1.pattern.n)), .t (.sl (x1.pattern.scopes.map rI)), .t (.sl (x1.pattern.kids.map Form.row)), .t (.sc (.int .i64 x1.template.kind)), .t (.sc (.str x1.template.name)), .t (.sc (.int .i64 x1.template.n)), .t (.sl (x1.template.scopes.map rI)), .t (.sl (x1.template.kids.map Form.row))], .t (.sl (x2.map Form.row))] noOb (.t (.sc (.bool r))) noOb
theorem m_spec_l5Rule_ok (fuel : Nat) : m_spec_l5Rule_AC fuel := by
 intro x1 x2 r hF0
 unfold m_spec_l5Rule at hF0
 refine AC_i [.t (.sc (.bool r))] Tryz.func154 rfl Tryz.ntmps154 ?_
 intro C hC
 refine awp_seq (awp_region ?_)
 refine s_box ?_
 refine s_as ?_
 refine k_nil (k_seq (awp_seq ?_))
 refine awp_draw yMix (by kernel_rfl) ?_
 refine s_fa yF73_0 ?_
 refine s_ldN yA27 yS27 ?_
 refine s_mv ?_
 obtain ⟨v1, hv1, hF1⟩ := bind_some' hF0
 refine s_pure [] (m_spec_l4Is_ok fuel _ _ _ hv1) ?_
 refine s_mv ?_
 refine w_guard _ 9 hF1 ?_ ?_ <;> intro hc2 hF2
 refine s_fa yF73_0 ?_
 refine s_fa yF27_0 ?_
 refine s_ld1 yA3 ?_
 refine s_eq ?_
 refine s_pkt ?_
 refine s_mv ?_
 refine w_guard _ 15 hF2 ?_ ?_ <;> intro hc3 hF3
 refine s_fa yF73_0 ?_
 refine s_fa yF27_4 ?_
 refine s_ld1 yA25 ?_
 refine s_lenT yU25 ?_
 refine s_gt ?_
 refine s_pkt ?_
 refine s_mv ?_
 refine w_guard _ 22 hF3 ?_ ?_ <;> intro hc4 hF4
 refine s_fa yF73_1 ?_
 refine s_ldN yA27 yS27 ?_
 obtain ⟨v5, hv5, hF5⟩ := bind_some' hF4
 refine s_pure [] (m_spec_FormValid_ok fuel _ _ hv5) ?_
 refine s_pkt ?_
 refine s_mv ?_
 refine w_guard _ 27 hF5 ?_ ?_ <;> intro hc6 hF6
 refine s_fa yF73_1 ?_
 refine s_ldN yA27 yS27 ?_
 refine s_fa yF73_0 ?_
 refine s_ldN yA27 yS27 ?_
 refine s_mv ?_
 obtain ⟨v7, hv7, hF7⟩ := bind_some' hF6
 refine s_pure [] (m_spec_l5Shape_ok fuel _ _ _ hv7) ?_
 obtain ⟨v8, hv8, hF8⟩ := bind_some' hF7
 refine s_pure [] (m_spec_l5Is_ok fuel _ _ _ hv8) ?_
 refine s_pkt ?_
 refine s_as ?_
 refine k_nilD (by kernel_rfl) ?_
 refine k_seq (awp_ret (k_fin ?_))
 cases hF8
 exact ends_a [] [] Tryz.results154
 iterate 7 refine r_no rfl ?_
 refine s_pkf ?_
 refine s_as ?_
 refine k_nilD (by kernel_rfl) ?_
 refine k_seq (awp_ret (k_fin ?_))
 cases hF6
 exact ends_a [] [] Tryz.results154
 iterate 3 refine r_no rfl ?_
 refine s_pkf ?_
 refine s_mv ?_
 iterate 7 refine r_no rfl ?_
 refine s_pkf ?_
 refine s_as ?_
 refine k_nilD (by kernel_rfl) ?_
 refine k_seq (awp_ret (k_fin ?_))
 cases hF4
 exact ends_a [] [] Tryz.results154
 iterate 5 refine r_no rfl ?_
 refine s_pkf ?_
 refine s_mv ?_
 iterate 3 refine r_no rfl ?_
 refine s_pkf ?_
 refine s_mv ?_
 iterate 7 refine r_no rfl ?_
 refine s_pkf ?_
 refine s_as ?_
 refine k_nilD (by kernel_rfl) ?_
 refine k_seq (awp_ret (k_fin ?_))
 cases hF3
 exact ends_a [] [] Tryz.results154
 iterate 4 refine r_no rfl ?_
 refine s_pkf ?_
 refine s_mv ?_
 iterate 5 refine r_no rfl ?_
 refine s_pkf ?_
 refine s_mv ?_
 iterate 3 refine r_no rfl ?_
 refine s_pkf ?_
 refine s_mv ?_
 iterate 7 refine r_no rfl ?_
 refine s_pkf ?_
 refine s_as ?_
 refine k_nilD (by kernel_rfl) ?_
 refine k_seq (awp_ret (k_fin ?_))
 cases hF2
 exact ends_a [] [] Tryz.results154
def m_spec_l5Rules_AC (fuel : Nat) : Prop := ∀ (x1 : (List Rule)) (x2 : (List Form)) (r : Bool), m_spec_l5Rules fuel x1 x2 = some r → AC Tryz.prog 94 [.t (.sl (x1.map Rule.row)), .t (.sl (x2.map Form.row))] noOb (.t (.sc (.bool r))) noOb
theorem m_spec_l5Rules_ok (fuel : Nat) : m_spec_l5Rules_AC fuel := by
 intro x1 x2 r hF0
 unfold m_spec_l5Rules at hF0
 refine AC_i [.t (.sc (.bool r))] Tryz.func94 rfl Tryz.ntmps94 ?_
 intro C hC
 refine awp_seq (awp_region ?_)
 refine s_as ?_
 refine k_nil (k_seq (awp_seq (awp_seq (awp_region ?_))))
 refine s_as ?_
 refine k_nil (k_seq (awp_block ?_))
 refine awp_fr (β := Int) [4, 5, 6, 7, 8, 9, 10, 11, 12, 13, 14, 15, 16, 17, 18, 19, 20, 21, 22] [] [] (fun a => [(5, .t (.sc (.int .i64 a.2)))]) (fun a => []) (fun a => a.1 ≤ fuel ∧ m_spec_l5Rules_l1 a.1 x1 x2 a.2 = some r) (fuel, 0) ⟨Nat.le_refl _, hF0⟩ ?_
 clear hF0
 rintro ⟨fu, g1⟩ ⟨hl2, hF1⟩
 dsimp only at hl2 hF1 ⊢
 obtain _ | fu := fu
 · rw [m_spec_l5Rules_l1] at hF1; cases hF1
 rw [m_spec_l5Rules_l1] at hF1
 refine awp_seq ?_
 refine awp_jn (α := Nat × Bool) [6, 7, 8, 9, 10, 11, 12, 13] [] [] (fun a => [(13, .t (.sc (.bool a.2)))]) (fun a => []) (fun a => a.1 ≤ fu ∧ m_spec_l5Rules_j2 a.1 x1 x2 g1 a.2 = some r) ?_ ?_
 refine awp_region ?_
 refine s_mv ?_
 refine s_mv ?_
 refine s_lenT yU62 ?_
 refine s_lt ?_
 refine s_mv ?_
 refine w_guard _ 10 hF1 ?_ ?_ <;> intro hc3 hF2
 refine s_mv ?_
 refine s_lt ?_
 refine s_pkt ?_
 refine k_nil ?_
 exact s_jn (fu, (decide (g1 < 10))) ⟨by first | omega | (dsimp only; omega), hF2⟩
 refine r_no rfl (r_no rfl ?_)
 refine s_pkf ?_
 refine k_nil ?_
 exact s_jn (fu, false) ⟨by first | omega | (dsimp only; omega), hF2⟩
 clear hF1
 rintro ⟨fu, g4⟩ ⟨hl5, hF2⟩
 dsimp only at hl5 hF2 ⊢
 obtain _ | fu := fu
 · rw [m_spec_l5Rules_j2] at hF2; cases hF2
 rw [m_spec_l5Rules_j2] at hF2
 refine w_cond hF2 ?_ ?_ <;> intro hc6 hF3
 refine awp_skip (k_seq (awp_seq (awp_block (awp_seq (awp_region ?_)))))
 refine s_mv ?_
 refine s_mv ?_
 obtain ⟨v7, hv7, hF4⟩ := bind_some' hF3
 refine s_ixT Rule.row hv7 (Rule.row_eq _) yE62 ?_
 refine s_ldN yA73 yS73 ?_
 refine s_mv ?_
 obtain ⟨v8, hv8, hF5⟩ := bind_some' hF4
 refine s_pure [] (m_spec_l5Rule_ok fu _ _ _ hv8) ?_
 refine s_not ?_
 refine k_nil (k_seq ?_)
 refine w_cond hF5 ?_ ?_ <;> intro hc9 hF6
 refine awp_seq (awp_region ?_)
 refine s_as ?_
 refine k_nil (k_seq (awp_ret (k_blk_ret (k_seq_ret (k_rnd_ret2 (k_blk_ret (k_seq_ret (k_fin ?_))))))))
 cases hF6
 exact ends_a [] [] Tryz.results94
 refine awp_skip (k_blk (k_seq (awp_region ?_)))
 refine s_mv ?_
 refine s_add rfl ?_
 refine s_as ?_
 refine k_nil ?_
 exact s_rn (fu, (w64 (g1 + 1))) ⟨by first | omega | (dsimp only; omega), hF6⟩
 refine awp_exit (k_seq_exit (k_rnd_exit2 (k_blk_exit (k_seq (awp_seq (awp_region ?_))))))
 refine s_mv ?_
 refine s_lenT yU62 ?_
 refine s_lt ?_
 refine s_mv ?_
 refine w_guard _ 26 hF3 ?_ ?_ <;> intro hc10 hF4
 refine s_mv ?_
 obtain ⟨v11, hv11, hF5⟩ := bind_some' hF4
 refine s_pure [] (m_spec_l4Literals_ok fu _ _ hv11) ?_
 refine s_pkt ?_
 refine s_as ?_
 refine k_nil (k_seq (awp_ret (k_fin ?_)))
 cases hF5
 exact ends_a [] [] Tryz.results94
 refine r_no rfl (r_no rfl ?_)
 refine s_pkf ?_
 refine s_as ?_
 refine k_nil (k_seq (awp_ret (k_fin ?_)))
 cases hF4
 exact ends_a [] [] Tryz.results94
def m_spec_FirstRule_AC (fuel : Nat) : Prop := ∀ (x1 : (List Bind)) (x2 : (List Rule)) (x3 : (List Form)) (x4 : Form) (r : (Int × Bool)), m_spec_FirstRule fuel x1 x2 x3 x4 = some r → AC Tryz.prog 33 [.t (.sl (x1.map Bind.row)), .t (.sl (x2.map Rule.row)), .t (.sl (x3.map Form.row)), .ag [.t (.sc (.int .i64 x4.kind)), .t (.sc (.str x4.name)), .t (.sc (.int .i64 x4.n)), .t (.sl (x4.scopes.map rI)), .t (.sl (x4.kids.map Form.row))]] noOb (.tp [.t (.sc (.int .i64 r.1)), .t (.sc (.bool r.2))]) noOb
theorem m_spec_FirstRule_ok (fuel : Nat) : m_spec_FirstRule_AC fuel := by
 intro x1 x2 x3 x4 r hF0
 unfold m_spec_FirstRule at hF0
 refine AC_i [.t (.sc (.int .i64 r.1)), .t (.sc (.bool r.2))] Tryz.func33 rfl Tryz.ntmps33 ?_
 intro C hC
 refine awp_seq (awp_region ?_)
 refine s_box ?_
 refine s_as ?_
 refine s_as ?_
 refine k_nil (k_seq (awp_seq ?_))
 refine awp_jn (α := Nat × Bool) [13, 14, 15, 16, 17, 18, 19, 20, 21, 22, 23, 24, 25, 26] [] [] (fun a => [(26, .t (.sc (.bool a.2)))]) (fun a => []) (fun a => a.1 ≤ fuel ∧ m_spec_FirstRule_j1 a.1 x1 x2 x3 x4 a.2 = some r) ?_ ?_
 refine awp_region ?_
 refine s_mv ?_
 obtain ⟨v1, hv1, hF1⟩ := bind_some' hF0
 refine s_pure [] (m_spec_BindsValid_ok fuel _ _ hv1) ?_
 refine s_not ?_
 refine s_mv ?_
 refine w_guard _ 16 hF1 ?_ ?_ <;> intro hc2 hF2
 iterate 4 refine r_no rfl ?_
 refine s_pkt ?_
 refine s_mv ?_
 iterate 3 refine r_no rfl ?_
 refine s_pkt ?_
 refine k_nil ?_
 exact s_jn (fuel, true) ⟨by first | omega | (dsimp only; omega), hF2⟩
 refine s_mv ?_
 refine s_mv ?_
 obtain ⟨v3, hv3, hF3⟩ := bind_some' hF2
 refine s_pure [] (m_spec_l5Rules_ok fuel _ _ _ hv3) ?_
 refine s_not ?_
 refine s_pkf ?_
 refine s_mv ?_
 refine w_guard _ 22 hF3 ?_ ?_ <;> intro hc4 hF4
 iterate 3 refine r_no rfl ?_
 refine s_pkt ?_
 refine k_nil ?_
 exact s_jn (fuel, true) ⟨by first | omega | (dsimp only; omega), hF4⟩
 refine s_ldW yA27 yS27 ?_
 obtain ⟨v5, hv5, hF5⟩ := bind_some' hF4
 refine s_pure [] (m_spec_FormValid_ok fuel _ _ hv5) ?_
 refine s_not ?_
 refine s_pkf ?_
 refine k_nil ?_
 exact s_jn (fuel, (!v5)) ⟨by first | omega | (dsimp only; omega), hF5⟩
 clear hF0
 rintro ⟨fu, g6⟩ ⟨hl7, hF1⟩
 dsimp only at hl7 hF1 ⊢
 obtain _ | fu := fu
 · rw [m_spec_FirstRule_j1] at hF1; cases hF1
 rw [m_spec_FirstRule_j1] at hF1
 refine w_cond hF1 ?_ ?_ <;> intro hc8 hF2
 refine awp_seq (awp_region ?_)
 refine s_as ?_
 refine s_as ?_
 refine k_nil (k_seq (awp_ret (k_seq_ret (k_fin ?_))))
 cases hF2
 exact ends_a [] [] Tryz.results33
 refine awp_skip (k_seq (awp_seq (awp_seq (awp_region ?_))))
 refine s_as ?_
 refine k_nil (k_seq (awp_block ?_))
 refine awp_fr (β := Int) [8, 9, 10, 11, 12, 27, 28, 29, 30, 31, 32, 33, 34, 35, 36, 37, 38, 39, 40, 41, 42, 43, 44, 45, 46] [] [] (fun a => [(10, .t (.sc (.int .i64 a.2)))]) (fun a => []) (fun a => a.1 ≤ fu ∧ m_spec_FirstRule_l2 a.1 x1 x2 x3 x4 a.2 = some r ∧ 0 ≤ a.2) (fu, 0) ⟨Nat.le_refl _, hF2, by simp⟩ ?_
 clear hF2
 rintro ⟨fu, g9⟩ ⟨hl10, hF3, hn_g9⟩
 dsimp only at hl10 hF3 hn_g9 ⊢
 obtain _ | fu := fu
 · rw [m_spec_FirstRule_l2] at hF3; cases hF3
 rw [m_spec_FirstRule_l2] at hF3
 refine awp_seq (awp_seq (awp_region ?_))
 refine s_mv ?_
 refine s_mv ?_
 refine s_lenT yU62 ?_
 refine s_lt ?_
 refine k_nil (k_seq ?_)
 refine w_cond hF3 ?_ ?_ <;> intro hc11 hF4
 refine awp_lenT 1 (fun hb12 => ?_)
 refine awp_skip (k_seq (awp_seq (awp_block (awp_seq ?_))))
 refine awp_draw yMix (by kernel_rfl) ?_
 iterate 3 refine s_mv ?_
 obtain ⟨v13, hv13, hF5⟩ := bind_some' hF4
 refine s_ixT Rule.row hv13 (Rule.row_eq _) yE62 ?_
 refine s_fa yF73_0 ?_
 refine s_ldN yA27 yS27 ?_
 refine s_mv ?_
 refine s_ldW yA27 yS27 ?_
 obtain ⟨v14, hv14, hF6⟩ := bind_some' hF5
 refine s_pure [] (m_spec_l4Match_ok fu _ _ _ _ _ hv14) ?_
 refine s_mv ?_
 refine s_ext ?_
 refine s_ext ?_
 refine s_as ?_
 refine s_as ?_
 refine k_nilD (by kernel_rfl) ?_
 refine k_seq (awp_seq (awp_region ?_))
 refine s_mv ?_
 refine k_nil (k_seq ?_)
 refine w_cond hF6 ?_ ?_ <;> intro hc15 hF7
 refine awp_seq (awp_region ?_)
 refine s_mv ?_
 refine s_as ?_
 refine s_as ?_
 refine k_nil (k_seq (awp_ret (k_blk_ret (k_seq_ret (k_rnd_ret2 (k_blk_ret (k_seq_ret (k_fin ?_))))))))
 cases hF7
 exact ends_a [] [] Tryz.results33
 refine awp_skip (k_blk (k_seq (awp_region ?_)))
 refine s_mv ?_
 refine s_add (winc2 hc11 hb12 hn_g9) ?_
 refine s_as ?_
 refine k_nil ?_
 exact s_rn (fu, (g9 + 1)) ⟨by first | omega | (dsimp only; omega), hF7, by first | omega | (dsimp only; omega)⟩
 refine awp_exit (k_seq_exit (k_rnd_exit2 (k_blk_exit (k_seq (awp_seq (awp_region ?_))))))
 refine s_as ?_
 refine s_as ?_
 refine k_nil (k_seq (awp_ret (k_fin ?_)))
 cases hF4
 exact ends_a [] [] Tryz.results33
def m_impl_depthIn_1_AC (fuel : Nat) : Prop := ∀ (x1 : Form) (o1 : Form) (r : Bool), m_impl_depthIn_1 fuel x1 o1 = some r → AC Tryz.prog 206 [.ag [.t (.sc (.int .i64 x1.kind)), .t (.sc (.str x1.name)), .t (.sc (.int .i64 x1.n)), .t (.sl (x1.scopes.map rI)), .t (.sl (x1.kids.map Form.row))], .rf 9000 0] (objs [(9000, .box [.t (.sc (.int .i64 o1.kind)), .t (.sc (.str o1.name)), .t (.sc (.int .i64 o1.n)), .t (.sl (o1.scopes.map rI)), .t (.sl (o1.kids.map Form.row))])]) (.t (.sc (.bool r))) (objs [(9000, .box [.t (.sc (.int .i64 o1.kind)), .t (.sc (.str o1.name)), .t (.sc (.int .i64 o1.n)), .t (.sl (o1.scopes.map rI)), .t (.sl (o1.kids.map Form.row))])])
theorem m_impl_depthIn_1_ok (fuel : Nat) : m_impl_depthIn_1_AC fuel := by
 intro x1 o1 r hF0
 unfold m_impl_depthIn_1 at hF0
 refine AC_i [.t (.sc (.bool r))] Tryz.func206 rfl Tryz.ntmps206 ?_
 intro C hC
 refine awp_seq (awp_region ?_)
 refine s_box ?_
 refine s_as ?_
 refine k_nil (k_seq (awp_seq (awp_region ?_)))
 refine s_ldW yA27 yS27 ?_
 refine s_ldW yA27 yS27 ?_
 obtain ⟨v1, hv1, hF1⟩ := bind_some' hF0
 refine s_pure [] (m_impl_FormSame_ok fuel _ _ _ hv1) ?_
 refine s_as ?_
 refine k_nil (k_seq (awp_ret (k_fin ?_)))
 cases hF1
 exact ends_a _ [] Tryz.results206
def m_slices_IndexFunc_Form_depthIn_1_AC (fuel : Nat) : Prop := ∀ (x1 : (List Form)) (o1 : Form) (r : Int), m_slices_IndexFunc_Form_depthIn_1 fuel x1 o1 = some r → AC Tryz.prog 178 [.t (.sl (x1.map Form.row)), .fn 206 [.rf 9000 0]] (objs [(9000, .box [.t (.sc (.int .i64 o1.kind)), .t (.sc (.str o1.name)), .t (.sc (.int .i64 o1.n)), .t (.sl (o1.scopes.map rI)), .t (.sl (o1.kids.map Form.row))])]) (.t (.sc (.int .i64 r))) (objs [(9000, .box [.t (.sc (.int .i64 o1.kind)), .t (.sc (.str o1.name)), .t (.sc (.int .i64 o1.n)), .t (.sl (o1.scopes.map rI)), .t (.sl (o1.kids.map Form.row))])])
theorem m_slices_IndexFunc_Form_depthIn_1_ok (fuel : Nat) : m_slices_IndexFunc_Form_depthIn_1_AC fuel := by
 intro x1 o1 r hF0
 unfold m_slices_IndexFunc_Form_depthIn_1 at hF0
 refine AC_i [.t (.sc (.int .i64 r))] Tryz.func178 rfl Tryz.ntmps178 ?_
 intro C hC
 refine awp_seq (awp_region ?_)
 refine s_as ?_
 refine k_nil (k_seq (awp_seq (awp_seq (awp_region ?_))))
 refine s_mv ?_
 refine s_lenT yU25 ?_
 refine s_mv ?_
 refine k_nil (k_seq (awp_block ?_))
 refine awp_fr (β := Int) [4, 5, 8, 9, 10, 11, 12, 13, 14, 15, 16, 17, 18] [] [] (fun a => [(8, .t (.sc (.int .i64 a.2)))]) (fun a => []) (fun a => a.1 ≤ fuel ∧ m_slices_IndexFunc_Form_depthIn_1_l1 a.1 x1 o1 a.2 = some r ∧ 0 ≤ a.2) (fuel, 0) ⟨Nat.le_refl _, hF0, by simp⟩ ?_
 clear hF0
 rintro ⟨fu, g1⟩ ⟨hl2, hF1, hn_g1⟩
 dsimp only at hl2 hF1 hn_g1 ⊢
 obtain _ | fu := fu
 · rw [m_slices_IndexFunc_Form_depthIn_1_l1] at hF1; cases hF1
 rw [m_slices_IndexFunc_Form_depthIn_1_l1] at hF1
 refine awp_seq (awp_region ?_)
 refine s_lt ?_
 refine k_nil (k_seq (awp_seq ?_))
 refine w_cond hF1 ?_ ?_ <;> intro hc3 hF2
 refine awp_lenT 0 (fun hb4 => ?_)
 refine awp_skip (k_seq (awp_seq (awp_block (awp_seq (awp_region ?_)))))
 refine s_mv ?_
 refine s_as ?_
 refine k_nil (k_seq (awp_seq (awp_region ?_)))
 iterate 3 refine s_mv ?_
 obtain ⟨v5, hv5, hF3⟩ := bind_some' hF2
 refine s_ixT Form.row hv5 (Form.row_eq _) yE25 ?_
 refine s_ldN yA27 yS27 ?_
 obtain ⟨v6, hv6, hF4⟩ := bind_some' hF3
 refine s_call [(9000, 9000)] [] _ _ (m_impl_depthIn_1_ok fu _ _ _ hv6) ?_
 refine k_nil (k_seq ?_)
 refine w_cond hF4 ?_ ?_ <;> intro hc7 hF5
 refine awp_seq (awp_region ?_)
 refine s_mv ?_
 refine s_as ?_
 refine k_nil (k_seq (awp_ret (k_blk_ret (k_seq_ret (k_rnd_ret2 (k_blk_ret (k_seq_ret (k_fin ?_))))))))
 cases hF5
 exact ends_a _ [] Tryz.results178
 refine awp_skip (k_blk (k_seq (awp_region ?_)))
 refine s_add (winc2 hc3 hb4 hn_g1) ?_
 refine s_mv ?_
 refine k_nil ?_
 exact s_rn (fu, (g1 + 1)) ⟨by first | omega | (dsimp only; omega), hF5, by first | omega | (dsimp only; omega)⟩
 refine awp_exit (k_seq_exit (k_rnd_exit2 (k_blk_exit (k_seq (awp_seq (awp_region ?_))))))
 refine s_as ?_
 refine k_nil (k_seq (awp_ret (k_fin ?_)))
 cases hF2
 exact ends_a _ [] Tryz.results178
def m_impl_depthIn_AC (fuel : Nat) : Prop := ∀ (x1 : (List Form)) (x2 : (List Int)) (x3 : Form) (r : Int), m_impl_depthIn fuel x1 x2 x3 = some r → AC Tryz.prog 191 [.t (.sl (x1.map Form.row)), .t (.sl (x2.map rI)), .ag [.t (.sc (.int .i64 x3.kind)), .t (.sc (.str x3.name)), .t (.sc (.int .i64 x3.n)), .t (.sl (x3.scopes.map rI)), .t (.sl (x3.kids.map Form.row))]] noOb (.t (.sc (.int .i64 r))) noOb
theorem m_impl_depthIn_ok (fuel : Nat) : m_impl_depthIn_AC fuel := by
 intro x1 x2 x3 r hF0
 unfold m_impl_depthIn at hF0
 refine AC_i [.t (.sc (.int .i64 r))] Tryz.func191 rfl Tryz.ntmps191 ?_
 intro C hC
 refine awp_seq (awp_region ?_)
 refine s_box ?_
 refine s_as ?_
 refine k_nil (k_seq (awp_seq (awp_seq (awp_region ?_))))
 refine s_fa yF27_0 ?_
 refine s_ld1 yA3 ?_
 refine s_ne ?_
 refine k_nil (k_seq ?_)
 refine w_cond hF0 ?_ ?_ <;> intro hc1 hF1
 refine awp_seq (awp_region ?_)
 refine s_as ?_
 refine k_nil (k_seq (awp_ret (k_seq_ret (k_fin ?_))))
 cases hF1
 exact ends_a [] [] Tryz.results191
 refine awp_skip (k_seq (awp_seq (awp_region ?_)))
 refine s_mv ?_
 refine s_fn ?_
 obtain ⟨v2, hv2, hF2⟩ := bind_some' hF1
 refine s_call [(9000, 5)] [] _ _ (m_slices_IndexFunc_Form_depthIn_1_ok fuel _ _ _ hv2) ?_
 refine s_as ?_
 refine k_nil (k_seq (awp_seq (awp_seq (awp_region ?_))))
 refine s_mv ?_
 refine s_lt ?_
 refine k_nil (k_seq ?_)
 refine w_cond hF2 ?_ ?_ <;> intro hc3 hF3
 refine awp_seq (awp_region ?_)
 refine s_as ?_
 refine k_nil (k_seq (awp_ret (k_seq_ret (k_fin ?_))))
 cases hF3
 exact ends_a [] [] Tryz.results191
 refine awp_skip (k_seq (awp_seq (awp_region ?_)))
 refine s_mv ?_
 refine s_mv ?_
 obtain ⟨v4, hv4, hF4⟩ := bind_some' hF3
 refine s_ixT rI hv4 rfl yE24 ?_
 refine s_ld1 yA3 ?_
 refine s_as ?_
 refine k_nil (k_seq (awp_ret (k_fin ?_)))
 cases hF4
 exact ends_a [] [] Tryz.results191
def m_impl_rowsOk_1_AC (fuel : Nat) : Prop := ∀ (x1 : Form) (o1 : Bool) (o2 : (List Form)) (o3 : (List Int)) (o4 : Int) (r : Bool), m_impl_rowsOk_1 fuel x1 o1 o2 o3 o4 = some r → AC Tryz.prog 192 [.ag [.t (.sc (.int .i64 x1.kind)), .t (.sc (.str x1.name)), .t (.sc (.int .i64 x1.n)), .t (.sl (x1.scopes.map rI)), .t (.sl (x1.kids.map Form.row))], .rf 9000 0, .rf 9001 0, .rf 9002 0, .rf 9003 0] (objs [(9000, .box [.t (.sc (.bool o1))]), (9001, .box [.t (.sl (o2.map Form.row))]), (9002, .box [.t (.sl (o3.map rI))]), (9003, .box [.t (.sc (.int .i64 o4))])]) (.tp []) (objs [(9000, .box [.t (.sc (.bool r))]), (9001, .box [.t (.sl (o2.map Form.row))]), (9002, .box [.t (.sl (o3.map rI))]), (9003, .box [.t (.sc (.int .i64 o4))])])
theorem m_impl_rowsOk_1_ok (fuel : Nat) : m_impl_rowsOk_1_AC fuel := by
 intro x1 o1 o2 o3 o4 r hF0
 unfold m_impl_rowsOk_1 at hF0
 refine AC_i [] Tryz.func192 rfl Tryz.ntmps192 ?_
 intro C hC
 refine awp_seq (awp_region ?_)
 refine s_box ?_
 refine k_nil (k_seq ?_)
 refine awp_draw yMix (by kernel_rfl) ?_
 refine s_ld1 yA4 ?_
 refine s_mv ?_
 refine w_guard _ 7 hF0 ?_ ?_ <;> intro hc1 hF1
 iterate 6 refine r_no rfl ?_
 refine s_pkt ?_
 refine s_stW yS4 ?_
 refine k_nilD (by kernel_rfl) ?_
 refine k_fin_end ?_
 cases hF1
 exact ends_a _ [] Tryz.results192
 refine s_ld1 yA25 ?_
 refine s_ld1 yA24 ?_
 refine s_ldW yA27 yS27 ?_
 obtain ⟨v2, hv2, hF2⟩ := bind_some' hF1
 refine s_pure [] (m_impl_depthIn_ok fuel _ _ _ _ hv2) ?_
 refine s_ld1 yA3 ?_
 refine s_gt ?_
 refine s_pkf ?_
 refine s_stW yS4 ?_
 refine k_nilD (by kernel_rfl) ?_
 refine k_fin_end ?_
 cases hF2
 exact ends_a _ [] Tryz.results192
def m_impl_eachForm_rowsOk_1_AC (fuel : Nat) : Prop := ∀ (x1 : Form) (o1 : Bool) (o2 : (List Form)) (o3 : (List Int)) (o4 : Int) (r : Bool), m_impl_eachForm_rowsOk_1 fuel x1 o1 o2 o3 o4 = some r → AC Tryz.prog 78 [.ag [.t (.sc (.int .i64 x1.kind)), .t (.sc (.str x1.name)), .t (.sc (.int .i64 x1.n)), .t (.sl (x1.scopes.map rI)), .t (.sl (x1.kids.map Form.row))], .fn 192 [.rf 9000 0, .rf 9001 0, .rf 9002 0, .rf 9003 0]] (objs [(9000, .box [.t (.sc (.bool o1))]), (9001, .box [.t (.sl (o2.map Form.row))]), (9002, .box [.t (.sl (o3.map rI))]), (9003, .box [.t (.sc (.int .i64 o4))])]) (.tp []) (objs [(9000, .box [.t (.sc (.bool r))]), (9001, .box [.t (.sl (o2.map Form.row))]), (9002, .box [.t (.sl (o3.map rI))]), (9003, .box [.t (.sc (.int .i64 o4))])])
theorem m_impl_eachForm_rowsOk_1_st (fu : Nat) (ih_m_impl_eachForm_rowsOk_1 : ∀ k, k ≤ fu → m_impl_eachForm_rowsOk_1_AC k) : m_impl_eachForm_rowsOk_1_AC (fu + 1) := by
 intro x1 o1 o2 o3 o4 r hF0
 rw [m_impl_eachForm_rowsOk_1] at hF0
 refine AC_i [] Tryz.func78 rfl Tryz.ntmps78 ?_
 intro C hC
 refine awp_seq (awp_region ?_)
 refine s_box ?_
 refine k_nil (k_seq (awp_seq (awp_region ?_)))
 refine s_mv ?_
 refine s_ldW yA27 yS27 ?_
 obtain ⟨v1, hv1, hF1⟩ := bind_some' hF0
 refine s_call [(9000, 9000), (9001, 9001), (9002, 9002), (9003, 9003)] [] _ _ (m_impl_rowsOk_1_ok fu _ _ _ _ _ _ hv1) ?_
 refine k_nil (k_seq (awp_seq (awp_region ?_)))
 refine s_fa yF27_4 ?_
 refine s_ld1 yA25 ?_
 refine s_lenT yU25 ?_
 refine s_mv ?_
 refine k_nil (k_seq (awp_block ?_))
 refine awp_fr (β := Int × Bool) [5, 12, 13, 14, 15, 16, 17, 18, 19] [9000] [5] (fun a => [(12, .t (.sc (.int .i64 a.2.1)))]) (fun a => [(9000, .box [.t (.sc (.bool a.2.2))])]) (fun a => a.1 ≤ fu ∧ m_impl_eachForm_rowsOk_1_l1 a.1 x1 o2 o3 o4 a.2.1 a.2.2 = some r ∧ 0 ≤ a.2.1) (fu, 0, v1) ⟨Nat.le_refl _, hF1, by simp⟩ ?_
 clear hF1
 rintro ⟨fu, g2, g3⟩ ⟨hl4, hF2, hn_g2⟩
 dsimp only at hl4 hF2 hn_g2 ⊢
 obtain _ | fu := fu
 · rw [m_impl_eachForm_rowsOk_1_l1] at hF2; cases hF2
 rw [m_impl_eachForm_rowsOk_1_l1] at hF2
 refine awp_seq (awp_region ?_)
 refine s_lt ?_
 refine k_nil (k_seq (awp_seq ?_))
 refine w_cond hF2 ?_ ?_ <;> intro hc5 hF3
 refine awp_lenT 10 (fun hb6 => ?_)
 refine awp_skip (k_seq (awp_seq (awp_block (awp_seq (awp_region ?_)))))
 obtain ⟨v7, hv7, hF4⟩ := bind_some' hF3
 refine s_ixT Form.row hv7 (Form.row_eq _) yE25 ?_
 refine s_ldN yA27 yS27 ?_
 refine s_alloc yZ27 ?_
 refine s_stW yS27 ?_
 refine k_nil (k_seq (awp_region ?_))
 refine s_ldW yA27 yS27 ?_
 refine s_mv ?_
 obtain ⟨v8, hv8, hF5⟩ := bind_some' hF4
 refine s_call [(9000, 9000), (9001, 9001), (9002, 9002), (9003, 9003)] [] _ _ (ih_m_impl_eachForm_rowsOk_1 fu (by omega) _ _ _ _ _ _ hv8) ?_
 refine k_nil (k_blk (k_seq (awp_region ?_)))
 refine s_add (winc2 hc5 hb6 hn_g2) ?_
 refine s_mv ?_
 refine k_nil ?_
 exact s_rn (fu, (g2 + 1), v8) ⟨by first | omega | (dsimp only; omega), hF5, by first | omega | (dsimp only; omega)⟩
 refine awp_exit (k_seq_exit (k_rnd_exit2 (k_blk_exit (k_fin_end ?_))))
 cases hF3
 exact ends_a _ [] Tryz.results78
theorem m_impl_eachForm_rowsOk_1_all (fuel : Nat) : m_impl_eachForm_rowsOk_1_AC fuel := by
 induction fuel using Nat.strongRecOn with
 | _ N ih =>
   cases N with
   | zero => exact (by intro x1 o1 o2 o3 o4 r h; rw [m_impl_eachForm_rowsOk_1] at h; cases h)
   | succ fu => exact m_impl_eachForm_rowsOk_1_st fu (fun k hk => (ih k (by omega)))
theorem m_impl_eachForm_rowsOk_1_ok (fuel : Nat) : m_impl_eachForm_rowsOk_1_AC fuel := (m_impl_eachForm_rowsOk_1_all fuel)
def m_impl_rowsOk_AC (fuel : Nat) : Prop := ∀ (x1 : Form) (x2 : (List Form)) (x3 : (List Int)) (x4 : Int) (r : Bool), m_impl_rowsOk fuel x1 x2 x3 x4 = some r → AC Tryz.prog 158 [.ag [.t (.sc (.int .i64 x1.kind)), .t (.sc (.str x1.name)), .t (.sc (.int .i64 x1.n)), .t (.sl (x1.scopes.map rI)), .t (.sl (x1.kids.map Form.row))], .t (.sl (x2.map Form.row)), .t (.sl (x3.map rI)), .t (.sc (.int .i64 x4))] noOb (.t (.sc (.bool r))) noOb
theorem m_impl_rowsOk_st (fu : Nat) (ih_m_impl_rowsOk : ∀ k, k ≤ fu → m_impl_rowsOk_AC k) : m_impl_rowsOk_AC (fu + 1) := by
 intro x1 x2 x3 x4 r hF0
 rw [m_impl_rowsOk] at hF0
 refine AC_i [.t (.sc (.bool r))] Tryz.func158 rfl Tryz.ntmps158 ?_
 intro C hC
 refine awp_seq (awp_region ?_)
 iterate 4 refine s_box ?_
 refine s_as ?_
 refine k_nil (k_seq (awp_seq (awp_seq ?_)))
 refine awp_draw yMix (by kernel_rfl) ?_
 refine s_ld1 yA25 ?_
 refine s_ld1 yA24 ?_
 refine s_ldW yA27 yS27 ?_
 obtain ⟨v1, hv1, hF1⟩ := bind_some' hF0
 refine s_pure [] (m_impl_depthIn_ok fu _ _ _ _ hv1) ?_
 refine s_ld1 yA3 ?_
 refine s_gt ?_
 refine k_nilD (by kernel_rfl) ?_
 refine k_seq ?_
 refine w_cond hF1 ?_ ?_ <;> intro hc2 hF2
 refine awp_seq (awp_region ?_)
 refine s_as ?_
 refine k_nil (k_seq (awp_ret (k_seq_ret (k_fin ?_))))
 cases hF2
 exact ends_a [] [] Tryz.results158
 refine awp_skip (k_seq (awp_seq (awp_seq (awp_region ?_))))
 refine s_fa yF27_4 ?_
 refine s_ld1 yA25 ?_
 refine s_lenT yU25 ?_
 refine s_mv ?_
 refine k_nil (k_seq (awp_block ?_))
 refine awp_fr (β := Int) [8, 9, 10, 11, 12, 22, 23, 24, 25, 26, 27, 28, 29, 30, 31, 32, 33, 34, 35, 36, 37, 38, 39, 40, 41, 42, 43, 44, 45, 46, 47, 48, 49, 50, 51, 52, 53, 54, 55, 56, 57, 58] [] [10, 12] (fun a => [(22, .t (.sc (.int .i64 a.2)))]) (fun a => []) (fun a => a.1 ≤ fu ∧ m_impl_rowsOk_l1 a.1 x1 x2 x3 x4 a.2 = some r ∧ 0 ≤ a.2) (fu, 0) ⟨Nat.le_refl _, hF2, by simp⟩ ?_
 clear hF2
 rintro ⟨fu, g3⟩ ⟨hl4, hF3, hn_g3⟩
 dsimp only at hl4 hF3 hn_g3 ⊢
 obtain _ | fu := fu
 · rw [m_impl_rowsOk_l1] at hF3; cases hF3
 rw [m_impl_rowsOk_l1] at hF3
 refine awp_seq (awp_region ?_)
 refine s_lt ?_
 refine k_nil (k_seq (awp_seq ?_))
 refine w_cond hF3 ?_ ?_ <;> intro hc5 hF4
 refine awp_lenT 20 (fun hb6 => ?_)
 refine awp_skip (k_seq (awp_seq (awp_block (awp_seq (awp_region ?_)))))
 refine s_mv ?_
 obtain ⟨v7, hv7, hF5⟩ := bind_some' hF4
 refine s_ixT Form.row hv7 (Form.row_eq _) yE25 ?_
 refine s_ldN yA27 yS27 ?_
 refine s_alloc yZ27 ?_
 refine s_as ?_
 refine s_stW yS27 ?_
 refine k_nil (k_seq (awp_seq (awp_seq (awp_region ?_))))
 refine s_ldW yA27 yS27 ?_
 obtain ⟨v8, hv8, hF6⟩ := bind_some' hF5
 refine s_pure [] (m_impl_named_ok fu _ _ _ hv8) ?_
 refine k_nil (k_seq ?_)
 refine w_cond hF6 ?_ ?_ <;> intro hc9 hF7
 refine awp_exit (k_seq_exit (k_blk_exit (k_seq (awp_region ?_))))
 refine s_add (winc2 hc5 hb6 hn_g3) ?_
 refine s_mv ?_
 refine k_nil ?_
 exact s_rn (fu, (g3 + 1)) ⟨by first | omega | (dsimp only; omega), hF7, by first | omega | (dsimp only; omega)⟩
 refine awp_skip (k_seq (awp_seq (awp_region ?_)))
 refine s_ld1 yA3 ?_
 refine s_as ?_
 refine k_nil (k_seq (awp_seq (awp_seq (awp_region ?_))))
 refine s_mv ?_
 refine s_add (winc2 hc5 hb6 hn_g3) ?_
 refine s_fa yF27_4 ?_
 refine s_ld1 yA25 ?_
 refine s_lenT yU25 ?_
 refine s_lt ?_
 refine s_mv ?_
 refine w_guard _ 36 hF7 ?_ ?_ <;> intro hc10 hF8
 refine s_fa yF27_4 ?_
 refine s_ld1 yA25 ?_
 refine s_mv ?_
 refine s_add (winc2 hc5 hb6 hn_g3) ?_
 obtain ⟨v11, hv11, hF9⟩ := bind_some' hF8
 refine s_ixT Form.row hv11 (Form.row_eq _) yE25 ?_
 refine s_ldN yA27 yS27 ?_
 obtain ⟨v12, hv12, hF10⟩ := bind_some' hF9
 refine s_pure [] (m_impl_named_ok fu _ _ _ hv12) ?_
 refine s_pkt ?_
 refine k_nil (k_seq ?_)
 refine w_cond hF10 ?_ ?_ <;> intro hc13 hF11
 refine awp_seq (awp_region ?_)
 refine s_mv ?_
 refine s_add rfl ?_
 refine s_as ?_
 refine k_nil (k_seq (awp_seq (awp_region ?_)))
 refine s_alloc yZ4 ?_
 refine s_stW yS4 ?_
 refine k_nil (k_seq (awp_seq (awp_region ?_)))
 refine s_ldW yA27 yS27 ?_
 refine s_fn ?_
 obtain ⟨v14, hv14, hF12⟩ := bind_some' hF11
 refine s_call [(9000, 12), (9001, 5), (9002, 6), (9003, 7)] [] _ _ (m_impl_eachForm_rowsOk_1_ok fu _ _ _ _ _ _ hv14) ?_
 refine k_nil (k_seq (awp_seq (awp_region ?_)))
 refine s_ld1 yA4 ?_
 refine s_not ?_
 refine k_nil (k_seq ?_)
 refine w_cond hF12 ?_ ?_ <;> intro hc15 hF13
 refine awp_seq (awp_region ?_)
 refine s_as ?_
 refine k_nil (k_seq (awp_ret (k_seq_ret (k_blk_ret (k_seq_ret (k_rnd_ret2 (k_blk_ret (k_seq_ret (k_fin ?_)))))))))
 cases hF13
 exact ends_a [] [] Tryz.results158
 refine awp_skip (k_seq (awp_seq (awp_region ?_)))
 refine s_ldW yA27 yS27 ?_
 refine s_ld1 yA25 ?_
 refine s_ld1 yA24 ?_
 refine s_mv ?_
 obtain ⟨v16, hv16, hF14⟩ := bind_some' hF13
 refine s_pure [] (ih_m_impl_rowsOk fu (by omega) _ _ _ _ _ hv16) ?_
 refine s_not ?_
 refine k_nil (k_seq ?_)
 refine w_cond hF14 ?_ ?_ <;> intro hc17 hF15
 refine awp_seq (awp_region ?_)
 refine s_as ?_
 refine k_nil (k_seq (awp_ret (k_blk_ret (k_seq_ret (k_rnd_ret2 (k_blk_ret (k_seq_ret (k_fin ?_))))))))
 cases hF15
 exact ends_a [] [] Tryz.results158
 refine awp_skip (k_blk (k_seq (awp_region ?_)))
 refine s_add (winc2 hc5 hb6 hn_g3) ?_
 refine s_mv ?_
 refine k_nil ?_
 exact s_rn (fu, (g3 + 1)) ⟨by first | omega | (dsimp only; omega), hF15, by first | omega | (dsimp only; omega)⟩
 refine awp_skip (k_seq (awp_seq (awp_region ?_)))
 refine s_ldW yA27 yS27 ?_
 refine s_ld1 yA25 ?_
 refine s_ld1 yA24 ?_
 refine s_mv ?_
 obtain ⟨v18, hv18, hF12⟩ := bind_some' hF11
 refine s_pure [] (ih_m_impl_rowsOk fu (by omega) _ _ _ _ _ hv18) ?_
 refine s_not ?_
 refine k_nil (k_seq ?_)
 refine w_cond hF12 ?_ ?_ <;> intro hc19 hF13
 refine awp_seq (awp_region ?_)
 refine s_as ?_
 refine k_nil (k_seq (awp_ret (k_blk_ret (k_seq_ret (k_rnd_ret2 (k_blk_ret (k_seq_ret (k_fin ?_))))))))
 cases hF13
 exact ends_a [] [] Tryz.results158
 refine awp_skip (k_blk (k_seq (awp_region ?_)))
 refine s_add (winc2 hc5 hb6 hn_g3) ?_
 refine s_mv ?_
 refine k_nil ?_
 exact s_rn (fu, (g3 + 1)) ⟨by first | omega | (dsimp only; omega), hF13, by first | omega | (dsimp only; omega)⟩
 iterate 7 refine r_no rfl ?_
 refine s_pkf ?_
 refine k_nil (k_seq (awp_false rfl (awp_skip (k_seq (awp_seq (awp_region ?_))))))
 refine s_ldW yA27 yS27 ?_
 refine s_ld1 yA25 ?_
 refine s_ld1 yA24 ?_
 refine s_mv ?_
 obtain ⟨v20, hv20, hF9⟩ := bind_some' hF8
 refine s_pure [] (ih_m_impl_rowsOk fu (by omega) _ _ _ _ _ hv20) ?_
 refine s_not ?_
 refine k_nil (k_seq ?_)
 refine w_cond hF9 ?_ ?_ <;> intro hc21 hF10
 refine awp_seq (awp_region ?_)
 refine s_as ?_
 refine k_nil (k_seq (awp_ret (k_blk_ret (k_seq_ret (k_rnd_ret2 (k_blk_ret (k_seq_ret (k_fin ?_))))))))
 cases hF10
 exact ends_a [] [] Tryz.results158
 refine awp_skip (k_blk (k_seq (awp_region ?_)))
 refine s_add (winc2 hc5 hb6 hn_g3) ?_
 refine s_mv ?_
 refine k_nil ?_
 exact s_rn (fu, (g3 + 1)) ⟨by first | omega | (dsimp only; omega), hF10, by first | omega | (dsimp only; omega)⟩
 refine awp_exit (k_seq_exit (k_rnd_exit2 (k_blk_exit (k_seq (awp_seq (awp_region ?_))))))
 refine s_as ?_
 refine k_nil (k_seq (awp_ret (k_fin ?_)))
 cases hF4
 exact ends_a [] [] Tryz.results158
theorem m_impl_rowsOk_all (fuel : Nat) : m_impl_rowsOk_AC fuel := by
 induction fuel using Nat.strongRecOn with
 | _ N ih =>
   cases N with
   | zero => exact (by intro x1 x2 x3 x4 r h; rw [m_impl_rowsOk] at h; cases h)
   | succ fu => exact m_impl_rowsOk_st fu (fun k hk => (ih k (by omega)))
theorem m_impl_rowsOk_ok (fuel : Nat) : m_impl_rowsOk_AC fuel := (m_impl_rowsOk_all fuel)
def m_impl_templateOk_AC (fuel : Nat) : Prop := ∀ (x1 : Form) (x2 : (List Form)) (x3 : (List Int)) (r : Bool), m_impl_templateOk fuel x1 x2 x3 = some r → AC Tryz.prog 103 [.ag [.t (.sc (.int .i64 x1.kind)), .t (.sc (.str x1.name)), .t (.sc (.int .i64 x1.n)), .t (.sl (x1.scopes.map rI)), .t (.sl (x1.kids.map Form.row))], .t (.sl (x2.map Form.row)), .t (.sl (x3.map rI))] noOb (.t (.sc (.bool r))) noOb
theorem m_impl_templateOk_ok (fuel : Nat) : m_impl_templateOk_AC fuel := by
 intro x1 x2 x3 r hF0
 unfold m_impl_templateOk at hF0
 refine AC_i [.t (.sc (.bool r))] Tryz.func103 rfl Tryz.ntmps103 ?_
 intro C hC
 refine awp_seq (awp_region ?_)
 refine s_box ?_
 refine s_as ?_
 refine k_nil (k_seq (awp_seq (awp_region ?_)))
 refine s_ldW yA27 yS27 ?_
 obtain ⟨v1, hv1, hF1⟩ := bind_some' hF0
 refine s_pure [] (m_impl_FormValid_ok fuel _ _ hv1) ?_
 refine s_mv ?_
 refine w_guard _ 9 hF1 ?_ ?_ <;> intro hc2 hF2
 refine s_ldW yA27 yS27 ?_
 obtain ⟨v3, hv3, hF3⟩ := bind_some' hF2
 refine s_pure [] (m_impl_named_ok fuel _ _ _ hv3) ?_
 refine s_not ?_
 refine s_pkt ?_
 refine s_mv ?_
 refine w_guard _ 14 hF3 ?_ ?_ <;> intro hc4 hF4
 refine s_ldW yA27 yS27 ?_
 obtain ⟨v5, hv5, hF5⟩ := bind_some' hF4
 refine s_pure [] (m_impl_dotsOk_ok fuel _ _ _ hv5) ?_
 refine s_pkt ?_
 refine s_mv ?_
 refine w_guard _ 18 hF5 ?_ ?_ <;> intro hc6 hF6
 refine s_ldW yA27 yS27 ?_
 refine s_mv ?_
 refine s_mv ?_
 obtain ⟨v7, hv7, hF7⟩ := bind_some' hF6
 refine s_pure [] (m_impl_rowsOk_ok fuel _ _ _ _ _ hv7) ?_
 refine s_pkt ?_
 refine s_as ?_
 refine k_nil (k_seq (awp_ret (k_fin ?_)))
 cases hF7
 exact ends_a [] [] Tryz.results103
 iterate 4 refine r_no rfl ?_
 refine s_pkf ?_
 refine s_as ?_
 refine k_nil (k_seq (awp_ret (k_fin ?_)))
 cases hF6
 exact ends_a [] [] Tryz.results103
 refine r_no rfl (r_no rfl ?_)
 refine s_pkf ?_
 refine s_mv ?_
 iterate 4 refine r_no rfl ?_
 refine s_pkf ?_
 refine s_as ?_
 refine k_nil (k_seq (awp_ret (k_fin ?_)))
 cases hF4
 exact ends_a [] [] Tryz.results103
 iterate 3 refine r_no rfl ?_
 refine s_pkf ?_
 refine s_mv ?_
 refine r_no rfl (r_no rfl ?_)
 refine s_pkf ?_
 refine s_mv ?_
 iterate 4 refine r_no rfl ?_
 refine s_pkf ?_
 refine s_as ?_
 refine k_nil (k_seq (awp_ret (k_fin ?_)))
 cases hF2
 exact ends_a [] [] Tryz.results103
def m_impl_RuleValid_AC (fuel : Nat) : Prop := ∀ (x1 : Rule) (x2 : (List Form)) (r : Bool), m_impl_RuleValid fuel x1 x2 = some r → AC Tryz.prog 44 [.ag [.t (.sc (.int .i64 x1.pattern.kind)), .t (.sc (.str x1.pattern.name)), .t (.sc (.int .i64 x1.pattern.n)), .t (.sl (x1.pattern.scopes.map rI)), .t (.sl (x1.pattern.kids.map Form.row)), .t (.sc (.int .i64 x1.template.kind)), .t (.sc (.str x1.template.name)), .t (.sc (.int .i64 x1.template.n)), .t (.sl (x1.template.scopes.map rI)), .t (.sl (x1.template.kids.map Form.row))], .t (.sl (x2.map Form.row))] noOb (.t (.sc (.bool r))) noOb
theorem m_impl_RuleValid_ok (fuel : Nat) : m_impl_RuleValid_AC fuel := by
 intro x1 x2 r hF0
 unfold m_impl_RuleValid at hF0
 refine AC_i [.t (.sc (.bool r))] Tryz.func44 rfl Tryz.ntmps44 ?_
 intro C hC
 refine awp_seq (awp_region ?_)
 refine s_box ?_
 refine s_as ?_
 refine k_nil (k_seq (awp_seq (awp_seq (awp_region ?_))))
 refine s_fa yF73_0 ?_
 refine s_ldN yA27 yS27 ?_
 refine s_mv ?_
 obtain ⟨v1, hv1, hF1⟩ := bind_some' hF0
 refine s_pure [] (m_impl_PatternValid_ok fuel _ _ _ hv1) ?_
 refine s_not ?_
 refine s_mv ?_
 refine w_guard _ 12 hF1 ?_ ?_ <;> intro hc2 hF2
 iterate 4 refine r_no rfl ?_
 refine s_pkt ?_
 refine s_mv ?_
 iterate 5 refine r_no rfl ?_
 refine s_pkt ?_
 refine k_nil (k_seq (awp_true rfl (awp_seq (awp_region ?_))))
 refine s_as ?_
 refine k_nil (k_seq (awp_ret (k_seq_ret (k_fin ?_))))
 cases hF2
 exact ends_a [] [] Tryz.results44
 refine s_fa yF73_0 ?_
 refine s_fa yF27_0 ?_
 refine s_ld1 yA3 ?_
 refine s_ne ?_
 refine s_pkf ?_
 refine s_mv ?_
 refine w_guard _ 18 hF2 ?_ ?_ <;> intro hc3 hF3
 iterate 5 refine r_no rfl ?_
 refine s_pkt ?_
 refine k_nil (k_seq (awp_true rfl (awp_seq (awp_region ?_))))
 refine s_as ?_
 refine k_nil (k_seq (awp_ret (k_seq_ret (k_fin ?_))))
 cases hF3
 exact ends_a [] [] Tryz.results44
 refine s_fa yF73_0 ?_
 refine s_fa yF27_4 ?_
 refine s_ld1 yA25 ?_
 refine s_lenT yU25 ?_
 refine s_eq ?_
 refine s_pkf ?_
 refine k_nil (k_seq ?_)
 refine w_cond hF3 ?_ ?_ <;> intro hc4 hF4
 refine awp_seq (awp_region ?_)
 refine s_as ?_
 refine k_nil (k_seq (awp_ret (k_seq_ret (k_fin ?_))))
 cases hF4
 exact ends_a [] [] Tryz.results44
 refine awp_skip (k_seq (awp_seq (awp_region ?_)))
 refine s_fa yF73_0 ?_
 refine s_ldN yA27 yS27 ?_
 refine s_mv ?_
 obtain ⟨v5, hv5, hF5⟩ := bind_some' hF4
 refine s_call [(9200, 2029)] [] _ _ (m_impl_varsOf_ok fuel _ _ _ hv5) ?_
 refine s_mv ?_
 refine s_ext ?_
 refine s_ext ?_
 refine s_as ?_
 refine s_as ?_
 refine k_nil (k_seq (awp_seq (awp_region ?_)))
 refine s_fa yF73_1 ?_
 refine s_ldN yA27 yS27 ?_
 refine s_mv ?_
 refine s_mv ?_
 obtain ⟨v6, hv6, hF6⟩ := bind_some' hF5
 refine s_pure [2029] (m_impl_templateOk_ok fuel _ _ _ _ hv6) ?_
 refine s_as ?_
 refine k_nil (k_seq (awp_ret (k_fin ?_)))
 cases hF6
 exact ends_a [] [] Tryz.results44
def m_impl_rulesOk_1_AC (fuel : Nat) : Prop := ∀ (x1 : Rule) (o1 : (List Form)) (r : Bool), m_impl_rulesOk_1 fuel x1 o1 = some r → AC Tryz.prog 155 [.ag [.t (.sc (.int .i64 x1.pattern.kind)), .t (.sc (.str x1.pattern.name)), .t (.sc (.int .i64 x1.pattern.n)), .t (.sl (x1.pattern.scopes.map rI)), .t (.sl (x1.pattern.kids.map Form.row)), .t (.sc (.int .i64 x1.template.kind)), .t (.sc (.str x1.template.name)), .t (.sc (.int .i64 x1.template.n)), .t (.sl (x1.template.scopes.map rI)), .t (.sl (x1.template.kids.map Form.row))], .rf 9000 0] (objs [(9000, .box [.t (.sl (o1.map Form.row))])]) (.t (.sc (.bool r))) (objs [(9000, .box [.t (.sl (o1.map Form.row))])])
theorem m_impl_rulesOk_1_ok (fuel : Nat) : m_impl_rulesOk_1_AC fuel := by
 intro x1 o1 r hF0
 unfold m_impl_rulesOk_1 at hF0
 refine AC_i [.t (.sc (.bool r))] Tryz.func155 rfl Tryz.ntmps155 ?_
 intro C hC
 refine awp_seq (awp_region ?_)
 refine s_box ?_
 refine s_as ?_
 refine k_nil (k_seq (awp_seq (awp_region ?_)))
 refine s_ldW yA73 yS73 ?_
 refine s_ld1 yA25 ?_
 obtain ⟨v1, hv1, hF1⟩ := bind_some' hF0
 refine s_pure [] (m_impl_RuleValid_ok fuel _ _ _ hv1) ?_
 refine s_not ?_
 refine s_as ?_
 refine k_nil (k_seq (awp_ret (k_fin ?_)))
 cases hF1
 exact ends_a _ [] Tryz.results155
def m_slices_IndexFunc_Rule_rulesOk_1_AC (fuel : Nat) : Prop := ∀ (x1 : (List Rule)) (o1 : (List Form)) (r : Int), m_slices_IndexFunc_Rule_rulesOk_1 fuel x1 o1 = some r → AC Tryz.prog 159 [.t (.sl (x1.map Rule.row)), .fn 155 [.rf 9000 0]] (objs [(9000, .box [.t (.sl (o1.map Form.row))])]) (.t (.sc (.int .i64 r))) (objs [(9000, .box [.t (.sl (o1.map Form.row))])])
theorem m_slices_IndexFunc_Rule_rulesOk_1_ok (fuel : Nat) : m_slices_IndexFunc_Rule_rulesOk_1_AC fuel := by
 intro x1 o1 r hF0
 unfold m_slices_IndexFunc_Rule_rulesOk_1 at hF0
 refine AC_i [.t (.sc (.int .i64 r))] Tryz.func159 rfl Tryz.ntmps159 ?_
 intro C hC
 refine awp_seq (awp_region ?_)
 refine s_as ?_
 refine k_nil (k_seq (awp_seq (awp_seq (awp_region ?_))))
 refine s_mv ?_
 refine s_lenT yU62 ?_
 refine s_mv ?_
 refine k_nil (k_seq (awp_block ?_))
 refine awp_fr (β := Int) [4, 5, 8, 9, 10, 11, 12, 13, 14, 15, 16, 17, 18] [] [] (fun a => [(8, .t (.sc (.int .i64 a.2)))]) (fun a => []) (fun a => a.1 ≤ fuel ∧ m_slices_IndexFunc_Rule_rulesOk_1_l1 a.1 x1 o1 a.2 = some r ∧ 0 ≤ a.2) (fuel, 0) ⟨Nat.le_refl _, hF0, by simp⟩ ?_
 clear hF0
 rintro ⟨fu, g1⟩ ⟨hl2, hF1, hn_g1⟩
 dsimp only at hl2 hF1 hn_g1 ⊢
 obtain _ | fu := fu
 · rw [m_slices_IndexFunc_Rule_rulesOk_1_l1] at hF1; cases hF1
 rw [m_slices_IndexFunc_Rule_rulesOk_1_l1] at hF1
 refine awp_seq (awp_region ?_)
 refine s_lt ?_
 refine k_nil (k_seq (awp_seq ?_))
 refine w_cond hF1 ?_ ?_ <;> intro hc3 hF2
 refine awp_lenT 0 (fun hb4 => ?_)
 refine awp_skip (k_seq (awp_seq (awp_block (awp_seq (awp_region ?_)))))
 refine s_mv ?_
 refine s_as ?_
 refine k_nil (k_seq (awp_seq (awp_region ?_)))
 iterate 3 refine s_mv ?_
 obtain ⟨v5, hv5, hF3⟩ := bind_some' hF2
 refine s_ixT Rule.row hv5 (Rule.row_eq _) yE62 ?_
 refine s_ldN yA73 yS73 ?_
 obtain ⟨v6, hv6, hF4⟩ := bind_some' hF3
 refine s_call [(9000, 9000)] [] _ _ (m_impl_rulesOk_1_ok fu _ _ _ hv6) ?_
 refine k_nil (k_seq ?_)
 refine w_cond hF4 ?_ ?_ <;> intro hc7 hF5
 refine awp_seq (awp_region ?_)
 refine s_mv ?_
 refine s_as ?_
 refine k_nil (k_seq (awp_ret (k_blk_ret (k_seq_ret (k_rnd_ret2 (k_blk_ret (k_seq_ret (k_fin ?_))))))))
 cases hF5
 exact ends_a _ [] Tryz.results159
 refine awp_skip (k_blk (k_seq (awp_region ?_)))
 refine s_add (winc2 hc3 hb4 hn_g1) ?_
 refine s_mv ?_
 refine k_nil ?_
 exact s_rn (fu, (g1 + 1)) ⟨by first | omega | (dsimp only; omega), hF5, by first | omega | (dsimp only; omega)⟩
 refine awp_exit (k_seq_exit (k_rnd_exit2 (k_blk_exit (k_seq (awp_seq (awp_region ?_))))))
 refine s_as ?_
 refine k_nil (k_seq (awp_ret (k_fin ?_)))
 cases hF2
 exact ends_a _ [] Tryz.results159
def m_slices_ContainsFunc_Rule_rulesOk_1_AC (fuel : Nat) : Prop := ∀ (x1 : (List Rule)) (o1 : (List Form)) (r : Bool), m_slices_ContainsFunc_Rule_rulesOk_1 fuel x1 o1 = some r → AC Tryz.prog 104 [.t (.sl (x1.map Rule.row)), .fn 155 [.rf 9000 0]] (objs [(9000, .box [.t (.sl (o1.map Form.row))])]) (.t (.sc (.bool r))) (objs [(9000, .box [.t (.sl (o1.map Form.row))])])
theorem m_slices_ContainsFunc_Rule_rulesOk_1_ok (fuel : Nat) : m_slices_ContainsFunc_Rule_rulesOk_1_AC fuel := by
 intro x1 o1 r hF0
 unfold m_slices_ContainsFunc_Rule_rulesOk_1 at hF0
 refine AC_i [.t (.sc (.bool r))] Tryz.func104 rfl Tryz.ntmps104 ?_
 intro C hC
 refine awp_seq (awp_region ?_)
 refine s_as ?_
 refine k_nil (k_seq (awp_seq (awp_region ?_)))
 refine s_mv ?_
 refine s_mv ?_
 obtain ⟨v1, hv1, hF1⟩ := bind_some' hF0
 refine s_call [(9000, 9000)] [] _ _ (m_slices_IndexFunc_Rule_rulesOk_1_ok fuel _ _ _ hv1) ?_
 refine s_ge ?_
 refine s_as ?_
 refine k_nil (k_seq (awp_ret (k_fin ?_)))
 cases hF1
 exact ends_a _ [] Tryz.results104
end Go.Abs
