/- A part of the proof: what the functions that the law calls answer, as pure values. -/
import Derived.Test.YtjjjnhpghhamkaaGreatK35a552f26911
import Derived.Test.YtjjjnhpghhamkaaGreatK4aeef59f488b
import Derived.Test.YtjjjnhpghhamkaaGreatK4c649c528dc8
import Derived.Test.YtjjjnhpghhamkaaGreatK51b78b869065
import Derived.Test.YtjjjnhpghhamkaaGreatK99890290b866
import Derived.Test.YtjjjnhpghhamkaaGreatKff06b70fb889
set_option linter.unusedSimpArgs false
set_option linter.unusedVariables false
set_option maxRecDepth 100000
set_option maxHeartbeats 4000000
namespace Go.Abs
open Go.Proofs
def m_impl_FindName_AC (fuel : Nat) : Prop := ∀ (x1 : (List Bind)) (x2 : Form) (r : (Int × Int)), m_impl_FindName fuel x1 x2 = some r → AC Tryz.prog 177 [.t (.sl (x1.map Bind.row)), .ag [.t (.sc (.int .i64 x2.kind)), .t (.sc (.str x2.name)), .t (.sc (.int .i64 x2.n)), .t (.sl (x2.scopes.map rI)), .t (.sl (x2.kids.map Form.row))]] noOb (.tp [.t (.sc (.int .i64 r.1)), .t (.sc (.int .i64 r.2))]) noOb
theorem m_impl_FindName_ok (fuel : Nat) : m_impl_FindName_AC fuel := by
 intro x1 x2 r hF0
 unfold m_impl_FindName at hF0
 refine AC_i [.t (.sc (.int .i64 r.1)), .t (.sc (.int .i64 r.2))] Tryz.func177 rfl Tryz.ntmps177 ?_
 intro C hC
 refine awp_seq (awp_region ?_)
 refine s_box ?_
 refine s_as ?_
 refine s_as ?_
 refine k_nil (k_seq (awp_seq ?_))
 refine awp_jn (α := Nat × Bool) [8, 9, 10, 11, 12, 13, 14, 15] [] [] (fun a => [(15, .t (.sc (.bool a.2)))]) (fun a => []) (fun a => a.1 ≤ fuel ∧ m_impl_FindName_j1 a.1 x1 x2 a.2 = some r) ?_ ?_
 refine awp_region ?_
 refine s_mv ?_
 obtain ⟨v1, hv1, hF1⟩ := bind_some' hF0
 refine s_pure [] (m_impl_BindsValid_ok fuel _ _ hv1) ?_
 refine s_not ?_
 refine s_mv ?_
 refine w_guard _ 11 hF1 ?_ ?_ <;> intro hc2 hF2
 iterate 3 refine r_no rfl ?_
 refine s_pkt ?_
 refine k_nil ?_
 exact s_jn (fuel, true) ⟨by first | omega | (dsimp only; omega), hF2⟩
 refine s_ldW yA27 yS27 ?_
 obtain ⟨v3, hv3, hF3⟩ := bind_some' hF2
 refine s_pure [] (m_impl_isName_ok fuel _ _ hv3) ?_
 refine s_not ?_
 refine s_pkf ?_
 refine k_nil ?_
 exact s_jn (fuel, (!v3)) ⟨by first | omega | (dsimp only; omega), hF3⟩
 clear hF0
 rintro ⟨fu, g4⟩ ⟨hl5, hF1⟩
 dsimp only at hl5 hF1 ⊢
 obtain _ | fu := fu
 · rw [m_impl_FindName_j1] at hF1; cases hF1
 rw [m_impl_FindName_j1] at hF1
 refine w_cond hF1 ?_ ?_ <;> intro hc6 hF2
 refine awp_seq (awp_region ?_)
 refine s_as ?_
 refine s_as ?_
 refine k_nil (k_seq (awp_ret (k_seq_ret (k_fin ?_))))
 cases hF2
 exact ends_a [] [] Tryz.results177
 refine awp_skip (k_seq (awp_seq (awp_region ?_)))
 refine s_mv ?_
 refine s_ldW yA27 yS27 ?_
 obtain ⟨v7, hv7, hF3⟩ := bind_some' hF2
 refine s_pure [] (m_impl_bound_ok fu _ _ _ hv7) ?_
 refine s_mv ?_
 refine s_ext ?_
 refine s_ext ?_
 refine s_as ?_
 refine s_as ?_
 refine k_nil (k_seq (awp_seq (awp_seq (awp_region ?_))))
 refine s_mv ?_
 refine s_ne ?_
 refine k_nil (k_seq ?_)
 refine w_cond hF3 ?_ ?_ <;> intro hc8 hF4
 refine awp_seq (awp_region ?_)
 refine s_mv ?_
 refine s_as ?_
 refine s_as ?_
 refine k_nil (k_seq (awp_ret (k_seq_ret (k_fin ?_))))
 cases hF4
 exact ends_a [] [] Tryz.results177
 refine awp_skip (k_seq (awp_seq (awp_region ?_)))
 refine s_mv ?_
 refine s_mv ?_
 obtain ⟨v9, hv9, hF5⟩ := bind_some' hF4
 refine s_ixT Bind.row hv9 (Bind.row_eq _) yE23 ?_
 refine s_fa yF93_2 ?_
 refine s_ld1 yA3 ?_
 refine s_as ?_
 refine s_as ?_
 refine k_nil (k_seq (awp_ret (k_fin ?_)))
 cases hF5
 exact ends_a [] [] Tryz.results177
def m_impl_SameReference_AC (fuel : Nat) : Prop := ∀ (x1 : (List Bind)) (x2 : Form) (x3 : Form) (r : Bool), m_impl_SameReference fuel x1 x2 x3 = some r → AC Tryz.prog 122 [.t (.sl (x1.map Bind.row)), .ag [.t (.sc (.int .i64 x2.kind)), .t (.sc (.str x2.name)), .t (.sc (.int .i64 x2.n)), .t (.sl (x2.scopes.map rI)), .t (.sl (x2.kids.map Form.row))], .ag [.t (.sc (.int .i64 x3.kind)), .t (.sc (.str x3.name)), .t (.sc (.int .i64 x3.n)), .t (.sl (x3.scopes.map rI)), .t (.sl (x3.kids.map Form.row))]] noOb (.t (.sc (.bool r))) noOb
theorem m_impl_SameReference_ok (fuel : Nat) : m_impl_SameReference_AC fuel := by
 intro x1 x2 x3 r hF0
 unfold m_impl_SameReference at hF0
 refine AC_i [.t (.sc (.bool r))] Tryz.func122 rfl Tryz.ntmps122 ?_
 intro C hC
 refine awp_seq (awp_region ?_)
 refine s_box ?_
 refine s_box ?_
 refine s_as ?_
 refine k_nil (k_seq (awp_seq ?_))
 refine awp_jn (α := Nat × Bool) [11, 12, 13, 14, 15, 16, 17, 18, 19, 20, 21, 22, 23] [] [] (fun a => [(23, .t (.sc (.bool a.2)))]) (fun a => []) (fun a => a.1 ≤ fuel ∧ m_impl_SameReference_j1 a.1 x1 x2 x3 a.2 = some r) ?_ ?_
 refine awp_region ?_
 refine s_mv ?_
 obtain ⟨v1, hv1, hF1⟩ := bind_some' hF0
 refine s_pure [] (m_impl_BindsValid_ok fuel _ _ hv1) ?_
 refine s_not ?_
 refine s_mv ?_
 refine w_guard _ 14 hF1 ?_ ?_ <;> intro hc2 hF2
 iterate 3 refine r_no rfl ?_
 refine s_pkt ?_
 refine s_mv ?_
 iterate 3 refine r_no rfl ?_
 refine s_pkt ?_
 refine k_nil ?_
 exact s_jn (fuel, true) ⟨by first | omega | (dsimp only; omega), hF2⟩
 refine s_ldW yA27 yS27 ?_
 obtain ⟨v3, hv3, hF3⟩ := bind_some' hF2
 refine s_pure [] (m_impl_isName_ok fuel _ _ hv3) ?_
 refine s_not ?_
 refine s_pkf ?_
 refine s_mv ?_
 refine w_guard _ 19 hF3 ?_ ?_ <;> intro hc4 hF4
 iterate 3 refine r_no rfl ?_
 refine s_pkt ?_
 refine k_nil ?_
 exact s_jn (fuel, true) ⟨by first | omega | (dsimp only; omega), hF4⟩
 refine s_ldW yA27 yS27 ?_
 obtain ⟨v5, hv5, hF5⟩ := bind_some' hF4
 refine s_pure [] (m_impl_isName_ok fuel _ _ hv5) ?_
 refine s_not ?_
 refine s_pkf ?_
 refine k_nil ?_
 exact s_jn (fuel, (!v5)) ⟨by first | omega | (dsimp only; omega), hF5⟩
 clear hF0
 rintro ⟨fu, g6⟩ ⟨hl7, hF1⟩
 dsimp only at hl7 hF1 ⊢
 obtain _ | fu := fu
 · rw [m_impl_SameReference_j1] at hF1; cases hF1
 rw [m_impl_SameReference_j1] at hF1
 refine w_cond hF1 ?_ ?_ <;> intro hc8 hF2
 refine awp_seq (awp_region ?_)
 refine s_as ?_
 refine k_nil (k_seq (awp_ret (k_seq_ret (k_fin ?_))))
 cases hF2
 exact ends_a [] [] Tryz.results122
 refine awp_skip (k_seq (awp_seq (awp_region ?_)))
 refine s_mv ?_
 refine s_ldW yA27 yS27 ?_
 obtain ⟨v9, hv9, hF3⟩ := bind_some' hF2
 refine s_pure [] (m_impl_FindName_ok fu _ _ _ hv9) ?_
 refine s_mv ?_
 refine s_ext ?_
 refine s_ext ?_
 refine s_as ?_
 refine s_as ?_
 refine k_nil (k_seq (awp_seq (awp_region ?_)))
 refine s_mv ?_
 refine s_ldW yA27 yS27 ?_
 obtain ⟨v10, hv10, hF4⟩ := bind_some' hF3
 refine s_pure [] (m_impl_FindName_ok fu _ _ _ hv10) ?_
 refine s_mv ?_
 refine s_ext ?_
 refine s_ext ?_
 refine s_as ?_
 refine s_as ?_
 refine k_nil (k_seq (awp_seq (awp_region ?_)))
 refine s_mv ?_
 refine s_eq ?_
 refine s_mv ?_
 refine w_guard _ 38 hF4 ?_ ?_ <;> intro hc11 hF5
 refine s_mv ?_
 refine s_eq ?_
 refine s_pkt ?_
 refine s_mv ?_
 refine w_guard _ 42 hF5 ?_ ?_ <;> intro hc12 hF6
 refine s_mv ?_
 refine s_mv ?_
 refine s_eq ?_
 refine s_pkt ?_
 refine s_mv ?_
 refine w_guard _ 47 hF6 ?_ ?_ <;> intro hc13 hF7
 iterate 13 refine r_no rfl ?_
 refine s_pkt ?_
 refine s_as ?_
 refine k_nil (k_seq (awp_ret (k_fin ?_)))
 cases hF7
 exact ends_a [] [] Tryz.results122
 refine s_mv ?_
 refine s_eq ?_
 refine s_mv ?_
 refine w_guard _ 50 hF7 ?_ ?_ <;> intro hc14 hF8
 refine s_mv ?_
 refine s_eq ?_
 refine s_pkt ?_
 refine s_mv ?_
 refine w_guard _ 54 hF8 ?_ ?_ <;> intro hc15 hF9
 refine s_fa yF27_1 ?_
 refine s_ld1 yA9 ?_
 refine s_fa yF27_1 ?_
 refine s_ld1 yA9 ?_
 refine s_eqS ?_
 refine s_pkt ?_
 refine s_pkf ?_
 refine s_as ?_
 refine k_nil (k_seq (awp_ret (k_fin ?_)))
 cases hF9
 exact ends_a [] [] Tryz.results122
 iterate 5 refine r_no rfl ?_
 refine s_pkf ?_
 refine s_pkf ?_
 refine s_as ?_
 refine k_nil (k_seq (awp_ret (k_fin ?_)))
 cases hF9
 exact ends_a [] [] Tryz.results122
 refine r_no rfl (r_no rfl ?_)
 refine s_pkf ?_
 refine s_mv ?_
 iterate 5 refine r_no rfl ?_
 refine s_pkf ?_
 refine s_pkf ?_
 refine s_as ?_
 refine k_nil (k_seq (awp_ret (k_fin ?_)))
 cases hF8
 exact ends_a [] [] Tryz.results122
 iterate 3 refine r_no rfl ?_
 refine s_pkf ?_
 refine s_mv ?_
 refine s_mv ?_
 refine s_eq ?_
 refine s_mv ?_
 refine w_guard _ 50 hF6 ?_ ?_ <;> intro hc16 hF7
 refine s_mv ?_
 refine s_eq ?_
 refine s_pkt ?_
 refine s_mv ?_
 refine w_guard _ 54 hF7 ?_ ?_ <;> intro hc17 hF8
 refine s_fa yF27_1 ?_
 refine s_ld1 yA9 ?_
 refine s_fa yF27_1 ?_
 refine s_ld1 yA9 ?_
 refine s_eqS ?_
 refine s_pkt ?_
 refine s_pkf ?_
 refine s_as ?_
 refine k_nil (k_seq (awp_ret (k_fin ?_)))
 cases hF8
 exact ends_a [] [] Tryz.results122
 iterate 5 refine r_no rfl ?_
 refine s_pkf ?_
 refine s_pkf ?_
 refine s_as ?_
 refine k_nil (k_seq (awp_ret (k_fin ?_)))
 cases hF8
 exact ends_a [] [] Tryz.results122
 refine r_no rfl (r_no rfl ?_)
 refine s_pkf ?_
 refine s_mv ?_
 iterate 5 refine r_no rfl ?_
 refine s_pkf ?_
 refine s_pkf ?_
 refine s_as ?_
 refine k_nil (k_seq (awp_ret (k_fin ?_)))
 cases hF7
 exact ends_a [] [] Tryz.results122
 refine r_no rfl (r_no rfl ?_)
 refine s_pkf ?_
 refine s_mv ?_
 iterate 3 refine r_no rfl ?_
 refine s_pkf ?_
 refine s_mv ?_
 refine s_mv ?_
 refine s_eq ?_
 refine s_mv ?_
 refine w_guard _ 50 hF5 ?_ ?_ <;> intro hc18 hF6
 refine s_mv ?_
 refine s_eq ?_
 refine s_pkt ?_
 refine s_mv ?_
 refine w_guard _ 54 hF6 ?_ ?_ <;> intro hc19 hF7
 refine s_fa yF27_1 ?_
 refine s_ld1 yA9 ?_
 refine s_fa yF27_1 ?_
 refine s_ld1 yA9 ?_
 refine s_eqS ?_
 refine s_pkt ?_
 refine s_pkf ?_
 refine s_as ?_
 refine k_nil (k_seq (awp_ret (k_fin ?_)))
 cases hF7
 exact ends_a [] [] Tryz.results122
 iterate 5 refine r_no rfl ?_
 refine s_pkf ?_
 refine s_pkf ?_
 refine s_as ?_
 refine k_nil (k_seq (awp_ret (k_fin ?_)))
 cases hF7
 exact ends_a [] [] Tryz.results122
 refine r_no rfl (r_no rfl ?_)
 refine s_pkf ?_
 refine s_mv ?_
 iterate 5 refine r_no rfl ?_
 refine s_pkf ?_
 refine s_pkf ?_
 refine s_as ?_
 refine k_nil (k_seq (awp_ret (k_fin ?_)))
 cases hF6
 exact ends_a [] [] Tryz.results122
def m_slices_Clone_int_AC (fuel : Nat) : Prop := ∀ (x1 : (List Int)) (r : (List Int)), m_slices_Clone_int fuel x1 = some r → AC Tryz.prog 146 [.t (.sl (x1.map rI))] noOb (.t (.sl (r.map rI))) noOb
theorem m_slices_Clone_int_ok (fuel : Nat) : m_slices_Clone_int_AC fuel := by
 intro x1 r hF0
 unfold m_slices_Clone_int at hF0
 refine AC_i [.t (.sl (r.map rI))] Tryz.func146 rfl Tryz.ntmps146 ?_
 intro C hC
 refine awp_nil 0 (fun hz => ?_) ?_
 replace hz := List.map_eq_nil_iff.mp hz; subst hz; obtain ⟨_, hF1⟩ := chk_some hF0
 refine awp_seq (awp_region ?_)
 refine s_as ?_
 refine k_nil (k_seq (awp_seq (awp_seq (awp_region ?_))))
 refine s_mv ?_
 refine s_nil yU24 ?_
 refine k_nil (k_seq (awp_true rfl ?_))
 refine awp_unnil 0 ?_
 refine awp_unnil 3 ?_
 refine awp_seq (awp_region ?_)
 refine s_as ?_
 refine k_nil (k_seq (awp_ret (k_seq_ret (k_fin ?_))))
 cases hF1
 exact ends_a [] [] Tryz.results146
 refine awp_seq (awp_region ?_)
 refine s_as ?_
 refine k_nil (k_seq (awp_seq (awp_seq (awp_region ?_))))
 refine s_mv ?_
 refine s_nil yU24 ?_
 refine k_nil (k_seq (awp_false rfl ?_))
 refine awp_unnil 0 ?_
 refine awp_unnil 3 ?_
 refine awp_skip (k_seq (awp_seq (awp_region ?_)))
 refine s_bs rI ([] : List Int) yP24 yR3 ?_
 refine s_mv ?_
 obtain ⟨hk1, hF1⟩ := chk_some hF0
 refine s_apT rI (fun _ => rfl) hk1 yP24 ?_
 refine s_as ?_
 refine k_nil (k_seq (awp_ret (k_fin ?_)))
 cases hF1
 exact ends_a [] [7] Tryz.results146
def m_impl_copyForm_AC (fuel : Nat) : Prop := ∀ (x1 : Form) (r : Form), m_impl_copyForm fuel x1 = some r → AC Tryz.prog 82 [.ag [.t (.sc (.int .i64 x1.kind)), .t (.sc (.str x1.name)), .t (.sc (.int .i64 x1.n)), .t (.sl (x1.scopes.map rI)), .t (.sl (x1.kids.map Form.row))]] noOb (.ag [.t (.sc (.int .i64 r.kind)), .t (.sc (.str r.name)), .t (.sc (.int .i64 r.n)), .t (.sl (r.scopes.map rI)), .t (.sl (r.kids.map Form.row))]) noOb
theorem m_impl_copyForm_st (fu : Nat) (ih_m_impl_copyForm : ∀ k, k ≤ fu → m_impl_copyForm_AC k) : m_impl_copyForm_AC (fu + 1) := by
 intro x1 r hF0
 rw [m_impl_copyForm] at hF0
 refine AC_i [.ag [.t (.sc (.int .i64 r.kind)), .t (.sc (.str r.name)), .t (.sc (.int .i64 r.n)), .t (.sl (r.scopes.map rI)), .t (.sl (r.kids.map Form.row))]] Tryz.func82 rfl Tryz.ntmps82 ?_
 intro C hC
 refine awp_seq (awp_region ?_)
 refine s_box ?_
 refine s_alloc yZ27 ?_
 refine k_nil (k_seq (awp_seq ?_))
 refine awp_draw yMix (by kernel_rfl) ?_
 refine s_fa yF27_0 ?_
 refine s_ld1 yA3 ?_
 refine s_fa yF27_1 ?_
 refine s_ld1 yA9 ?_
 refine s_fa yF27_2 ?_
 refine s_ld1 yA3 ?_
 refine s_fa yF27_3 ?_
 refine s_ld1 yA24 ?_
 obtain ⟨v1, hv1, hF1⟩ := bind_some' hF0
 refine s_pure [] (m_slices_Clone_int_ok fu _ _ hv1) ?_
 refine s_bld yZ27 yL27 ?_
 refine s_alloc yZ27 ?_
 refine s_stW yS27 ?_
 refine k_nilD (by kernel_rfl) ?_
 refine k_seq (awp_seq (awp_seq (awp_region ?_)))
 refine s_fa yF27_4 ?_
 refine s_ld1 yA25 ?_
 refine s_lenT yU25 ?_
 refine s_mv ?_
 refine k_nil (k_seq (awp_block ?_))
 refine awp_ownB 3 5020 27 [.t (.sc (.int .i64 x1.kind)), .t (.sc (.str x1.name)), .t (.sc (.int .i64 x1.n)), .t (.sl (v1.map rI)), .ar 5020] yI27.choose_spec ?_
 refine awp_frame2 [5, 19, 20, 21, 22, 23, 24, 25, 26, 27, 28, 29, 30] [3, 5020] [5, 27, 28] [5020] (fun a : Nat × Int × (List Form) => a.1) (fun a : Nat × Int × (List Form) => [(19, .t (.sc (.int .i64 a.2.1)))]) (fun a : Nat × Int × (List Form) => [(3, .box [.t (.sc (.int .i64 x1.kind)), .t (.sc (.str x1.name)), .t (.sc (.int .i64 x1.n)), .t (.sl (v1.map rI)), .ar 5020]), (5020, .arr (a.2.2.map Form.row) 27 true)]) (fun a : Nat × Int × (List Form) => a.1 ≤ fu ∧ m_impl_copyForm_l1 a.1 x1 v1 a.2.1 a.2.2 = some r ∧ 0 ≤ a.2.1) (fu, 0, ([] : List Form)) ⟨Nat.le_refl _, hF1, by simp⟩ (by rfl) (by rfl) (fun _ => rfl) (hasF_cons (by conv => lhs; whnf) (by rfl) hasF_nil) (hasO_cons (by conv => lhs; whnf) (by rfl) (hasO_cons (by conv => lhs; whnf) (by rfl) hasO_nil)) (fresh_C hC rfl) (by repeat (first | exact freshS_args rfl | refine freshS_upd rfl ?_ | refine freshS_frame rfl ?_)) (by repeat (first | exact freshM_no | exact objs_fresh rfl | refine freshM_upd rfl ?_ | refine freshM_frame rfl ?_)) ?_
 clear hF1
 rintro ⟨fu, g2, g3⟩ ⟨hl4, hF2, hn_g2⟩
 dsimp only at hl4 hF2 hn_g2 ⊢
 obtain _ | fu := fu
 · rw [m_impl_copyForm_l1] at hF2; cases hF2
 rw [m_impl_copyForm_l1] at hF2
 refine awp_seq (awp_region ?_)
 refine s_lt ?_
 refine k_nil (k_seq (awp_seq ?_))
 refine w_cond hF2 ?_ ?_ <;> intro hc5 hF3
 refine awp_lenT 17 (fun hb6 => ?_)
 refine awp_skip (k_seq (awp_seq (awp_block (awp_seq (awp_region ?_)))))
 obtain ⟨v7, hv7, hF4⟩ := bind_some' hF3
 refine s_ixT Form.row hv7 (Form.row_eq _) yE25 ?_
 refine s_ldN yA27 yS27 ?_
 refine s_alloc yZ27 ?_
 refine s_stW yS27 ?_
 refine k_nil (k_seq ?_)
 refine awp_draw yMix (by kernel_rfl) ?_
 refine s_fa yF27_4 ?_
 refine s_ld1 yA25 ?_
 refine s_ldW yA27 yS27 ?_
 obtain ⟨v8, hv8, hF5⟩ := bind_some' hF4
 refine s_pure [] (ih_m_impl_copyForm fu (by omega) _ _ hv8) ?_
 refine s_bs Form.row [v8] yP25 yR27 ?_
 obtain ⟨hk9, hF6⟩ := chk_some hF5
 refine s_apT Form.row (fun y => Form.row_len y) hk9 yP25 ?_
 refine s_fa yF27_4 ?_
 refine s_stP yS25 ?_
 refine k_nilD (by kernel_rfl) ?_
 refine k_blk (k_seq (awp_region ?_))
 refine s_add (winc2 hc5 hb6 hn_g2) ?_
 refine s_mv ?_
 refine k_nil ?_
 exact s_rn (fu, (g2 + 1), (g3 ++ [v8])) ⟨by first | omega | (dsimp only; omega), hF6, by first | omega | (dsimp only; omega)⟩ [(5020, 28)]
 refine awp_exit (k_seq_exit (k_rnd_exit2 (k_blk_exit (k_seq (awp_seq (awp_region ?_))))))
 refine s_ldW yA27 yS27 ?_
 refine s_stW yS27 ?_
 refine k_nil (k_seq (awp_ret (k_fin ?_)))
 cases hF3
 exact ends_gen [] [5020] (by rw [Tryz.results82]; exact (res_agg (by conv => lhs; whnf) (by conv => lhs; whnf) yA27 yS27 rfl res_nil))
theorem m_impl_copyForm_all (fuel : Nat) : m_impl_copyForm_AC fuel := by
 induction fuel using Nat.strongRecOn with
 | _ N ih =>
   cases N with
   | zero => exact (by intro x1 r h; rw [m_impl_copyForm] at h; cases h)
   | succ fu => exact m_impl_copyForm_st fu (fun k hk => (ih k (by omega)))
theorem m_impl_copyForm_ok (fuel : Nat) : m_impl_copyForm_AC fuel := (m_impl_copyForm_all fuel)
def m_impl_match_AC (fuel : Nat) : Prop := ∀ (x1 : (List Bind)) (x2 : Form) (x3 : (List Form)) (x4 : Form) (r : ((List Hit) × Bool)), m_impl_match fuel x1 x2 x3 x4 = some r → AC Tryz.prog 61 [.t (.sl (x1.map Bind.row)), .ag [.t (.sc (.int .i64 x2.kind)), .t (.sc (.str x2.name)), .t (.sc (.int .i64 x2.n)), .t (.sl (x2.scopes.map rI)), .t (.sl (x2.kids.map Form.row))], .t (.sl (x3.map Form.row)), .ag [.t (.sc (.int .i64 x4.kind)), .t (.sc (.str x4.name)), .t (.sc (.int .i64 x4.n)), .t (.sl (x4.scopes.map rI)), .t (.sl (x4.kids.map Form.row))]] noOb (.tp [.t (.sl (r.1.map Hit.row)), .t (.sc (.bool r.2))]) noOb
def m_impl_match_1_AC (fuel : Nat) : Prop := ∀ (x1 : Form) (x2 : Form) (o1 : (List Bind)) (o2 : (List Form)) (o3 : (List Hit)) (r : (Bool × (List Hit))), m_impl_match_1 fuel x1 x2 o1 o2 o3 = some r → AC Tryz.prog 123 [.ag [.t (.sc (.int .i64 x1.kind)), .t (.sc (.str x1.name)), .t (.sc (.int .i64 x1.n)), .t (.sl (x1.scopes.map rI)), .t (.sl (x1.kids.map Form.row))], .ag [.t (.sc (.int .i64 x2.kind)), .t (.sc (.str x2.name)), .t (.sc (.int .i64 x2.n)), .t (.sl (x2.scopes.map rI)), .t (.sl (x2.kids.map Form.row))], .rf 9000 0, .rf 9001 0, .rf 9002 0] (objs [(9000, .box [.t (.sl (o1.map Bind.row))]), (9001, .box [.t (.sl (o2.map Form.row))]), (9002, .box [.ar 9460]), (9460, .arr (o3.map Hit.row) 40 true)]) (.t (.sc (.bool r.1))) (objs [(9000, .box [.t (.sl (o1.map Bind.row))]), (9001, .box [.t (.sl (o2.map Form.row))]), (9002, .box [.ar 10460]), (9460, .dead), (10460, .arr (r.2.map Hit.row) 40 true)])
theorem m_impl_match_st (fu : Nat) (ih_m_impl_match : ∀ k, k ≤ fu → m_impl_match_AC k) (ih_m_impl_match_1 : ∀ k, k ≤ fu → m_impl_match_1_AC k) : m_impl_match_AC (fu + 1) := by
 intro x1 x2 x3 x4 r hF0
 rw [m_impl_match] at hF0
 refine AC_i [.t (.sl (r.1.map Hit.row)), .t (.sc (.bool r.2))] Tryz.func61 rfl Tryz.ntmps61 ?_
 intro C hC
 refine awp_seq (awp_region ?_)
 iterate 4 refine s_box ?_
 refine s_as ?_
 refine s_as ?_
 refine k_nil (k_seq (awp_seq (awp_seq (awp_region ?_))))
 refine s_fa yF27_0 ?_
 refine s_ld1 yA3 ?_
 refine k_nil (k_seq (awp_block (awp_seq (awp_region ?_))))
 refine s_eq ?_
 refine s_as ?_
 refine k_nil (k_seq ?_)
 refine w_cond hF0 ?_ ?_ <;> intro hc1 hF1
 refine awp_seq (awp_block (awp_seq (awp_region ?_)))
 refine s_fa yF27_1 ?_
 refine s_ld1 yA9 ?_
 refine s_eqS ?_
 refine s_as ?_
 refine k_nil (k_seq ?_)
 refine w_cond hF1 ?_ ?_ <;> intro hc2 hF2
 refine awp_seq (awp_region ?_)
 refine s_as ?_
 refine s_as ?_
 refine k_nil (k_seq (awp_ret (k_blk_ret (k_seq_ret (k_blk_ret (k_seq_ret (k_fin ?_)))))))
 cases hF2
 exact ends_a [] [] Tryz.results61
 refine awp_seq (awp_region ?_)
 refine s_ld1 yA25 ?_
 refine s_ldW yA27 yS27 ?_
 obtain ⟨v3, hv3, hF3⟩ := bind_some' hF2
 refine s_pure [] (m_impl_isIn_ok fu _ _ _ hv3) ?_
 refine s_as ?_
 refine k_nil (k_seq ?_)
 refine w_cond hF3 ?_ ?_ <;> intro hc4 hF4
 refine awp_seq (awp_region ?_)
 refine s_ld1 yA23 ?_
 refine s_ldW yA27 yS27 ?_
 refine s_ldW yA27 yS27 ?_
 obtain ⟨v5, hv5, hF5⟩ := bind_some' hF4
 refine s_pure [] (m_impl_SameReference_ok fu _ _ _ _ hv5) ?_
 refine s_as ?_
 refine s_as ?_
 refine k_nil (k_seq (awp_ret (k_blk_ret (k_seq_ret (k_blk_ret (k_seq_ret (k_fin ?_)))))))
 cases hF5
 exact ends_a [] [] Tryz.results61
 refine awp_skip (k_blk (k_seq (awp_seq ?_)))
 refine awp_draw yMix (by kernel_rfl) ?_
 refine s_ldW yA27 yS27 ?_
 obtain ⟨v6, hv6, hF5⟩ := bind_some' hF4
 refine s_pure [] (m_impl_copyForm_ok fu _ _ hv6) ?_
 refine s_ldW yA27 yS27 ?_
 obtain ⟨v7, hv7, hF6⟩ := bind_some' hF5
 refine s_pure [] (m_impl_copyForm_ok fu _ _ hv7) ?_
 refine s_bld yZ40 yL40 ?_
 refine s_bs Hit.row [(Hit.mk v6 0 v7 ([] : List Hit))] yP30 yR40 ?_
 refine s_as ?_
 refine s_as ?_
 refine k_nilD (by kernel_rfl) ?_
 refine k_seq (awp_ret (k_blk_ret (k_seq_ret (k_fin ?_))))
 cases hF6
 exact ends_a [] [49] Tryz.results61
 refine awp_seq (awp_region ?_)
 refine s_eq ?_
 refine s_as ?_
 refine k_nil (k_seq ?_)
 refine w_cond hF1 ?_ ?_ <;> intro hc8 hF2
 refine awp_seq (awp_region ?_)
 refine s_ldW yA27 yS27 ?_
 refine s_ldW yA27 yS27 ?_
 obtain ⟨v9, hv9, hF3⟩ := bind_some' hF2
 refine s_pure [] (m_impl_FormSame_ok fu _ _ _ hv9) ?_
 refine s_as ?_
 refine s_as ?_
 refine k_nil (k_seq (awp_ret (k_blk_ret (k_seq_ret (k_fin ?_)))))
 cases hF3
 exact ends_a [] [] Tryz.results61
 refine awp_skip (k_blk (k_seq (awp_seq (awp_seq (awp_region ?_)))))
 refine s_fa yF27_0 ?_
 refine s_ld1 yA3 ?_
 refine s_ne ?_
 refine k_nil (k_seq ?_)
 refine w_cond hF2 ?_ ?_ <;> intro hc10 hF3
 refine awp_seq (awp_region ?_)
 refine s_as ?_
 refine s_as ?_
 refine k_nil (k_seq (awp_ret (k_seq_ret (k_fin ?_))))
 cases hF3
 exact ends_a [] [] Tryz.results61
 refine awp_skip (k_seq (awp_seq (awp_region ?_)))
 refine s_bs Hit.row ([] : List Hit) yP30 yR40 ?_
 refine s_alloc yZ30 ?_
 refine s_stW yS30 ?_
 refine k_nil (k_seq (awp_seq (awp_region ?_)))
 refine s_fn ?_
 refine s_as ?_
 refine k_nil (k_seq (awp_seq (awp_region ?_)))
 refine s_fa yF27_4 ?_
 refine s_ld1 yA25 ?_
 obtain ⟨v11, hv11, hF4⟩ := bind_some' hF3
 refine s_pure [] (m_impl_dotsAt_ok fu _ _ hv11) ?_
 refine s_as ?_
 refine k_nil (k_seq (awp_seq (awp_seq (awp_region ?_))))
 refine s_mv ?_
 refine s_lt ?_
 refine k_nil (k_seq ?_)
 refine w_cond hF4 ?_ ?_ <;> intro hc12 hF5
 refine awp_seq (awp_seq (awp_region ?_))
 refine s_fa yF27_4 ?_
 refine s_ld1 yA25 ?_
 refine s_lenT yU25 ?_
 refine s_fa yF27_4 ?_
 refine s_ld1 yA25 ?_
 refine s_lenT yU25 ?_
 refine s_ne ?_
 refine k_nil (k_seq ?_)
 refine w_cond hF5 ?_ ?_ <;> intro hc13 hF6
 refine awp_seq (awp_region ?_)
 refine s_as ?_
 refine s_as ?_
 refine k_nil (k_seq (awp_ret (k_seq_ret (k_seq_ret (k_fin ?_)))))
 cases hF6
 exact ends_a [] [] Tryz.results61
 refine awp_skip (k_seq ?_)
 refine awp_jn (α := Nat × (List Hit)) [8, 9, 13, 72, 73, 74, 75, 76, 77, 78, 79, 80, 81, 82, 83, 84, 85, 86, 87, 88, 89, 90, 91] [10, 58, 5040] [] (fun a => []) (fun a => [(10, .box [.ar 5040]), (58, .dead), (5040, .arr (a.2.map Hit.row) 40 true)]) (fun a => a.1 ≤ fu ∧ m_impl_match_j1 a.1  a.2 = some r) ?_ ?_
 refine awp_seq (awp_region ?_)
 refine s_fa yF27_4 ?_
 refine s_ld1 yA25 ?_
 refine s_lenT yU25 ?_
 refine s_mv ?_
 refine k_nil (k_seq (awp_block ?_))
 refine awp_mvB 10 58 5040 [.ar 5040] ?_
 refine awp_frame2 [8, 9, 13, 75, 76, 77, 78, 79, 80, 81, 82, 83, 84, 85, 86, 87, 88, 89, 90, 91] [10, 5040] [42089] [5040] (fun a : Nat × Int × (List Hit) => a.1) (fun a : Nat × Int × (List Hit) => [(75, .t (.sc (.int .i64 a.2.1)))]) (fun a : Nat × Int × (List Hit) => [(10, .box [.ar 5040]), (5040, .arr (a.2.2.map Hit.row) 40 true)]) (fun a : Nat × Int × (List Hit) => a.1 ≤ fu ∧ m_impl_match_l2 a.1 x1 x2 x3 x4 a.2.1 a.2.2 = some r ∧ 0 ≤ a.2.1) (fu, 0, ([] : List Hit)) ⟨Nat.le_refl _, hF6, by simp⟩ (by rfl) (by rfl) (fun _ => rfl) (hasF_cons (by conv => lhs; whnf) (by rfl) hasF_nil) (hasO_cons (by conv => lhs; whnf) (by rfl) (hasO_cons (by conv => lhs; whnf) (by rfl) hasO_nil)) (fresh_C hC rfl) (by repeat (first | exact freshS_args rfl | refine freshS_upd rfl ?_ | refine freshS_frame rfl ?_)) (by repeat (first | exact freshM_no | exact objs_fresh rfl | refine freshM_upd rfl ?_ | refine freshM_frame rfl ?_)) ?_
 clear hF6
 rintro ⟨fu, g14, g15⟩ ⟨hl16, hF7, hn_g14⟩
 dsimp only at hl16 hF7 hn_g14 ⊢
 obtain _ | fu := fu
 · rw [m_impl_match_l2] at hF7; cases hF7
 rw [m_impl_match_l2] at hF7
 refine awp_seq (awp_region ?_)
 refine s_lt ?_
 refine k_nil (k_seq (awp_seq ?_))
 refine w_cond hF7 ?_ ?_ <;> intro hc17 hF8
 refine awp_lenT 61 (fun hb18 => ?_)
 refine awp_skip (k_seq (awp_seq (awp_block (awp_seq (awp_region ?_)))))
 refine s_mv ?_
 refine s_as ?_
 refine k_nil (k_seq (awp_seq ?_))
 refine awp_draw yMix (by kernel_rfl) ?_
 refine s_mv ?_
 refine s_fa yF27_4 ?_
 refine s_ld1 yA25 ?_
 refine s_mv ?_
 obtain ⟨v19, hv19, hF9⟩ := bind_some' hF8
 refine s_ixT Form.row hv19 (Form.row_eq _) yE25 ?_
 refine s_ldN yA27 yS27 ?_
 refine s_fa yF27_4 ?_
 refine s_ld1 yA25 ?_
 refine s_mv ?_
 obtain ⟨v20, hv20, hF10⟩ := bind_some' hF9
 refine s_ixT Form.row hv20 (Form.row_eq _) yE25 ?_
 refine s_ldN yA27 yS27 ?_
 obtain ⟨v21, hv21, hF11⟩ := bind_some' hF10
 refine s_call [(9000, 4), (9001, 6), (9002, 10), (9460, 5040), (10460, 42089)] [] _ _ (ih_m_impl_match_1 fu (by omega) _ _ _ _ _ _ hv21) ?_
 refine s_not ?_
 refine k_nilD (by kernel_rfl) ?_
 refine k_seq ?_
 refine w_cond hF11 ?_ ?_ <;> intro hc22 hF12
 refine awp_seq (awp_region ?_)
 refine s_as ?_
 refine s_as ?_
 refine k_nil (k_seq (awp_ret (k_blk_ret (k_seq_ret (k_rnd_ret2 (k_blk_ret (k_jn_ret (k_seq_ret (k_fin ?_)))))))))
 cases hF12
 exact ends_a [] [] Tryz.results61
 refine awp_skip (k_blk (k_seq (awp_region ?_)))
 refine s_add (winc2 hc17 hb18 hn_g14) ?_
 refine s_mv ?_
 refine k_nil ?_
 exact s_rn (fu, (g14 + 1), v21.2) ⟨by first | omega | (dsimp only; omega), hF12, by first | omega | (dsimp only; omega)⟩ [(5040, 42089)]
 refine awp_exit (k_seq_exit (k_rnd_exit2 (k_blk_exit ?_)))
 exact s_jn (fu, g15) ⟨by first | omega | (dsimp only; omega), hF8⟩
 clear hF6
 rintro ⟨fu, g23⟩ ⟨hl24, hF7⟩
 dsimp only at hl24 hF7 ⊢
 obtain _ | fu := fu
 · rw [m_impl_match_j1] at hF7; cases hF7
 rw [m_impl_match_j1] at hF7
 refine awp_seq (awp_region ?_)
 refine s_ld1 yA30 ?_
 refine s_as ?_
 refine s_as ?_
 refine k_nil (k_seq (awp_ret (k_seq_ret (k_fin ?_))))
 cases hF7
 exact ends_a [] [5040] Tryz.results61
 refine awp_skip (k_seq (awp_seq (awp_region ?_)))
 refine s_fa yF27_4 ?_
 refine s_ld1 yA25 ?_
 refine s_lenT yU25 ?_
 refine s_fa yF27_4 ?_
 refine s_ld1 yA25 ?_
 refine s_lenT yU25 ?_
 refine s_sub rfl ?_
 refine s_sub rfl ?_
 refine s_as ?_
 refine k_nil (k_seq (awp_seq (awp_seq (awp_region ?_))))
 refine s_mv ?_
 refine s_lt ?_
 refine k_nil (k_seq ?_)
 refine w_cond hF5 ?_ ?_ <;> intro hc25 hF6
 refine awp_seq (awp_region ?_)
 refine s_as ?_
 refine s_as ?_
 refine k_nil (k_seq (awp_ret (k_seq_ret (k_fin ?_))))
 cases hF6
 exact ends_a [] [] Tryz.results61
 refine awp_skip (k_seq (awp_seq (awp_region ?_)))
 refine s_mv ?_
 refine s_sub rfl ?_
 refine s_as ?_
 refine k_nil (k_seq ?_)
 refine awp_jn (α := Nat × (List Hit)) [8, 9, 16, 105, 106, 107, 108, 109, 110, 111, 112, 113, 114, 115, 116, 117, 118, 119, 120, 121, 122] [10, 58, 5080] [] (fun a => []) (fun a => [(10, .box [.ar 5080]), (58, .dead), (5080, .arr (a.2.map Hit.row) 40 true)]) (fun a => a.1 ≤ fu ∧ m_impl_match_j3 a.1 x1 x2 x3 x4 v11 a.2 = some r) ?_ ?_
 refine awp_seq (awp_region ?_)
 refine s_as ?_
 refine k_nil (k_seq (awp_block ?_))
 refine awp_mvB 10 58 5080 [.ar 5080] ?_
 refine awp_frame2 [8, 9, 16, 105, 106, 107, 108, 109, 110, 111, 112, 113, 114, 115, 116, 117, 118, 119, 120, 121, 122] [10, 5080] [42121] [5080] (fun a : Nat × Int × (List Hit) => a.1) (fun a : Nat × Int × (List Hit) => [(16, .t (.sc (.int .i64 a.2.1)))]) (fun a : Nat × Int × (List Hit) => [(10, .box [.ar 5080]), (5080, .arr (a.2.2.map Hit.row) 40 true)]) (fun a : Nat × Int × (List Hit) => a.1 ≤ fu ∧ m_impl_match_l4 a.1 x1 x2 x3 x4 v11 a.2.1 a.2.2 = some r) (fu, 0, ([] : List Hit)) ⟨Nat.le_refl _, hF6⟩ (by rfl) (by rfl) (fun _ => rfl) (hasF_cons (by conv => lhs; whnf) (by rfl) hasF_nil) (hasO_cons (by conv => lhs; whnf) (by rfl) (hasO_cons (by conv => lhs; whnf) (by rfl) hasO_nil)) (fresh_C hC rfl) (by repeat (first | exact freshS_args rfl | refine freshS_upd rfl ?_ | refine freshS_frame rfl ?_)) (by repeat (first | exact freshM_no | exact objs_fresh rfl | refine freshM_upd rfl ?_ | refine freshM_frame rfl ?_)) ?_
 clear hF6
 rintro ⟨fu, g26, g27⟩ ⟨hl28, hF7⟩
 dsimp only at hl28 hF7 ⊢
 obtain _ | fu := fu
 · rw [m_impl_match_l4] at hF7; cases hF7
 rw [m_impl_match_l4] at hF7
 refine awp_seq (awp_seq (awp_region ?_))
 refine s_mv ?_
 refine s_mv ?_
 refine s_lt ?_
 refine k_nil (k_seq ?_)
 refine w_cond hF7 ?_ ?_ <;> intro hc29 hF8
 refine awp_skip (k_seq (awp_seq (awp_block (awp_seq ?_))))
 refine awp_draw yMix (by kernel_rfl) ?_
 refine s_mv ?_
 refine s_fa yF27_4 ?_
 refine s_ld1 yA25 ?_
 refine s_mv ?_
 obtain ⟨v30, hv30, hF9⟩ := bind_some' hF8
 refine s_ixT Form.row hv30 (Form.row_eq _) yE25 ?_
 refine s_ldN yA27 yS27 ?_
 refine s_fa yF27_4 ?_
 refine s_ld1 yA25 ?_
 refine s_mv ?_
 obtain ⟨v31, hv31, hF10⟩ := bind_some' hF9
 refine s_ixT Form.row hv31 (Form.row_eq _) yE25 ?_
 refine s_ldN yA27 yS27 ?_
 obtain ⟨v32, hv32, hF11⟩ := bind_some' hF10
 refine s_call [(9000, 4), (9001, 6), (9002, 10), (9460, 5080), (10460, 42121)] [] _ _ (ih_m_impl_match_1 fu (by omega) _ _ _ _ _ _ hv32) ?_
 refine s_not ?_
 refine k_nilD (by kernel_rfl) ?_
 refine k_seq ?_
 refine w_cond hF11 ?_ ?_ <;> intro hc33 hF12
 refine awp_seq (awp_region ?_)
 refine s_as ?_
 refine s_as ?_
 refine k_nil (k_seq (awp_ret (k_blk_ret (k_seq_ret (k_rnd_ret2 (k_blk_ret (k_jn_ret (k_fin ?_))))))))
 cases hF12
 exact ends_a [] [] Tryz.results61
 refine awp_skip (k_blk (k_seq (awp_region ?_)))
 refine s_mv ?_
 refine s_add rfl ?_
 refine s_as ?_
 refine k_nil ?_
 exact s_rn (fu, (w64 (g26 + 1)), v32.2) ⟨by first | omega | (dsimp only; omega), hF12⟩ [(5080, 42121)]
 refine awp_exit (k_seq_exit (k_rnd_exit2 (k_blk_exit ?_)))
 exact s_jn (fu, g27) ⟨by first | omega | (dsimp only; omega), hF8⟩
 clear hF6
 rintro ⟨fu, g34⟩ ⟨hl35, hF7⟩
 dsimp only at hl35 hF7 ⊢
 obtain _ | fu := fu
 · rw [m_impl_match_j3] at hF7; cases hF7
 rw [m_impl_match_j3] at hF7
 refine awp_seq ?_
 refine awp_draw yMix (by kernel_rfl) ?_
 refine s_fa yF27_4 ?_
 refine s_ld1 yA25 ?_
 refine s_mv ?_
 obtain ⟨v36, hv36, hF8⟩ := bind_some' hF7
 refine s_ixT Form.row hv36 (Form.row_eq _) yE25 ?_
 refine s_ldN yA27 yS27 ?_
 refine s_ld1 yA25 ?_
 obtain ⟨v37, hv37, hF9⟩ := bind_some' hF8
 refine s_call [(9200, 2130)] [] _ _ (m_impl_varsOf_ok fu _ _ _ hv37) ?_
 refine s_mv ?_
 refine s_ext ?_
 refine s_ext ?_
 refine s_as ?_
 refine s_as ?_
 refine k_nilD (by kernel_rfl) ?_
 refine k_seq (awp_seq (awp_region ?_))
 refine s_bs Hit.row ([] : List Hit) yP30 yR40 ?_
 refine s_as ?_
 refine k_nil (k_seq ?_)
 refine awp_toD 133 (Hit.rowO 40) (es := ([] : List Hit).map Hit.row) (by conv => lhs; whnf) rfl ?_
 refine awp_jn (α := Nat × (List Hit)) [19, 20, 21, 134, 135, 136, 137, 138, 139, 140, 141, 142, 143, 144, 145, 146, 147, 148, 149, 150, 151, 152] [133, 5120] [] (fun a => [(19, .ar 5120)]) (fun a => [(133, .dead), (5120, .dar (a.2.map (Hit.rowO 40)) 40)]) (fun a => a.1 ≤ fu ∧ m_impl_match_j5 a.1 x1 x2 x3 x4 v11 g34 a.2 = some r) ?_ ?_
 refine awp_seq (awp_region ?_)
 refine s_mv ?_
 refine s_lenA yU25 ?_
 refine s_mv ?_
 refine k_nil (k_seq (awp_block ?_))
 refine awp_mvD 19 133 5120 (by conv => lhs; whnf) (by conv => lhs; whnf) rfl ?_
 refine awp_frame2 [19, 20, 21, 136, 137, 138, 139, 140, 141, 142, 143, 144, 145, 146, 147, 148, 149, 150, 151, 152] [5120] [21, 150, 151] [5120] (fun a : Nat × (List Hit) × Int => a.1) (fun a : Nat × (List Hit) × Int => [(19, .ar 5120), (136, .t (.sc (.int .i64 a.2.2)))]) (fun a : Nat × (List Hit) × Int => [(5120, .dar (a.2.1.map (Hit.rowO 40)) 40)]) (fun a : Nat × (List Hit) × Int => a.1 ≤ fu ∧ m_impl_match_l6 a.1 x1 x2 x3 x4 v11 g34 v37 a.2.1 a.2.2 = some r ∧ 0 ≤ a.2.2) (fu, ([] : List Hit), 0) ⟨Nat.le_refl _, hF9, by simp⟩ (by rfl) (by rfl) (fun _ => rfl) (hasF_cons (by conv => lhs; whnf) (by rfl) (hasF_cons (by conv => lhs; whnf) (by rfl) hasF_nil)) (hasO_cons (by conv => lhs; whnf) (by rfl) hasO_nil) (fresh_C hC rfl) (by repeat (first | exact freshS_args rfl | refine freshS_upd rfl ?_ | refine freshS_frame rfl ?_)) (by repeat (first | exact freshM_no | exact objs_fresh rfl | refine freshM_upd rfl ?_ | refine freshM_frame rfl ?_)) ?_
 clear hF9
 rintro ⟨fu, g38, g39⟩ ⟨hl40, hF10, hn_g39⟩
 dsimp only at hl40 hF10 hn_g39 ⊢
 obtain _ | fu := fu
 · rw [m_impl_match_l6] at hF10; cases hF10
 rw [m_impl_match_l6] at hF10
 refine awp_seq (awp_region ?_)
 refine s_lt ?_
 refine k_nil (k_seq (awp_seq ?_))
 refine w_cond hF10 ?_ ?_ <;> intro hc41 hF11
 refine awp_lenA 17 2130 (fun hb42 => ?_)
 refine awp_skip (k_seq (awp_seq (awp_block (awp_seq (awp_region ?_)))))
 refine s_mv ?_
 obtain ⟨v43, hv43, hF12⟩ := bind_some' hF11
 refine s_ixA Form.row hv43 yE25 ?_
 refine s_lAN Form.row hv43 (Form.row_eq _) yA27 yS27 ?_
 refine s_alloc yZ27 ?_
 refine s_as ?_
 refine s_stW yS27 ?_
 refine k_nil (k_seq ?_)
 refine awp_draw yMix (by kernel_rfl) ?_
 refine s_mv ?_
 refine s_ldW yA27 yS27 ?_
 obtain ⟨v44, hv44, hF13⟩ := bind_some' hF12
 refine s_pure [] (m_impl_copyForm_ok fu _ _ hv44) ?_
 refine s_mv ?_
 refine s_mv ?_
 obtain ⟨v45, hv45, hF14⟩ := bind_some' hF13
 refine s_ixT rI hv45 rfl yE24 ?_
 refine s_ld1 yA3 ?_
 refine s_add rfl ?_
 refine s_bldN 11 40 yZ40 yL40 ?_
 refine s_bs (Hit.rowN 40) [(Hit.mk v44 (w64 (v45 + 1)) (Form.mk 0 (⟨#[]⟩ : ByteArray) 0 ([] : List Int) ([] : List Form)) ([] : List Hit))] yP30 yR40 ?_
 obtain ⟨hk46, hF15⟩ := chk_some hF14
 refine s_apD (Hit.rowO 40) (Hit.rowN 40) (Hit.rowN_nis yS40) (fun _ => rfl) rfl hk46 yP30 ?_
 refine s_as ?_
 refine k_nilD (by kernel_rfl) ?_
 refine k_blk (k_seq (awp_region ?_))
 refine s_add (winc2 hc41 hb42 hn_g39) ?_
 refine s_mv ?_
 refine k_nil ?_
 exact s_rn (fu, (g38 ++ [(Hit.mk v44 (w64 (v45 + 1)) (Form.mk 0 (⟨#[]⟩ : ByteArray) 0 ([] : List Int) ([] : List Form)) ([] : List Hit))]), (g39 + 1)) ⟨by first | omega | (dsimp only; omega), hF15, by first | omega | (dsimp only; omega)⟩ [(5120, 151)]
 refine awp_exit (k_seq_exit (k_rnd_exit2 (k_blk_exit ?_)))
 exact s_jn (fu, g38) ⟨by first | omega | (dsimp only; omega), hF11⟩
 clear hF9
 rintro ⟨fu, g47⟩ ⟨hl48, hF10⟩
 dsimp only at hl48 hF10 ⊢
 obtain _ | fu := fu
 · rw [m_impl_match_j5] at hF10; cases hF10
 rw [m_impl_match_j5] at hF10
 refine awp_jn (α := Nat × (List Hit)) [8, 9, 23, 24, 25, 26, 153, 154, 155, 156, 157, 158, 159, 160, 161, 162, 163, 164, 165, 166, 167, 168, 169, 170, 171, 172, 173, 174, 175, 176, 177, 178, 179, 180, 181, 182, 183, 184, 185, 186, 187, 188, 189, 190, 191, 192, 193, 194, 195, 196, 197, 198, 199, 200] [5120] [] (fun a => []) (fun a => [(5120, .dar (a.2.map (Hit.rowO 40)) 40)]) (fun a => a.1 ≤ fu ∧ m_impl_match_j7 a.1 x1 x2 x3 x4 v11 g34 a.2 = some r) ?_ ?_
 refine awp_seq (awp_region ?_)
 refine s_fa yF27_4 ?_
 refine s_ld1 yA25 ?_
 iterate 3 refine s_mv ?_
 refine s_add rfl ?_
 obtain ⟨v49, hv49, hF11⟩ := bind_some' hF10
 refine s_sl11 Form.row (fun y => Form.row_len y) hv49 yU25 yE25 ?_
 refine s_lenT yU25 ?_
 refine s_mv ?_
 refine k_nil (k_seq (awp_block ?_))
 refine awp_fr (β := Int × (List Hit)) [8, 9, 23, 24, 25, 26, 161, 162, 163, 164, 165, 166, 167, 168, 169, 170, 171, 172, 173, 174, 175, 176, 177, 178, 179, 180, 181, 182, 183, 184, 185, 186, 187, 188, 189, 190, 191, 192, 193, 194, 195, 196, 197, 198, 199, 200] [5120] [23] (fun a => [(161, .t (.sc (.int .i64 a.2.1)))]) (fun a => [(5120, .dar (a.2.2.map (Hit.rowO 40)) 40)]) (fun a => a.1 ≤ fu ∧ m_impl_match_l8 a.1 x1 x2 x3 x4 v11 g34 v49 a.2.1 a.2.2 = some r) (fu, 0, g47) ⟨Nat.le_refl _, hF11⟩ ?_
 clear hF11
 rintro ⟨fu, g50, g51⟩ ⟨hl52, hF12⟩
 dsimp only at hl52 hF12 ⊢
 obtain _ | fu := fu
 · rw [m_impl_match_l8] at hF12; cases hF12
 rw [m_impl_match_l8] at hF12
 refine awp_seq (awp_region ?_)
 refine s_lt ?_
 refine k_nil (k_seq (awp_seq ?_))
 refine w_cond hF12 ?_ ?_ <;> intro hc53 hF13
 refine awp_lenT 159 (fun hb54 => ?_)
 refine awp_skip (k_seq (awp_seq (awp_block (awp_seq (awp_region ?_)))))
 obtain ⟨v55, hv55, hF14⟩ := bind_some' hF13
 refine s_ixT Form.row hv55 (Form.row_eq _) yE25 ?_
 refine s_ldN yA27 yS27 ?_
 refine s_alloc yZ27 ?_
 refine s_stW yS27 ?_
 refine k_nil (k_seq (awp_seq ?_))
 refine awp_draw yMix (by kernel_rfl) ?_
 refine s_ld1 yA23 ?_
 refine s_fa yF27_4 ?_
 refine s_ld1 yA25 ?_
 refine s_mv ?_
 obtain ⟨v56, hv56, hF15⟩ := bind_some' hF14
 refine s_ixT Form.row hv56 (Form.row_eq _) yE25 ?_
 refine s_ldN yA27 yS27 ?_
 refine s_ld1 yA25 ?_
 refine s_ldW yA27 yS27 ?_
 obtain ⟨v57, hv57, hF16⟩ := bind_some' hF15
 refine s_pure [] (ih_m_impl_match fu (by omega) _ _ _ _ _ hv57) ?_
 refine s_mv ?_
 refine s_ext ?_
 refine s_ext ?_
 refine s_as ?_
 refine s_as ?_
 refine k_nilD (by kernel_rfl) ?_
 refine k_seq (awp_seq (awp_seq (awp_region ?_)))
 refine s_mv ?_
 refine s_not ?_
 refine k_nil (k_seq ?_)
 refine w_cond hF16 ?_ ?_ <;> intro hc58 hF17
 refine awp_seq (awp_region ?_)
 refine s_as ?_
 refine s_as ?_
 refine k_nil (k_seq (awp_ret (k_seq_ret (k_blk_ret (k_seq_ret (k_rnd_ret2 (k_blk_ret (k_jn_ret (k_fin ?_)))))))))
 cases hF17
 exact ends_a [] [] Tryz.results61
 refine awp_skip (k_seq (awp_seq (awp_region ?_)))
 refine s_mv ?_
 refine s_lenD yU30 ?_
 refine s_mv ?_
 refine k_nil (k_seq (awp_block ?_))
 refine awp_fr (β := Int × (List Hit)) [26, 181, 182, 183, 184, 185, 186, 187, 188, 189, 190, 191, 192, 193, 194, 195, 196, 197, 198, 199] [5120] [188, 194, 195] (fun a => [(181, .t (.sc (.int .i64 a.2.1)))]) (fun a => [(5120, .dar (a.2.2.map (Hit.rowO 40)) 40)]) (fun a => a.1 ≤ fu ∧ m_impl_match_l9 a.1 x1 x2 x3 x4 v11 g34 v49 g50 g51 v57 a.2.1 a.2.2 = some r) (fu, 0, g51) ⟨Nat.le_refl _, hF17⟩ ?_
 clear hF17
 rintro ⟨fu, g59, g60⟩ ⟨hl61, hF18⟩
 dsimp only at hl61 hF18 ⊢
 obtain _ | fu := fu
 · rw [m_impl_match_l9] at hF18; cases hF18
 rw [m_impl_match_l9] at hF18
 refine awp_seq (awp_region ?_)
 refine s_lt ?_
 refine k_nil (k_seq (awp_seq ?_))
 refine w_cond hF18 ?_ ?_ <;> intro hc62 hF19
 refine awp_skip (k_seq (awp_seq (awp_block (awp_seq (awp_region ?_)))))
 refine s_mv ?_
 refine s_as ?_
 refine k_nil (k_seq ?_)
 refine awp_draw yMix (by kernel_rfl) ?_
 refine s_mv ?_
 refine s_mv ?_
 obtain ⟨v63, hv63, hF20⟩ := bind_some' hF19
 refine s_ixD (Hit.rowO 40) hv63 yE30 ?_
 refine s_fa yF40_3 ?_
 refine s_ldD (Hit.rowO 40) Hit.row v63.many Hit.row_plain hv63 yA30 yS40 ?_
 refine s_mv ?_
 refine s_mv ?_
 obtain ⟨v64, hv64, hF21⟩ := bind_some' hF20
 refine s_ixT Hit.row hv64 (Hit.row_eq _) yE30 ?_
 refine s_ldN yA40 yS40 ?_
 refine s_lenA yU30 ?_
 refine s_bs Hit.row [(Hit.mk (Form.mk 0 (⟨#[]⟩ : ByteArray) 0 ([] : List Int) ([] : List Form)) 0 (Form.mk 0 (⟨#[]⟩ : ByteArray) 0 ([] : List Int) ([] : List Form)) ([] : List Hit))] yP30 yR40 ?_
 obtain ⟨hk65, hF22⟩ := chk_some hF21
 refine s_apT Hit.row (fun y => Hit.row_len y) hk65 yP30 ?_
 obtain ⟨v66, hv66, hF23⟩ := bind_some' hF22
 refine s_ixA Hit.row hv66 yE30 ?_
 refine s_stA Hit.row v64 hv66 (Hit.row_eq _) (Hit.row_eq _) yS40 yS40 ?_
 obtain ⟨v67, hv67, hF24⟩ := bind_some' hF23
 refine s_ixH (Hit.rowO 40) hv67 yE30 ?_
 refine s_fa yF40_3 ?_
 refine s_stD (Hit.rowO 40) hv63 yS30 yS40 ?_
 refine k_nilD (by kernel_rfl) ?_
 refine k_blk (k_seq ?_)
 refine awp_jnD 5120 195 12 (Hit.rowO 40) Hit.row (Hit.mk v63.name v63.depth v63.one ((v63.many ++ [(Hit.mk (Form.mk 0 (⟨#[]⟩ : ByteArray) 0 ([] : List Int) ([] : List Form)) 0 (Form.mk 0 (⟨#[]⟩ : ByteArray) 0 ([] : List Int) ([] : List Form)) ([] : List Hit))]).set (v63.many.length : Int).toNat v64)) ((v63.many ++ [(Hit.mk (Form.mk 0 (⟨#[]⟩ : ByteArray) 0 ([] : List Int) ([] : List Form)) 0 (Form.mk 0 (⟨#[]⟩ : ByteArray) 0 ([] : List Int) ([] : List Form)) ([] : List Hit))]).set (v63.many.length : Int).toNat v64) hv63 rfl ?_
 refine awp_region ?_
 refine s_add rfl ?_
 refine s_mv ?_
 refine k_nil ?_
 exact s_rn (fu, (w64 (g59 + 1)), (g60.set g59.toNat (Hit.mk v63.name v63.depth v63.one ((v63.many ++ [(Hit.mk (Form.mk 0 (⟨#[]⟩ : ByteArray) 0 ([] : List Int) ([] : List Form)) 0 (Form.mk 0 (⟨#[]⟩ : ByteArray) 0 ([] : List Int) ([] : List Form)) ([] : List Hit))]).set (v63.many.length : Int).toNat v64)))) ⟨by first | omega | (dsimp only; omega), hF24⟩
 refine awp_exit (k_seq_exit (k_rnd_exit2 (k_blk_exit (k_blk (k_seq (awp_region ?_))))))
 refine s_add rfl ?_
 refine s_mv ?_
 refine k_nil ?_
 exact s_rn (fu, (w64 (g50 + 1)), g60) ⟨by first | omega | (dsimp only; omega), hF19⟩
 refine awp_exit (k_seq_exit (k_rnd_exit2 (k_blk_exit ?_)))
 exact s_jn (fu, g51) ⟨by first | omega | (dsimp only; omega), hF13⟩
 clear hF10
 rintro ⟨fu, g68⟩ ⟨hl69, hF11⟩
 dsimp only at hl69 hF11 ⊢
 obtain _ | fu := fu
 · rw [m_impl_match_j7] at hF11; cases hF11
 rw [m_impl_match_j7] at hF11
 refine awp_seq ?_
 refine awp_fzD 5120 Hit.row (Hit.rowO 40) (Hit.rowO_fzB 40) (Hit.rowO_fzT 40) (by conv => lhs; whnf) ?_
 refine awp_region ?_
 refine s_ld1 yA30 ?_
 refine s_mv ?_
 obtain ⟨hk70, hF12⟩ := chk_some hF11
 refine s_apT Hit.row (fun y => Hit.row_len y) hk70 yP30 ?_
 refine s_stW yS30 ?_
 refine k_nil (k_seq (awp_seq (awp_seq (awp_region ?_))))
 refine s_mv ?_
 refine s_add rfl ?_
 refine s_as ?_
 refine k_nil (k_seq (awp_block ?_))
 refine awp_mvB 10 203 5200 [.ar 5200] ?_
 refine awp_frame2 [8, 9, 27, 206, 207, 208, 209, 210, 211, 212, 213, 214, 215, 216, 217, 218, 219, 220, 221, 222, 223, 224, 225, 226, 227, 228, 229, 230, 231, 232] [10, 5200] [42231] [5200] (fun a : Nat × Int × (List Hit) => a.1) (fun a : Nat × Int × (List Hit) => [(27, .t (.sc (.int .i64 a.2.1)))]) (fun a : Nat × Int × (List Hit) => [(10, .box [.ar 5200]), (5200, .arr (a.2.2.map Hit.row) 40 true)]) (fun a : Nat × Int × (List Hit) => a.1 ≤ fu ∧ m_impl_match_l10 a.1 x1 x2 x3 x4 v11 a.2.1 a.2.2 = some r) (fu, (w64 (v11 + 1)), (g34 ++ g68)) ⟨Nat.le_refl _, hF12⟩ (by rfl) (by rfl) (fun _ => rfl) (hasF_cons (by conv => lhs; whnf) (by rfl) hasF_nil) (hasO_cons (by conv => lhs; whnf) (by rfl) (hasO_cons (by conv => lhs; whnf) (by rfl) hasO_nil)) (fresh_C hC rfl) (by repeat (first | exact freshS_args rfl | refine freshS_upd rfl ?_ | refine freshS_frame rfl ?_)) (by repeat (first | exact freshM_no | exact objs_fresh rfl | refine freshM_upd rfl ?_ | refine freshM_frame rfl ?_)) ?_
 clear hF12
 rintro ⟨fu, g71, g72⟩ ⟨hl73, hF13⟩
 dsimp only at hl73 hF13 ⊢
 obtain _ | fu := fu
 · rw [m_impl_match_l10] at hF13; cases hF13
 rw [m_impl_match_l10] at hF13
 refine awp_seq (awp_seq (awp_region ?_))
 refine s_mv ?_
 refine s_fa yF27_4 ?_
 refine s_ld1 yA25 ?_
 refine s_lenT yU25 ?_
 refine s_lt ?_
 refine k_nil (k_seq ?_)
 refine w_cond hF13 ?_ ?_ <;> intro hc74 hF14
 refine awp_lenT 61 (fun hb75 => ?_)
 refine awp_skip (k_seq (awp_seq (awp_block (awp_seq ?_))))
 refine awp_draw yMix (by kernel_rfl) ?_
 refine s_mv ?_
 refine s_fa yF27_4 ?_
 refine s_ld1 yA25 ?_
 refine s_mv ?_
 obtain ⟨v76, hv76, hF15⟩ := bind_some' hF14
 refine s_ixT Form.row hv76 (Form.row_eq _) yE25 ?_
 refine s_ldN yA27 yS27 ?_
 refine s_fa yF27_4 ?_
 refine s_ld1 yA25 ?_
 refine s_mv ?_
 refine s_mv ?_
 refine s_add rfl ?_
 refine s_mv ?_
 refine s_add rfl ?_
 refine s_mv ?_
 refine s_sub rfl ?_
 refine s_sub rfl ?_
 obtain ⟨v77, hv77, hF16⟩ := bind_some' hF15
 refine s_ixT Form.row hv77 (Form.row_eq _) yE25 ?_
 refine s_ldN yA27 yS27 ?_
 obtain ⟨v78, hv78, hF17⟩ := bind_some' hF16
 refine s_call [(9000, 4), (9001, 6), (9002, 10), (9460, 5200), (10460, 42231)] [] _ _ (ih_m_impl_match_1 fu (by omega) _ _ _ _ _ _ hv78) ?_
 refine s_not ?_
 refine k_nilD (by kernel_rfl) ?_
 refine k_seq ?_
 refine w_cond hF17 ?_ ?_ <;> intro hc79 hF18
 refine awp_seq (awp_region ?_)
 refine s_as ?_
 refine s_as ?_
 refine k_nil (k_seq (awp_ret (k_blk_ret (k_seq_ret (k_rnd_ret2 (k_blk_ret (k_seq_ret (k_fin ?_))))))))
 cases hF18
 exact ends_a [] [] Tryz.results61
 refine awp_skip (k_blk (k_seq (awp_region ?_)))
 refine s_mv ?_
 refine s_add (winc2 hc74 hb75 (idx_some hv76).1) ?_
 refine s_as ?_
 refine k_nil ?_
 exact s_rn (fu, (g71 + 1), v78.2) ⟨by first | omega | (dsimp only; omega), hF18⟩ [(5200, 42231)]
 refine awp_exit (k_seq_exit (k_rnd_exit2 (k_blk_exit (k_seq (awp_seq (awp_region ?_))))))
 refine s_ld1 yA30 ?_
 refine s_as ?_
 refine s_as ?_
 refine k_nil (k_seq (awp_ret (k_fin ?_)))
 cases hF14
 exact ends_a [] [5200] Tryz.results61
end Go.Abs
