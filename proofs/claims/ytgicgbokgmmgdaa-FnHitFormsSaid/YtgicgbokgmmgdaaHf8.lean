/- A part of the proof: what the functions that the law calls answer, as pure values. -/
import Derived.Test.YtgicgbokgmmgdaaHf7
set_option linter.unusedSimpArgs false
set_option linter.unusedVariables false
section
set_option maxRecDepth 100000
set_option maxHeartbeats 4000000
set_option linter.unusedVariables false
namespace Go.Abs
open Go.Proofs
def m_spec_l4Case_AC (fuel : Nat) : Prop := ∀ (x1 : (List Int)) (r : (Form × (List Form) × Form)), m_spec_l4Case fuel x1 = some r → AC Try.prog 71 [.t (.sl (x1.map rB))] (objs []) (.tp [.ag [.t (.sc (.int .i64 r.1.kind)), .t (.sc (.str r.1.name)), .t (.sc (.int .i64 r.1.n)), .t (.sl (r.1.scopes.map rI)), .t (.sl (r.1.kids.map Form.row))], .ar 9300, .ag [.t (.sc (.int .i64 r.2.2.kind)), .t (.sc (.str r.2.2.name)), .t (.sc (.int .i64 r.2.2.n)), .t (.sl (r.2.2.scopes.map rI)), .t (.sl (r.2.2.kids.map Form.row))]]) (objs [(9300, .arr (r.2.1.map Form.row) 32 true)])
theorem m_spec_l4Case_ok (fuel : Nat) : m_spec_l4Case_AC fuel := by
  intro x1 r hF0
  unfold m_spec_l4Case at hF0
  refine AC_intro (rs := [.ag [.t (.sc (.int .i64 r.1.kind)), .t (.sc (.str r.1.name)), .t (.sc (.int .i64 r.1.n)), .t (.sl (r.1.scopes.map rI)), .t (.sl (r.1.kids.map Form.row))], .ar 9300, .ag [.t (.sc (.int .i64 r.2.2.kind)), .t (.sc (.str r.2.2.name)), .t (.sc (.int .i64 r.2.2.n)), .t (.sl (r.2.2.scopes.map rI)), .t (.sl (r.2.2.kids.map Form.row))]]) Try.func71 rfl (by kernel_rfl) (by simp [Try.ntmps71]) (keep_all rfl) ?_
  intro C hC
  rw [Try.ntmps71]
  refine awp_seq ?_
  refine awp_region ?_
  refine s_alloc yZ32 ?_
  refine s_as ?_
  refine s_alloc yZ32 ?_
  refine k_nil ?_
  refine k_seq ?_
  refine awp_seq ?_
  refine awp_region ?_
  refine s_mv ?_
  replace hF0 := bind_some' hF0
  obtain ⟨v1, hv1, hF1⟩ := hF0
  refine s_call [(10, 12)] [] _ _ (m_spec_l15Open_ok fuel _ _ hv1) ?_
  refine s_as ?_
  refine k_nil ?_
  refine k_seq ?_
  refine awp_seq ?_
  refine awp_region ?_
  replace hF1 := bind_some' hF1
  obtain ⟨v2, hv2, hF2⟩ := hF1
  refine s_pure [] (m_spec_l4Texts_ok fuel _ hv2) ?_
  refine s_as ?_
  refine k_nil ?_
  refine k_seq ?_
  refine awp_seq ?_
  refine awp_region ?_
  refine s_mv ?_
  refine s_mv ?_
  refine s_lenT yU122 ?_
  replace hF2 := bind_some' hF2
  obtain ⟨v3, hv3, hF3⟩ := hF2
  refine s_call [(9000, 12)] [] _ _ (m_spec_l15Rd_pick_ok fuel _ _ _ hv3) ?_
  refine s_as ?_
  refine k_nil ?_
  refine k_seq ?_
  refine awp_seq ?_
  refine awp_region ?_
  refine s_mv ?_
  refine s_mv ?_
  replace hF3 := bind_some' hF3
  obtain ⟨v4, hv4, hF4⟩ := hF3
  refine s_ixT (rL rS) hv4 rfl yE122 ?_
  refine s_ld1 yA95 ?_
  replace hF4 := bind_some' hF4
  obtain ⟨v5, hv5, hF5⟩ := hF4
  refine s_ixT rS hv5 rfl yE95 ?_
  refine s_ld1 yA9 ?_
  replace hF5 := bind_some' hF5
  obtain ⟨v6, hv6, hF6⟩ := hF5
  refine s_pure [] (m_spec_l1Parse_ok fuel _ _ hv6) ?_
  refine s_alloc yZ32 ?_
  refine s_stW yS32 ?_
  refine k_nil ?_
  refine k_seq ?_
  refine awp_seq ?_
  refine awp_region ?_
  refine s_mv ?_
  refine s_mv ?_
  replace hF6 := bind_some' hF6
  obtain ⟨v7, hv7, hF7⟩ := hF6
  refine s_ixT (rL rS) hv7 rfl yE122 ?_
  refine s_ld1 yA95 ?_
  replace hF7 := bind_some' hF7
  obtain ⟨v8, hv8, hF8⟩ := hF7
  refine s_ixT rS hv8 rfl yE95 ?_
  refine s_ld1 yA9 ?_
  replace hF8 := bind_some' hF8
  obtain ⟨v9, hv9, hF9⟩ := hF8
  refine s_pure [] (m_spec_l1Parse_ok fuel _ _ hv9) ?_
  refine s_alloc yZ32 ?_
  refine s_stW yS32 ?_
  refine k_nil ?_
  refine k_seq ?_
  refine awp_seq ?_
  refine awp_region ?_
  replace hF9 := bind_some' hF9
  obtain ⟨v10, hv10, hF10⟩ := hF9
  refine s_pure [] (m_spec_l1Name_ok fuel _ _ hv10) ?_
  refine s_bs Form.row [v10] yP30 yR32 ?_
  refine s_as ?_
  refine k_nil ?_
  refine k_seq ?_
  refine awp_seq ?_
  refine awp_seq ?_
  refine awp_region ?_
  refine s_mv ?_
  replace hF10 := bind_some' hF10
  obtain ⟨v11, hv11, hF11⟩ := hF10
  refine s_call [(9000, 12)] [] _ _ (m_spec_l15Rd_pick_ok fuel _ _ _ hv11) ?_
  refine k_nil ?_
  refine k_seq ?_
  refine awp_block ?_
  refine awp_seq ?_
  refine awp_region ?_
  refine s_eq ?_
  refine s_as ?_
  refine k_nil ?_
  refine k_seq ?_
  refine w_cond hF11 (fun hc12 hF12 => ?_) (fun hc12 hF12 => ?_) <;> clear hF11
  refine awp_region ?_
  refine s_mv ?_
  refine s_mv ?_
  refine s_ldW yA32 yS32 ?_
  replace hF12 := bind_some' hF12
  obtain ⟨v13, hv13, hF13⟩ := hF12
  refine s_call [(9000, 12)] [] _ _ (m_spec_l1Mutate_ok fuel _ _ _ hv13) ?_
  replace hF13 := bind_some' hF13
  obtain ⟨v14, hv14, hF14⟩ := hF13
  refine s_call [(9000, 12)] [] _ _ (m_spec_l1Mutate_ok fuel _ _ _ hv14) ?_
  refine s_stW yS32 ?_
  refine k_nil ?_
  refine k_blk ?_
  refine k_seq ?_
  refine awp_seq ?_
  refine awp_draw yMix (by kernel_rfl) ?_
  refine s_ldW yA32 yS32 ?_
  refine s_mv ?_
  refine s_ldW yA32 yS32 ?_
  refine s_stW yS32 ?_
  refine s_as ?_
  refine s_stW yS32 ?_
  refine k_nilD (by kernel_rfl) ?_
  refine k_seq ?_
  refine awp_mv 3 33 9300 (by conv => lhs; whnf) (by conv => lhs; whnf) rfl ?_
  refine awp_ret ?_
  refine k_fin ?_
  obtain rfl := Option.some.inj hF14
  exact ends_gen _ [] (by rw [Try.results71]; exact (res_agg (by conv => lhs; whnf) (by conv => lhs; whnf) yA32 yS32 rfl (res_tmp (by conv => lhs; whnf) (res_agg (by conv => lhs; whnf) (by conv => lhs; whnf) yA32 yS32 rfl res_nil))))
  refine awp_seq ?_
  refine awp_region ?_
  refine s_eq ?_
  refine s_as ?_
  refine k_nil ?_
  refine k_seq ?_
  refine w_cond hF12 (fun hc15 hF13 => ?_) (fun hc15 hF13 => ?_) <;> clear hF12
  refine awp_region ?_
  refine s_mv ?_
  refine s_mv ?_
  refine s_ldW yA32 yS32 ?_
  replace hF13 := bind_some' hF13
  obtain ⟨v16, hv16, hF14⟩ := hF13
  refine s_call [(9000, 12)] [] _ _ (m_spec_l1Mutate_ok fuel _ _ _ hv16) ?_
  replace hF14 := bind_some' hF14
  obtain ⟨v17, hv17, hF15⟩ := hF14
  refine s_call [(9000, 12)] [] _ _ (m_spec_l1Mutate_ok fuel _ _ _ hv17) ?_
  refine s_stW yS32 ?_
  refine k_nil ?_
  refine k_blk ?_
  refine k_seq ?_
  refine awp_seq ?_
  refine awp_draw yMix (by kernel_rfl) ?_
  refine s_ldW yA32 yS32 ?_
  refine s_mv ?_
  refine s_ldW yA32 yS32 ?_
  refine s_stW yS32 ?_
  refine s_as ?_
  refine s_stW yS32 ?_
  refine k_nilD (by kernel_rfl) ?_
  refine k_seq ?_
  refine awp_mv 3 33 9300 (by conv => lhs; whnf) (by conv => lhs; whnf) rfl ?_
  refine awp_ret ?_
  refine k_fin ?_
  obtain rfl := Option.some.inj hF15
  exact ends_gen _ [] (by rw [Try.results71]; exact (res_agg (by conv => lhs; whnf) (by conv => lhs; whnf) yA32 yS32 rfl (res_tmp (by conv => lhs; whnf) (res_agg (by conv => lhs; whnf) (by conv => lhs; whnf) yA32 yS32 rfl res_nil))))
  refine awp_seq ?_
  refine awp_region ?_
  refine s_eq ?_
  refine s_as ?_
  refine k_nil ?_
  refine k_seq ?_
  refine w_cond hF13 (fun hc18 hF14 => ?_) (fun hc18 hF14 => ?_) <;> clear hF13
  refine awp_region ?_
  refine s_mv ?_
  refine s_ldW yA32 yS32 ?_
  replace hF14 := bind_some' hF14
  obtain ⟨v19, hv19, hF15⟩ := hF14
  refine s_call [(9000, 12)] [] _ _ (m_spec_l1Dress_ok fuel _ _ _ hv19) ?_
  refine s_stW yS32 ?_
  refine k_nil ?_
  refine k_blk ?_
  refine k_seq ?_
  refine awp_seq ?_
  refine awp_draw yMix (by kernel_rfl) ?_
  refine s_ldW yA32 yS32 ?_
  refine s_mv ?_
  refine s_ldW yA32 yS32 ?_
  refine s_stW yS32 ?_
  refine s_as ?_
  refine s_stW yS32 ?_
  refine k_nilD (by kernel_rfl) ?_
  refine k_seq ?_
  refine awp_mv 3 33 9300 (by conv => lhs; whnf) (by conv => lhs; whnf) rfl ?_
  refine awp_ret ?_
  refine k_fin ?_
  obtain rfl := Option.some.inj hF15
  exact ends_gen _ [] (by rw [Try.results71]; exact (res_agg (by conv => lhs; whnf) (by conv => lhs; whnf) yA32 yS32 rfl (res_tmp (by conv => lhs; whnf) (res_agg (by conv => lhs; whnf) (by conv => lhs; whnf) yA32 yS32 rfl res_nil))))
  refine awp_seq ?_
  refine awp_region ?_
  refine s_eq ?_
  refine s_as ?_
  refine k_nil ?_
  refine k_seq ?_
  refine w_cond hF14 (fun hc20 hF15 => ?_) (fun hc20 hF15 => ?_) <;> clear hF14
  refine awp_region ?_
  refine s_bs Form.row ([] : List Form) yP30 yR32 ?_
  refine s_as ?_
  refine k_nil ?_
  refine k_blk ?_
  refine k_seq ?_
  refine awp_seq ?_
  refine awp_draw yMix (by kernel_rfl) ?_
  refine s_ldW yA32 yS32 ?_
  refine s_mv ?_
  refine s_ldW yA32 yS32 ?_
  refine s_stW yS32 ?_
  refine s_as ?_
  refine s_stW yS32 ?_
  refine k_nilD (by kernel_rfl) ?_
  refine k_seq ?_
  refine awp_mv 3 57 9300 (by conv => lhs; whnf) (by conv => lhs; whnf) rfl ?_
  refine awp_ret ?_
  refine k_fin ?_
  obtain rfl := Option.some.inj hF15
  exact ends_gen _ [] (by rw [Try.results71]; exact (res_agg (by conv => lhs; whnf) (by conv => lhs; whnf) yA32 yS32 rfl (res_tmp (by conv => lhs; whnf) (res_agg (by conv => lhs; whnf) (by conv => lhs; whnf) yA32 yS32 rfl res_nil))))
  refine awp_seq ?_
  refine awp_region ?_
  refine s_eq ?_
  refine s_as ?_
  refine k_nil ?_
  refine k_seq ?_
  refine w_cond hF15 (fun hc21 hF16 => ?_) (fun hc21 hF16 => ?_) <;> clear hF15
  refine awp_region ?_
  iterate 3 refine s_mv ?_
  refine s_lenT yU122 ?_
  replace hF16 := bind_some' hF16
  obtain ⟨v22, hv22, hF17⟩ := hF16
  refine s_call [(9000, 12)] [] _ _ (m_spec_l15Rd_pick_ok fuel _ _ _ hv22) ?_
  replace hF17 := bind_some' hF17
  obtain ⟨v23, hv23, hF18⟩ := hF17
  refine s_ixT (rL rS) hv23 rfl yE122 ?_
  refine s_ld1 yA95 ?_
  replace hF18 := bind_some' hF18
  obtain ⟨v24, hv24, hF19⟩ := hF18
  refine s_ixT rS hv24 rfl yE95 ?_
  refine s_ld1 yA9 ?_
  replace hF19 := bind_some' hF19
  obtain ⟨v25, hv25, hF20⟩ := hF19
  refine s_pure [] (m_spec_l1Parse_ok fuel _ _ hv25) ?_
  refine s_stW yS32 ?_
  refine k_nil ?_
  refine k_blk ?_
  refine k_seq ?_
  refine awp_seq ?_
  refine awp_draw yMix (by kernel_rfl) ?_
  refine s_ldW yA32 yS32 ?_
  refine s_mv ?_
  refine s_ldW yA32 yS32 ?_
  refine s_stW yS32 ?_
  refine s_as ?_
  refine s_stW yS32 ?_
  refine k_nilD (by kernel_rfl) ?_
  refine k_seq ?_
  refine awp_mv 3 33 9300 (by conv => lhs; whnf) (by conv => lhs; whnf) rfl ?_
  refine awp_ret ?_
  refine k_fin ?_
  obtain rfl := Option.some.inj hF20
  exact ends_gen _ [] (by rw [Try.results71]; exact (res_agg (by conv => lhs; whnf) (by conv => lhs; whnf) yA32 yS32 rfl (res_tmp (by conv => lhs; whnf) (res_agg (by conv => lhs; whnf) (by conv => lhs; whnf) yA32 yS32 rfl res_nil))))
  refine awp_skip ?_
  refine k_blk ?_
  refine k_seq ?_
  refine awp_seq ?_
  refine awp_draw yMix (by kernel_rfl) ?_
  refine s_ldW yA32 yS32 ?_
  refine s_mv ?_
  refine s_ldW yA32 yS32 ?_
  refine s_stW yS32 ?_
  refine s_as ?_
  refine s_stW yS32 ?_
  refine k_nilD (by kernel_rfl) ?_
  refine k_seq ?_
  refine awp_mv 3 33 9300 (by conv => lhs; whnf) (by conv => lhs; whnf) rfl ?_
  refine awp_ret ?_
  refine k_fin ?_
  obtain rfl := Option.some.inj hF16
  exact ends_gen _ [] (by rw [Try.results71]; exact (res_agg (by conv => lhs; whnf) (by conv => lhs; whnf) yA32 yS32 rfl (res_tmp (by conv => lhs; whnf) (res_agg (by conv => lhs; whnf) (by conv => lhs; whnf) yA32 yS32 rfl res_nil))))
def m_slices_Clone_int_AC (fuel : Nat) : Prop := ∀ (x1 : (List Int)) (r : (List Int)), m_slices_Clone_int fuel x1 = some r → AC Try.prog 107 [.t (.sl (x1.map rI))] noOb (.t (.sl (r.map rI))) noOb
theorem m_slices_Clone_int_ok (fuel : Nat) : m_slices_Clone_int_AC fuel := by
  intro x1 r hF0
  unfold m_slices_Clone_int at hF0
  refine AC_intro (rs := [.t (.sl (r.map rI))]) Try.func107 rfl (by kernel_rfl) (by simp [Try.ntmps107]) (by simp [noOb]) ?_
  intro C hC
  rw [Try.ntmps107]
  refine awp_nil 0 (fun hz => ?_) ?_
  replace hz := List.map_eq_nil_iff.mp hz; subst hz; obtain ⟨_, hF1⟩ := chk_some hF0
  refine awp_seq ?_
  refine awp_region ?_
  refine s_as ?_
  refine k_nil ?_
  refine k_seq ?_
  refine awp_seq ?_
  refine awp_seq ?_
  refine awp_region ?_
  refine s_mv ?_
  refine s_nil yU22 ?_
  refine k_nil ?_
  refine k_seq ?_
  refine awp_true rfl ?_
  refine awp_unnil 0 ?_
  refine awp_unnil 3 ?_
  refine awp_seq ?_
  refine awp_region ?_
  refine s_as ?_
  refine k_nil ?_
  refine k_seq ?_
  refine awp_ret ?_
  refine k_seq_ret ?_
  refine k_fin ?_
  obtain rfl := Option.some.inj hF1
  exact ends_gen [] [] (by rw [Try.results107]; exact (res_tmp (by conv => lhs; whnf) res_nil))
  refine awp_seq ?_
  refine awp_region ?_
  refine s_as ?_
  refine k_nil ?_
  refine k_seq ?_
  refine awp_seq ?_
  refine awp_seq ?_
  refine awp_region ?_
  refine s_mv ?_
  refine s_nil yU22 ?_
  refine k_nil ?_
  refine k_seq ?_
  refine awp_false rfl ?_
  refine awp_unnil 0 ?_
  refine awp_unnil 3 ?_
  refine awp_skip ?_
  refine k_seq ?_
  refine awp_seq ?_
  refine awp_region ?_
  refine s_bs rI ([] : List Int) yP22 yR3 ?_
  refine s_mv ?_
  obtain ⟨hk1, hF1⟩ := chk_some hF0
  refine s_apT rI (fun _ => rfl) hk1 yP22 ?_
  refine s_as ?_
  refine k_nil ?_
  refine k_seq ?_
  refine awp_ret ?_
  refine k_fin ?_
  obtain rfl := Option.some.inj hF1
  exact ends_gen [] [7] (by rw [Try.results107]; exact (res_tmp (by conv => lhs; whnf) res_nil))
def m_impl_copyForm_AC (fuel : Nat) : Prop := ∀ (x1 : Form) (r : Form), m_impl_copyForm fuel x1 = some r → AC Try.prog 65 [.ag [.t (.sc (.int .i64 x1.kind)), .t (.sc (.str x1.name)), .t (.sc (.int .i64 x1.n)), .t (.sl (x1.scopes.map rI)), .t (.sl (x1.kids.map Form.row))]] noOb (.ag [.t (.sc (.int .i64 r.kind)), .t (.sc (.str r.name)), .t (.sc (.int .i64 r.n)), .t (.sl (r.scopes.map rI)), .t (.sl (r.kids.map Form.row))]) noOb
theorem m_impl_copyForm_st (fu : Nat) (ih_m_impl_copyForm : ∀ k, k ≤ fu → m_impl_copyForm_AC k) : m_impl_copyForm_AC (fu + 1) := by
  intro x1 r hF0
  rw [m_impl_copyForm] at hF0
  refine AC_intro (rs := [.ag [.t (.sc (.int .i64 r.kind)), .t (.sc (.str r.name)), .t (.sc (.int .i64 r.n)), .t (.sl (r.scopes.map rI)), .t (.sl (r.kids.map Form.row))]]) Try.func65 rfl (by kernel_rfl) (by simp [Try.ntmps65]) (by simp [noOb]) ?_
  intro C hC
  rw [Try.ntmps65]
  refine awp_seq ?_
  refine awp_region ?_
  refine s_box ?_
  refine s_alloc yZ32 ?_
  refine k_nil ?_
  refine k_seq ?_
  refine awp_seq ?_
  refine awp_draw yMix (by kernel_rfl) ?_
  refine s_fa yF32_0 ?_
  refine s_ld1 yA3 ?_
  refine s_fa yF32_1 ?_
  refine s_ld1 yA9 ?_
  refine s_fa yF32_2 ?_
  refine s_ld1 yA3 ?_
  refine s_fa yF32_3 ?_
  refine s_ld1 yA22 ?_
  replace hF0 := bind_some' hF0
  obtain ⟨v1, hv1, hF1⟩ := hF0
  refine s_pure [] (m_slices_Clone_int_ok fu _ _ hv1) ?_
  refine s_bld yZ32 yL32 ?_
  refine s_alloc yZ32 ?_
  refine s_stW yS32 ?_
  refine k_nilD (by kernel_rfl) ?_
  refine k_seq ?_
  refine awp_seq ?_
  refine awp_seq ?_
  refine awp_region ?_
  refine s_fa yF32_4 ?_
  refine s_ld1 yA30 ?_
  refine s_lenT yU30 ?_
  refine s_mv ?_
  refine k_nil ?_
  refine k_seq ?_
  refine awp_block ?_
  refine awp_ownB 3 5020 32 [.t (.sc (.int .i64 x1.kind)), .t (.sc (.str x1.name)), .t (.sc (.int .i64 x1.n)), .t (.sl (v1.map rI)), .ar 5020] yI32.choose_spec ?_
  refine awp_frame2 [5, 19, 20, 21, 22, 23, 24, 25, 26, 27, 28, 29, 30] [3, 5020] [5, 27, 28] [5020] (fun a : Nat × Int × (List Form) => a.1) (fun a : Nat × Int × (List Form) => [(19, .t (.sc (.int .i64 a.2.1)))]) (fun a : Nat × Int × (List Form) => [(3, .box [.t (.sc (.int .i64 x1.kind)), .t (.sc (.str x1.name)), .t (.sc (.int .i64 x1.n)), .t (.sl (v1.map rI)), .ar 5020]), (5020, .arr (a.2.2.map Form.row) 32 true)]) (fun a : Nat × Int × (List Form) => a.1 ≤ fu ∧ m_impl_copyForm_l1 a.1 x1 v1 a.2.1 a.2.2 = some r ∧ 0 ≤ a.2.1) (fu, 0, ([] : List Form)) ⟨Nat.le_refl _, hF1, by simp⟩ (by rfl) (by rfl) (fun _ => rfl) (hasF_cons (by conv => lhs; whnf) (by rfl) hasF_nil) (hasO_cons (by conv => lhs; whnf) (by rfl) (hasO_cons (by conv => lhs; whnf) (by rfl) hasO_nil)) (fresh_C hC rfl) (by repeat (first | exact freshS_args rfl | refine freshS_upd rfl ?_ | refine freshS_frame rfl ?_)) (by repeat (first | exact freshM_no | exact objs_fresh rfl | refine freshM_upd rfl ?_ | refine freshM_frame rfl ?_)) ?_
  clear hF1
  rintro ⟨fu, g2, g3⟩ ⟨hl4, hF2, hn_g2⟩
  dsimp only at hl4 hF2 hn_g2 ⊢
  obtain _ | fu := fu
  · rw [m_impl_copyForm_l1] at hF2; cases hF2
  rw [m_impl_copyForm_l1] at hF2
  refine awp_seq ?_
  refine awp_region ?_
  refine s_lt ?_
  refine k_nil ?_
  refine k_seq ?_
  refine awp_seq ?_
  refine w_cond hF2 (fun hc5 hF3 => ?_) (fun hc5 hF3 => ?_) <;> clear hF2
  refine awp_lenT 17 (fun hb6 => ?_)
  refine awp_skip ?_
  refine k_seq ?_
  refine awp_seq ?_
  refine awp_block ?_
  refine awp_seq ?_
  refine awp_region ?_
  replace hF3 := bind_some' hF3
  obtain ⟨v7, hv7, hF4⟩ := hF3
  refine s_ixT Form.row hv7 (Form.row_eq _) yE30 ?_
  refine s_ldN yA32 yS32 ?_
  refine s_alloc yZ32 ?_
  refine s_stW yS32 ?_
  refine k_nil ?_
  refine k_seq ?_
  refine awp_draw yMix (by kernel_rfl) ?_
  refine s_fa yF32_4 ?_
  refine s_ld1 yA30 ?_
  refine s_ldW yA32 yS32 ?_
  replace hF4 := bind_some' hF4
  obtain ⟨v8, hv8, hF5⟩ := hF4
  refine s_pure [] (ih_m_impl_copyForm fu (by omega) _ _ hv8) ?_
  refine s_bs Form.row [v8] yP30 yR32 ?_
  obtain ⟨hk9, hF6⟩ := chk_some hF5
  refine s_apT Form.row (fun y => Form.row_len y) hk9 yP30 ?_
  refine s_fa yF32_4 ?_
  refine s_stP yS30 ?_
  refine k_nilD (by kernel_rfl) ?_
  refine k_blk ?_
  refine k_seq ?_
  refine awp_region ?_
  refine s_add (winc2 hc5 hb6 hn_g2) ?_
  refine s_mv ?_
  refine k_nil ?_
  exact s_rnd2 (fu, (g2 + 1), (g3 ++ [v8])) [(5020, 28)] ⟨by first | omega | (dsimp only; omega), hF6, by first | omega | (dsimp only; omega)⟩ (hasR_cons (by conv => lhs; whnf) (by rfl) rfl trivial) (hasQ_cons (by conv => lhs; whnf) (by rfl) rfl (hasQ_cons (by conv => lhs; whnf) (by rfl) rfl trivial))
  refine awp_exit ?_
  refine k_seq_exit ?_
  refine k_rnd_exit2 ?_
  refine k_blk_exit ?_
  refine k_seq ?_
  refine awp_seq ?_
  refine awp_region ?_
  refine s_ldW yA32 yS32 ?_
  refine s_stW yS32 ?_
  refine k_nil ?_
  refine k_seq ?_
  refine awp_ret ?_
  refine k_fin ?_
  obtain rfl := Option.some.inj hF3
  exact ends_gen [] [5020] (by rw [Try.results65]; exact (res_agg (by conv => lhs; whnf) (by conv => lhs; whnf) yA32 yS32 rfl res_nil))
theorem m_impl_copyForm_all (fuel : Nat) : m_impl_copyForm_AC fuel := by
  induction fuel using Nat.strongRecOn with
  | _ N ih =>
    cases N with
    | zero => exact (by intro x1 r h; rw [m_impl_copyForm] at h; cases h)
    | succ fu => exact m_impl_copyForm_st fu (fun k hk => (ih k (by omega)))
theorem m_impl_copyForm_ok (fuel : Nat) : m_impl_copyForm_AC fuel := (m_impl_copyForm_all fuel)
def m_laws_mxForms_AC (fuel : Nat) : Prop := ∀ (x1 : (List Form)) (x2 : (List Form)) (r : Bool), m_laws_mxForms fuel x1 x2 = some r → AC Try.prog 30 [.t (.sl (x1.map Form.row)), .t (.sl (x2.map Form.row))] noOb (.t (.sc (.bool r))) noOb
theorem m_laws_mxForms_ok (fuel : Nat) : m_laws_mxForms_AC fuel := by
  intro x1 x2 r hF0
  unfold m_laws_mxForms at hF0
  refine AC_intro (rs := [.t (.sc (.bool r))]) Try.func30 rfl (by kernel_rfl) (by simp [Try.ntmps30]) (by simp [noOb]) ?_
  intro C hC
  rw [Try.ntmps30]
  refine awp_seq ?_
  refine awp_region ?_
  refine s_as ?_
  refine k_nil ?_
  refine k_seq ?_
  refine awp_seq ?_
  refine awp_seq ?_
  refine awp_region ?_
  refine s_mv ?_
  refine s_lenT yU30 ?_
  refine s_mv ?_
  refine s_lenT yU30 ?_
  refine s_ne ?_
  refine k_nil ?_
  refine k_seq ?_
  refine w_cond hF0 (fun hc1 hF1 => ?_) (fun hc1 hF1 => ?_) <;> clear hF0
  refine awp_seq ?_
  refine awp_region ?_
  refine s_as ?_
  refine k_nil ?_
  refine k_seq ?_
  refine awp_ret ?_
  refine k_seq_ret ?_
  refine k_fin ?_
  obtain rfl := Option.some.inj hF1
  exact ends_gen [] [] (by rw [Try.results30]; exact (res_tmp (by conv => lhs; whnf) res_nil))
  refine awp_skip ?_
  refine k_seq ?_
  refine awp_seq ?_
  refine awp_seq ?_
  refine awp_region ?_
  refine s_as ?_
  refine k_nil ?_
  refine k_seq ?_
  refine awp_block ?_
  refine awp_frame2 [4, 5, 11, 12, 13, 14, 15, 16, 17, 18, 19, 20, 21, 22, 23, 24, 25, 26] [] [] [] (fun a : Nat × Int => a.1) (fun a : Nat × Int => [(5, .t (.sc (.int .i64 a.2)))]) (fun a : Nat × Int => []) (fun a : Nat × Int => a.1 ≤ fuel ∧ m_laws_mxForms_l1 a.1 x1 x2 a.2 = some r ∧ 0 ≤ a.2) (fuel, 0) ⟨Nat.le_refl _, hF1, by simp⟩ (by rfl) (by rfl) (fun _ => rfl) (hasF_cons (by conv => lhs; whnf) (by rfl) hasF_nil) hasO_nil (fun _ h => by cases h) freshS_nil freshM_nil ?_
  clear hF1
  rintro ⟨fu, g2⟩ ⟨hl3, hF2, hn_g2⟩
  dsimp only at hl3 hF2 hn_g2 ⊢
  obtain _ | fu := fu
  · rw [m_laws_mxForms_l1] at hF2; cases hF2
  rw [m_laws_mxForms_l1] at hF2
  refine awp_seq ?_
  refine awp_seq ?_
  refine awp_region ?_
  refine s_mv ?_
  refine s_mv ?_
  refine s_lenT yU30 ?_
  refine s_lt ?_
  refine k_nil ?_
  refine k_seq ?_
  refine w_cond hF2 (fun hc4 hF3 => ?_) (fun hc4 hF3 => ?_) <;> clear hF2
  refine awp_lenT 0 (fun hb5 => ?_)
  refine awp_skip ?_
  refine k_seq ?_
  refine awp_seq ?_
  refine awp_block ?_
  refine awp_seq ?_
  refine awp_draw yMix (by kernel_rfl) ?_
  refine s_mv ?_
  refine s_mv ?_
  replace hF3 := bind_some' hF3
  obtain ⟨v6, hv6, hF4⟩ := hF3
  refine s_ixT Form.row hv6 (Form.row_eq _) yE30 ?_
  refine s_ldN yA32 yS32 ?_
  refine s_mv ?_
  refine s_mv ?_
  replace hF4 := bind_some' hF4
  obtain ⟨v7, hv7, hF5⟩ := hF4
  refine s_ixT Form.row hv7 (Form.row_eq _) yE30 ?_
  refine s_ldN yA32 yS32 ?_
  replace hF5 := bind_some' hF5
  obtain ⟨v8, hv8, hF6⟩ := hF5
  refine s_pure [] (m_impl_FormSame_ok fu _ _ _ hv8) ?_
  refine s_not ?_
  refine k_nilD (by kernel_rfl) ?_
  refine k_seq ?_
  refine w_cond hF6 (fun hc9 hF7 => ?_) (fun hc9 hF7 => ?_) <;> clear hF6
  refine awp_seq ?_
  refine awp_region ?_
  refine s_as ?_
  refine k_nil ?_
  refine k_seq ?_
  refine awp_ret ?_
  refine k_blk_ret ?_
  refine k_seq_ret ?_
  refine k_rnd_ret2 ?_
  refine k_blk_ret ?_
  refine k_seq_ret ?_
  refine k_fin ?_
  obtain rfl := Option.some.inj hF7
  exact ends_gen [] [] (by rw [Try.results30]; exact (res_tmp (by conv => lhs; whnf) res_nil))
  refine awp_skip ?_
  refine k_blk ?_
  refine k_seq ?_
  refine awp_region ?_
  refine s_mv ?_
  refine s_add (winc2 hc4 hb5 hn_g2) ?_
  refine s_as ?_
  refine k_nil ?_
  exact s_rnd2 (fu, (g2 + 1)) [] ⟨by first | omega | (dsimp only; omega), hF7, by first | omega | (dsimp only; omega)⟩ (hasR_cons (by conv => lhs; whnf) (by rfl) rfl trivial) trivial
  refine awp_exit ?_
  refine k_seq_exit ?_
  refine k_rnd_exit2 ?_
  refine k_blk_exit ?_
  refine k_seq ?_
  refine awp_seq ?_
  refine awp_region ?_
  refine s_as ?_
  refine k_nil ?_
  refine k_seq ?_
  refine awp_ret ?_
  refine k_fin ?_
  obtain rfl := Option.some.inj hF3
  exact ends_gen [] [] (by rw [Try.results30]; exact (res_tmp (by conv => lhs; whnf) res_nil))
end Go.Abs
end
section
set_option maxRecDepth 100000
set_option maxHeartbeats 4000000
set_option linter.unusedVariables false
namespace Go.Abs
open Go.Proofs
def m_spec_DrawMatchPattern_AC (fuel : Nat) : Prop := ∀ (x1 : (List Int)) (r : ((List Bind) × Form × (List Form) × Form)), m_spec_DrawMatchPattern fuel x1 = some r → AC Try.prog 125 [.t (.sl (x1.map rB))] noOb (.tp [.t (.sl (r.1.map Bind.row)), .ag [.t (.sc (.int .i64 r.2.1.kind)), .t (.sc (.str r.2.1.name)), .t (.sc (.int .i64 r.2.1.n)), .t (.sl (r.2.1.scopes.map rI)), .t (.sl (r.2.1.kids.map Form.row))], .t (.sl (r.2.2.1.map Form.row)), .ag [.t (.sc (.int .i64 r.2.2.2.kind)), .t (.sc (.str r.2.2.2.name)), .t (.sc (.int .i64 r.2.2.2.n)), .t (.sl (r.2.2.2.scopes.map rI)), .t (.sl (r.2.2.2.kids.map Form.row))]]) noOb
theorem m_spec_DrawMatchPattern_ok (fuel : Nat) : m_spec_DrawMatchPattern_AC fuel := by
  intro x1 r hF0
  unfold m_spec_DrawMatchPattern at hF0
  refine AC_intro (rs := [.t (.sl (r.1.map Bind.row)), .ag [.t (.sc (.int .i64 r.2.1.kind)), .t (.sc (.str r.2.1.name)), .t (.sc (.int .i64 r.2.1.n)), .t (.sl (r.2.1.scopes.map rI)), .t (.sl (r.2.1.kids.map Form.row))], .t (.sl (r.2.2.1.map Form.row)), .ag [.t (.sc (.int .i64 r.2.2.2.kind)), .t (.sc (.str r.2.2.2.name)), .t (.sc (.int .i64 r.2.2.2.n)), .t (.sl (r.2.2.2.scopes.map rI)), .t (.sl (r.2.2.2.kids.map Form.row))]]) Try.func125 rfl (by kernel_rfl) (by simp [Try.ntmps125]) (by simp [noOb]) ?_
  intro C hC
  rw [Try.ntmps125]
  refine awp_seq ?_
  refine awp_region ?_
  refine s_as ?_
  refine s_alloc yZ32 ?_
  refine s_as ?_
  refine s_alloc yZ32 ?_
  refine k_nil ?_
  refine k_seq ?_
  refine awp_seq ?_
  refine awp_region ?_
  refine s_mv ?_
  replace hF0 := bind_some' hF0
  obtain ⟨v1, hv1, hF1⟩ := hF0
  refine s_call [(9300, 2013)] [] _ _ (m_spec_l4Case_ok fuel _ _ hv1) ?_
  refine s_mv ?_
  iterate 3 refine s_ext ?_
  refine s_alloc yZ32 ?_
  refine s_alloc yZ32 ?_
  refine s_stW yS32 ?_
  refine s_as ?_
  refine s_stW yS32 ?_
  refine k_nil ?_
  refine k_seq ?_
  refine awp_seq ?_
  refine awp_region ?_
  refine s_mv ?_
  replace hF1 := bind_some' hF1
  obtain ⟨v2, hv2, hF2⟩ := hF1
  refine s_call [(10, 18)] [] _ _ (m_spec_l15Open_ok fuel _ _ hv2) ?_
  refine s_as ?_
  refine k_nil ?_
  refine k_seq ?_
  refine awp_seq ?_
  refine awp_region ?_
  refine s_bs Bind.row ([] : List Bind) yP135 yR155 ?_
  refine s_as ?_
  refine k_nil ?_
  refine k_seq ?_
  refine awp_seq ?_
  refine awp_seq ?_
  refine awp_region ?_
  refine s_mv ?_
  replace hF2 := bind_some' hF2
  obtain ⟨v3, hv3, hF3⟩ := hF2
  refine s_call [(9000, 18)] [] _ _ (m_spec_l15Rd_pick_ok fuel _ _ _ hv3) ?_
  refine s_eq ?_
  refine k_nil ?_
  refine k_seq ?_
  refine w_cond hF3 (fun hc4 hF4 => ?_) (fun hc4 hF4 => ?_) <;> clear hF3
  refine awp_region ?_
  refine s_bs rI [1] yP22 yR3 ?_
  refine s_bld yZ155 yL155 ?_
  refine s_bs Bind.row [(Bind.mk (⟨#[101, 108, 115, 101]⟩ : ByteArray) [1] 3)] yP135 yR155 ?_
  refine s_as ?_
  refine k_nil ?_
  refine k_seq ?_
  refine awp_seq ?_
  refine awp_draw yMix (by kernel_rfl) ?_
  refine s_mv ?_
  refine s_ldW yA32 yS32 ?_
  refine s_mv ?_
  refine s_ldW yA32 yS32 ?_
  refine s_as ?_
  refine s_stW yS32 ?_
  refine s_as ?_
  refine s_stW yS32 ?_
  refine k_nilD (by kernel_rfl) ?_
  refine k_seq ?_
  refine awp_ret ?_
  refine k_fin ?_
  obtain rfl := Option.some.inj hF4
  exact ends_gen [] [25, 2013] (by rw [Try.results125]; exact (res_tmp (by conv => lhs; whnf) (res_agg (by conv => lhs; whnf) (by conv => lhs; whnf) yA32 yS32 rfl (res_tmp (by conv => lhs; whnf) (res_agg (by conv => lhs; whnf) (by conv => lhs; whnf) yA32 yS32 rfl res_nil)))))
  refine awp_skip ?_
  refine k_seq ?_
  refine awp_seq ?_
  refine awp_draw yMix (by kernel_rfl) ?_
  refine s_mv ?_
  refine s_ldW yA32 yS32 ?_
  refine s_mv ?_
  refine s_ldW yA32 yS32 ?_
  refine s_as ?_
  refine s_stW yS32 ?_
  refine s_as ?_
  refine s_stW yS32 ?_
  refine k_nilD (by kernel_rfl) ?_
  refine k_seq ?_
  refine awp_ret ?_
  refine k_fin ?_
  obtain rfl := Option.some.inj hF4
  exact ends_gen [] [19, 2013] (by rw [Try.results125]; exact (res_tmp (by conv => lhs; whnf) (res_agg (by conv => lhs; whnf) (by conv => lhs; whnf) yA32 yS32 rfl (res_tmp (by conv => lhs; whnf) (res_agg (by conv => lhs; whnf) (by conv => lhs; whnf) yA32 yS32 rfl res_nil)))))
def m_spec_BindsValid_AC (fuel : Nat) : Prop := ∀ (x1 : (List Bind)) (r : Bool), m_spec_BindsValid fuel x1 = some r → AC Try.prog 147 [.t (.sl (x1.map Bind.row))] noOb (.t (.sc (.bool r))) noOb
theorem m_spec_BindsValid_ok (fuel : Nat) : m_spec_BindsValid_AC fuel := by
  intro x1 r hF0
  unfold m_spec_BindsValid at hF0
  refine AC_intro (rs := [.t (.sc (.bool r))]) Try.func147 rfl (by kernel_rfl) (by simp [Try.ntmps147]) (by simp [noOb]) ?_
  intro C hC
  rw [Try.ntmps147]
  refine awp_seq ?_
  refine awp_region ?_
  refine s_as ?_
  refine k_nil ?_
  refine k_seq ?_
  refine awp_seq ?_
  refine awp_seq ?_
  refine awp_region ?_
  refine s_as ?_
  refine k_nil ?_
  refine k_seq ?_
  refine awp_block ?_
  refine awp_frame2 [2, 3, 4, 5, 6, 7, 8, 9, 10, 11, 12, 13, 14, 15, 16, 17, 18, 19, 20, 21, 22, 23, 24, 25, 26, 27, 28, 29, 30, 31, 32, 33, 34, 35, 36, 37, 38, 39, 40, 41, 42, 43, 44, 45, 46, 47, 48, 49, 50, 51, 52, 53, 54, 55, 56, 57, 58, 59, 60, 61, 62, 63, 64, 65, 66, 67, 68, 69, 70, 71, 72, 73, 74, 75] [] [] [] (fun a : Nat × Int => a.1) (fun a : Nat × Int => [(2, .t (.sc (.bool false))), (3, .t (.sc (.int .i64 a.2)))]) (fun a : Nat × Int => []) (fun a : Nat × Int => a.1 ≤ fuel ∧ m_spec_BindsValid_l1 a.1 x1 a.2 = some r) (fuel, 0) ⟨Nat.le_refl _, hF0⟩ (by rfl) (by rfl) (fun _ => rfl) (hasF_cons (by conv => lhs; whnf) (by rfl) (hasF_cons (by conv => lhs; whnf) (by rfl) hasF_nil)) hasO_nil (fun _ h => by cases h) freshS_nil freshM_nil ?_
  clear hF0
  rintro ⟨fu, g1⟩ ⟨hl2, hF1⟩
  dsimp only at hl2 hF1 ⊢
  obtain _ | fu := fu
  · rw [m_spec_BindsValid_l1] at hF1; cases hF1
  rw [m_spec_BindsValid_l1] at hF1
  refine awp_seq ?_
  refine awp_seqJ [5, 6, 7, 8, 9, 10, 11, 12] [] [] [] (fun a : Nat × Bool => [(12, .t (.sc (.bool a.2)))]) (fun a : Nat × Bool => []) (fun a : Nat × Bool => a.1 ≤ fu ∧ m_spec_BindsValid_j2 a.1 x1 g1 a.2 = some r) (by rfl) (fun _ => rfl) (fun _ h => by cases h) freshS_nil freshM_nil ?_ ?_
  refine awp_region ?_
  refine s_mv ?_
  refine s_mv ?_
  refine s_lenT yU135 ?_
  refine s_lt ?_
  refine s_mv ?_
  refine w_guard _ 9 hF1 (fun hc3 hF2 => ?_) (fun hc3 hF2 => ?_) <;> clear hF1
  refine s_mv ?_
  refine s_le ?_
  refine s_pkt ?_
  refine k_nil ?_
  exact s_join (fu, (decide (g1 ≤ 60))) [] ⟨by first | omega | (dsimp only; omega), hF2⟩ (hasR_cons (by conv => lhs; whnf) (by rfl) rfl trivial) trivial
  refine r_no rfl ?_
  refine r_no rfl ?_
  refine s_pkf ?_
  refine k_nil ?_
  exact s_join (fu, false) [] ⟨by first | omega | (dsimp only; omega), hF2⟩ (hasR_cons (by conv => lhs; whnf) (by rfl) rfl trivial) trivial
  clear hF1
  rintro ⟨fu, g4⟩ ⟨hl5, hF2⟩
  dsimp only at hl5 hF2 ⊢
  obtain _ | fu := fu
  · rw [m_spec_BindsValid_j2] at hF2; cases hF2
  rw [m_spec_BindsValid_j2] at hF2
  refine w_cond hF2 (fun hc6 hF3 => ?_) (fun hc6 hF3 => ?_) <;> clear hF2
  refine awp_skip ?_
  refine k_seq ?_
  refine awp_seq ?_
  refine awp_block ?_
  refine awp_seq ?_
  refine awp_seqJ [15, 16, 17, 18, 19, 20, 21, 22, 23, 24, 25, 26, 27, 28, 29, 30, 31, 32, 33, 34, 35, 36, 37, 38, 39, 40, 41, 42, 43, 44, 45, 46] [] [] [] (fun a : Nat × Bool => [(46, .t (.sc (.bool a.2)))]) (fun a : Nat × Bool => []) (fun a : Nat × Bool => a.1 ≤ fu ∧ m_spec_BindsValid_j3 a.1 x1 g1 a.2 = some r) (by rfl) (fun _ => rfl) (fun _ h => by cases h) freshS_nil freshM_nil ?_ ?_
  refine awp_region ?_
  refine s_mv ?_
  refine s_mv ?_
  replace hF3 := bind_some' hF3
  obtain ⟨v7, hv7, hF4⟩ := hF3
  refine s_ixT Bind.row hv7 (Bind.row_eq _) yE135 ?_
  refine s_fa yF155_0 ?_
  refine s_ld1 yA9 ?_
  replace hF4 := bind_some' hF4
  obtain ⟨v8, hv8, hF5⟩ := hF4
  refine s_pure [] (m_spec_NameValid_ok fu _ _ hv8) ?_
  refine s_not ?_
  refine s_mv ?_
  refine w_guard _ 22 hF5 (fun hc9 hF6 => ?_) (fun hc9 hF6 => ?_) <;> clear hF5
  iterate 7 refine r_no rfl ?_
  refine s_pkt ?_
  refine s_mv ?_
  iterate 6 refine r_no rfl ?_
  refine s_pkt ?_
  refine s_mv ?_
  iterate 6 refine r_no rfl ?_
  refine s_pkt ?_
  refine k_nil ?_
  exact s_join (fu, true) [] ⟨by first | omega | (dsimp only; omega), hF6⟩ (hasR_cons (by conv => lhs; whnf) (by rfl) rfl trivial) trivial
  refine s_mv ?_
  refine s_mv ?_
  replace hF6 := bind_some' hF6
  obtain ⟨v10, hv10, hF7⟩ := hF6
  refine s_ixT Bind.row hv10 (Bind.row_eq _) yE135 ?_
  refine s_fa yF155_1 ?_
  refine s_ld1 yA22 ?_
  replace hF7 := bind_some' hF7
  obtain ⟨v11, hv11, hF8⟩ := hF7
  refine s_pure [] (m_spec_l1Scopes_ok fu _ _ hv11) ?_
  refine s_not ?_
  refine s_pkf ?_
  refine s_mv ?_
  refine w_guard _ 31 hF8 (fun hc12 hF9 => ?_) (fun hc12 hF9 => ?_) <;> clear hF8
  iterate 6 refine r_no rfl ?_
  refine s_pkt ?_
  refine s_mv ?_
  iterate 6 refine r_no rfl ?_
  refine s_pkt ?_
  refine k_nil ?_
  exact s_join (fu, true) [] ⟨by first | omega | (dsimp only; omega), hF9⟩ (hasR_cons (by conv => lhs; whnf) (by rfl) rfl trivial) trivial
  refine s_mv ?_
  refine s_mv ?_
  replace hF9 := bind_some' hF9
  obtain ⟨v13, hv13, hF10⟩ := hF9
  refine s_ixT Bind.row hv13 (Bind.row_eq _) yE135 ?_
  refine s_fa yF155_2 ?_
  refine s_ld1 yA3 ?_
  refine s_lt ?_
  refine s_pkf ?_
  refine s_mv ?_
  refine w_guard _ 39 hF10 (fun hc14 hF11 => ?_) (fun hc14 hF11 => ?_) <;> clear hF10
  iterate 6 refine r_no rfl ?_
  refine s_pkt ?_
  refine k_nil ?_
  exact s_join (fu, true) [] ⟨by first | omega | (dsimp only; omega), hF11⟩ (hasR_cons (by conv => lhs; whnf) (by rfl) rfl trivial) trivial
  refine s_mv ?_
  refine s_mv ?_
  replace hF11 := bind_some' hF11
  obtain ⟨v15, hv15, hF12⟩ := hF11
  refine s_ixT Bind.row hv15 (Bind.row_eq _) yE135 ?_
  refine s_fa yF155_2 ?_
  refine s_ld1 yA3 ?_
  refine s_gt ?_
  refine s_pkf ?_
  refine k_nil ?_
  exact s_join (fu, (decide (999 < v15.id))) [] ⟨by first | omega | (dsimp only; omega), hF12⟩ (hasR_cons (by conv => lhs; whnf) (by rfl) rfl trivial) trivial
  clear hF3
  rintro ⟨fu, g16⟩ ⟨hl17, hF4⟩
  dsimp only at hl17 hF4 ⊢
  obtain _ | fu := fu
  · rw [m_spec_BindsValid_j3] at hF4; cases hF4
  rw [m_spec_BindsValid_j3] at hF4
  refine w_cond hF4 (fun hc18 hF5 => ?_) (fun hc18 hF5 => ?_) <;> clear hF4
  refine awp_seq ?_
  refine awp_region ?_
  refine s_as ?_
  refine k_nil ?_
  refine k_seq ?_
  refine awp_ret ?_
  refine k_seq_ret ?_
  refine k_blk_ret ?_
  refine k_seq_ret ?_
  refine k_rnd_ret2 ?_
  refine k_blk_ret ?_
  refine k_seq_ret ?_
  refine k_fin ?_
  obtain rfl := Option.some.inj hF5
  exact ends_gen [] [] (by rw [Try.results147]; exact (res_tmp (by conv => lhs; whnf) res_nil))
  refine awp_skip ?_
  refine k_seq ?_
  refine awp_seq ?_
  refine awp_region ?_
  refine s_as ?_
  refine k_nil ?_
  refine k_seq ?_
  refine awp_block ?_
  refine awp_frame2 [2, 4, 47, 48, 49, 50, 51, 52, 53, 54, 55, 56, 57, 58, 59, 60, 61, 62, 63, 64, 65, 66, 67, 68, 69, 70, 71, 72, 73, 74, 75] [] [] [] (fun a : Nat × Int => a.1) (fun a : Nat × Int => [(2, .t (.sc (.bool false))), (4, .t (.sc (.int .i64 a.2)))]) (fun a : Nat × Int => []) (fun a : Nat × Int => a.1 ≤ fu ∧ m_spec_BindsValid_l4 a.1 x1 g1 a.2 = some r) (fu, 0) ⟨Nat.le_refl _, hF5⟩ (by rfl) (by rfl) (fun _ => rfl) (hasF_cons (by conv => lhs; whnf) (by rfl) (hasF_cons (by conv => lhs; whnf) (by rfl) hasF_nil)) hasO_nil (fun _ h => by cases h) freshS_nil freshM_nil ?_
  clear hF5
  rintro ⟨fu, g19⟩ ⟨hl20, hF6⟩
  dsimp only at hl20 hF6 ⊢
  obtain _ | fu := fu
  · rw [m_spec_BindsValid_l4] at hF6; cases hF6
  rw [m_spec_BindsValid_l4] at hF6
  refine awp_seq ?_
  refine awp_seq ?_
  refine awp_region ?_
  refine s_mv ?_
  refine s_mv ?_
  refine s_lt ?_
  refine k_nil ?_
  refine k_seq ?_
  refine w_cond hF6 (fun hc21 hF7 => ?_) (fun hc21 hF7 => ?_) <;> clear hF6
  refine awp_skip ?_
  refine k_seq ?_
  refine awp_seq ?_
  refine awp_block ?_
  refine awp_seqJ [52, 53, 54, 55, 56, 57, 58, 59, 60, 61, 62, 63, 64, 65, 66, 67, 68, 69, 70, 71, 72, 73, 74, 75] [] [] [] (fun a : Nat × Bool => [(75, .t (.sc (.bool a.2)))]) (fun a : Nat × Bool => []) (fun a : Nat × Bool => a.1 ≤ fu ∧ m_spec_BindsValid_j5 a.1 x1 g1 g19 a.2 = some r) (by rfl) (fun _ => rfl) (fun _ h => by cases h) freshS_nil freshM_nil ?_ ?_
  refine awp_draw yMix (by kernel_rfl) ?_
  refine s_mv ?_
  refine s_mv ?_
  replace hF7 := bind_some' hF7
  obtain ⟨v22, hv22, hF8⟩ := hF7
  refine s_ixT Bind.row hv22 (Bind.row_eq _) yE135 ?_
  refine s_fa yF155_0 ?_
  refine s_ld1 yA9 ?_
  refine s_mv ?_
  refine s_mv ?_
  replace hF8 := bind_some' hF8
  obtain ⟨v23, hv23, hF9⟩ := hF8
  refine s_ixT Bind.row hv23 (Bind.row_eq _) yE135 ?_
  refine s_fa yF155_0 ?_
  refine s_ld1 yA9 ?_
  refine s_eqS ?_
  refine s_mv ?_
  refine w_guard _ 63 hF9 (fun hc24 hF10 => ?_) (fun hc24 hF10 => ?_) <;> clear hF9
  refine s_mv ?_
  refine s_mv ?_
  replace hF10 := bind_some' hF10
  obtain ⟨v25, hv25, hF11⟩ := hF10
  refine s_ixT Bind.row hv25 (Bind.row_eq _) yE135 ?_
  refine s_fa yF155_1 ?_
  refine s_ld1 yA22 ?_
  refine s_mv ?_
  refine s_mv ?_
  replace hF11 := bind_some' hF11
  obtain ⟨v26, hv26, hF12⟩ := hF11
  refine s_ixT Bind.row hv26 (Bind.row_eq _) yE135 ?_
  refine s_fa yF155_1 ?_
  refine s_ld1 yA22 ?_
  replace hF12 := bind_some' hF12
  obtain ⟨v27, hv27, hF13⟩ := hF12
  refine s_pure [] (m_spec_l1Ints_ok fu _ _ _ hv27) ?_
  refine s_pkt ?_
  refine k_nilD (by kernel_rfl) ?_
  exact s_join (fu, v27) [] ⟨by first | omega | (dsimp only; omega), hF13⟩ (hasR_cons (by conv => lhs; whnf) (by rfl) rfl trivial) trivial
  iterate 11 refine r_no rfl ?_
  refine s_pkf ?_
  refine k_nilD (by kernel_rfl) ?_
  exact s_join (fu, false) [] ⟨by first | omega | (dsimp only; omega), hF10⟩ (hasR_cons (by conv => lhs; whnf) (by rfl) rfl trivial) trivial
  clear hF7
  rintro ⟨fu, g28⟩ ⟨hl29, hF8⟩
  dsimp only at hl29 hF8 ⊢
  obtain _ | fu := fu
  · rw [m_spec_BindsValid_j5] at hF8; cases hF8
  rw [m_spec_BindsValid_j5] at hF8
  refine w_cond hF8 (fun hc30 hF9 => ?_) (fun hc30 hF9 => ?_) <;> clear hF8
  refine awp_seq ?_
  refine awp_region ?_
  refine s_as ?_
  refine k_nil ?_
  refine k_seq ?_
  refine awp_ret ?_
  refine k_blk_ret ?_
  refine k_seq_ret ?_
  refine k_rnd_ret2 ?_
  refine k_blk_ret ?_
  refine k_blk_ret ?_
  refine k_seq_ret ?_
  refine k_rnd_ret2 ?_
  refine k_blk_ret ?_
  refine k_seq_ret ?_
  refine k_fin ?_
  obtain rfl := Option.some.inj hF9
  exact ends_gen [] [] (by rw [Try.results147]; exact (res_tmp (by conv => lhs; whnf) res_nil))
  refine awp_skip ?_
  refine k_blk ?_
  refine k_seq ?_
  refine awp_region ?_
  refine s_mv ?_
  refine s_add rfl ?_
  refine s_as ?_
  refine k_nil ?_
  exact s_rnd2 (fu, (w64 (g19 + 1))) [] ⟨by first | omega | (dsimp only; omega), hF9⟩ (hasR_cons (by conv => lhs; whnf) (by rfl) rfl (hasR_cons (by conv => lhs; whnf) (by rfl) rfl trivial)) trivial
  refine awp_exit ?_
  refine k_seq_exit ?_
  refine k_rnd_exit2 ?_
  refine k_blk_exit ?_
  refine k_blk ?_
  refine k_seq ?_
  refine awp_region ?_
  refine s_mv ?_
  refine s_add rfl ?_
  refine s_as ?_
  refine k_nil ?_
  exact s_rnd2 (fu, (w64 (g1 + 1))) [] ⟨by first | omega | (dsimp only; omega), hF7⟩ (hasR_cons (by conv => lhs; whnf) (by rfl) rfl (hasR_cons (by conv => lhs; whnf) (by rfl) rfl trivial)) trivial
  refine awp_exit ?_
  refine k_seq_exit ?_
  refine k_rnd_exit2 ?_
  refine k_blk_exit ?_
  refine k_seq ?_
  refine awp_seq ?_
  refine awp_region ?_
  refine s_mv ?_
  refine s_lenT yU135 ?_
  refine s_le ?_
  refine s_as ?_
  refine k_nil ?_
  refine k_seq ?_
  refine awp_ret ?_
  refine k_fin ?_
  obtain rfl := Option.some.inj hF3
  exact ends_gen [] [] (by rw [Try.results147]; exact (res_tmp (by conv => lhs; whnf) res_nil))
def m_spec_l2Has_AC (fuel : Nat) : Prop := ∀ (x1 : (List Int)) (x2 : Int) (r : Bool), m_spec_l2Has fuel x1 x2 = some r → AC Try.prog 165 [.t (.sl (x1.map rI)), .t (.sc (.int .i64 x2))] noOb (.t (.sc (.bool r))) noOb
theorem m_spec_l2Has_ok (fuel : Nat) : m_spec_l2Has_AC fuel := by
  intro x1 x2 r hF0
  unfold m_spec_l2Has at hF0
  refine AC_intro (rs := [.t (.sc (.bool r))]) Try.func165 rfl (by kernel_rfl) (by simp [Try.ntmps165]) (by simp [noOb]) ?_
  intro C hC
  rw [Try.ntmps165]
  refine awp_seq ?_
  refine awp_region ?_
  refine s_as ?_
  refine k_nil ?_
  refine k_seq ?_
  refine awp_seq ?_
  refine awp_seq ?_
  refine awp_region ?_
  refine s_as ?_
  refine k_nil ?_
  refine k_seq ?_
  refine awp_block ?_
  refine awp_frame2 [4, 5, 6, 7, 8, 9, 10, 11, 12, 13, 14, 15, 16, 17] [] [] [] (fun a : Nat × Int => a.1) (fun a : Nat × Int => [(5, .t (.sc (.int .i64 a.2)))]) (fun a : Nat × Int => []) (fun a : Nat × Int => a.1 ≤ fuel ∧ m_spec_l2Has_l1 a.1 x1 x2 a.2 = some r ∧ 0 ≤ a.2) (fuel, 0) ⟨Nat.le_refl _, hF0, by simp⟩ (by rfl) (by rfl) (fun _ => rfl) (hasF_cons (by conv => lhs; whnf) (by rfl) hasF_nil) hasO_nil (fun _ h => by cases h) freshS_nil freshM_nil ?_
  clear hF0
  rintro ⟨fu, g1⟩ ⟨hl2, hF1, hn_g1⟩
  dsimp only at hl2 hF1 hn_g1 ⊢
  obtain _ | fu := fu
  · rw [m_spec_l2Has_l1] at hF1; cases hF1
  rw [m_spec_l2Has_l1] at hF1
  refine awp_seq ?_
  refine awp_seq ?_
  refine awp_region ?_
  refine s_mv ?_
  refine s_mv ?_
  refine s_lenT yU22 ?_
  refine s_lt ?_
  refine k_nil ?_
  refine k_seq ?_
  refine w_cond hF1 (fun hc3 hF2 => ?_) (fun hc3 hF2 => ?_) <;> clear hF1
  refine awp_lenT 0 (fun hb4 => ?_)
  refine awp_skip ?_
  refine k_seq ?_
  refine awp_seq ?_
  refine awp_block ?_
  refine awp_seq ?_
  refine awp_region ?_
  refine s_mv ?_
  refine s_mv ?_
  replace hF2 := bind_some' hF2
  obtain ⟨v5, hv5, hF3⟩ := hF2
  refine s_ixT rI hv5 rfl yE22 ?_
  refine s_ld1 yA3 ?_
  refine s_mv ?_
  refine s_eq ?_
  refine k_nil ?_
  refine k_seq ?_
  refine w_cond hF3 (fun hc6 hF4 => ?_) (fun hc6 hF4 => ?_) <;> clear hF3
  refine awp_seq ?_
  refine awp_region ?_
  refine s_as ?_
  refine k_nil ?_
  refine k_seq ?_
  refine awp_ret ?_
  refine k_blk_ret ?_
  refine k_seq_ret ?_
  refine k_rnd_ret2 ?_
  refine k_blk_ret ?_
  refine k_seq_ret ?_
  refine k_fin ?_
  obtain rfl := Option.some.inj hF4
  exact ends_gen [] [] (by rw [Try.results165]; exact (res_tmp (by conv => lhs; whnf) res_nil))
  refine awp_skip ?_
  refine k_blk ?_
  refine k_seq ?_
  refine awp_region ?_
  refine s_mv ?_
  refine s_add (winc2 hc3 hb4 hn_g1) ?_
  refine s_as ?_
  refine k_nil ?_
  exact s_rnd2 (fu, (g1 + 1)) [] ⟨by first | omega | (dsimp only; omega), hF4, by first | omega | (dsimp only; omega)⟩ (hasR_cons (by conv => lhs; whnf) (by rfl) rfl trivial) trivial
  refine awp_exit ?_
  refine k_seq_exit ?_
  refine k_rnd_exit2 ?_
  refine k_blk_exit ?_
  refine k_seq ?_
  refine awp_seq ?_
  refine awp_region ?_
  refine s_as ?_
  refine k_nil ?_
  refine k_seq ?_
  refine awp_ret ?_
  refine k_fin ?_
  obtain rfl := Option.some.inj hF2
  exact ends_gen [] [] (by rw [Try.results165]; exact (res_tmp (by conv => lhs; whnf) res_nil))
def m_spec_ScopesWithin_AC (fuel : Nat) : Prop := ∀ (x1 : (List Int)) (x2 : (List Int)) (r : Bool), m_spec_ScopesWithin fuel x1 x2 = some r → AC Try.prog 164 [.t (.sl (x1.map rI)), .t (.sl (x2.map rI))] noOb (.t (.sc (.bool r))) noOb
theorem m_spec_ScopesWithin_ok (fuel : Nat) : m_spec_ScopesWithin_AC fuel := by
  intro x1 x2 r hF0
  unfold m_spec_ScopesWithin at hF0
  refine AC_intro (rs := [.t (.sc (.bool r))]) Try.func164 rfl (by kernel_rfl) (by simp [Try.ntmps164]) (by simp [noOb]) ?_
  intro C hC
  rw [Try.ntmps164]
  refine awp_seq ?_
  refine awp_region ?_
  refine s_as ?_
  refine k_nil ?_
  refine k_seq ?_
  refine awp_seq ?_
  refine awp_seq ?_
  refine awp_region ?_
  refine s_as ?_
  refine k_nil ?_
  refine k_seq ?_
  refine awp_block ?_
  refine awp_frame2 [4, 5, 6, 7, 8, 9, 10, 11, 12, 13, 14, 15, 16, 17, 18] [] [] [] (fun a : Nat × Int => a.1) (fun a : Nat × Int => [(5, .t (.sc (.int .i64 a.2)))]) (fun a : Nat × Int => []) (fun a : Nat × Int => a.1 ≤ fuel ∧ m_spec_ScopesWithin_l1 a.1 x1 x2 a.2 = some r ∧ 0 ≤ a.2) (fuel, 0) ⟨Nat.le_refl _, hF0, by simp⟩ (by rfl) (by rfl) (fun _ => rfl) (hasF_cons (by conv => lhs; whnf) (by rfl) hasF_nil) hasO_nil (fun _ h => by cases h) freshS_nil freshM_nil ?_
  clear hF0
  rintro ⟨fu, g1⟩ ⟨hl2, hF1, hn_g1⟩
  dsimp only at hl2 hF1 hn_g1 ⊢
  obtain _ | fu := fu
  · rw [m_spec_ScopesWithin_l1] at hF1; cases hF1
  rw [m_spec_ScopesWithin_l1] at hF1
  refine awp_seq ?_
  refine awp_seq ?_
  refine awp_region ?_
  refine s_mv ?_
  refine s_mv ?_
  refine s_lenT yU22 ?_
  refine s_lt ?_
  refine k_nil ?_
  refine k_seq ?_
  refine w_cond hF1 (fun hc3 hF2 => ?_) (fun hc3 hF2 => ?_) <;> clear hF1
  refine awp_lenT 0 (fun hb4 => ?_)
  refine awp_skip ?_
  refine k_seq ?_
  refine awp_seq ?_
  refine awp_block ?_
  refine awp_seq ?_
  refine awp_region ?_
  iterate 3 refine s_mv ?_
  replace hF2 := bind_some' hF2
  obtain ⟨v5, hv5, hF3⟩ := hF2
  refine s_ixT rI hv5 rfl yE22 ?_
  refine s_ld1 yA3 ?_
  replace hF3 := bind_some' hF3
  obtain ⟨v6, hv6, hF4⟩ := hF3
  refine s_pure [] (m_spec_l2Has_ok fu _ _ _ hv6) ?_
  refine s_not ?_
  refine k_nil ?_
  refine k_seq ?_
  refine w_cond hF4 (fun hc7 hF5 => ?_) (fun hc7 hF5 => ?_) <;> clear hF4
  refine awp_seq ?_
  refine awp_region ?_
  refine s_as ?_
  refine k_nil ?_
  refine k_seq ?_
  refine awp_ret ?_
  refine k_blk_ret ?_
  refine k_seq_ret ?_
  refine k_rnd_ret2 ?_
  refine k_blk_ret ?_
  refine k_seq_ret ?_
  refine k_fin ?_
  obtain rfl := Option.some.inj hF5
  exact ends_gen [] [] (by rw [Try.results164]; exact (res_tmp (by conv => lhs; whnf) res_nil))
  refine awp_skip ?_
  refine k_blk ?_
  refine k_seq ?_
  refine awp_region ?_
  refine s_mv ?_
  refine s_add (winc2 hc3 hb4 hn_g1) ?_
  refine s_as ?_
  refine k_nil ?_
  exact s_rnd2 (fu, (g1 + 1)) [] ⟨by first | omega | (dsimp only; omega), hF5, by first | omega | (dsimp only; omega)⟩ (hasR_cons (by conv => lhs; whnf) (by rfl) rfl trivial) trivial
  refine awp_exit ?_
  refine k_seq_exit ?_
  refine k_rnd_exit2 ?_
  refine k_blk_exit ?_
  refine k_seq ?_
  refine awp_seq ?_
  refine awp_region ?_
  refine s_as ?_
  refine k_nil ?_
  refine k_seq ?_
  refine awp_ret ?_
  refine k_fin ?_
  obtain rfl := Option.some.inj hF2
  exact ends_gen [] [] (by rw [Try.results164]; exact (res_tmp (by conv => lhs; whnf) res_nil))
def m_spec_l3Fitting_AC (fuel : Nat) : Prop := ∀ (x1 : (List Bind)) (x2 : Form) (r : (List Int)), m_spec_l3Fitting fuel x1 x2 = some r → AC Try.prog 163 [.t (.sl (x1.map Bind.row)), .ag [.t (.sc (.int .i64 x2.kind)), .t (.sc (.str x2.name)), .t (.sc (.int .i64 x2.n)), .t (.sl (x2.scopes.map rI)), .t (.sl (x2.kids.map Form.row))]] noOb (.t (.sl (r.map rI))) noOb
theorem m_spec_l3Fitting_ok (fuel : Nat) : m_spec_l3Fitting_AC fuel := by
  intro x1 x2 r hF0
  unfold m_spec_l3Fitting at hF0
  refine AC_intro (rs := [.t (.sl (r.map rI))]) Try.func163 rfl (by kernel_rfl) (by simp [Try.ntmps163]) (by simp [noOb]) ?_
  intro C hC
  rw [Try.ntmps163]
  refine awp_seq ?_
  refine awp_region ?_
  refine s_box ?_
  refine s_as ?_
  refine k_nil ?_
  refine k_seq ?_
  refine awp_seq ?_
  refine awp_region ?_
  refine s_bs rI ([] : List Int) yP22 yR3 ?_
  refine s_as ?_
  refine k_nil ?_
  refine k_seq ?_
  refine awp_seq ?_
  refine awp_seq ?_
  refine awp_region ?_
  refine s_as ?_
  refine k_nil ?_
  refine k_seq ?_
  refine awp_block ?_
  refine awp_mv 5 7 5020 (by conv => lhs; whnf) (by conv => lhs; whnf) rfl ?_
  refine awp_frame2 [5, 6, 8, 9, 10, 11, 12, 13, 14, 15, 16, 17, 18, 19, 20, 21, 22, 23, 24, 25, 26, 27, 28, 29, 30, 31, 32, 33, 34, 35] [5020] [34, 35] [5020] (fun a : Nat × (List Int) × Int => a.1) (fun a : Nat × (List Int) × Int => [(5, .ar 5020), (6, .t (.sc (.int .i64 a.2.2)))]) (fun a : Nat × (List Int) × Int => [(5020, .arr (a.2.1.map rI) 3 true)]) (fun a : Nat × (List Int) × Int => a.1 ≤ fuel ∧ m_spec_l3Fitting_l1 a.1 x1 x2 a.2.1 a.2.2 = some r ∧ 0 ≤ a.2.2) (fuel, ([] : List Int), 0) ⟨Nat.le_refl _, hF0, by simp⟩ (by rfl) (by rfl) (fun _ => rfl) (hasF_cons (by conv => lhs; whnf) (by rfl) (hasF_cons (by conv => lhs; whnf) (by rfl) hasF_nil)) (hasO_cons (by conv => lhs; whnf) (by rfl) hasO_nil) (fresh_C hC rfl) (by repeat (first | exact freshS_args rfl | refine freshS_upd rfl ?_ | refine freshS_frame rfl ?_)) (by repeat (first | exact freshM_no | exact objs_fresh rfl | refine freshM_upd rfl ?_ | refine freshM_frame rfl ?_)) ?_
  clear hF0
  rintro ⟨fu, g1, g2⟩ ⟨hl3, hF1, hn_g2⟩
  dsimp only at hl3 hF1 hn_g2 ⊢
  obtain _ | fu := fu
  · rw [m_spec_l3Fitting_l1] at hF1; cases hF1
  rw [m_spec_l3Fitting_l1] at hF1
  refine awp_seq ?_
  refine awp_seq ?_
  refine awp_region ?_
  refine s_mv ?_
  refine s_mv ?_
  refine s_lenT yU135 ?_
  refine s_lt ?_
  refine k_nil ?_
  refine k_seq ?_
  refine w_cond hF1 (fun hc4 hF2 => ?_) (fun hc4 hF2 => ?_) <;> clear hF1
  refine awp_lenT 0 (fun hb5 => ?_)
  refine awp_skip ?_
  refine k_seq ?_
  refine awp_seq ?_
  refine awp_block ?_
  refine awp_seqJ [14, 15, 16, 17, 18, 19, 20, 21, 22, 23, 24, 25, 26, 27, 28, 29, 30, 31] [] [] [] (fun a : Nat × Bool => [(31, .t (.sc (.bool a.2)))]) (fun a : Nat × Bool => []) (fun a : Nat × Bool => a.1 ≤ fu ∧ m_spec_l3Fitting_j2 a.1 x1 x2 g1 g2 a.2 = some r) (by rfl) (fun _ => rfl) (fun _ h => by cases h) freshS_nil freshM_nil ?_ ?_
  refine awp_draw yMix (by kernel_rfl) ?_
  refine s_mv ?_
  refine s_mv ?_
  replace hF2 := bind_some' hF2
  obtain ⟨v6, hv6, hF3⟩ := hF2
  refine s_ixT Bind.row hv6 (Bind.row_eq _) yE135 ?_
  refine s_fa yF155_0 ?_
  refine s_ld1 yA9 ?_
  refine s_fa yF32_1 ?_
  refine s_ld1 yA9 ?_
  refine s_eqS ?_
  refine s_mv ?_
  refine w_guard _ 22 hF3 (fun hc7 hF4 => ?_) (fun hc7 hF4 => ?_) <;> clear hF3
  refine s_mv ?_
  refine s_mv ?_
  replace hF4 := bind_some' hF4
  obtain ⟨v8, hv8, hF5⟩ := hF4
  refine s_ixT Bind.row hv8 (Bind.row_eq _) yE135 ?_
  refine s_fa yF155_1 ?_
  refine s_ld1 yA22 ?_
  refine s_fa yF32_3 ?_
  refine s_ld1 yA22 ?_
  replace hF5 := bind_some' hF5
  obtain ⟨v9, hv9, hF6⟩ := hF5
  refine s_pure [] (m_spec_ScopesWithin_ok fu _ _ _ hv9) ?_
  refine s_pkt ?_
  refine k_nilD (by kernel_rfl) ?_
  exact s_join (fu, v9) [] ⟨by first | omega | (dsimp only; omega), hF6⟩ (hasR_cons (by conv => lhs; whnf) (by rfl) rfl trivial) trivial
  iterate 8 refine r_no rfl ?_
  refine s_pkf ?_
  refine k_nilD (by kernel_rfl) ?_
  exact s_join (fu, false) [] ⟨by first | omega | (dsimp only; omega), hF4⟩ (hasR_cons (by conv => lhs; whnf) (by rfl) rfl trivial) trivial
  clear hF2
  rintro ⟨fu, g10⟩ ⟨hl11, hF3⟩
  dsimp only at hl11 hF3 ⊢
  obtain _ | fu := fu
  · rw [m_spec_l3Fitting_j2] at hF3; cases hF3
  rw [m_spec_l3Fitting_j2] at hF3
  refine w_cond hF3 (fun hc12 hF4 => ?_) (fun hc12 hF4 => ?_) <;> clear hF3
  refine awp_region ?_
  refine s_mv ?_
  refine s_mv ?_
  refine s_bs rI [g2] yP22 yR3 ?_
  obtain ⟨hk13, hF5⟩ := chk_some hF4
  refine s_apT rI (fun _ => rfl) hk13 yP22 ?_
  refine s_as ?_
  refine k_nil ?_
  refine k_blk ?_
  refine k_seq ?_
  refine awp_region ?_
  refine s_mv ?_
  refine s_add (winc2 hc4 hb5 hn_g2) ?_
  refine s_as ?_
  refine k_nil ?_
  exact s_rnd2 (fu, (g1 ++ [g2]), (g2 + 1)) [(5020, 35)] ⟨by first | omega | (dsimp only; omega), hF5, by first | omega | (dsimp only; omega)⟩ (hasR_cons (by conv => lhs; whnf) (by rfl) rfl (hasR_cons (by conv => lhs; whnf) (by rfl) rfl trivial)) (hasQ_cons (by conv => lhs; whnf) (by rfl) rfl trivial)
  refine awp_skip ?_
  refine k_blk ?_
  refine k_seq ?_
  refine awp_region ?_
  refine s_mv ?_
  refine s_add (winc2 hc4 hb5 hn_g2) ?_
  refine s_as ?_
  refine k_nil ?_
  exact s_rnd2 (fu, g1, (g2 + 1)) [] ⟨by first | omega | (dsimp only; omega), hF4, by first | omega | (dsimp only; omega)⟩ (hasR_cons (by conv => lhs; whnf) (by rfl) rfl (hasR_cons (by conv => lhs; whnf) (by rfl) rfl trivial)) (hasQ_cons (by conv => lhs; whnf) (by rfl) rfl trivial)
  refine awp_exit ?_
  refine k_seq_exit ?_
  refine k_rnd_exit2 ?_
  refine k_blk_exit ?_
  refine k_seq ?_
  refine awp_seq ?_
  refine awp_region ?_
  refine s_mv ?_
  refine s_as ?_
  refine k_nil ?_
  refine k_seq ?_
  refine awp_ret ?_
  refine k_fin ?_
  obtain rfl := Option.some.inj hF2
  exact ends_gen [] [5020] (by rw [Try.results163]; exact (res_tmp (by conv => lhs; whnf) res_nil))
end Go.Abs
end
section
set_option maxRecDepth 100000
set_option maxHeartbeats 4000000
set_option linter.unusedVariables false
namespace Go.Abs
open Go.Proofs
def m_spec_l3Find_AC (fuel : Nat) : Prop := ∀ (x1 : (List Bind)) (x2 : Form) (r : (Int × Int)), m_spec_l3Find fuel x1 x2 = some r → AC Try.prog 159 [.t (.sl (x1.map Bind.row)), .ag [.t (.sc (.int .i64 x2.kind)), .t (.sc (.str x2.name)), .t (.sc (.int .i64 x2.n)), .t (.sl (x2.scopes.map rI)), .t (.sl (x2.kids.map Form.row))]] noOb (.tp [.t (.sc (.int .i64 r.1)), .t (.sc (.int .i64 r.2))]) noOb
theorem m_spec_l3Find_ok (fuel : Nat) : m_spec_l3Find_AC fuel := by
  intro x1 x2 r hF0
  unfold m_spec_l3Find at hF0
  refine AC_intro (rs := [.t (.sc (.int .i64 r.1)), .t (.sc (.int .i64 r.2))]) Try.func159 rfl (by kernel_rfl) (by simp [Try.ntmps159]) (by simp [noOb]) ?_
  intro C hC
  rw [Try.ntmps159]
  refine awp_seq ?_
  refine awp_region ?_
  refine s_box ?_
  refine s_as ?_
  refine s_as ?_
  refine k_nil ?_
  refine k_seq ?_
  refine awp_seq ?_
  refine awp_region ?_
  refine s_mv ?_
  refine s_ldW yA32 yS32 ?_
  replace hF0 := bind_some' hF0
  obtain ⟨v1, hv1, hF1⟩ := hF0
  refine s_pure [] (m_spec_l3Fitting_ok fuel _ _ _ hv1) ?_
  refine s_as ?_
  refine k_nil ?_
  refine k_seq ?_
  refine awp_seq ?_
  refine awp_seq ?_
  refine awp_region ?_
  refine s_as ?_
  refine k_nil ?_
  refine k_seq ?_
  refine awp_block ?_
  refine awp_frame2 [4, 5, 7, 8, 9, 13, 14, 15, 16, 17, 18, 19, 20, 21, 22, 23, 24, 25, 26, 27, 28, 29, 30, 31, 32, 33, 34, 35, 36, 37, 38, 39, 40, 41, 42, 43, 44, 45, 46, 47, 48, 49] [] [] [] (fun a : Nat × Int => a.1) (fun a : Nat × Int => [(7, .t (.sc (.int .i64 a.2)))]) (fun a : Nat × Int => []) (fun a : Nat × Int => a.1 ≤ fuel ∧ m_spec_l3Find_l1 a.1 x1 v1 a.2 = some r ∧ 0 ≤ a.2) (fuel, 0) ⟨Nat.le_refl _, hF1, by simp⟩ (by rfl) (by rfl) (fun _ => rfl) (hasF_cons (by conv => lhs; whnf) (by rfl) hasF_nil) hasO_nil (fun _ h => by cases h) freshS_nil freshM_nil ?_
  clear hF1
  rintro ⟨fu, g2⟩ ⟨hl3, hF2, hn_g2⟩
  dsimp only at hl3 hF2 hn_g2 ⊢
  obtain _ | fu := fu
  · rw [m_spec_l3Find_l1] at hF2; cases hF2
  rw [m_spec_l3Find_l1] at hF2
  refine awp_seq ?_
  refine awp_seq ?_
  refine awp_region ?_
  refine s_mv ?_
  refine s_mv ?_
  refine s_lenT yU22 ?_
  refine s_lt ?_
  refine k_nil ?_
  refine k_seq ?_
  refine w_cond hF2 (fun hc4 hF3 => ?_) (fun hc4 hF3 => ?_) <;> clear hF2
  refine awp_lenT 6 (fun hb5 => ?_)
  refine awp_skip ?_
  refine k_seq ?_
  refine awp_seq ?_
  refine awp_block ?_
  refine awp_seq ?_
  refine awp_region ?_
  refine s_as ?_
  refine k_nil ?_
  refine k_seq ?_
  refine awp_seqJ [8, 9, 19, 20, 21, 22, 23, 24, 25, 26, 27, 28, 29, 30, 31, 32, 33, 34, 35, 36, 37, 38, 39, 40, 41, 42, 43, 44] [] [] [] (fun a : Nat × Bool => [(8, .t (.sc (.bool a.2)))]) (fun a : Nat × Bool => []) (fun a : Nat × Bool => a.1 ≤ fu ∧ m_spec_l3Find_j2 a.1 x1 v1 g2 a.2 = some r) (by rfl) (fun _ => rfl) (fun _ h => by cases h) freshS_nil freshM_nil ?_ ?_
  refine awp_seq ?_
  refine awp_region ?_
  refine s_as ?_
  refine k_nil ?_
  refine k_seq ?_
  refine awp_block ?_
  refine awp_frame2 [8, 9, 19, 20, 21, 22, 23, 24, 25, 26, 27, 28, 29, 30, 31, 32, 33, 34, 35, 36, 37, 38, 39, 40, 41, 42, 43, 44] [] [] [] (fun a : Nat × Bool × Int => a.1) (fun a : Nat × Bool × Int => [(8, .t (.sc (.bool a.2.1))), (9, .t (.sc (.int .i64 a.2.2)))]) (fun a : Nat × Bool × Int => []) (fun a : Nat × Bool × Int => a.1 ≤ fu ∧ m_spec_l3Find_l3 a.1 x1 v1 g2 a.2.1 a.2.2 = some r ∧ 0 ≤ a.2.2) (fu, true, 0) ⟨Nat.le_refl _, hF3, by simp⟩ (by rfl) (by rfl) (fun _ => rfl) (hasF_cons (by conv => lhs; whnf) (by rfl) (hasF_cons (by conv => lhs; whnf) (by rfl) hasF_nil)) hasO_nil (fun _ h => by cases h) freshS_nil freshM_nil ?_
  clear hF3
  rintro ⟨fu, g6, g7⟩ ⟨hl8, hF4, hn_g7⟩
  dsimp only at hl8 hF4 hn_g7 ⊢
  obtain _ | fu := fu
  · rw [m_spec_l3Find_l3] at hF4; cases hF4
  rw [m_spec_l3Find_l3] at hF4
  refine awp_seq ?_
  refine awp_seq ?_
  refine awp_region ?_
  refine s_mv ?_
  refine s_mv ?_
  refine s_lenT yU22 ?_
  refine s_lt ?_
  refine k_nil ?_
  refine k_seq ?_
  refine w_cond hF4 (fun hc9 hF5 => ?_) (fun hc9 hF5 => ?_) <;> clear hF4
  refine awp_skip ?_
  refine k_seq ?_
  refine awp_seqJ [8, 25, 26, 27, 28, 29, 30, 31, 32, 33, 34, 35, 36, 37, 38, 39, 40, 41, 42, 43, 44] [] [] [] (fun a : Nat × Bool => [(8, .t (.sc (.bool a.2)))]) (fun a : Nat × Bool => []) (fun a : Nat × Bool => a.1 ≤ fu ∧ m_spec_l3Find_j4 a.1 x1 v1 g2 g7 a.2 = some r) (by rfl) (fun _ => rfl) (fun _ h => by cases h) freshS_nil freshM_nil ?_ ?_
  refine awp_block ?_
  refine awp_draw yMix (by kernel_rfl) ?_
  refine s_mv ?_
  refine s_mv ?_
  refine w_guard _ 26 hF5 (fun hc10 hF6 => ?_) (fun hc10 hF6 => ?_) <;> clear hF5
  iterate 3 refine s_mv ?_
  replace hF6 := bind_some' hF6
  obtain ⟨v11, hv11, hF7⟩ := hF6
  refine s_ixT rI hv11 rfl yE22 ?_
  refine s_ld1 yA3 ?_
  replace hF7 := bind_some' hF7
  obtain ⟨v12, hv12, hF8⟩ := hF7
  refine s_ixT Bind.row hv12 (Bind.row_eq _) yE135 ?_
  refine s_fa yF155_1 ?_
  refine s_ld1 yA22 ?_
  iterate 3 refine s_mv ?_
  replace hF8 := bind_some' hF8
  obtain ⟨v13, hv13, hF9⟩ := hF8
  refine s_ixT rI hv13 rfl yE22 ?_
  refine s_ld1 yA3 ?_
  replace hF9 := bind_some' hF9
  obtain ⟨v14, hv14, hF10⟩ := hF9
  refine s_ixT Bind.row hv14 (Bind.row_eq _) yE135 ?_
  refine s_fa yF155_1 ?_
  refine s_ld1 yA22 ?_
  replace hF10 := bind_some' hF10
  obtain ⟨v15, hv15, hF11⟩ := hF10
  refine s_pure [] (m_spec_ScopesWithin_ok fu _ _ _ hv15) ?_
  refine s_pkt ?_
  refine s_as ?_
  refine k_nilD (by kernel_rfl) ?_
  refine k_blk ?_
  exact s_join (fu, v15) [] ⟨by first | omega | (dsimp only; omega), hF11⟩ (hasR_cons (by conv => lhs; whnf) (by rfl) rfl trivial) trivial
  iterate 17 refine r_no rfl ?_
  refine s_pkf ?_
  refine s_as ?_
  refine k_nilD (by kernel_rfl) ?_
  refine k_blk ?_
  exact s_join (fu, false) [] ⟨by first | omega | (dsimp only; omega), hF6⟩ (hasR_cons (by conv => lhs; whnf) (by rfl) rfl trivial) trivial
  clear hF5
  rintro ⟨fu, g16⟩ ⟨hl17, hF6⟩
  dsimp only at hl17 hF6 ⊢
  obtain _ | fu := fu
  · rw [m_spec_l3Find_j4] at hF6; cases hF6
  rw [m_spec_l3Find_j4] at hF6
  refine awp_region ?_
  refine s_mv ?_
  refine s_add (winc2 hc9 hb5 hn_g7) ?_
  refine s_as ?_
  refine k_nil ?_
  exact s_rnd2 (fu, g16, (g7 + 1)) [] ⟨by first | omega | (dsimp only; omega), hF6, by first | omega | (dsimp only; omega)⟩ (hasR_cons (by conv => lhs; whnf) (by rfl) rfl (hasR_cons (by conv => lhs; whnf) (by rfl) rfl trivial)) trivial
  refine awp_exit ?_
  refine k_seq_exit ?_
  refine k_rnd_exit2 ?_
  refine k_blk_exit ?_
  exact s_join (fu, g6) [] ⟨by first | omega | (dsimp only; omega), hF5⟩ (hasR_cons (by conv => lhs; whnf) (by rfl) rfl trivial) trivial
  clear hF3
  rintro ⟨fu, g18⟩ ⟨hl19, hF4⟩
  dsimp only at hl19 hF4 ⊢
  obtain _ | fu := fu
  · rw [m_spec_l3Find_j2] at hF4; cases hF4
  rw [m_spec_l3Find_j2] at hF4
  refine awp_seq ?_
  refine awp_region ?_
  refine s_mv ?_
  refine k_nil ?_
  refine k_seq ?_
  refine w_cond hF4 (fun hc20 hF5 => ?_) (fun hc20 hF5 => ?_) <;> clear hF4
  refine awp_seq ?_
  refine awp_region ?_
  refine s_mv ?_
  refine s_mv ?_
  replace hF5 := bind_some' hF5
  obtain ⟨v21, hv21, hF6⟩ := hF5
  refine s_ixT rI hv21 rfl yE22 ?_
  refine s_ld1 yA3 ?_
  refine s_as ?_
  refine s_as ?_
  refine k_nil ?_
  refine k_seq ?_
  refine awp_ret ?_
  refine k_blk_ret ?_
  refine k_seq_ret ?_
  refine k_rnd_ret2 ?_
  refine k_blk_ret ?_
  refine k_seq_ret ?_
  refine k_fin ?_
  obtain rfl := Option.some.inj hF6
  exact ends_gen [] [] (by rw [Try.results159]; exact (res_tmp (by conv => lhs; whnf) (res_tmp (by conv => lhs; whnf) res_nil)))
  refine awp_skip ?_
  refine k_blk ?_
  refine k_seq ?_
  refine awp_region ?_
  refine s_mv ?_
  refine s_add (winc2 hc4 hb5 hn_g2) ?_
  refine s_as ?_
  refine k_nil ?_
  exact s_rnd2 (fu, (g2 + 1)) [] ⟨by first | omega | (dsimp only; omega), hF5, by first | omega | (dsimp only; omega)⟩ (hasR_cons (by conv => lhs; whnf) (by rfl) rfl trivial) trivial
  refine awp_exit ?_
  refine k_seq_exit ?_
  refine k_rnd_exit2 ?_
  refine k_blk_exit ?_
  refine k_seq ?_
  refine awp_seq ?_
  refine awp_seq ?_
  refine awp_region ?_
  refine s_mv ?_
  refine s_lenT yU22 ?_
  refine s_gt ?_
  refine k_nil ?_
  refine k_seq ?_
  refine w_cond hF3 (fun hc22 hF4 => ?_) (fun hc22 hF4 => ?_) <;> clear hF3
  refine awp_lenT 6 (fun hb23 => ?_)
  refine awp_seq ?_
  refine awp_region ?_
  refine s_as ?_
  refine s_as ?_
  refine k_nil ?_
  refine k_seq ?_
  refine awp_ret ?_
  refine k_seq_ret ?_
  refine k_fin ?_
  obtain rfl := Option.some.inj hF4
  exact ends_gen [] [] (by rw [Try.results159]; exact (res_tmp (by conv => lhs; whnf) (res_tmp (by conv => lhs; whnf) res_nil)))
  refine awp_skip ?_
  refine k_seq ?_
  refine awp_seq ?_
  refine awp_region ?_
  refine s_as ?_
  refine s_as ?_
  refine k_nil ?_
  refine k_seq ?_
  refine awp_ret ?_
  refine k_fin ?_
  obtain rfl := Option.some.inj hF4
  exact ends_gen [] [] (by rw [Try.results159]; exact (res_tmp (by conv => lhs; whnf) (res_tmp (by conv => lhs; whnf) res_nil)))
def m_spec_l3Same_AC (fuel : Nat) : Prop := ∀ (x1 : (List Bind)) (x2 : Form) (x3 : Form) (r : Bool), m_spec_l3Same fuel x1 x2 x3 = some r → AC Try.prog 153 [.t (.sl (x1.map Bind.row)), .ag [.t (.sc (.int .i64 x2.kind)), .t (.sc (.str x2.name)), .t (.sc (.int .i64 x2.n)), .t (.sl (x2.scopes.map rI)), .t (.sl (x2.kids.map Form.row))], .ag [.t (.sc (.int .i64 x3.kind)), .t (.sc (.str x3.name)), .t (.sc (.int .i64 x3.n)), .t (.sl (x3.scopes.map rI)), .t (.sl (x3.kids.map Form.row))]] noOb (.t (.sc (.bool r))) noOb
theorem m_spec_l3Same_ok (fuel : Nat) : m_spec_l3Same_AC fuel := by
  intro x1 x2 x3 r hF0
  unfold m_spec_l3Same at hF0
  refine AC_intro (rs := [.t (.sc (.bool r))]) Try.func153 rfl (by kernel_rfl) (by simp [Try.ntmps153]) (by simp [noOb]) ?_
  intro C hC
  rw [Try.ntmps153]
  refine awp_seq ?_
  refine awp_region ?_
  refine s_box ?_
  refine s_box ?_
  refine s_as ?_
  refine k_nil ?_
  refine k_seq ?_
  refine awp_seq ?_
  refine awp_region ?_
  refine s_mv ?_
  refine s_ldW yA32 yS32 ?_
  replace hF0 := bind_some' hF0
  obtain ⟨v1, hv1, hF1⟩ := hF0
  refine s_pure [] (m_spec_l3Find_ok fuel _ _ _ hv1) ?_
  refine s_mv ?_
  refine s_ext ?_
  refine s_ext ?_
  refine s_as ?_
  refine s_as ?_
  refine k_nil ?_
  refine k_seq ?_
  refine awp_seq ?_
  refine awp_region ?_
  refine s_mv ?_
  refine s_ldW yA32 yS32 ?_
  replace hF1 := bind_some' hF1
  obtain ⟨v2, hv2, hF2⟩ := hF1
  refine s_pure [] (m_spec_l3Find_ok fuel _ _ _ hv2) ?_
  refine s_mv ?_
  refine s_ext ?_
  refine s_ext ?_
  refine s_as ?_
  refine s_as ?_
  refine k_nil ?_
  refine k_seq ?_
  refine awp_seq ?_
  refine awp_seqJ [23, 24, 25, 26, 27, 28, 29] [] [] [] (fun a : Nat × Bool => [(29, .t (.sc (.bool a.2)))]) (fun a : Nat × Bool => []) (fun a : Nat × Bool => a.1 ≤ fuel ∧ m_spec_l3Same_j1 a.1 x1 x2 x3 v1 v2 a.2 = some r) (by rfl) (fun _ => rfl) (fun _ h => by cases h) freshS_nil freshM_nil ?_ ?_
  refine awp_region ?_
  refine s_mv ?_
  refine s_mv ?_
  refine s_ne ?_
  refine s_mv ?_
  refine w_guard _ 26 hF2 (fun hc3 hF3 => ?_) (fun hc3 hF3 => ?_) <;> clear hF2
  refine r_no rfl ?_
  refine r_no rfl ?_
  refine s_pkt ?_
  refine k_nil ?_
  exact s_join (fuel, true) [] ⟨by first | omega | (dsimp only; omega), hF3⟩ (hasR_cons (by conv => lhs; whnf) (by rfl) rfl trivial) trivial
  refine s_mv ?_
  refine s_eq ?_
  refine s_pkf ?_
  refine k_nil ?_
  exact s_join (fuel, (decide (v1.2 = 2))) [] ⟨by first | omega | (dsimp only; omega), hF3⟩ (hasR_cons (by conv => lhs; whnf) (by rfl) rfl trivial) trivial
  clear hF2
  rintro ⟨fu, g4⟩ ⟨hl5, hF3⟩
  dsimp only at hl5 hF3 ⊢
  obtain _ | fu := fu
  · rw [m_spec_l3Same_j1] at hF3; cases hF3
  rw [m_spec_l3Same_j1] at hF3
  refine w_cond hF3 (fun hc6 hF4 => ?_) (fun hc6 hF4 => ?_) <;> clear hF3
  refine awp_seq ?_
  refine awp_region ?_
  refine s_as ?_
  refine k_nil ?_
  refine k_seq ?_
  refine awp_ret ?_
  refine k_seq_ret ?_
  refine k_fin ?_
  obtain rfl := Option.some.inj hF4
  exact ends_gen [] [] (by rw [Try.results153]; exact (res_tmp (by conv => lhs; whnf) res_nil))
  refine awp_skip ?_
  refine k_seq ?_
  refine awp_seq ?_
  refine awp_seq ?_
  refine awp_region ?_
  refine s_mv ?_
  refine s_eq ?_
  refine k_nil ?_
  refine k_seq ?_
  refine w_cond hF4 (fun hc7 hF5 => ?_) (fun hc7 hF5 => ?_) <;> clear hF4
  refine awp_seq ?_
  refine awp_region ?_
  refine s_fa yF32_1 ?_
  refine s_ld1 yA9 ?_
  refine s_fa yF32_1 ?_
  refine s_ld1 yA9 ?_
  refine s_eqS ?_
  refine s_as ?_
  refine k_nil ?_
  refine k_seq ?_
  refine awp_ret ?_
  refine k_seq_ret ?_
  refine k_fin ?_
  obtain rfl := Option.some.inj hF5
  exact ends_gen [] [] (by rw [Try.results153]; exact (res_tmp (by conv => lhs; whnf) res_nil))
  refine awp_skip ?_
  refine k_seq ?_
  refine awp_seq ?_
  refine awp_draw yMix (by kernel_rfl) ?_
  refine s_mv ?_
  refine s_mv ?_
  replace hF5 := bind_some' hF5
  obtain ⟨v8, hv8, hF6⟩ := hF5
  refine s_ixT Bind.row hv8 (Bind.row_eq _) yE135 ?_
  refine s_fa yF155_2 ?_
  refine s_ld1 yA3 ?_
  refine s_mv ?_
  refine s_mv ?_
  replace hF6 := bind_some' hF6
  obtain ⟨v9, hv9, hF7⟩ := hF6
  refine s_ixT Bind.row hv9 (Bind.row_eq _) yE135 ?_
  refine s_fa yF155_2 ?_
  refine s_ld1 yA3 ?_
  refine s_eq ?_
  refine s_as ?_
  refine k_nilD (by kernel_rfl) ?_
  refine k_seq ?_
  refine awp_ret ?_
  refine k_fin ?_
  obtain rfl := Option.some.inj hF7
  exact ends_gen [] [] (by rw [Try.results153]; exact (res_tmp (by conv => lhs; whnf) res_nil))
def m_spec_l4Row_AC (fuel : Nat) : Prop := ∀ (x1 : Form) (x2 : (List Form)) (x3 : (List (List Hit))) (r : (List Hit)), m_spec_l4Row fuel x1 x2 x3 = some r → AC Try.prog 160 [.ag [.t (.sc (.int .i64 x1.kind)), .t (.sc (.str x1.name)), .t (.sc (.int .i64 x1.n)), .t (.sl (x1.scopes.map rI)), .t (.sl (x1.kids.map Form.row))], .t (.sl (x2.map Form.row)), .t (.sl (x3.map (rL Hit.row)))] noOb (.t (.sl (r.map Hit.row))) noOb
theorem m_spec_l4Row_ok (fuel : Nat) : m_spec_l4Row_AC fuel := by
  intro x1 x2 x3 r hF0
  unfold m_spec_l4Row at hF0
  refine AC_intro (rs := [.t (.sl (r.map Hit.row))]) Try.func160 rfl (by kernel_rfl) (by simp [Try.ntmps160]) (by simp [noOb]) ?_
  intro C hC
  rw [Try.ntmps160]
  refine awp_seq ?_
  refine awp_region ?_
  refine s_box ?_
  refine s_as ?_
  refine k_nil ?_
  refine k_seq ?_
  refine awp_seq ?_
  refine awp_region ?_
  refine s_bs Hit.row ([] : List Hit) yP34 yR65 ?_
  refine s_as ?_
  refine k_nil ?_
  refine k_seq ?_
  refine awp_seq ?_
  refine awp_region ?_
  refine s_bs Form.row ([] : List Form) yP30 yR32 ?_
  refine s_ldW yA32 yS32 ?_
  refine s_mv ?_
  replace hF0 := bind_some' hF0
  obtain ⟨v1, hv1, hF1⟩ := hF0
  refine s_call [(9300, 14), (9200, 12017)] [] _ _ (m_spec_l4Vars_ok fuel _ _ _ _ hv1) ?_
  refine s_as ?_
  refine k_nil ?_
  refine k_seq ?_
  refine awp_seq ?_
  refine awp_region ?_
  refine s_bs rI ([] : List Int) yP22 yR3 ?_
  refine s_ldW yA32 yS32 ?_
  refine s_mv ?_
  replace hF1 := bind_some' hF1
  obtain ⟨v2, hv2, hF2⟩ := hF1
  refine s_call [(9300, 18), (9200, 12021)] [] _ _ (m_spec_l4Depths_ok fuel _ _ _ _ _ hv2) ?_
  refine s_as ?_
  refine k_nil ?_
  refine k_seq ?_
  refine awp_seq ?_
  refine awp_seq ?_
  refine awp_region ?_
  refine s_as ?_
  refine k_nil ?_
  refine k_seq ?_
  refine awp_block ?_
  refine awp_mv 7 13 5020 (by conv => lhs; whnf) (by conv => lhs; whnf) rfl ?_
  refine awp_frame2 [7, 10, 11, 12, 22, 23, 24, 25, 26, 27, 28, 29, 30, 31, 32, 33, 34, 35, 36, 37, 38, 39, 40, 41, 42, 43, 44, 45, 46, 47, 48, 49, 50, 51, 52, 53, 54, 55, 56, 57, 58, 59] [5020] [11, 58, 59, 5040] [5020] (fun a : Nat × (List Hit) × Int => a.1) (fun a : Nat × (List Hit) × Int => [(7, .ar 5020), (10, .t (.sc (.int .i64 a.2.2)))]) (fun a : Nat × (List Hit) × Int => [(5020, .arr (a.2.1.map Hit.row) 65 true)]) (fun a : Nat × (List Hit) × Int => a.1 ≤ fuel ∧ m_spec_l4Row_l1 a.1 x3 v1 v2 a.2.1 a.2.2 = some r) (fuel, ([] : List Hit), 0) ⟨Nat.le_refl _, hF2⟩ (by rfl) (by rfl) (fun _ => rfl) (hasF_cons (by conv => lhs; whnf) (by rfl) (hasF_cons (by conv => lhs; whnf) (by rfl) hasF_nil)) (hasO_cons (by conv => lhs; whnf) (by rfl) hasO_nil) (fresh_C hC rfl) (by repeat (first | exact freshS_args rfl | refine freshS_upd rfl ?_ | refine freshS_frame rfl ?_)) (by repeat (first | exact freshM_no | exact objs_fresh rfl | refine freshM_upd rfl ?_ | refine freshM_frame rfl ?_)) ?_
  clear hF2
  rintro ⟨fu, g3, g4⟩ ⟨hl5, hF3⟩
  dsimp only at hl5 hF3 ⊢
  obtain _ | fu := fu
  · rw [m_spec_l4Row_l1] at hF3; cases hF3
  rw [m_spec_l4Row_l1] at hF3
  refine awp_seq ?_
  refine awp_seq ?_
  refine awp_region ?_
  refine s_mv ?_
  refine s_mv ?_
  refine s_lenA yU30 ?_
  refine s_lt ?_
  refine k_nil ?_
  refine k_seq ?_
  refine w_cond hF3 (fun hc6 hF4 => ?_) (fun hc6 hF4 => ?_) <;> clear hF3
  refine awp_lenA 8 12017 (fun hb7 => ?_)
  refine awp_skip ?_
  refine k_seq ?_
  refine awp_seq ?_
  refine awp_block ?_
  refine awp_seq ?_
  refine awp_draw yMix (by kernel_rfl) ?_
  refine s_mv ?_
  refine s_mv ?_
  replace hF4 := bind_some' hF4
  obtain ⟨v8, hv8, hF5⟩ := hF4
  refine s_ixA Form.row hv8 yE30 ?_
  refine s_lAN Form.row hv8 (Form.row_eq _) yA32 yS32 ?_
  refine s_mv ?_
  refine s_mv ?_
  replace hF5 := bind_some' hF5
  obtain ⟨v9, hv9, hF6⟩ := hF5
  refine s_ixA rI hv9 yE22 ?_
  refine s_lA1 rI hv9 rfl yA3 ?_
  refine s_add rfl ?_
  refine s_bld yZ65 yL65 ?_
  refine s_alloc yZ65 ?_
  refine s_stW yS65 ?_
  refine k_nilD (by kernel_rfl) ?_
  refine k_seq ?_
  refine awp_seq ?_
  refine awp_seq ?_
  refine awp_region ?_
  refine s_as ?_
  refine k_nil ?_
  refine k_seq ?_
  refine awp_block ?_
  refine awp_ownB 11 5040 65 [.t (.sc (.int .i64 v8.kind)), .t (.sc (.str v8.name)), .t (.sc (.int .i64 v8.n)), .t (.sl (v8.scopes.map rI)), .t (.sl (v8.kids.map Form.row)), .t (.sc (.int .i64 (w64 (v9 + 1)))), .t (.sc (.int .i64 0)), .t (.sc (.str (⟨#[]⟩ : ByteArray))), .t (.sc (.int .i64 0)), .nl, .nl, .ar 5040] yI65.choose_spec ?_
  refine awp_frame2 [12, 38, 39, 40, 41, 42, 43, 44, 45, 46, 47, 48, 49, 50, 51, 52, 53, 54, 55] [11, 5040] [53, 54] [5040] (fun a : Nat × Int × (List Hit) => a.1) (fun a : Nat × Int × (List Hit) => [(12, .t (.sc (.int .i64 a.2.1)))]) (fun a : Nat × Int × (List Hit) => [(11, .box [.t (.sc (.int .i64 v8.kind)), .t (.sc (.str v8.name)), .t (.sc (.int .i64 v8.n)), .t (.sl (v8.scopes.map rI)), .t (.sl (v8.kids.map Form.row)), .t (.sc (.int .i64 (w64 (v9 + 1)))), .t (.sc (.int .i64 0)), .t (.sc (.str (⟨#[]⟩ : ByteArray))), .t (.sc (.int .i64 0)), .nl, .nl, .ar 5040]), (5040, .arr (a.2.2.map Hit.row) 65 true)]) (fun a : Nat × Int × (List Hit) => a.1 ≤ fu ∧ m_spec_l4Row_l2 a.1 x3 v1 v2 g3 g4 v8 v9 a.2.1 a.2.2 = some r ∧ 0 ≤ a.2.1) (fu, 0, ([] : List Hit)) ⟨Nat.le_refl _, hF6, by simp⟩ (by rfl) (by rfl) (fun _ => rfl) (hasF_cons (by conv => lhs; whnf) (by rfl) hasF_nil) (hasO_cons (by conv => lhs; whnf) (by rfl) (hasO_cons (by conv => lhs; whnf) (by rfl) hasO_nil)) (fresh_C hC rfl) (by repeat (first | exact freshS_args rfl | refine freshS_upd rfl ?_ | refine freshS_frame rfl ?_)) (by repeat (first | exact freshM_no | exact objs_fresh rfl | refine freshM_upd rfl ?_ | refine freshM_frame rfl ?_)) ?_
  clear hF6
  rintro ⟨fu, g10, g11⟩ ⟨hl12, hF7, hn_g10⟩
  dsimp only at hl12 hF7 hn_g10 ⊢
  obtain _ | fu := fu
  · rw [m_spec_l4Row_l2] at hF7; cases hF7
  rw [m_spec_l4Row_l2] at hF7
  refine awp_seq ?_
  refine awp_seq ?_
  refine awp_region ?_
  refine s_mv ?_
  refine s_mv ?_
  refine s_lenT yU168 ?_
  refine s_lt ?_
  refine k_nil ?_
  refine k_seq ?_
  refine w_cond hF7 (fun hc13 hF8 => ?_) (fun hc13 hF8 => ?_) <;> clear hF7
  refine awp_lenT 2 (fun hb14 => ?_)
  refine awp_skip ?_
  refine k_seq ?_
  refine awp_seq ?_
  refine awp_block ?_
  refine awp_draw yMix (by kernel_rfl) ?_
  refine s_fa yF65_3 ?_
  refine s_ld1 yA34 ?_
  refine s_mv ?_
  refine s_mv ?_
  replace hF8 := bind_some' hF8
  obtain ⟨v15, hv15, hF9⟩ := hF8
  refine s_ixT (rL Hit.row) hv15 rfl yE168 ?_
  refine s_ld1 yA34 ?_
  refine s_mv ?_
  replace hF9 := bind_some' hF9
  obtain ⟨v16, hv16, hF10⟩ := hF9
  refine s_ixT Hit.row hv16 (Hit.row_eq _) yE34 ?_
  refine s_ldN yA65 yS65 ?_
  refine s_bs Hit.row [v16] yP34 yR65 ?_
  obtain ⟨hk17, hF11⟩ := chk_some hF10
  refine s_apT Hit.row (fun y => Hit.row_len y) hk17 yP34 ?_
  refine s_fa yF65_3 ?_
  refine s_stP yS34 ?_
  refine k_nilD (by kernel_rfl) ?_
  refine k_blk ?_
  refine k_seq ?_
  refine awp_region ?_
  refine s_mv ?_
  refine s_add (winc2 hc13 hb14 hn_g10) ?_
  refine s_as ?_
  refine k_nil ?_
  exact s_rnd2 (fu, (g10 + 1), (g11 ++ [v16])) [(5040, 54)] ⟨by first | omega | (dsimp only; omega), hF11, by first | omega | (dsimp only; omega)⟩ (hasR_cons (by conv => lhs; whnf) (by rfl) rfl trivial) (hasQ_cons (by conv => lhs; whnf) (by rfl) rfl (hasQ_cons (by conv => lhs; whnf) (by rfl) rfl trivial))
  refine awp_exit ?_
  refine k_seq_exit ?_
  refine k_rnd_exit2 ?_
  refine k_blk_exit ?_
  refine k_seq ?_
  refine awp_region ?_
  refine s_mv ?_
  refine s_ldW yA65 yS65 ?_
  refine s_bs Hit.row [(Hit.mk v8 (w64 (v9 + 1)) (Form.mk 0 (⟨#[]⟩ : ByteArray) 0 ([] : List Int) ([] : List Form)) g11)] yP34 yR65 ?_
  obtain ⟨hk18, hF9⟩ := chk_some hF8
  refine s_apT Hit.row (fun y => Hit.row_len y) hk18 yP34 ?_
  refine s_as ?_
  refine k_nil ?_
  refine k_blk ?_
  refine k_seq ?_
  refine awp_region ?_
  refine s_mv ?_
  refine s_add rfl ?_
  refine s_as ?_
  refine k_nil ?_
  exact s_rnd2 (fu, (g3 ++ [(Hit.mk v8 (w64 (v9 + 1)) (Form.mk 0 (⟨#[]⟩ : ByteArray) 0 ([] : List Int) ([] : List Form)) g11)]), (w64 (g4 + 1))) [(5020, 59)] ⟨by first | omega | (dsimp only; omega), hF9⟩ (hasR_cons (by conv => lhs; whnf) (by rfl) rfl (hasR_cons (by conv => lhs; whnf) (by rfl) rfl trivial)) (hasQ_cons (by conv => lhs; whnf) (by rfl) rfl trivial)
  refine awp_exit ?_
  refine k_seq_exit ?_
  refine k_rnd_exit2 ?_
  refine k_blk_exit ?_
  refine k_seq ?_
  refine awp_seq ?_
  refine awp_region ?_
  refine s_mv ?_
  refine s_as ?_
  refine k_nil ?_
  refine k_seq ?_
  refine awp_ret ?_
  refine k_fin ?_
  obtain rfl := Option.some.inj hF4
  exact ends_gen [] [5020] (by rw [Try.results160]; exact (res_tmp (by conv => lhs; whnf) res_nil))
def m_spec_l4List_AC (fuel : Nat) : Prop := ∀ (x1 : (List Bind)) (x2 : (List Form)) (x3 : (List Form)) (x4 : (List Form)) (r : ((List Hit) × Bool)), m_spec_l4List fuel x1 x2 x3 x4 = some r → AC Try.prog 154 [.t (.sl (x1.map Bind.row)), .t (.sl (x2.map Form.row)), .t (.sl (x3.map Form.row)), .t (.sl (x4.map Form.row))] noOb (.tp [.t (.sl (r.1.map Hit.row)), .t (.sc (.bool r.2))]) noOb
def m_spec_l4Match_AC (fuel : Nat) : Prop := ∀ (x1 : (List Bind)) (x2 : Form) (x3 : (List Form)) (x4 : Form) (r : ((List Hit) × Bool)), m_spec_l4Match fuel x1 x2 x3 x4 = some r → AC Try.prog 148 [.t (.sl (x1.map Bind.row)), .ag [.t (.sc (.int .i64 x2.kind)), .t (.sc (.str x2.name)), .t (.sc (.int .i64 x2.n)), .t (.sl (x2.scopes.map rI)), .t (.sl (x2.kids.map Form.row))], .t (.sl (x3.map Form.row)), .ag [.t (.sc (.int .i64 x4.kind)), .t (.sc (.str x4.name)), .t (.sc (.int .i64 x4.n)), .t (.sl (x4.scopes.map rI)), .t (.sl (x4.kids.map Form.row))]] noOb (.tp [.t (.sl (r.1.map Hit.row)), .t (.sc (.bool r.2))]) noOb
theorem m_spec_l4List_st (fu : Nat) (ih_m_spec_l4List : ∀ k, k ≤ fu → m_spec_l4List_AC k) (ih_m_spec_l4Match : ∀ k, k ≤ fu → m_spec_l4Match_AC k) : m_spec_l4List_AC (fu + 1) := by
  intro x1 x2 x3 x4 r hF0
  rw [m_spec_l4List] at hF0
  refine AC_intro (rs := [.t (.sl (r.1.map Hit.row)), .t (.sc (.bool r.2))]) Try.func154 rfl (by kernel_rfl) (by simp [Try.ntmps154]) (by simp [noOb]) ?_
  intro C hC
  rw [Try.ntmps154]
  refine awp_seq ?_
  refine awp_region ?_
  refine s_as ?_
  refine s_as ?_
  refine k_nil ?_
  refine k_seq ?_
  refine awp_seq ?_
  refine awp_region ?_
  refine s_bs Hit.row ([] : List Hit) yP34 yR65 ?_
  refine s_as ?_
  refine k_nil ?_
  refine k_seq ?_
  refine awp_seq ?_
  refine awp_region ?_
  refine s_as ?_
  refine k_nil ?_
  refine k_seq ?_
  refine awp_seqJ [11, 12, 22, 23, 24, 25, 26, 27, 28, 29, 30, 31, 32, 33, 34, 35] [] [] [] (fun a : Nat × Int => [(11, .t (.sc (.int .i64 a.2)))]) (fun a : Nat × Int => []) (fun a : Nat × Int => a.1 ≤ fu ∧ m_spec_l4List_j1 a.1 x1 x2 x3 x4 a.2 = some r) (by rfl) (fun _ => rfl) (fun _ h => by cases h) freshS_nil freshM_nil ?_ ?_
  refine awp_seq ?_
  refine awp_region ?_
  refine s_as ?_
  refine k_nil ?_
  refine k_seq ?_
  refine awp_block ?_
  refine awp_frame2 [11, 12, 22, 23, 24, 25, 26, 27, 28, 29, 30, 31, 32, 33, 34, 35] [] [] [] (fun a : Nat × Int × Int => a.1) (fun a : Nat × Int × Int => [(11, .t (.sc (.int .i64 a.2.1))), (12, .t (.sc (.int .i64 a.2.2)))]) (fun a : Nat × Int × Int => []) (fun a : Nat × Int × Int => a.1 ≤ fu ∧ m_spec_l4List_l2 a.1 x1 x2 x3 x4 a.2.1 a.2.2 = some r) (fu, (-1), 0) ⟨Nat.le_refl _, hF0⟩ (by rfl) (by rfl) (fun _ => rfl) (hasF_cons (by conv => lhs; whnf) (by rfl) (hasF_cons (by conv => lhs; whnf) (by rfl) hasF_nil)) hasO_nil (fun _ h => by cases h) freshS_nil freshM_nil ?_
  clear hF0
  rintro ⟨fu, g1, g2⟩ ⟨hl3, hF1⟩
  dsimp only at hl3 hF1 ⊢
  obtain _ | fu := fu
  · rw [m_spec_l4List_l2] at hF1; cases hF1
  rw [m_spec_l4List_l2] at hF1
  refine awp_seq ?_
  refine awp_seq ?_
  refine awp_region ?_
  refine s_mv ?_
  refine s_add rfl ?_
  refine s_mv ?_
  refine s_lenT yU30 ?_
  refine s_lt ?_
  refine k_nil ?_
  refine k_seq ?_
  refine w_cond hF1 (fun hc4 hF2 => ?_) (fun hc4 hF2 => ?_) <;> clear hF1
  refine awp_skip ?_
  refine k_seq ?_
  refine awp_seq ?_
  refine awp_block ?_
  refine awp_seq ?_
  refine awp_region ?_
  refine s_mv ?_
  refine s_mv ?_
  refine s_add rfl ?_
  replace hF2 := bind_some' hF2
  obtain ⟨v5, hv5, hF3⟩ := hF2
  refine s_ixT Form.row hv5 (Form.row_eq _) yE30 ?_
  refine s_ldN yA32 yS32 ?_
  replace hF3 := bind_some' hF3
  obtain ⟨v6, hv6, hF4⟩ := hF3
  refine s_pure [] (m_spec_l4Dots_ok fu _ _ hv6) ?_
  refine k_nil ?_
  refine k_seq ?_
  refine w_cond hF4 (fun hc7 hF5 => ?_) (fun hc7 hF5 => ?_) <;> clear hF4
  refine awp_region ?_
  refine s_mv ?_
  refine s_as ?_
  refine k_nil ?_
  refine k_blk ?_
  refine k_seq ?_
  refine awp_region ?_
  refine s_mv ?_
  refine s_add rfl ?_
  refine s_as ?_
  refine k_nil ?_
  exact s_rnd2 (fu, g2, (w64 (g2 + 1))) [] ⟨by first | omega | (dsimp only; omega), hF5⟩ (hasR_cons (by conv => lhs; whnf) (by rfl) rfl (hasR_cons (by conv => lhs; whnf) (by rfl) rfl trivial)) trivial
  refine awp_skip ?_
  refine k_blk ?_
  refine k_seq ?_
  refine awp_region ?_
  refine s_mv ?_
  refine s_add rfl ?_
  refine s_as ?_
  refine k_nil ?_
  exact s_rnd2 (fu, g1, (w64 (g2 + 1))) [] ⟨by first | omega | (dsimp only; omega), hF5⟩ (hasR_cons (by conv => lhs; whnf) (by rfl) rfl (hasR_cons (by conv => lhs; whnf) (by rfl) rfl trivial)) trivial
  refine awp_exit ?_
  refine k_seq_exit ?_
  refine k_rnd_exit2 ?_
  refine k_blk_exit ?_
  exact s_join (fu, g1) [] ⟨by first | omega | (dsimp only; omega), hF2⟩ (hasR_cons (by conv => lhs; whnf) (by rfl) rfl trivial) trivial
  clear hF0
  rintro ⟨fu, g8⟩ ⟨hl9, hF1⟩
  dsimp only at hl9 hF1 ⊢
  obtain _ | fu := fu
  · rw [m_spec_l4List_j1] at hF1; cases hF1
  rw [m_spec_l4List_j1] at hF1
  refine awp_seqJ [8, 9, 36, 37, 38, 39, 40, 41, 42, 43, 44, 45, 46, 47, 48, 49, 50, 51, 52, 53, 54, 55, 56, 57] [] [] [] (fun a : Nat => []) (fun a : Nat => []) (fun a : Nat => a ≤ fu ∧ m_spec_l4List_j3 a x1 x2 x3 x4 g8  = some r) (by rfl) (fun _ => rfl) (fun _ h => by cases h) freshS_nil freshM_nil ?_ ?_
  refine awp_seq ?_
  refine awp_region ?_
  refine s_mv ?_
  refine s_lt ?_
  refine s_mv ?_
  refine w_guard _ 38 hF1 (fun hc10 hF2 => ?_) (fun hc10 hF2 => ?_) <;> clear hF1
  refine s_mv ?_
  refine s_lenT yU30 ?_
  refine s_mv ?_
  refine s_lenT yU30 ?_
  refine s_ne ?_
  refine s_pkt ?_
  refine s_mv ?_
  refine w_guard _ 45 hF2 (fun hc11 hF3 => ?_) (fun hc11 hF3 => ?_) <;> clear hF2
  iterate 10 refine r_no rfl ?_
  refine s_pkt ?_
  refine k_nil ?_
  refine k_seq ?_
  refine awp_true rfl ?_
  refine awp_seq ?_
  refine awp_region ?_
  refine s_mv ?_
  refine s_as ?_
  refine s_as ?_
  refine k_nil ?_
  refine k_seq ?_
  refine awp_ret ?_
  refine k_jn_ret ?_
  refine k_fin ?_
  obtain rfl := Option.some.inj hF3
  exact ends_gen [] [21] (by rw [Try.results154]; exact (res_tmp (by conv => lhs; whnf) (res_tmp (by conv => lhs; whnf) res_nil)))
  refine s_mv ?_
  refine s_ge ?_
  refine s_mv ?_
  refine w_guard _ 48 hF3 (fun hc12 hF4 => ?_) (fun hc12 hF4 => ?_) <;> clear hF3
  refine s_mv ?_
  refine s_lenT yU30 ?_
  refine s_mv ?_
  refine s_lenT yU30 ?_
  refine s_sub rfl ?_
  refine s_lt ?_
  refine s_pkt ?_
  refine s_pkf ?_
  refine k_nil ?_
  refine k_seq ?_
  refine w_cond hF4 (fun hc13 hF5 => ?_) (fun hc13 hF5 => ?_) <;> clear hF4
  refine awp_seq ?_
  refine awp_region ?_
  refine s_mv ?_
  refine s_as ?_
  refine s_as ?_
  refine k_nil ?_
  refine k_seq ?_
  refine awp_ret ?_
  refine k_jn_ret ?_
  refine k_fin ?_
  obtain rfl := Option.some.inj hF5
  exact ends_gen [] [21] (by rw [Try.results154]; exact (res_tmp (by conv => lhs; whnf) (res_tmp (by conv => lhs; whnf) res_nil)))
  refine awp_skip ?_
  exact s_join (fu) [] ⟨by first | omega | (dsimp only; omega), hF5⟩ trivial trivial
  iterate 6 refine r_no rfl ?_
  refine s_pkf ?_
  refine s_pkf ?_
  refine k_nil ?_
  refine k_seq ?_
  refine awp_false rfl ?_
  refine awp_skip ?_
  exact s_join (fu) [] ⟨by first | omega | (dsimp only; omega), hF4⟩ trivial trivial
  iterate 5 refine r_no rfl ?_
  refine s_pkf ?_
  refine s_mv ?_
  refine s_mv ?_
  refine s_ge ?_
  refine s_mv ?_
  refine w_guard _ 48 hF2 (fun hc14 hF3 => ?_) (fun hc14 hF3 => ?_) <;> clear hF2
  refine s_mv ?_
  refine s_lenT yU30 ?_
  refine s_mv ?_
  refine s_lenT yU30 ?_
  refine s_sub rfl ?_
  refine s_lt ?_
  refine s_pkt ?_
  refine s_pkf ?_
  refine k_nil ?_
  refine k_seq ?_
  refine w_cond hF3 (fun hc15 hF4 => ?_) (fun hc15 hF4 => ?_) <;> clear hF3
  refine awp_seq ?_
  refine awp_region ?_
  refine s_mv ?_
  refine s_as ?_
  refine s_as ?_
  refine k_nil ?_
  refine k_seq ?_
  refine awp_ret ?_
  refine k_jn_ret ?_
  refine k_fin ?_
  obtain rfl := Option.some.inj hF4
  exact ends_gen [] [21] (by rw [Try.results154]; exact (res_tmp (by conv => lhs; whnf) (res_tmp (by conv => lhs; whnf) res_nil)))
  refine awp_skip ?_
  exact s_join (fu) [] ⟨by first | omega | (dsimp only; omega), hF4⟩ trivial trivial
  iterate 6 refine r_no rfl ?_
  refine s_pkf ?_
  refine s_pkf ?_
  refine k_nil ?_
  refine k_seq ?_
  refine awp_false rfl ?_
  refine awp_skip ?_
  exact s_join (fu) [] ⟨by first | omega | (dsimp only; omega), hF3⟩ trivial trivial
  clear hF1
  rintro fu ⟨hl16, hF2⟩
  obtain _ | fu := fu
  · rw [m_spec_l4List_j3] at hF2; cases hF2
  rw [m_spec_l4List_j3] at hF2
  refine awp_seq ?_
  refine awp_region ?_
  refine s_as ?_
  refine k_nil ?_
  refine k_seq ?_
  refine awp_seq ?_
  refine awp_seq ?_
  refine awp_region ?_
  refine s_as ?_
  refine k_nil ?_
  refine k_seq ?_
  refine awp_block ?_
  refine awp_mv 10 21 5080 (by conv => lhs; whnf) (by conv => lhs; whnf) rfl ?_
  refine awp_frame2 [8, 9, 10, 13, 14, 15, 16, 17, 18, 19, 20, 58, 59, 60, 61, 62, 63, 64, 65, 66, 67, 68, 69, 70, 71, 72, 73, 74, 75, 76, 77, 78, 79, 80, 81, 82, 83, 84, 85, 86, 87, 88, 89, 90, 91, 92, 93, 94, 95, 96, 97, 98, 99, 100, 101, 102, 103, 104, 105, 106, 107, 108, 109, 110, 111, 112, 113, 114, 115, 116, 117, 118, 119, 120, 121, 122, 123, 124, 125, 126, 127, 128, 129, 130, 131, 132, 133, 134, 135, 136] [5080] [91, 94, 136, 5120] [5080] (fun a : Nat × Int × (List Hit) × Int => a.1) (fun a : Nat × Int × (List Hit) × Int => [(10, .ar 5080), (13, .t (.sc (.int .i64 a.2.2.2))), (14, .t (.sc (.int .i64 a.2.1)))]) (fun a : Nat × Int × (List Hit) × Int => [(5080, .arr (a.2.2.1.map Hit.row) 65 true)]) (fun a : Nat × Int × (List Hit) × Int => a.1 ≤ fu ∧ m_spec_l4List_l4 a.1 x1 x2 x3 x4 g8 a.2.1 a.2.2.1 a.2.2.2 = some r ∧ 0 ≤ a.2.1) (fu, 0, ([] : List Hit), 0) ⟨Nat.le_refl _, hF2, by simp⟩ (by rfl) (by rfl) (fun _ => rfl) (hasF_cons (by conv => lhs; whnf) (by rfl) (hasF_cons (by conv => lhs; whnf) (by rfl) (hasF_cons (by conv => lhs; whnf) (by rfl) hasF_nil))) (hasO_cons (by conv => lhs; whnf) (by rfl) hasO_nil) (fresh_C hC rfl) (by repeat (first | exact freshS_args rfl | refine freshS_upd rfl ?_ | refine freshS_frame rfl ?_)) (by repeat (first | exact freshM_no | exact objs_fresh rfl | refine freshM_upd rfl ?_ | refine freshM_frame rfl ?_)) ?_
  clear hF2
  rintro ⟨fu, g17, g18, g19⟩ ⟨hl20, hF3, hn_g17⟩
  dsimp only at hl20 hF3 hn_g17 ⊢
  obtain _ | fu := fu
  · rw [m_spec_l4List_l4] at hF3; cases hF3
  rw [m_spec_l4List_l4] at hF3
  refine awp_seq ?_
  refine awp_seq ?_
  refine awp_region ?_
  refine s_mv ?_
  refine s_mv ?_
  refine s_lenT yU30 ?_
  refine s_lt ?_
  refine k_nil ?_
  refine k_seq ?_
  refine w_cond hF3 (fun hc21 hF4 => ?_) (fun hc21 hF4 => ?_) <;> clear hF3
  refine awp_lenT 1 (fun hb22 => ?_)
  refine awp_skip ?_
  refine k_seq ?_
  refine awp_seq ?_
  refine awp_block ?_
  refine awp_seq ?_
  refine awp_seq ?_
  refine awp_region ?_
  refine s_mv ?_
  refine s_mv ?_
  replace hF4 := bind_some' hF4
  obtain ⟨v23, hv23, hF5⟩ := hF4
  refine s_ixT Form.row hv23 (Form.row_eq _) yE30 ?_
  refine s_ldN yA32 yS32 ?_
  replace hF5 := bind_some' hF5
  obtain ⟨v24, hv24, hF6⟩ := hF5
  refine s_pure [] (m_spec_l4Dots_ok fu _ _ hv24) ?_
  refine k_nil ?_
  refine k_seq ?_
  refine w_cond hF6 (fun hc25 hF7 => ?_) (fun hc25 hF7 => ?_) <;> clear hF6
  refine awp_exit ?_
  refine k_seq_exit ?_
  refine k_blk_exit ?_
  refine k_seq ?_
  refine awp_region ?_
  refine s_mv ?_
  refine s_add (winc2 hc21 hb22 hn_g17) ?_
  refine s_as ?_
  refine k_nil ?_
  exact s_rnd2 (fu, (g17 + 1), g18, g19) [] ⟨by first | omega | (dsimp only; omega), hF7, by first | omega | (dsimp only; omega)⟩ (hasR_cons (by conv => lhs; whnf) (by rfl) rfl (hasR_cons (by conv => lhs; whnf) (by rfl) rfl (hasR_cons (by conv => lhs; whnf) (by rfl) rfl trivial))) (hasQ_cons (by conv => lhs; whnf) (by rfl) rfl trivial)
  refine awp_skip ?_
  refine k_seq ?_
  refine awp_seq ?_
  refine awp_seq ?_
  refine awp_region ?_
  refine s_mv ?_
  refine s_mv ?_
  refine s_ne ?_
  refine k_nil ?_
  refine k_seq ?_
  refine w_cond hF7 (fun hc26 hF8 => ?_) (fun hc26 hF8 => ?_) <;> clear hF7
  refine awp_seq ?_
  refine awp_draw yMix (by kernel_rfl) ?_
  iterate 3 refine s_mv ?_
  replace hF8 := bind_some' hF8
  obtain ⟨v27, hv27, hF9⟩ := hF8
  refine s_ixT Form.row hv27 (Form.row_eq _) yE30 ?_
  refine s_ldN yA32 yS32 ?_
  iterate 3 refine s_mv ?_
  replace hF9 := bind_some' hF9
  obtain ⟨v28, hv28, hF10⟩ := hF9
  refine s_ixT Form.row hv28 (Form.row_eq _) yE30 ?_
  refine s_ldN yA32 yS32 ?_
  replace hF10 := bind_some' hF10
  obtain ⟨v29, hv29, hF11⟩ := hF10
  refine s_pure [] (ih_m_spec_l4Match fu (by omega) _ _ _ _ _ hv29) ?_
  refine s_mv ?_
  refine s_ext ?_
  refine s_ext ?_
  refine s_as ?_
  refine s_as ?_
  refine k_nilD (by kernel_rfl) ?_
  refine k_seq ?_
  refine awp_seq ?_
  refine awp_seq ?_
  refine awp_region ?_
  refine s_mv ?_
  refine s_not ?_
  refine k_nil ?_
  refine k_seq ?_
  refine w_cond hF11 (fun hc30 hF12 => ?_) (fun hc30 hF12 => ?_) <;> clear hF11
  refine awp_seq ?_
  refine awp_region ?_
  refine s_mv ?_
  refine s_as ?_
  refine s_as ?_
  refine k_nil ?_
  refine k_seq ?_
  refine awp_ret ?_
  refine k_seq_ret ?_
  refine k_seq_ret ?_
  refine k_blk_ret ?_
  refine k_seq_ret ?_
  refine k_rnd_ret2 ?_
  refine k_blk_ret ?_
  refine k_seq_ret ?_
  refine k_fin ?_
  obtain rfl := Option.some.inj hF12
  exact ends_gen [] [5080] (by rw [Try.results154]; exact (res_tmp (by conv => lhs; whnf) (res_tmp (by conv => lhs; whnf) res_nil)))
  refine awp_skip ?_
  refine k_seq ?_
  refine awp_seq ?_
  refine awp_region ?_
  refine s_mv ?_
  refine s_mv ?_
  obtain ⟨hk31, hF13⟩ := chk_some hF12
  refine s_apT Hit.row (fun y => Hit.row_len y) hk31 yP34 ?_
  refine s_as ?_
  refine k_nil ?_
  refine k_seq ?_
  refine awp_seq ?_
  refine awp_region ?_
  refine s_mv ?_
  refine s_add rfl ?_
  refine s_as ?_
  refine k_nil ?_
  refine k_seq ?_
  refine awp_exit ?_
  refine k_seq_exit ?_
  refine k_blk_exit ?_
  refine k_seq ?_
  refine awp_region ?_
  refine s_mv ?_
  refine s_add (winc2 hc21 hb22 hn_g17) ?_
  refine s_as ?_
  refine k_nil ?_
  exact s_rnd2 (fu, (g17 + 1), (g18 ++ v29.1), (w64 (g19 + 1))) [(5080, 91)] ⟨by first | omega | (dsimp only; omega), hF13, by first | omega | (dsimp only; omega)⟩ (hasR_cons (by conv => lhs; whnf) (by rfl) rfl (hasR_cons (by conv => lhs; whnf) (by rfl) rfl (hasR_cons (by conv => lhs; whnf) (by rfl) rfl trivial))) (hasQ_cons (by conv => lhs; whnf) (by rfl) rfl trivial)
  refine awp_skip ?_
  refine k_seq ?_
  refine awp_seq ?_
  refine awp_region ?_
  refine s_bs (rL Hit.row) ([] : List (List Hit)) yP168 yR34 ?_
  refine s_as ?_
  refine k_nil ?_
  refine k_seq ?_
  refine awp_seqJ [8, 9, 13, 17, 18, 19, 20, 95, 96, 97, 98, 99, 100, 101, 102, 103, 104, 105, 106, 107, 108, 109, 110, 111, 112, 113, 114, 115, 116, 117, 118, 119, 120, 121, 122, 123, 124, 125, 126, 127] [94, 5120] [] [] (fun a : Nat × Int × (List (List Hit)) => [(13, .t (.sc (.int .i64 a.2.1))), (17, .ar 5120)]) (fun a : Nat × Int × (List (List Hit)) => [(94, .dead), (5120, .arr (a.2.2.map (rL Hit.row)) 34 true)]) (fun a : Nat × Int × (List (List Hit)) => a.1 ≤ fu ∧ m_spec_l4List_j5 a.1 x1 x2 x3 x4 g8 g17 g18 a.2.1 a.2.2 = some r) (by rfl) (fun _ => rfl) (fun _ h => by cases h) freshS_nil freshM_nil ?_ ?_
  refine awp_seq ?_
  refine awp_region ?_
  refine s_mv ?_
  refine s_lenT yU30 ?_
  refine s_mv ?_
  refine s_lenT yU30 ?_
  refine s_sub rfl ?_
  refine s_sub rfl ?_
  refine s_as ?_
  refine k_nil ?_
  refine k_seq ?_
  refine awp_block ?_
  refine awp_mv 17 94 5120 (by conv => lhs; whnf) (by conv => lhs; whnf) rfl ?_
  refine awp_frame2 [8, 9, 13, 17, 18, 19, 20, 101, 102, 103, 104, 105, 106, 107, 108, 109, 110, 111, 112, 113, 114, 115, 116, 117, 118, 119, 120, 121, 122, 123, 124, 125, 126, 127] [5120] [124, 125] [5120] (fun a : Nat × Int × (List (List Hit)) × Int => a.1) (fun a : Nat × Int × (List (List Hit)) × Int => [(13, .t (.sc (.int .i64 a.2.1))), (17, .ar 5120), (18, .t (.sc (.int .i64 a.2.2.2)))]) (fun a : Nat × Int × (List (List Hit)) × Int => [(5120, .arr (a.2.2.1.map (rL Hit.row)) 34 true)]) (fun a : Nat × Int × (List (List Hit)) × Int => a.1 ≤ fu ∧ m_spec_l4List_l6 a.1 x1 x2 x3 x4 g8 g17 g18 a.2.1 a.2.2.1 a.2.2.2 = some r) (fu, g19, ([] : List (List Hit)), (w64 ((x4.length : Int) - (w64 ((x2.length : Int) - 2))))) ⟨Nat.le_refl _, hF8⟩ (by rfl) (by rfl) (fun _ => rfl) (hasF_cons (by conv => lhs; whnf) (by rfl) (hasF_cons (by conv => lhs; whnf) (by rfl) (hasF_cons (by conv => lhs; whnf) (by rfl) hasF_nil))) (hasO_cons (by conv => lhs; whnf) (by rfl) hasO_nil) (fresh_C hC rfl) (by repeat (first | exact freshS_args rfl | refine freshS_upd rfl ?_ | refine freshS_frame rfl ?_)) (by repeat (first | exact freshM_no | exact objs_fresh rfl | refine freshM_upd rfl ?_ | refine freshM_frame rfl ?_)) ?_
  clear hF8
  rintro ⟨fu, g32, g33, g34⟩ ⟨hl35, hF9⟩
  dsimp only at hl35 hF9 ⊢
  obtain _ | fu := fu
  · rw [m_spec_l4List_l6] at hF9; cases hF9
  rw [m_spec_l4List_l6] at hF9
  refine awp_seq ?_
  refine awp_seq ?_
  refine awp_region ?_
  refine s_mv ?_
  refine s_gt ?_
  refine k_nil ?_
  refine k_seq ?_
  refine w_cond hF9 (fun hc36 hF10 => ?_) (fun hc36 hF10 => ?_) <;> clear hF9
  refine awp_skip ?_
  refine k_seq ?_
  refine awp_seq ?_
  refine awp_block ?_
  refine awp_seq ?_
  refine awp_draw yMix (by kernel_rfl) ?_
  iterate 3 refine s_mv ?_
  replace hF10 := bind_some' hF10
  obtain ⟨v37, hv37, hF11⟩ := hF10
  refine s_ixT Form.row hv37 (Form.row_eq _) yE30 ?_
  refine s_ldN yA32 yS32 ?_
  iterate 3 refine s_mv ?_
  replace hF11 := bind_some' hF11
  obtain ⟨v38, hv38, hF12⟩ := hF11
  refine s_ixT Form.row hv38 (Form.row_eq _) yE30 ?_
  refine s_ldN yA32 yS32 ?_
  replace hF12 := bind_some' hF12
  obtain ⟨v39, hv39, hF13⟩ := hF12
  refine s_pure [] (ih_m_spec_l4Match fu (by omega) _ _ _ _ _ hv39) ?_
  refine s_mv ?_
  refine s_ext ?_
  refine s_ext ?_
  refine s_as ?_
  refine s_as ?_
  refine k_nilD (by kernel_rfl) ?_
  refine k_seq ?_
  refine awp_seq ?_
  refine awp_seq ?_
  refine awp_region ?_
  refine s_mv ?_
  refine s_not ?_
  refine k_nil ?_
  refine k_seq ?_
  refine w_cond hF13 (fun hc40 hF14 => ?_) (fun hc40 hF14 => ?_) <;> clear hF13
  refine awp_seq ?_
  refine awp_region ?_
  refine s_mv ?_
  refine s_as ?_
  refine s_as ?_
  refine k_nil ?_
  refine k_seq ?_
  refine awp_ret ?_
  refine k_seq_ret ?_
  refine k_blk_ret ?_
  refine k_seq_ret ?_
  refine k_rnd_ret2 ?_
  refine k_blk_ret ?_
  refine k_jn_ret ?_
  refine k_blk_ret ?_
  refine k_seq_ret ?_
  refine k_rnd_ret2 ?_
  refine k_blk_ret ?_
  refine k_seq_ret ?_
  refine k_fin ?_
  obtain rfl := Option.some.inj hF14
  exact ends_gen [] [5080] (by rw [Try.results154]; exact (res_tmp (by conv => lhs; whnf) (res_tmp (by conv => lhs; whnf) res_nil)))
  refine awp_skip ?_
  refine k_seq ?_
  refine awp_seq ?_
  refine awp_region ?_
  refine s_mv ?_
  refine s_mv ?_
  refine s_bs (rL Hit.row) [v39.1] yP168 yR34 ?_
  obtain ⟨hk41, hF15⟩ := chk_some hF14
  refine s_apT (rL Hit.row) (fun _ => rfl) hk41 yP168 ?_
  refine s_as ?_
  refine k_nil ?_
  refine k_seq ?_
  refine awp_region ?_
  refine s_mv ?_
  refine s_add rfl ?_
  refine s_as ?_
  refine k_nil ?_
  refine k_blk ?_
  refine k_seq ?_
  refine awp_region ?_
  refine s_mv ?_
  refine s_sub rfl ?_
  refine s_as ?_
  refine k_nil ?_
  exact s_rnd2 (fu, (w64 (g32 + 1)), (g33 ++ [v39.1]), (w64 (g34 - 1))) [(5120, 125)] ⟨by first | omega | (dsimp only; omega), hF15⟩ (hasR_cons (by conv => lhs; whnf) (by rfl) rfl (hasR_cons (by conv => lhs; whnf) (by rfl) rfl (hasR_cons (by conv => lhs; whnf) (by rfl) rfl trivial))) (hasQ_cons (by conv => lhs; whnf) (by rfl) rfl trivial)
  refine awp_exit ?_
  refine k_seq_exit ?_
  refine k_rnd_exit2 ?_
  refine k_blk_exit ?_
  exact s_join (fu, g32, g33) [] ⟨by first | omega | (dsimp only; omega), hF10⟩ (hasR_cons (by conv => lhs; whnf) (by rfl) rfl (hasR_cons (by conv => lhs; whnf) (by rfl) rfl trivial)) (hasQ_cons (by conv => lhs; whnf) (by rfl) rfl (hasQ_cons (by conv => lhs; whnf) (by rfl) rfl trivial))
  clear hF8
  rintro ⟨fu, g42, g43⟩ ⟨hl44, hF9⟩
  dsimp only at hl44 hF9 ⊢
  obtain _ | fu := fu
  · rw [m_spec_l4List_j5] at hF9; cases hF9
  rw [m_spec_l4List_j5] at hF9
  refine awp_region ?_
  iterate 3 refine s_mv ?_
  replace hF9 := bind_some' hF9
  obtain ⟨v45, hv45, hF10⟩ := hF9
  refine s_ixT Form.row hv45 (Form.row_eq _) yE30 ?_
  refine s_ldN yA32 yS32 ?_
  refine s_mv ?_
  refine s_mv ?_
  replace hF10 := bind_some' hF10
  obtain ⟨v46, hv46, hF11⟩ := hF10
  refine s_pure [5120] (m_spec_l4Row_ok fu _ _ _ _ hv46) ?_
  obtain ⟨hk47, hF12⟩ := chk_some hF11
  refine s_apT Hit.row (fun y => Hit.row_len y) hk47 yP34 ?_
  refine s_as ?_
  refine k_nil ?_
  refine k_blk ?_
  refine k_seq ?_
  refine awp_region ?_
  refine s_mv ?_
  refine s_add (winc2 hc21 hb22 hn_g17) ?_
  refine s_as ?_
  refine k_nil ?_
  exact s_rnd2 (fu, (g17 + 1), (g18 ++ v46), g42) [(5080, 136)] ⟨by first | omega | (dsimp only; omega), hF12, by first | omega | (dsimp only; omega)⟩ (hasR_cons (by conv => lhs; whnf) (by rfl) rfl (hasR_cons (by conv => lhs; whnf) (by rfl) rfl (hasR_cons (by conv => lhs; whnf) (by rfl) rfl trivial))) (hasQ_cons (by conv => lhs; whnf) (by rfl) rfl trivial)
  refine awp_exit ?_
  refine k_seq_exit ?_
  refine k_rnd_exit2 ?_
  refine k_blk_exit ?_
  refine k_seq ?_
  refine awp_seq ?_
  refine awp_region ?_
  refine s_mv ?_
  refine s_as ?_
  refine s_as ?_
  refine k_nil ?_
  refine k_seq ?_
  refine awp_ret ?_
  refine k_fin ?_
  obtain rfl := Option.some.inj hF4
  exact ends_gen [] [5080] (by rw [Try.results154]; exact (res_tmp (by conv => lhs; whnf) (res_tmp (by conv => lhs; whnf) res_nil)))
theorem m_spec_l4Match_st (fu : Nat) (ih_m_spec_l4List : ∀ k, k ≤ fu → m_spec_l4List_AC k) (ih_m_spec_l4Match : ∀ k, k ≤ fu → m_spec_l4Match_AC k) : m_spec_l4Match_AC (fu + 1) := by
  intro x1 x2 x3 x4 r hF0
  rw [m_spec_l4Match] at hF0
  refine AC_intro (rs := [.t (.sl (r.1.map Hit.row)), .t (.sc (.bool r.2))]) Try.func148 rfl (by kernel_rfl) (by simp [Try.ntmps148]) (by simp [noOb]) ?_
  intro C hC
  rw [Try.ntmps148]
  refine awp_seq ?_
  refine awp_region ?_
  refine s_box ?_
  refine s_box ?_
  refine s_as ?_
  refine s_as ?_
  refine k_nil ?_
  refine k_seq ?_
  refine awp_seq ?_
  refine awp_region ?_
  refine s_bs Hit.row ([] : List Hit) yP34 yR65 ?_
  refine s_as ?_
  refine k_nil ?_
  refine k_seq ?_
  refine awp_seq ?_
  refine awp_seq ?_
  refine awp_region ?_
  refine s_fa yF32_0 ?_
  refine s_ld1 yA3 ?_
  refine s_eq ?_
  refine k_nil ?_
  refine k_seq ?_
  refine w_cond hF0 (fun hc1 hF1 => ?_) (fun hc1 hF1 => ?_) <;> clear hF0
  refine awp_seq ?_
  refine awp_seq ?_
  refine awp_region ?_
  refine s_fa yF32_1 ?_
  refine s_ld1 yA9 ?_
  refine s_eqS ?_
  refine k_nil ?_
  refine k_seq ?_
  refine w_cond hF1 (fun hc2 hF2 => ?_) (fun hc2 hF2 => ?_) <;> clear hF1
  refine awp_seq ?_
  refine awp_region ?_
  refine s_mv ?_
  refine s_as ?_
  refine s_as ?_
  refine k_nil ?_
  refine k_seq ?_
  refine awp_ret ?_
  refine k_seq_ret ?_
  refine k_seq_ret ?_
  refine k_fin ?_
  obtain rfl := Option.some.inj hF2
  exact ends_gen [] [11] (by rw [Try.results148]; exact (res_tmp (by conv => lhs; whnf) (res_tmp (by conv => lhs; whnf) res_nil)))
  refine awp_skip ?_
  refine k_seq ?_
  refine awp_seq ?_
  refine awp_seq ?_
  refine awp_region ?_
  refine s_mv ?_
  refine s_ldW yA32 yS32 ?_
  replace hF2 := bind_some' hF2
  obtain ⟨v3, hv3, hF3⟩ := hF2
  refine s_pure [] (m_spec_l4In_ok fu _ _ _ hv3) ?_
  refine k_nil ?_
  refine k_seq ?_
  refine w_cond hF3 (fun hc4 hF4 => ?_) (fun hc4 hF4 => ?_) <;> clear hF3
  refine awp_seqJ [8, 9, 22, 23, 24, 25, 26, 27, 28, 29, 30, 31] [] [] [] (fun a : Nat × Bool => [(8, .ar 11), (9, .t (.sc (.bool a.2)))]) (fun a : Nat × Bool => []) (fun a : Nat × Bool => a.1 ≤ fu ∧ m_spec_l4Match_j1 a.1  a.2 = some r) (by rfl) (fun _ => rfl) (fun _ h => by cases h) freshS_nil freshM_nil ?_ ?_
  refine awp_region ?_
  refine s_mv ?_
  refine s_fa yF32_0 ?_
  refine s_ld1 yA3 ?_
  refine s_eq ?_
  refine s_mv ?_
  refine w_guard _ 26 hF4 (fun hc5 hF5 => ?_) (fun hc5 hF5 => ?_) <;> clear hF4
  refine s_mv ?_
  refine s_ldW yA32 yS32 ?_
  refine s_ldW yA32 yS32 ?_
  replace hF5 := bind_some' hF5
  obtain ⟨v6, hv6, hF6⟩ := hF5
  refine s_pure [] (m_spec_l3Same_ok fu _ _ _ _ hv6) ?_
  refine s_pkt ?_
  refine s_as ?_
  refine s_as ?_
  refine k_nil ?_
  exact s_join (fu, v6) [] ⟨by first | omega | (dsimp only; omega), hF6⟩ (hasR_cons (by conv => lhs; whnf) (by rfl) rfl (hasR_cons (by conv => lhs; whnf) (by rfl) rfl trivial)) trivial
  iterate 4 refine r_no rfl ?_
  refine s_pkf ?_
  refine s_as ?_
  refine s_as ?_
  refine k_nil ?_
  exact s_join (fu, false) [] ⟨by first | omega | (dsimp only; omega), hF5⟩ (hasR_cons (by conv => lhs; whnf) (by rfl) rfl (hasR_cons (by conv => lhs; whnf) (by rfl) rfl trivial)) trivial
  clear hF4
  rintro ⟨fu, g7⟩ ⟨hl8, hF5⟩
  dsimp only at hl8 hF5 ⊢
  obtain _ | fu := fu
  · rw [m_spec_l4Match_j1] at hF5; cases hF5
  rw [m_spec_l4Match_j1] at hF5
  refine awp_ret ?_
  refine k_seq_ret ?_
  refine k_seq_ret ?_
  refine k_fin ?_
  obtain rfl := Option.some.inj hF5
  exact ends_gen [] [11] (by rw [Try.results148]; exact (res_tmp (by conv => lhs; whnf) (res_tmp (by conv => lhs; whnf) res_nil)))
  refine awp_skip ?_
  refine k_seq ?_
  refine awp_seq ?_
  refine awp_region ?_
  refine s_mv ?_
  refine s_ldW yA32 yS32 ?_
  refine s_ldW yA32 yS32 ?_
  refine s_bld yZ65 yL65 ?_
  refine s_bs Hit.row [(Hit.mk x2 0 x4 ([] : List Hit))] yP34 yR65 ?_
  obtain ⟨hk9, hF5⟩ := chk_some hF4
  refine s_apT Hit.row (fun y => Hit.row_len y) hk9 yP34 ?_
  refine s_as ?_
  refine s_as ?_
  refine k_nil ?_
  refine k_seq ?_
  refine awp_ret ?_
  refine k_seq_ret ?_
  refine k_fin ?_
  obtain rfl := Option.some.inj hF5
  exact ends_gen [] [37] (by rw [Try.results148]; exact (res_tmp (by conv => lhs; whnf) (res_tmp (by conv => lhs; whnf) res_nil)))
  refine awp_skip ?_
  refine k_seq ?_
  refine awp_seq ?_
  refine awp_seq ?_
  refine awp_region ?_
  refine s_fa yF32_0 ?_
  refine s_ld1 yA3 ?_
  refine s_eq ?_
  refine k_nil ?_
  refine k_seq ?_
  refine w_cond hF1 (fun hc10 hF2 => ?_) (fun hc10 hF2 => ?_) <;> clear hF1
  refine awp_seq ?_
  refine awp_region ?_
  refine s_mv ?_
  refine s_ldW yA32 yS32 ?_
  refine s_ldW yA32 yS32 ?_
  replace hF2 := bind_some' hF2
  obtain ⟨v11, hv11, hF3⟩ := hF2
  refine s_pure [] (m_spec_FormSame_ok fu _ _ _ hv11) ?_
  refine s_as ?_
  refine s_as ?_
  refine k_nil ?_
  refine k_seq ?_
  refine awp_ret ?_
  refine k_seq_ret ?_
  refine k_fin ?_
  obtain rfl := Option.some.inj hF3
  exact ends_gen [] [11] (by rw [Try.results148]; exact (res_tmp (by conv => lhs; whnf) (res_tmp (by conv => lhs; whnf) res_nil)))
  refine awp_skip ?_
  refine k_seq ?_
  refine awp_seq ?_
  refine awp_seq ?_
  refine awp_region ?_
  refine s_fa yF32_0 ?_
  refine s_ld1 yA3 ?_
  refine s_ne ?_
  refine k_nil ?_
  refine k_seq ?_
  refine w_cond hF2 (fun hc12 hF3 => ?_) (fun hc12 hF3 => ?_) <;> clear hF2
  refine awp_seq ?_
  refine awp_region ?_
  refine s_mv ?_
  refine s_as ?_
  refine s_as ?_
  refine k_nil ?_
  refine k_seq ?_
  refine awp_ret ?_
  refine k_seq_ret ?_
  refine k_fin ?_
  obtain rfl := Option.some.inj hF3
  exact ends_gen [] [11] (by rw [Try.results148]; exact (res_tmp (by conv => lhs; whnf) (res_tmp (by conv => lhs; whnf) res_nil)))
  refine awp_skip ?_
  refine k_seq ?_
  refine awp_seq ?_
  refine awp_region ?_
  refine s_mv ?_
  refine s_fa yF32_4 ?_
  refine s_ld1 yA30 ?_
  refine s_mv ?_
  refine s_fa yF32_4 ?_
  refine s_ld1 yA30 ?_
  replace hF3 := bind_some' hF3
  obtain ⟨v13, hv13, hF4⟩ := hF3
  refine s_pure [] (ih_m_spec_l4List fu (by omega) _ _ _ _ _ hv13) ?_
  refine s_ext ?_
  refine s_ext ?_
  refine s_as ?_
  refine s_as ?_
  refine k_nil ?_
  refine k_seq ?_
  refine awp_ret ?_
  refine k_fin ?_
  obtain rfl := Option.some.inj hF4
  exact ends_gen [] [] (by rw [Try.results148]; exact (res_tmp (by conv => lhs; whnf) (res_tmp (by conv => lhs; whnf) res_nil)))
theorem m_spec_l4List_all (fuel : Nat) : m_spec_l4List_AC fuel ∧ m_spec_l4Match_AC fuel := by
  induction fuel using Nat.strongRecOn with
  | _ N ih =>
    cases N with
    | zero => exact ⟨(by intro x1 x2 x3 x4 r h; rw [m_spec_l4List] at h; cases h), (by intro x1 x2 x3 x4 r h; rw [m_spec_l4Match] at h; cases h)⟩
    | succ fu => exact ⟨m_spec_l4List_st fu (fun k hk => (ih k (by omega)).1) (fun k hk => (ih k (by omega)).2), m_spec_l4Match_st fu (fun k hk => (ih k (by omega)).1) (fun k hk => (ih k (by omega)).2)⟩
theorem m_spec_l4Match_ok (fuel : Nat) : m_spec_l4Match_AC fuel := (m_spec_l4List_all fuel).2
def m_spec_l4CopyHit_AC (fuel : Nat) : Prop := ∀ (x1 : Hit) (r : Hit), m_spec_l4CopyHit fuel x1 = some r → AC Try.prog 97 [.ag [.t (.sc (.int .i64 x1.name.kind)), .t (.sc (.str x1.name.name)), .t (.sc (.int .i64 x1.name.n)), .t (.sl (x1.name.scopes.map rI)), .t (.sl (x1.name.kids.map Form.row)), .t (.sc (.int .i64 x1.depth)), .t (.sc (.int .i64 x1.one.kind)), .t (.sc (.str x1.one.name)), .t (.sc (.int .i64 x1.one.n)), .t (.sl (x1.one.scopes.map rI)), .t (.sl (x1.one.kids.map Form.row)), .t (.sl (x1.many.map Hit.row))]] noOb (.ag [.t (.sc (.int .i64 r.name.kind)), .t (.sc (.str r.name.name)), .t (.sc (.int .i64 r.name.n)), .t (.sl (r.name.scopes.map rI)), .t (.sl (r.name.kids.map Form.row)), .t (.sc (.int .i64 r.depth)), .t (.sc (.int .i64 r.one.kind)), .t (.sc (.str r.one.name)), .t (.sc (.int .i64 r.one.n)), .t (.sl (r.one.scopes.map rI)), .t (.sl (r.one.kids.map Form.row)), .t (.sl (r.many.map Hit.row))]) noOb
theorem m_spec_l4CopyHit_st (fu : Nat) (ih_m_spec_l4CopyHit : ∀ k, k ≤ fu → m_spec_l4CopyHit_AC k) : m_spec_l4CopyHit_AC (fu + 1) := by
  intro x1 r hF0
  rw [m_spec_l4CopyHit] at hF0
  refine AC_intro (rs := [.ag [.t (.sc (.int .i64 r.name.kind)), .t (.sc (.str r.name.name)), .t (.sc (.int .i64 r.name.n)), .t (.sl (r.name.scopes.map rI)), .t (.sl (r.name.kids.map Form.row)), .t (.sc (.int .i64 r.depth)), .t (.sc (.int .i64 r.one.kind)), .t (.sc (.str r.one.name)), .t (.sc (.int .i64 r.one.n)), .t (.sl (r.one.scopes.map rI)), .t (.sl (r.one.kids.map Form.row)), .t (.sl (r.many.map Hit.row))]]) Try.func97 rfl (by kernel_rfl) (by simp [Try.ntmps97]) (by simp [noOb]) ?_
  intro C hC
  rw [Try.ntmps97]
  refine awp_seq ?_
  refine awp_region ?_
  refine s_box ?_
  refine s_alloc yZ65 ?_
  refine k_nil ?_
  refine k_seq ?_
  refine awp_seq ?_
  refine awp_draw yMix (by kernel_rfl) ?_
  refine s_fa yF65_0 ?_
  refine s_ldN yA32 yS32 ?_
  replace hF0 := bind_some' hF0
  obtain ⟨v1, hv1, hF1⟩ := hF0
  refine s_call [(9203, 2007), (9204, 12007)] [] _ _ (m_spec_l1Copy_ok fu _ _ hv1) ?_
  refine s_fa yF65_1 ?_
  refine s_ld1 yA3 ?_
  refine s_fa yF65_2 ?_
  refine s_ldN yA32 yS32 ?_
  replace hF1 := bind_some' hF1
  obtain ⟨v2, hv2, hF2⟩ := hF1
  refine s_call [(9203, 2012), (9204, 12012)] [] _ _ (m_spec_l1Copy_ok fu _ _ hv2) ?_
  refine s_bld yZ65 yL65 ?_
  refine s_alloc yZ65 ?_
  refine s_stW yS65 ?_
  refine k_nilD (by kernel_rfl) ?_
  refine k_seq ?_
  refine awp_seq ?_
  refine awp_seq ?_
  refine awp_region ?_
  refine s_as ?_
  refine k_nil ?_
  refine k_seq ?_
  refine awp_block ?_
  refine awp_ownB 3 5020 65 [.t (.sc (.int .i64 v1.kind)), .t (.sc (.str v1.name)), .t (.sc (.int .i64 v1.n)), .ar 2007, .ar 12007, .t (.sc (.int .i64 x1.depth)), .t (.sc (.int .i64 v2.kind)), .t (.sc (.str v2.name)), .t (.sc (.int .i64 v2.n)), .ar 2012, .ar 12012, .ar 5020] yI65.choose_spec ?_
  refine awp_frame2 [4, 14, 15, 16, 17, 18, 19, 20, 21, 22, 23, 24, 25, 26, 27, 28, 29, 30, 31] [3, 5020] [29, 30] [5020] (fun a : Nat × Int × (List Hit) => a.1) (fun a : Nat × Int × (List Hit) => [(4, .t (.sc (.int .i64 a.2.1)))]) (fun a : Nat × Int × (List Hit) => [(3, .box [.t (.sc (.int .i64 v1.kind)), .t (.sc (.str v1.name)), .t (.sc (.int .i64 v1.n)), .ar 2007, .ar 12007, .t (.sc (.int .i64 x1.depth)), .t (.sc (.int .i64 v2.kind)), .t (.sc (.str v2.name)), .t (.sc (.int .i64 v2.n)), .ar 2012, .ar 12012, .ar 5020]), (5020, .arr (a.2.2.map Hit.row) 65 true)]) (fun a : Nat × Int × (List Hit) => a.1 ≤ fu ∧ m_spec_l4CopyHit_l1 a.1 x1 v1 v2 a.2.1 a.2.2 = some r ∧ 0 ≤ a.2.1) (fu, 0, ([] : List Hit)) ⟨Nat.le_refl _, hF2, by simp⟩ (by rfl) (by rfl) (fun _ => rfl) (hasF_cons (by conv => lhs; whnf) (by rfl) hasF_nil) (hasO_cons (by conv => lhs; whnf) (by rfl) (hasO_cons (by conv => lhs; whnf) (by rfl) hasO_nil)) (fresh_C hC rfl) (by repeat (first | exact freshS_args rfl | refine freshS_upd rfl ?_ | refine freshS_frame rfl ?_)) (by repeat (first | exact freshM_no | exact objs_fresh rfl | refine freshM_upd rfl ?_ | refine freshM_frame rfl ?_)) ?_
  clear hF2
  rintro ⟨fu, g3, g4⟩ ⟨hl5, hF3, hn_g3⟩
  dsimp only at hl5 hF3 hn_g3 ⊢
  obtain _ | fu := fu
  · rw [m_spec_l4CopyHit_l1] at hF3; cases hF3
  rw [m_spec_l4CopyHit_l1] at hF3
  refine awp_seq ?_
  refine awp_seq ?_
  refine awp_region ?_
  refine s_mv ?_
  refine s_fa yF65_3 ?_
  refine s_ld1 yA34 ?_
  refine s_lenT yU34 ?_
  refine s_lt ?_
  refine k_nil ?_
  refine k_seq ?_
  refine w_cond hF3 (fun hc6 hF4 => ?_) (fun hc6 hF4 => ?_) <;> clear hF3
  refine awp_lenT 16 (fun hb7 => ?_)
  refine awp_skip ?_
  refine k_seq ?_
  refine awp_seq ?_
  refine awp_block ?_
  refine awp_draw yMix (by kernel_rfl) ?_
  refine s_fa yF65_3 ?_
  refine s_ld1 yA34 ?_
  refine s_fa yF65_3 ?_
  refine s_ld1 yA34 ?_
  refine s_mv ?_
  replace hF4 := bind_some' hF4
  obtain ⟨v8, hv8, hF5⟩ := hF4
  refine s_ixT Hit.row hv8 (Hit.row_eq _) yE34 ?_
  refine s_ldN yA65 yS65 ?_
  replace hF5 := bind_some' hF5
  obtain ⟨v9, hv9, hF6⟩ := hF5
  refine s_pure [] (ih_m_spec_l4CopyHit fu (by omega) _ _ hv9) ?_
  refine s_bs Hit.row [v9] yP34 yR65 ?_
  obtain ⟨hk10, hF7⟩ := chk_some hF6
  refine s_apT Hit.row (fun y => Hit.row_len y) hk10 yP34 ?_
  refine s_fa yF65_3 ?_
  refine s_stP yS34 ?_
  refine k_nilD (by kernel_rfl) ?_
  refine k_blk ?_
  refine k_seq ?_
  refine awp_region ?_
  refine s_mv ?_
  refine s_add (winc2 hc6 hb7 hn_g3) ?_
  refine s_as ?_
  refine k_nil ?_
  exact s_rnd2 (fu, (g3 + 1), (g4 ++ [v9])) [(5020, 30)] ⟨by first | omega | (dsimp only; omega), hF7, by first | omega | (dsimp only; omega)⟩ (hasR_cons (by conv => lhs; whnf) (by rfl) rfl trivial) (hasQ_cons (by conv => lhs; whnf) (by rfl) rfl (hasQ_cons (by conv => lhs; whnf) (by rfl) rfl trivial))
  refine awp_exit ?_
  refine k_seq_exit ?_
  refine k_rnd_exit2 ?_
  refine k_blk_exit ?_
  refine k_seq ?_
  refine awp_seq ?_
  refine awp_region ?_
  refine s_ldW yA65 yS65 ?_
  refine s_stW yS65 ?_
  refine k_nil ?_
  refine k_seq ?_
  refine awp_ret ?_
  refine k_fin ?_
  obtain rfl := Option.some.inj hF4
  exact ends_gen [] [2007, 12007, 2012, 12012, 5020] (by rw [Try.results97]; exact (res_agg (by conv => lhs; whnf) (by conv => lhs; whnf) yA65 yS65 rfl res_nil))
theorem m_spec_l4CopyHit_all (fuel : Nat) : m_spec_l4CopyHit_AC fuel := by
  induction fuel using Nat.strongRecOn with
  | _ N ih =>
    cases N with
    | zero => exact (by intro x1 r h; rw [m_spec_l4CopyHit] at h; cases h)
    | succ fu => exact m_spec_l4CopyHit_st fu (fun k hk => (ih k (by omega)))
theorem m_spec_l4CopyHit_ok (fuel : Nat) : m_spec_l4CopyHit_AC fuel := (m_spec_l4CopyHit_all fuel)
end Go.Abs
end
section
set_option maxRecDepth 100000
set_option maxHeartbeats 4000000
set_option linter.unusedVariables false
namespace Go.Abs
open Go.Proofs
def m_spec_l4Copy_AC (fuel : Nat) : Prop := ∀ (x1 : (List Hit)) (r : (List Hit)), m_spec_l4Copy fuel x1 = some r → AC Try.prog 86 [.t (.sl (x1.map Hit.row))] (objs []) (.ar 9200) (objs [(9200, .arr (r.map Hit.row) 65 true)])
theorem m_spec_l4Copy_ok (fuel : Nat) : m_spec_l4Copy_AC fuel := by
  intro x1 r hF0
  unfold m_spec_l4Copy at hF0
  refine AC_intro (rs := [.ar 9200]) Try.func86 rfl (by kernel_rfl) (by simp [Try.ntmps86]) (keep_all rfl) ?_
  intro C hC
  rw [Try.ntmps86]
  refine awp_seq ?_
  refine awp_region ?_
  refine s_as ?_
  refine k_nil ?_
  refine k_seq ?_
  refine awp_seq ?_
  refine awp_region ?_
  refine s_bs Hit.row ([] : List Hit) yP34 yR65 ?_
  refine s_as ?_
  refine k_nil ?_
  refine k_seq ?_
  refine awp_seq ?_
  refine awp_seq ?_
  refine awp_region ?_
  refine s_as ?_
  refine k_nil ?_
  refine k_seq ?_
  refine awp_block ?_
  refine awp_mv 3 5 5020 (by conv => lhs; whnf) (by conv => lhs; whnf) rfl ?_
  refine awp_frame2 [3, 4, 6, 7, 8, 9, 10, 11, 12, 13, 14, 15, 16, 17, 18, 19] [5020] [18, 19] [5020] (fun a : Nat × (List Hit) × Int => a.1) (fun a : Nat × (List Hit) × Int => [(3, .ar 5020), (4, .t (.sc (.int .i64 a.2.2)))]) (fun a : Nat × (List Hit) × Int => [(5020, .arr (a.2.1.map Hit.row) 65 true)]) (fun a : Nat × (List Hit) × Int => a.1 ≤ fuel ∧ m_spec_l4Copy_l1 a.1 x1 a.2.1 a.2.2 = some r ∧ 0 ≤ a.2.2) (fuel, ([] : List Hit), 0) ⟨Nat.le_refl _, hF0, by simp⟩ (by rfl) (by rfl) (fun _ => rfl) (hasF_cons (by conv => lhs; whnf) (by rfl) (hasF_cons (by conv => lhs; whnf) (by rfl) hasF_nil)) (hasO_cons (by conv => lhs; whnf) (by rfl) hasO_nil) (fresh_C hC rfl) (by repeat (first | exact freshS_args rfl | refine freshS_upd rfl ?_ | refine freshS_frame rfl ?_)) (by repeat (first | exact freshM_no | exact objs_fresh rfl | refine freshM_upd rfl ?_ | refine freshM_frame rfl ?_)) ?_
  clear hF0
  rintro ⟨fu, g1, g2⟩ ⟨hl3, hF1, hn_g2⟩
  dsimp only at hl3 hF1 hn_g2 ⊢
  obtain _ | fu := fu
  · rw [m_spec_l4Copy_l1] at hF1; cases hF1
  rw [m_spec_l4Copy_l1] at hF1
  refine awp_seq ?_
  refine awp_seq ?_
  refine awp_region ?_
  refine s_mv ?_
  refine s_mv ?_
  refine s_lenT yU34 ?_
  refine s_lt ?_
  refine k_nil ?_
  refine k_seq ?_
  refine w_cond hF1 (fun hc4 hF2 => ?_) (fun hc4 hF2 => ?_) <;> clear hF1
  refine awp_lenT 0 (fun hb5 => ?_)
  refine awp_skip ?_
  refine k_seq ?_
  refine awp_seq ?_
  refine awp_block ?_
  refine awp_region ?_
  iterate 3 refine s_mv ?_
  replace hF2 := bind_some' hF2
  obtain ⟨v6, hv6, hF3⟩ := hF2
  refine s_ixT Hit.row hv6 (Hit.row_eq _) yE34 ?_
  refine s_ldN yA65 yS65 ?_
  replace hF3 := bind_some' hF3
  obtain ⟨v7, hv7, hF4⟩ := hF3
  refine s_pure [] (m_spec_l4CopyHit_ok fu _ _ hv7) ?_
  refine s_bs Hit.row [v7] yP34 yR65 ?_
  obtain ⟨hk8, hF5⟩ := chk_some hF4
  refine s_apT Hit.row (fun y => Hit.row_len y) hk8 yP34 ?_
  refine s_as ?_
  refine k_nil ?_
  refine k_blk ?_
  refine k_seq ?_
  refine awp_region ?_
  refine s_mv ?_
  refine s_add (winc2 hc4 hb5 hn_g2) ?_
  refine s_as ?_
  refine k_nil ?_
  exact s_rnd2 (fu, (g1 ++ [v7]), (g2 + 1)) [(5020, 19)] ⟨by first | omega | (dsimp only; omega), hF5, by first | omega | (dsimp only; omega)⟩ (hasR_cons (by conv => lhs; whnf) (by rfl) rfl (hasR_cons (by conv => lhs; whnf) (by rfl) rfl trivial)) (hasQ_cons (by conv => lhs; whnf) (by rfl) rfl trivial)
  refine awp_exit ?_
  refine k_seq_exit ?_
  refine k_rnd_exit2 ?_
  refine k_blk_exit ?_
  refine k_seq ?_
  refine awp_seq ?_
  refine awp_region ?_
  refine s_mv ?_
  refine s_as ?_
  refine k_nil ?_
  refine k_seq ?_
  refine awp_mv 2 5020 9200 (by conv => lhs; whnf) (by conv => lhs; whnf) rfl ?_
  refine awp_ret ?_
  refine k_fin ?_
  obtain rfl := Option.some.inj hF2
  exact ends_gen _ [] (by rw [Try.results86]; exact (res_tmp (by conv => lhs; whnf) res_nil))
def m_spec_MatchPattern_AC (fuel : Nat) : Prop := ∀ (x1 : (List Bind)) (x2 : Form) (x3 : (List Form)) (x4 : Form) (r : ((List Hit) × Bool)), m_spec_MatchPattern fuel x1 x2 x3 x4 = some r → AC Try.prog 126 [.t (.sl (x1.map Bind.row)), .ag [.t (.sc (.int .i64 x2.kind)), .t (.sc (.str x2.name)), .t (.sc (.int .i64 x2.n)), .t (.sl (x2.scopes.map rI)), .t (.sl (x2.kids.map Form.row))], .t (.sl (x3.map Form.row)), .ag [.t (.sc (.int .i64 x4.kind)), .t (.sc (.str x4.name)), .t (.sc (.int .i64 x4.n)), .t (.sl (x4.scopes.map rI)), .t (.sl (x4.kids.map Form.row))]] (objs []) (.tp [.ar 9200, .t (.sc (.bool r.2))]) (objs [(9200, .arr (r.1.map Hit.row) 65 true)])
theorem m_spec_MatchPattern_ok (fuel : Nat) : m_spec_MatchPattern_AC fuel := by
  intro x1 x2 x3 x4 r hF0
  unfold m_spec_MatchPattern at hF0
  refine AC_intro (rs := [.ar 9200, .t (.sc (.bool r.2))]) Try.func126 rfl (by kernel_rfl) (by simp [Try.ntmps126]) (keep_all rfl) ?_
  intro C hC
  rw [Try.ntmps126]
  refine awp_seq ?_
  refine awp_region ?_
  refine s_box ?_
  refine s_box ?_
  refine s_as ?_
  refine s_as ?_
  refine k_nil ?_
  refine k_seq ?_
  refine awp_seq ?_
  refine awp_seqJ [12, 13, 14, 15, 16, 17, 18, 19, 20, 21, 22, 23, 24, 25] [] [] [] (fun a : Nat × Bool => [(25, .t (.sc (.bool a.2)))]) (fun a : Nat × Bool => []) (fun a : Nat × Bool => a.1 ≤ fuel ∧ m_spec_MatchPattern_j1 a.1 x1 x2 x3 x4 a.2 = some r) (by rfl) (fun _ => rfl) (fun _ h => by cases h) freshS_nil freshM_nil ?_ ?_
  refine awp_region ?_
  refine s_mv ?_
  replace hF0 := bind_some' hF0
  obtain ⟨v1, hv1, hF1⟩ := hF0
  refine s_pure [] (m_spec_BindsValid_ok fuel _ _ hv1) ?_
  refine s_not ?_
  refine s_mv ?_
  refine w_guard _ 15 hF1 (fun hc2 hF2 => ?_) (fun hc2 hF2 => ?_) <;> clear hF1
  iterate 4 refine r_no rfl ?_
  refine s_pkt ?_
  refine s_mv ?_
  iterate 3 refine r_no rfl ?_
  refine s_pkt ?_
  refine k_nil ?_
  exact s_join (fuel, true) [] ⟨by first | omega | (dsimp only; omega), hF2⟩ (hasR_cons (by conv => lhs; whnf) (by rfl) rfl trivial) trivial
  refine s_ldW yA32 yS32 ?_
  refine s_mv ?_
  replace hF2 := bind_some' hF2
  obtain ⟨v3, hv3, hF3⟩ := hF2
  refine s_pure [] (m_spec_l4Is_ok fuel _ _ _ hv3) ?_
  refine s_not ?_
  refine s_pkf ?_
  refine s_mv ?_
  refine w_guard _ 21 hF3 (fun hc4 hF4 => ?_) (fun hc4 hF4 => ?_) <;> clear hF3
  iterate 3 refine r_no rfl ?_
  refine s_pkt ?_
  refine k_nil ?_
  exact s_join (fuel, true) [] ⟨by first | omega | (dsimp only; omega), hF4⟩ (hasR_cons (by conv => lhs; whnf) (by rfl) rfl trivial) trivial
  refine s_ldW yA32 yS32 ?_
  replace hF4 := bind_some' hF4
  obtain ⟨v5, hv5, hF5⟩ := hF4
  refine s_pure [] (m_spec_FormValid_ok fuel _ _ hv5) ?_
  refine s_not ?_
  refine s_pkf ?_
  refine k_nil ?_
  exact s_join (fuel, (!v5)) [] ⟨by first | omega | (dsimp only; omega), hF5⟩ (hasR_cons (by conv => lhs; whnf) (by rfl) rfl trivial) trivial
  clear hF0
  rintro ⟨fu, g6⟩ ⟨hl7, hF1⟩
  dsimp only at hl7 hF1 ⊢
  obtain _ | fu := fu
  · rw [m_spec_MatchPattern_j1] at hF1; cases hF1
  rw [m_spec_MatchPattern_j1] at hF1
  refine w_cond hF1 (fun hc8 hF2 => ?_) (fun hc8 hF2 => ?_) <;> clear hF1
  refine awp_seq ?_
  refine awp_region ?_
  refine s_bs Hit.row ([] : List Hit) yP34 yR65 ?_
  refine s_as ?_
  refine s_as ?_
  refine k_nil ?_
  refine k_seq ?_
  refine awp_mv 8 26 9200 (by conv => lhs; whnf) (by conv => lhs; whnf) rfl ?_
  refine awp_ret ?_
  refine k_seq_ret ?_
  refine k_fin ?_
  obtain rfl := Option.some.inj hF2
  exact ends_gen _ [] (by rw [Try.results126]; exact (res_tmp (by conv => lhs; whnf) (res_tmp (by conv => lhs; whnf) res_nil)))
  refine awp_skip ?_
  refine k_seq ?_
  refine awp_seq ?_
  refine awp_region ?_
  refine s_mv ?_
  refine s_ldW yA32 yS32 ?_
  refine s_mv ?_
  refine s_ldW yA32 yS32 ?_
  replace hF2 := bind_some' hF2
  obtain ⟨v9, hv9, hF3⟩ := hF2
  refine s_pure [] (m_spec_l4Match_ok fu _ _ _ _ _ hv9) ?_
  refine s_mv ?_
  refine s_ext ?_
  refine s_ext ?_
  refine s_as ?_
  refine s_as ?_
  refine k_nil ?_
  refine k_seq ?_
  refine awp_seq ?_
  refine awp_seq ?_
  refine awp_region ?_
  refine s_mv ?_
  refine s_not ?_
  refine k_nil ?_
  refine k_seq ?_
  refine w_cond hF3 (fun hc10 hF4 => ?_) (fun hc10 hF4 => ?_) <;> clear hF3
  refine awp_seq ?_
  refine awp_region ?_
  refine s_bs Hit.row ([] : List Hit) yP34 yR65 ?_
  refine s_as ?_
  refine s_as ?_
  refine k_nil ?_
  refine k_seq ?_
  refine awp_mv 8 37 9200 (by conv => lhs; whnf) (by conv => lhs; whnf) rfl ?_
  refine awp_ret ?_
  refine k_seq_ret ?_
  refine k_fin ?_
  obtain rfl := Option.some.inj hF4
  exact ends_gen _ [] (by rw [Try.results126]; exact (res_tmp (by conv => lhs; whnf) (res_tmp (by conv => lhs; whnf) res_nil)))
  refine awp_skip ?_
  refine k_seq ?_
  refine awp_seq ?_
  refine awp_region ?_
  refine s_mv ?_
  replace hF4 := bind_some' hF4
  obtain ⟨v11, hv11, hF5⟩ := hF4
  refine s_call [(9200, 2039)] [] _ _ (m_spec_l4Copy_ok fu _ _ hv11) ?_
  refine s_as ?_
  refine s_as ?_
  refine k_nil ?_
  refine k_seq ?_
  refine awp_mv 8 2039 9200 (by conv => lhs; whnf) (by conv => lhs; whnf) rfl ?_
  refine awp_ret ?_
  refine k_fin ?_
  obtain rfl := Option.some.inj hF5
  exact ends_gen _ [] (by rw [Try.results126]; exact (res_tmp (by conv => lhs; whnf) (res_tmp (by conv => lhs; whnf) res_nil)))
def m_spec_l4Hits_AC (fuel : Nat) : Prop := ∀ (x1 : (List Int)) (r : (List Hit)), m_spec_l4Hits fuel x1 = some r → AC Try.prog 85 [.t (.sl (x1.map rB))] noOb (.t (.sl (r.map Hit.row))) noOb
theorem m_spec_l4Hits_ok (fuel : Nat) : m_spec_l4Hits_AC fuel := by
  intro x1 r hF0
  unfold m_spec_l4Hits at hF0
  refine AC_intro (rs := [.t (.sl (r.map Hit.row))]) Try.func85 rfl (by kernel_rfl) (by simp [Try.ntmps85]) (by simp [noOb]) ?_
  intro C hC
  rw [Try.ntmps85]
  refine awp_seq ?_
  refine awp_region ?_
  refine s_as ?_
  refine k_nil ?_
  refine k_seq ?_
  refine awp_seq ?_
  refine awp_region ?_
  refine s_mv ?_
  replace hF0 := bind_some' hF0
  obtain ⟨v1, hv1, hF1⟩ := hF0
  refine s_pure [] (m_spec_DrawMatchPattern_ok fuel _ _ hv1) ?_
  refine s_mv ?_
  iterate 4 refine s_ext ?_
  refine s_alloc yZ32 ?_
  refine s_alloc yZ32 ?_
  refine s_as ?_
  refine s_stW yS32 ?_
  refine s_as ?_
  refine s_stW yS32 ?_
  refine k_nil ?_
  refine k_seq ?_
  refine awp_seq ?_
  refine awp_region ?_
  refine s_mv ?_
  refine s_ldW yA32 yS32 ?_
  refine s_mv ?_
  refine s_ldW yA32 yS32 ?_
  replace hF1 := bind_some' hF1
  obtain ⟨v2, hv2, hF2⟩ := hF1
  refine s_call [(9200, 2023)] [] _ _ (m_spec_MatchPattern_ok fuel _ _ _ _ _ hv2) ?_
  refine s_mv ?_
  refine s_ext ?_
  refine s_ext ?_
  refine s_as ?_
  refine s_as ?_
  refine k_nil ?_
  refine k_seq ?_
  refine awp_seq ?_
  refine awp_region ?_
  refine s_mv ?_
  replace hF2 := bind_some' hF2
  obtain ⟨v3, hv3, hF3⟩ := hF2
  refine s_call [(10, 27)] [] _ _ (m_spec_l15Open_ok fuel _ _ hv3) ?_
  refine s_as ?_
  refine k_nil ?_
  refine k_seq ?_
  refine awp_seq ?_
  refine awp_seq ?_
  refine awp_region ?_
  refine s_mv ?_
  refine s_lenA yU34 ?_
  refine s_eq ?_
  refine k_nil ?_
  refine k_seq ?_
  refine w_cond hF3 (fun hc4 hF4 => ?_) (fun hc4 hF4 => ?_) <;> clear hF3
  refine awp_seq ?_
  refine awp_region ?_
  refine s_mv ?_
  refine s_as ?_
  refine k_nil ?_
  refine k_seq ?_
  refine awp_ret ?_
  refine k_seq_ret ?_
  refine k_fin ?_
  obtain rfl := Option.some.inj hF4
  exact ends_gen [] [2023] (by rw [Try.results85]; exact (res_tmp (by conv => lhs; whnf) res_nil))
  refine awp_skip ?_
  refine k_seq ?_
  refine awp_seq ?_
  refine awp_region ?_
  refine s_mv ?_
  refine s_mv ?_
  refine s_lenA yU34 ?_
  replace hF4 := bind_some' hF4
  obtain ⟨v5, hv5, hF5⟩ := hF4
  refine s_call [(9000, 27)] [] _ _ (m_spec_l15Rd_pick_ok fuel _ _ _ hv5) ?_
  refine s_as ?_
  refine k_nil ?_
  refine k_seq ?_
  refine awp_seq ?_
  refine awp_seq ?_
  refine awp_region ?_
  refine s_mv ?_
  replace hF5 := bind_some' hF5
  obtain ⟨v6, hv6, hF6⟩ := hF5
  refine s_call [(9000, 27)] [] _ _ (m_spec_l15Rd_pick_ok fuel _ _ _ hv6) ?_
  refine k_nil ?_
  refine k_seq ?_
  refine awp_block ?_
  refine awp_seq ?_
  refine awp_region ?_
  refine s_eq ?_
  refine s_as ?_
  refine k_nil ?_
  refine k_seq ?_
  refine w_cond hF6 (fun hc7 hF7 => ?_) (fun hc7 hF7 => ?_) <;> clear hF6
  refine awp_region ?_
  iterate 3 refine s_mv ?_
  refine s_bs rI [0, 1, 2, 4, (-1)] yP22 yR3 ?_
  replace hF7 := bind_some' hF7
  obtain ⟨v8, hv8, hF8⟩ := hF7
  refine s_call [(9000, 27)] [43] _ _ (m_spec_l15Rd_num_ok fuel _ _ _ hv8) ?_
  replace hF8 := bind_some' hF8
  obtain ⟨v9, hv9, hF9⟩ := hF8
  refine s_ixA Hit.row hv9 yE34 ?_
  refine s_fa yF65_1 ?_
  refine s_stA Hit.row (Hit.mk v9.name v8.1 v9.one v9.many) hv9 (Hit.row_eq _) (Hit.row_eq _) yS3 yS65 ?_
  refine k_nil ?_
  refine k_blk ?_
  refine k_seq ?_
  refine awp_seq ?_
  refine awp_region ?_
  refine s_mv ?_
  refine s_as ?_
  refine k_nil ?_
  refine k_seq ?_
  refine awp_ret ?_
  refine k_fin ?_
  obtain rfl := Option.some.inj hF9
  exact ends_gen [] [2023] (by rw [Try.results85]; exact (res_tmp (by conv => lhs; whnf) res_nil))
  refine awp_seq ?_
  refine awp_region ?_
  refine s_eq ?_
  refine s_as ?_
  refine k_nil ?_
  refine k_seq ?_
  refine w_cond hF7 (fun hc10 hF8 => ?_) (fun hc10 hF8 => ?_) <;> clear hF7
  refine awp_region ?_
  iterate 6 refine s_mv ?_
  replace hF8 := bind_some' hF8
  obtain ⟨v11, hv11, hF9⟩ := hF8
  refine s_ixA Hit.row hv11 yE34 ?_
  refine s_fa yF65_0 ?_
  refine s_lAN Hit.row hv11 (Hit.row_eq _) yA32 yS32 ?_
  replace hF9 := bind_some' hF9
  obtain ⟨v12, hv12, hF10⟩ := hF9
  refine s_call [(9000, 27)] [] _ _ (m_spec_l1Mutate_ok fuel _ _ _ hv12) ?_
  replace hF10 := bind_some' hF10
  obtain ⟨v13, hv13, hF11⟩ := hF10
  refine s_call [(9000, 27)] [] _ _ (m_spec_l1Mutate_ok fuel _ _ _ hv13) ?_
  replace hF11 := bind_some' hF11
  obtain ⟨v14, hv14, hF12⟩ := hF11
  refine s_ixA Hit.row hv14 yE34 ?_
  refine s_fa yF65_0 ?_
  refine s_stA Hit.row (Hit.mk v13.1 v14.depth v14.one v14.many) hv14 (Hit.row_eq _) (Hit.row_eq _) yS32 yS65 ?_
  refine k_nil ?_
  refine k_blk ?_
  refine k_seq ?_
  refine awp_seq ?_
  refine awp_region ?_
  refine s_mv ?_
  refine s_as ?_
  refine k_nil ?_
  refine k_seq ?_
  refine awp_ret ?_
  refine k_fin ?_
  obtain rfl := Option.some.inj hF12
  exact ends_gen [] [2023] (by rw [Try.results85]; exact (res_tmp (by conv => lhs; whnf) res_nil))
  refine awp_seq ?_
  refine awp_region ?_
  refine s_eq ?_
  refine s_as ?_
  refine k_nil ?_
  refine k_seq ?_
  refine w_cond hF8 (fun hc15 hF9 => ?_) (fun hc15 hF9 => ?_) <;> clear hF8
  refine awp_region ?_
  iterate 3 refine s_mv ?_
  replace hF9 := bind_some' hF9
  obtain ⟨v16, hv16, hF10⟩ := hF9
  refine s_ixA Hit.row hv16 yE34 ?_
  refine s_lAN Hit.row hv16 (Hit.row_eq _) yA65 yS65 ?_
  refine s_bs Hit.row [v16] yP34 yR65 ?_
  obtain ⟨hk17, hF11⟩ := chk_some hF10
  refine s_apT Hit.row (fun y => Hit.row_len y) hk17 yP34 ?_
  refine s_as ?_
  refine k_nil ?_
  refine k_blk ?_
  refine k_seq ?_
  refine awp_seq ?_
  refine awp_region ?_
  refine s_mv ?_
  refine s_as ?_
  refine k_nil ?_
  refine k_seq ?_
  refine awp_ret ?_
  refine k_fin ?_
  obtain rfl := Option.some.inj hF11
  exact ends_gen [] [70] (by rw [Try.results85]; exact (res_tmp (by conv => lhs; whnf) res_nil))
  refine awp_skip ?_
  refine k_blk ?_
  refine k_seq ?_
  refine awp_seq ?_
  refine awp_region ?_
  refine s_mv ?_
  refine s_as ?_
  refine k_nil ?_
  refine k_seq ?_
  refine awp_ret ?_
  refine k_fin ?_
  obtain rfl := Option.some.inj hF9
  exact ends_gen [] [2023] (by rw [Try.results85]; exact (res_tmp (by conv => lhs; whnf) res_nil))
def m_impl_hitForms_AC (fuel : Nat) : Prop := ∀ (x1 : Hit) (x2 : (List Form)) (r : (List Form)), m_impl_hitForms fuel x1 x2 = some r → AC Try.prog 91 [.ag [.t (.sc (.int .i64 x1.name.kind)), .t (.sc (.str x1.name.name)), .t (.sc (.int .i64 x1.name.n)), .t (.sl (x1.name.scopes.map rI)), .t (.sl (x1.name.kids.map Form.row)), .t (.sc (.int .i64 x1.depth)), .t (.sc (.int .i64 x1.one.kind)), .t (.sc (.str x1.one.name)), .t (.sc (.int .i64 x1.one.n)), .t (.sl (x1.one.scopes.map rI)), .t (.sl (x1.one.kids.map Form.row)), .t (.sl (x1.many.map Hit.row))], .ar 9301] (objs [(9301, .arr (x2.map Form.row) 32 true)]) (.ar 9200) (objs [(9301, .dead), (9200, .arr (r.map Form.row) 32 true)])
theorem m_impl_hitForms_st (fu : Nat) (ih_m_impl_hitForms : ∀ k, k ≤ fu → m_impl_hitForms_AC k) : m_impl_hitForms_AC (fu + 1) := by
  intro x1 x2 r hF0
  rw [m_impl_hitForms] at hF0
  refine AC_intro (rs := [.ar 9200]) Try.func91 rfl (by kernel_rfl) (by simp [Try.ntmps91]) (keep_all rfl) ?_
  intro C hC
  rw [Try.ntmps91]
  refine awp_seq ?_
  refine awp_region ?_
  refine s_box ?_
  refine s_as ?_
  refine k_nil ?_
  refine k_seq ?_
  refine awp_seq ?_
  refine awp_seq ?_
  refine awp_region ?_
  refine s_fa yF65_1 ?_
  refine s_ld1 yA3 ?_
  refine s_eq ?_
  refine k_nil ?_
  refine k_seq ?_
  refine w_cond hF0 (fun hc1 hF1 => ?_) (fun hc1 hF1 => ?_) <;> clear hF0
  refine awp_seq ?_
  refine awp_region ?_
  refine s_mv ?_
  refine s_fa yF65_2 ?_
  refine s_ldN yA32 yS32 ?_
  replace hF1 := bind_some' hF1
  obtain ⟨v2, hv2, hF2⟩ := hF1
  refine s_pure [] (m_impl_copyForm_ok fu _ _ hv2) ?_
  refine s_bs Form.row [v2] yP30 yR32 ?_
  obtain ⟨hk3, hF3⟩ := chk_some hF2
  refine s_apT Form.row (fun y => Form.row_len y) hk3 yP30 ?_
  refine s_as ?_
  refine k_nil ?_
  refine k_seq ?_
  refine awp_mv 4 15 9200 (by conv => lhs; whnf) (by conv => lhs; whnf) rfl ?_
  refine awp_ret ?_
  refine k_seq_ret ?_
  refine k_fin ?_
  obtain rfl := Option.some.inj hF3
  exact ends_gen _ [] (by rw [Try.results91]; exact (res_tmp (by conv => lhs; whnf) res_nil))
  refine awp_skip ?_
  refine k_seq ?_
  refine awp_seq ?_
  refine awp_seq ?_
  refine awp_region ?_
  refine s_fa yF65_3 ?_
  refine s_ld1 yA34 ?_
  refine s_lenT yU34 ?_
  refine s_mv ?_
  refine k_nil ?_
  refine k_seq ?_
  refine awp_block ?_
  refine awp_mv 1 9301 5020 (by conv => lhs; whnf) (by conv => lhs; whnf) rfl ?_
  refine awp_frame2 [1, 6, 19, 20, 21, 22, 23, 24, 25, 26] [5020] [6, 12025] [5020] (fun a : Nat × (List Form) × Int => a.1) (fun a : Nat × (List Form) × Int => [(1, .ar 5020), (19, .t (.sc (.int .i64 a.2.2)))]) (fun a : Nat × (List Form) × Int => [(5020, .arr (a.2.1.map Form.row) 32 true)]) (fun a : Nat × (List Form) × Int => a.1 ≤ fu ∧ m_impl_hitForms_l1 a.1 x1 a.2.1 a.2.2 = some r ∧ 0 ≤ a.2.2) (fu, x2, 0) ⟨Nat.le_refl _, hF1, by simp⟩ (by rfl) (by rfl) (fun _ => rfl) (hasF_cons (by conv => lhs; whnf) (by rfl) (hasF_cons (by conv => lhs; whnf) (by rfl) hasF_nil)) (hasO_cons (by conv => lhs; whnf) (by rfl) hasO_nil) (fresh_C hC rfl) (by repeat (first | exact freshS_args rfl | refine freshS_upd rfl ?_ | refine freshS_frame rfl ?_)) (by repeat (first | exact freshM_no | exact objs_fresh rfl | refine freshM_upd rfl ?_ | refine freshM_frame rfl ?_)) ?_
  clear hF1
  rintro ⟨fu, g4, g5⟩ ⟨hl6, hF2, hn_g5⟩
  dsimp only at hl6 hF2 hn_g5 ⊢
  obtain _ | fu := fu
  · rw [m_impl_hitForms_l1] at hF2; cases hF2
  rw [m_impl_hitForms_l1] at hF2
  refine awp_seq ?_
  refine awp_region ?_
  refine s_lt ?_
  refine k_nil ?_
  refine k_seq ?_
  refine awp_seq ?_
  refine w_cond hF2 (fun hc7 hF3 => ?_) (fun hc7 hF3 => ?_) <;> clear hF2
  refine awp_lenT 17 (fun hb8 => ?_)
  refine awp_skip ?_
  refine k_seq ?_
  refine awp_seq ?_
  refine awp_block ?_
  refine awp_seq ?_
  refine awp_region ?_
  replace hF3 := bind_some' hF3
  obtain ⟨v9, hv9, hF4⟩ := hF3
  refine s_ixT Hit.row hv9 (Hit.row_eq _) yE34 ?_
  refine s_ldN yA65 yS65 ?_
  refine s_alloc yZ65 ?_
  refine s_stW yS65 ?_
  refine k_nil ?_
  refine k_seq ?_
  refine awp_region ?_
  refine s_ldW yA65 yS65 ?_
  refine s_mv ?_
  replace hF4 := bind_some' hF4
  obtain ⟨v10, hv10, hF5⟩ := hF4
  refine s_call [(9301, 5020), (9200, 12025)] [] _ _ (ih_m_impl_hitForms fu (by omega) _ _ _ hv10) ?_
  refine s_as ?_
  refine k_nil ?_
  refine k_blk ?_
  refine k_seq ?_
  refine awp_region ?_
  refine s_add (winc2 hc7 hb8 hn_g5) ?_
  refine s_mv ?_
  refine k_nil ?_
  exact s_rnd2 (fu, v10, (g5 + 1)) [(5020, 12025)] ⟨by first | omega | (dsimp only; omega), hF5, by first | omega | (dsimp only; omega)⟩ (hasR_cons (by conv => lhs; whnf) (by rfl) rfl (hasR_cons (by conv => lhs; whnf) (by rfl) rfl trivial)) (hasQ_cons (by conv => lhs; whnf) (by rfl) rfl trivial)
  refine awp_exit ?_
  refine k_seq_exit ?_
  refine k_rnd_exit2 ?_
  refine k_blk_exit ?_
  refine k_seq ?_
  refine awp_seq ?_
  refine awp_region ?_
  refine s_mv ?_
  refine s_as ?_
  refine k_nil ?_
  refine k_seq ?_
  refine awp_mv 4 5020 9200 (by conv => lhs; whnf) (by conv => lhs; whnf) rfl ?_
  refine awp_ret ?_
  refine k_fin ?_
  obtain rfl := Option.some.inj hF3
  exact ends_gen _ [] (by rw [Try.results91]; exact (res_tmp (by conv => lhs; whnf) res_nil))
theorem m_impl_hitForms_all (fuel : Nat) : m_impl_hitForms_AC fuel := by
  induction fuel using Nat.strongRecOn with
  | _ N ih =>
    cases N with
    | zero => exact (by intro x1 x2 r h; rw [m_impl_hitForms] at h; cases h)
    | succ fu => exact m_impl_hitForms_st fu (fun k hk => (ih k (by omega)))
theorem m_impl_hitForms_ok (fuel : Nat) : m_impl_hitForms_AC fuel := (m_impl_hitForms_all fuel)
def m_impl_hitForms_n_AC (fuel : Nat) : Prop := ∀ (x1 : Hit) (r : (List Form)), m_impl_hitForms_n fuel x1 = some r → AC Try.prog 91 [.ag [.t (.sc (.int .i64 x1.name.kind)), .t (.sc (.str x1.name.name)), .t (.sc (.int .i64 x1.name.n)), .t (.sl (x1.name.scopes.map rI)), .t (.sl (x1.name.kids.map Form.row)), .t (.sc (.int .i64 x1.depth)), .t (.sc (.int .i64 x1.one.kind)), .t (.sc (.str x1.one.name)), .t (.sc (.int .i64 x1.one.n)), .t (.sl (x1.one.scopes.map rI)), .t (.sl (x1.one.kids.map Form.row)), .t (.sl (x1.many.map Hit.row))], .nl] (objs []) (.ar 9200) (objs [(9200, .arr (r.map Form.row) 32 true)])
theorem m_impl_hitForms_n_ok (fuel : Nat) : m_impl_hitForms_n_AC fuel := by
  intro x1 r hF0
  unfold m_impl_hitForms_n at hF0
  refine AC_intro (rs := [.ar 9200]) Try.func91 rfl (by kernel_rfl) (by simp [Try.ntmps91]) (keep_all rfl) ?_
  intro C hC
  rw [Try.ntmps91]
  refine awp_seq ?_
  refine awp_region ?_
  refine s_box ?_
  refine s_as ?_
  refine k_nil ?_
  refine k_seq ?_
  refine awp_seq ?_
  refine awp_seq ?_
  refine awp_region ?_
  refine s_fa yF65_1 ?_
  refine s_ld1 yA3 ?_
  refine s_eq ?_
  refine k_nil ?_
  refine k_seq ?_
  refine w_cond hF0 (fun hc1 hF1 => ?_) (fun hc1 hF1 => ?_) <;> clear hF0
  refine awp_seq ?_
  refine awp_region ?_
  refine s_mv ?_
  refine s_fa yF65_2 ?_
  refine s_ldN yA32 yS32 ?_
  replace hF1 := bind_some' hF1
  obtain ⟨v2, hv2, hF2⟩ := hF1
  refine s_pure [] (m_impl_copyForm_ok fuel _ _ hv2) ?_
  refine s_bs Form.row [v2] yP30 yR32 ?_
  obtain ⟨hk3, hF3⟩ := chk_some hF2
  refine s_apN Form.row (fun y => Form.row_len y) hk3 yP30 ?_
  refine s_as ?_
  refine k_nil ?_
  refine k_seq ?_
  refine awp_mv 4 15 9200 (by conv => lhs; whnf) (by conv => lhs; whnf) rfl ?_
  refine awp_ret ?_
  refine k_seq_ret ?_
  refine k_fin ?_
  obtain rfl := Option.some.inj hF3
  exact ends_gen _ [] (by rw [Try.results91]; exact (res_tmp (by conv => lhs; whnf) res_nil))
  refine awp_skip ?_
  refine k_seq ?_
  refine awp_seq ?_
  refine awp_seq ?_
  refine awp_region ?_
  refine s_fa yF65_3 ?_
  refine s_ld1 yA34 ?_
  refine s_lenT yU34 ?_
  refine s_mv ?_
  refine k_nil ?_
  refine k_seq ?_
  refine awp_block ?_
  refine awp_own 1 5020 32 yI32.choose_spec ?_
  refine awp_frame2 [1, 6, 19, 20, 21, 22, 23, 24, 25, 26] [5020] [6, 12025] [5020] (fun a : Nat × (List Form) × Int => a.1) (fun a : Nat × (List Form) × Int => [(1, .ar 5020), (19, .t (.sc (.int .i64 a.2.2)))]) (fun a : Nat × (List Form) × Int => [(5020, .arr (a.2.1.map Form.row) 32 true)]) (fun a : Nat × (List Form) × Int => a.1 ≤ fuel ∧ m_impl_hitForms_l1 a.1 x1 a.2.1 a.2.2 = some r ∧ 0 ≤ a.2.2) (fuel, ([] : List Form), 0) ⟨Nat.le_refl _, hF1, by simp⟩ (by rfl) (by rfl) (fun _ => rfl) (hasF_cons (by conv => lhs; whnf) (by rfl) (hasF_cons (by conv => lhs; whnf) (by rfl) hasF_nil)) (hasO_cons (by conv => lhs; whnf) (by rfl) hasO_nil) (fresh_C hC rfl) (by repeat (first | exact freshS_args rfl | refine freshS_upd rfl ?_ | refine freshS_frame rfl ?_)) (by repeat (first | exact freshM_no | exact objs_fresh rfl | refine freshM_upd rfl ?_ | refine freshM_frame rfl ?_)) ?_
  clear hF1
  rintro ⟨fu, g4, g5⟩ ⟨hl6, hF2, hn_g5⟩
  dsimp only at hl6 hF2 hn_g5 ⊢
  obtain _ | fu := fu
  · rw [m_impl_hitForms_l1] at hF2; cases hF2
  rw [m_impl_hitForms_l1] at hF2
  refine awp_seq ?_
  refine awp_region ?_
  refine s_lt ?_
  refine k_nil ?_
  refine k_seq ?_
  refine awp_seq ?_
  refine w_cond hF2 (fun hc7 hF3 => ?_) (fun hc7 hF3 => ?_) <;> clear hF2
  refine awp_lenT 17 (fun hb8 => ?_)
  refine awp_skip ?_
  refine k_seq ?_
  refine awp_seq ?_
  refine awp_block ?_
  refine awp_seq ?_
  refine awp_region ?_
  replace hF3 := bind_some' hF3
  obtain ⟨v9, hv9, hF4⟩ := hF3
  refine s_ixT Hit.row hv9 (Hit.row_eq _) yE34 ?_
  refine s_ldN yA65 yS65 ?_
  refine s_alloc yZ65 ?_
  refine s_stW yS65 ?_
  refine k_nil ?_
  refine k_seq ?_
  refine awp_region ?_
  refine s_ldW yA65 yS65 ?_
  refine s_mv ?_
  replace hF4 := bind_some' hF4
  obtain ⟨v10, hv10, hF5⟩ := hF4
  refine s_call [(9301, 5020), (9200, 12025)] [] _ _ (m_impl_hitForms_ok fu _ _ _ hv10) ?_
  refine s_as ?_
  refine k_nil ?_
  refine k_blk ?_
  refine k_seq ?_
  refine awp_region ?_
  refine s_add (winc2 hc7 hb8 hn_g5) ?_
  refine s_mv ?_
  refine k_nil ?_
  exact s_rnd2 (fu, v10, (g5 + 1)) [(5020, 12025)] ⟨by first | omega | (dsimp only; omega), hF5, by first | omega | (dsimp only; omega)⟩ (hasR_cons (by conv => lhs; whnf) (by rfl) rfl (hasR_cons (by conv => lhs; whnf) (by rfl) rfl trivial)) (hasQ_cons (by conv => lhs; whnf) (by rfl) rfl trivial)
  refine awp_exit ?_
  refine k_seq_exit ?_
  refine k_rnd_exit2 ?_
  refine k_blk_exit ?_
  refine k_seq ?_
  refine awp_seq ?_
  refine awp_region ?_
  refine s_mv ?_
  refine s_as ?_
  refine k_nil ?_
  refine k_seq ?_
  refine awp_mv 4 5020 9200 (by conv => lhs; whnf) (by conv => lhs; whnf) rfl ?_
  refine awp_ret ?_
  refine k_fin ?_
  obtain rfl := Option.some.inj hF3
  exact ends_gen _ [] (by rw [Try.results91]; exact (res_tmp (by conv => lhs; whnf) res_nil))
def m_impl_HitForms_AC (fuel : Nat) : Prop := ∀ (x1 : Hit) (r : (List Form)), m_impl_HitForms fuel x1 = some r → AC Try.prog 44 [.ag [.t (.sc (.int .i64 x1.name.kind)), .t (.sc (.str x1.name.name)), .t (.sc (.int .i64 x1.name.n)), .t (.sl (x1.name.scopes.map rI)), .t (.sl (x1.name.kids.map Form.row)), .t (.sc (.int .i64 x1.depth)), .t (.sc (.int .i64 x1.one.kind)), .t (.sc (.str x1.one.name)), .t (.sc (.int .i64 x1.one.n)), .t (.sl (x1.one.scopes.map rI)), .t (.sl (x1.one.kids.map Form.row)), .t (.sl (x1.many.map Hit.row))]] noOb (.t (.sl (r.map Form.row))) noOb
theorem m_impl_HitForms_ok (fuel : Nat) : m_impl_HitForms_AC fuel := by
  intro x1 r hF0
  unfold m_impl_HitForms at hF0
  refine AC_intro (rs := [.t (.sl (r.map Form.row))]) Try.func44 rfl (by kernel_rfl) (by simp [Try.ntmps44]) (by simp [noOb]) ?_
  intro C hC
  rw [Try.ntmps44]
  refine awp_seq ?_
  refine awp_region ?_
  refine s_box ?_
  refine s_as ?_
  refine k_nil ?_
  refine k_seq ?_
  refine awp_seq ?_
  refine awp_seq ?_
  refine awp_region ?_
  refine s_ldW yA65 yS65 ?_
  replace hF0 := bind_some' hF0
  obtain ⟨v1, hv1, hF1⟩ := hF0
  refine s_pure [] (m_impl_hitOk_ok fuel _ _ hv1) ?_
  refine s_not ?_
  refine k_nil ?_
  refine k_seq ?_
  refine w_cond hF1 (fun hc2 hF2 => ?_) (fun hc2 hF2 => ?_) <;> clear hF1
  refine awp_seq ?_
  refine awp_region ?_
  refine s_as ?_
  refine k_nil ?_
  refine k_seq ?_
  refine awp_ret ?_
  refine k_seq_ret ?_
  refine k_fin ?_
  obtain rfl := Option.some.inj hF2
  exact ends_gen [] [] (by rw [Try.results44]; exact (res_tmp (by conv => lhs; whnf) res_nil))
  refine awp_skip ?_
  refine k_seq ?_
  refine awp_seq ?_
  refine awp_region ?_
  refine s_ldW yA65 yS65 ?_
  replace hF2 := bind_some' hF2
  obtain ⟨v3, hv3, hF3⟩ := hF2
  refine s_call [(9200, 2007)] [] _ _ (m_impl_hitForms_n_ok fuel _ _ hv3) ?_
  refine s_as ?_
  refine k_nil ?_
  refine k_seq ?_
  refine awp_ret ?_
  refine k_fin ?_
  obtain rfl := Option.some.inj hF3
  exact ends_gen [] [2007] (by rw [Try.results44]; exact (res_tmp (by conv => lhs; whnf) res_nil))
end Go.Abs
end
section
set_option maxRecDepth 100000
set_option maxHeartbeats 4000000
set_option linter.unusedVariables false
namespace Go.Abs
open Go.Proofs
def m_spec_DrawHitForms_AC (fuel : Nat) : Prop := ∀ (x1 : (List Int)) (r : Hit), m_spec_DrawHitForms fuel x1 = some r → AC Try.prog 49 [.t (.sl (x1.map rB))] noOb (.ag [.t (.sc (.int .i64 r.name.kind)), .t (.sc (.str r.name.name)), .t (.sc (.int .i64 r.name.n)), .t (.sl (r.name.scopes.map rI)), .t (.sl (r.name.kids.map Form.row)), .t (.sc (.int .i64 r.depth)), .t (.sc (.int .i64 r.one.kind)), .t (.sc (.str r.one.name)), .t (.sc (.int .i64 r.one.n)), .t (.sl (r.one.scopes.map rI)), .t (.sl (r.one.kids.map Form.row)), .t (.sl (r.many.map Hit.row))]) noOb
theorem m_spec_DrawHitForms_ok (fuel : Nat) : m_spec_DrawHitForms_AC fuel := by
  intro x1 r hF0
  unfold m_spec_DrawHitForms at hF0
  refine AC_intro (rs := [.ag [.t (.sc (.int .i64 r.name.kind)), .t (.sc (.str r.name.name)), .t (.sc (.int .i64 r.name.n)), .t (.sl (r.name.scopes.map rI)), .t (.sl (r.name.kids.map Form.row)), .t (.sc (.int .i64 r.depth)), .t (.sc (.int .i64 r.one.kind)), .t (.sc (.str r.one.name)), .t (.sc (.int .i64 r.one.n)), .t (.sl (r.one.scopes.map rI)), .t (.sl (r.one.kids.map Form.row)), .t (.sl (r.many.map Hit.row))]]) Try.func49 rfl (by kernel_rfl) (by simp [Try.ntmps49]) (by simp [noOb]) ?_
  intro C hC
  rw [Try.ntmps49]
  refine awp_seq ?_
  refine awp_region ?_
  refine s_alloc yZ65 ?_
  refine k_nil ?_
  refine k_seq ?_
  refine awp_seq ?_
  refine awp_region ?_
  refine s_mv ?_
  replace hF0 := bind_some' hF0
  obtain ⟨v1, hv1, hF1⟩ := hF0
  refine s_pure [] (m_spec_l4Hits_ok fuel _ _ hv1) ?_
  refine s_as ?_
  refine k_nil ?_
  refine k_seq ?_
  refine awp_seq ?_
  refine awp_seq ?_
  refine awp_region ?_
  refine s_mv ?_
  refine s_lenT yU34 ?_
  refine s_eq ?_
  refine k_nil ?_
  refine k_seq ?_
  refine w_cond hF1 (fun hc2 hF2 => ?_) (fun hc2 hF2 => ?_) <;> clear hF1
  refine awp_seq ?_
  refine awp_region ?_
  replace hF2 := bind_some' hF2
  obtain ⟨v3, hv3, hF3⟩ := hF2
  refine s_pure [] (m_spec_l1Name_ok fuel _ _ hv3) ?_
  replace hF3 := bind_some' hF3
  obtain ⟨v4, hv4, hF4⟩ := hF3
  refine s_pure [] (m_spec_l1Name_ok fuel _ _ hv4) ?_
  refine s_bld yZ65 yL65 ?_
  refine s_stW yS65 ?_
  refine k_nil ?_
  refine k_seq ?_
  refine awp_ret ?_
  refine k_seq_ret ?_
  refine k_fin ?_
  obtain rfl := Option.some.inj hF4
  exact ends_gen [] [] (by rw [Try.results49]; exact (res_agg (by conv => lhs; whnf) (by conv => lhs; whnf) yA65 yS65 rfl res_nil))
  refine awp_skip ?_
  refine k_seq ?_
  refine awp_seq ?_
  refine awp_region ?_
  refine s_mv ?_
  refine s_mv ?_
  replace hF2 := bind_some' hF2
  obtain ⟨v5, hv5, hF3⟩ := hF2
  refine s_call [(10, 14)] [] _ _ (m_spec_l15Open_ok fuel _ _ hv5) ?_
  refine s_mv ?_
  refine s_lenT yU34 ?_
  replace hF3 := bind_some' hF3
  obtain ⟨v6, hv6, hF4⟩ := hF3
  refine s_call [(9000, 14)] [] _ _ (m_spec_l15Rd_pick_ok fuel _ _ _ hv6) ?_
  replace hF4 := bind_some' hF4
  obtain ⟨v7, hv7, hF5⟩ := hF4
  refine s_ixT Hit.row hv7 (Hit.row_eq _) yE34 ?_
  refine s_ldN yA65 yS65 ?_
  refine s_stW yS65 ?_
  refine k_nil ?_
  refine k_seq ?_
  refine awp_ret ?_
  refine k_fin ?_
  obtain rfl := Option.some.inj hF5
  exact ends_gen [] [] (by rw [Try.results49]; exact (res_agg (by conv => lhs; whnf) (by conv => lhs; whnf) yA65 yS65 rfl res_nil))
def m_spec_l4Forms_AC (fuel : Nat) : Prop := ∀ (x1 : (List Form)) (x2 : Hit) (r : (List Form)), m_spec_l4Forms fuel x1 x2 = some r → AC Try.prog 95 [.ar 9300, .ag [.t (.sc (.int .i64 x2.name.kind)), .t (.sc (.str x2.name.name)), .t (.sc (.int .i64 x2.name.n)), .t (.sl (x2.name.scopes.map rI)), .t (.sl (x2.name.kids.map Form.row)), .t (.sc (.int .i64 x2.depth)), .t (.sc (.int .i64 x2.one.kind)), .t (.sc (.str x2.one.name)), .t (.sc (.int .i64 x2.one.n)), .t (.sl (x2.one.scopes.map rI)), .t (.sl (x2.one.kids.map Form.row)), .t (.sl (x2.many.map Hit.row))]] (objs [(9300, .arr (x1.map Form.row) 32 true)]) (.ar 9200) (objs [(9300, .dead), (9200, .arr (r.map Form.row) 32 true)])
theorem m_spec_l4Forms_st (fu : Nat) (ih_m_spec_l4Forms : ∀ k, k ≤ fu → m_spec_l4Forms_AC k) : m_spec_l4Forms_AC (fu + 1) := by
  intro x1 x2 r hF0
  rw [m_spec_l4Forms] at hF0
  refine AC_intro (rs := [.ar 9200]) Try.func95 rfl (by kernel_rfl) (by simp [Try.ntmps95]) (keep_all rfl) ?_
  intro C hC
  rw [Try.ntmps95]
  refine awp_seq ?_
  refine awp_region ?_
  refine s_box ?_
  refine s_as ?_
  refine k_nil ?_
  refine k_seq ?_
  refine awp_seq ?_
  refine awp_seq ?_
  refine awp_region ?_
  refine s_fa yF65_1 ?_
  refine s_ld1 yA3 ?_
  refine s_eq ?_
  refine k_nil ?_
  refine k_seq ?_
  refine w_cond hF0 (fun hc1 hF1 => ?_) (fun hc1 hF1 => ?_) <;> clear hF0
  refine awp_seq ?_
  refine awp_region ?_
  refine s_mv ?_
  refine s_fa yF65_2 ?_
  refine s_ldN yA32 yS32 ?_
  replace hF1 := bind_some' hF1
  obtain ⟨v2, hv2, hF2⟩ := hF1
  refine s_call [(9203, 2012), (9204, 12012)] [] _ _ (m_spec_l1Copy_ok fu _ _ hv2) ?_
  refine s_bs Form.row [v2] yP30 yR32 ?_
  obtain ⟨hk3, hF3⟩ := chk_some hF2
  refine s_apT Form.row (fun y => Form.row_len y) hk3 yP30 ?_
  refine s_as ?_
  refine k_nil ?_
  refine k_seq ?_
  refine awp_mv 4 14 9200 (by conv => lhs; whnf) (by conv => lhs; whnf) rfl ?_
  refine awp_ret ?_
  refine k_seq_ret ?_
  refine k_fin ?_
  obtain rfl := Option.some.inj hF3
  exact ends_gen _ [] (by rw [Try.results95]; exact (res_tmp (by conv => lhs; whnf) res_nil))
  refine awp_skip ?_
  refine k_seq ?_
  refine awp_seq ?_
  refine awp_seq ?_
  refine awp_region ?_
  refine s_as ?_
  refine k_nil ?_
  refine k_seq ?_
  refine awp_block ?_
  refine awp_mv 0 9300 5020 (by conv => lhs; whnf) (by conv => lhs; whnf) rfl ?_
  refine awp_frame2 [0, 5, 15, 16, 17, 18, 19, 20, 21, 22, 23, 24, 25, 26, 27, 28] [5020] [12028] [5020] (fun a : Nat × (List Form) × Int => a.1) (fun a : Nat × (List Form) × Int => [(0, .ar 5020), (5, .t (.sc (.int .i64 a.2.2)))]) (fun a : Nat × (List Form) × Int => [(5020, .arr (a.2.1.map Form.row) 32 true)]) (fun a : Nat × (List Form) × Int => a.1 ≤ fu ∧ m_spec_l4Forms_l1 a.1 x2 a.2.1 a.2.2 = some r ∧ 0 ≤ a.2.2) (fu, x1, 0) ⟨Nat.le_refl _, hF1, by simp⟩ (by rfl) (by rfl) (fun _ => rfl) (hasF_cons (by conv => lhs; whnf) (by rfl) (hasF_cons (by conv => lhs; whnf) (by rfl) hasF_nil)) (hasO_cons (by conv => lhs; whnf) (by rfl) hasO_nil) (fresh_C hC rfl) (by repeat (first | exact freshS_args rfl | refine freshS_upd rfl ?_ | refine freshS_frame rfl ?_)) (by repeat (first | exact freshM_no | exact objs_fresh rfl | refine freshM_upd rfl ?_ | refine freshM_frame rfl ?_)) ?_
  clear hF1
  rintro ⟨fu, g4, g5⟩ ⟨hl6, hF2, hn_g5⟩
  dsimp only at hl6 hF2 hn_g5 ⊢
  obtain _ | fu := fu
  · rw [m_spec_l4Forms_l1] at hF2; cases hF2
  rw [m_spec_l4Forms_l1] at hF2
  refine awp_seq ?_
  refine awp_seq ?_
  refine awp_region ?_
  refine s_mv ?_
  refine s_fa yF65_3 ?_
  refine s_ld1 yA34 ?_
  refine s_lenT yU34 ?_
  refine s_lt ?_
  refine k_nil ?_
  refine k_seq ?_
  refine w_cond hF2 (fun hc7 hF3 => ?_) (fun hc7 hF3 => ?_) <;> clear hF2
  refine awp_lenT 17 (fun hb8 => ?_)
  refine awp_skip ?_
  refine k_seq ?_
  refine awp_seq ?_
  refine awp_block ?_
  refine awp_region ?_
  refine s_mv ?_
  refine s_fa yF65_3 ?_
  refine s_ld1 yA34 ?_
  refine s_mv ?_
  replace hF3 := bind_some' hF3
  obtain ⟨v9, hv9, hF4⟩ := hF3
  refine s_ixT Hit.row hv9 (Hit.row_eq _) yE34 ?_
  refine s_ldN yA65 yS65 ?_
  replace hF4 := bind_some' hF4
  obtain ⟨v10, hv10, hF5⟩ := hF4
  refine s_call [(9300, 5020), (9200, 12028)] [] _ _ (ih_m_spec_l4Forms fu (by omega) _ _ _ hv10) ?_
  refine s_as ?_
  refine k_nil ?_
  refine k_blk ?_
  refine k_seq ?_
  refine awp_region ?_
  refine s_mv ?_
  refine s_add (winc2 hc7 hb8 hn_g5) ?_
  refine s_as ?_
  refine k_nil ?_
  exact s_rnd2 (fu, v10, (g5 + 1)) [(5020, 12028)] ⟨by first | omega | (dsimp only; omega), hF5, by first | omega | (dsimp only; omega)⟩ (hasR_cons (by conv => lhs; whnf) (by rfl) rfl (hasR_cons (by conv => lhs; whnf) (by rfl) rfl trivial)) (hasQ_cons (by conv => lhs; whnf) (by rfl) rfl trivial)
  refine awp_exit ?_
  refine k_seq_exit ?_
  refine k_rnd_exit2 ?_
  refine k_blk_exit ?_
  refine k_seq ?_
  refine awp_seq ?_
  refine awp_region ?_
  refine s_mv ?_
  refine s_as ?_
  refine k_nil ?_
  refine k_seq ?_
  refine awp_mv 4 5020 9200 (by conv => lhs; whnf) (by conv => lhs; whnf) rfl ?_
  refine awp_ret ?_
  refine k_fin ?_
  obtain rfl := Option.some.inj hF3
  exact ends_gen _ [] (by rw [Try.results95]; exact (res_tmp (by conv => lhs; whnf) res_nil))
theorem m_spec_l4Forms_all (fuel : Nat) : m_spec_l4Forms_AC fuel := by
  induction fuel using Nat.strongRecOn with
  | _ N ih =>
    cases N with
    | zero => exact (by intro x1 x2 r h; rw [m_spec_l4Forms] at h; cases h)
    | succ fu => exact m_spec_l4Forms_st fu (fun k hk => (ih k (by omega)))
theorem m_spec_l4Forms_ok (fuel : Nat) : m_spec_l4Forms_AC fuel := (m_spec_l4Forms_all fuel)
def m_spec_HitForms_AC (fuel : Nat) : Prop := ∀ (x1 : Hit) (r : (List Form)), m_spec_HitForms fuel x1 = some r → AC Try.prog 50 [.ag [.t (.sc (.int .i64 x1.name.kind)), .t (.sc (.str x1.name.name)), .t (.sc (.int .i64 x1.name.n)), .t (.sl (x1.name.scopes.map rI)), .t (.sl (x1.name.kids.map Form.row)), .t (.sc (.int .i64 x1.depth)), .t (.sc (.int .i64 x1.one.kind)), .t (.sc (.str x1.one.name)), .t (.sc (.int .i64 x1.one.n)), .t (.sl (x1.one.scopes.map rI)), .t (.sl (x1.one.kids.map Form.row)), .t (.sl (x1.many.map Hit.row))]] noOb (.t (.sl (r.map Form.row))) noOb
theorem m_spec_HitForms_ok (fuel : Nat) : m_spec_HitForms_AC fuel := by
  intro x1 r hF0
  unfold m_spec_HitForms at hF0
  refine AC_intro (rs := [.t (.sl (r.map Form.row))]) Try.func50 rfl (by kernel_rfl) (by simp [Try.ntmps50]) (by simp [noOb]) ?_
  intro C hC
  rw [Try.ntmps50]
  refine awp_seq ?_
  refine awp_region ?_
  refine s_box ?_
  refine s_as ?_
  refine k_nil ?_
  refine k_seq ?_
  refine awp_seq ?_
  refine awp_seq ?_
  refine awp_region ?_
  refine s_ldW yA65 yS65 ?_
  refine s_fa yF65_1 ?_
  refine s_ld1 yA3 ?_
  replace hF0 := bind_some' hF0
  obtain ⟨v1, hv1, hF1⟩ := hF0
  refine s_pure [] (m_spec_l4Hit_ok fuel _ _ _ hv1) ?_
  refine s_not ?_
  refine k_nil ?_
  refine k_seq ?_
  refine w_cond hF1 (fun hc2 hF2 => ?_) (fun hc2 hF2 => ?_) <;> clear hF1
  refine awp_seq ?_
  refine awp_region ?_
  refine s_bs Form.row ([] : List Form) yP30 yR32 ?_
  refine s_as ?_
  refine k_nil ?_
  refine k_seq ?_
  refine awp_ret ?_
  refine k_seq_ret ?_
  refine k_fin ?_
  obtain rfl := Option.some.inj hF2
  exact ends_gen [] [8] (by rw [Try.results50]; exact (res_tmp (by conv => lhs; whnf) res_nil))
  refine awp_skip ?_
  refine k_seq ?_
  refine awp_seq ?_
  refine awp_region ?_
  refine s_bs Form.row ([] : List Form) yP30 yR32 ?_
  refine s_ldW yA65 yS65 ?_
  replace hF2 := bind_some' hF2
  obtain ⟨v3, hv3, hF3⟩ := hF2
  refine s_call [(9300, 9), (9200, 12011)] [] _ _ (m_spec_l4Forms_ok fuel _ _ _ hv3) ?_
  refine s_as ?_
  refine k_nil ?_
  refine k_seq ?_
  refine awp_ret ?_
  refine k_fin ?_
  obtain rfl := Option.some.inj hF3
  exact ends_gen [] [12011] (by rw [Try.results50]; exact (res_tmp (by conv => lhs; whnf) res_nil))
def m_laws_FnHitForms_AC (fuel : Nat) : Prop := ∀ (x1 : (List Int)) (r : Bool), m_laws_FnHitForms fuel x1 = some r → AC Try.prog 10 [.t (.sl (x1.map rB))] noOb (.t (.sc (.bool r))) noOb
theorem m_laws_FnHitForms_ok (fuel : Nat) : m_laws_FnHitForms_AC fuel := by
  intro x1 r hF0
  unfold m_laws_FnHitForms at hF0
  refine AC_intro (rs := [.t (.sc (.bool r))]) Try.func10 rfl (by kernel_rfl) (by simp [Try.ntmps10]) (by simp [noOb]) ?_
  intro C hC
  rw [Try.ntmps10]
  refine awp_seq ?_
  refine awp_region ?_
  refine s_as ?_
  refine k_nil ?_
  refine k_seq ?_
  refine awp_seq ?_
  refine awp_seq ?_
  refine awp_region ?_
  refine s_mv ?_
  refine s_lenT yU51 ?_
  refine s_gt ?_
  refine k_nil ?_
  refine k_seq ?_
  refine w_cond hF0 (fun hc1 hF1 => ?_) (fun hc1 hF1 => ?_) <;> clear hF0
  refine awp_lenT 0 (fun hb2 => ?_)
  refine awp_seq ?_
  refine awp_region ?_
  refine s_as ?_
  refine k_nil ?_
  refine k_seq ?_
  refine awp_ret ?_
  refine k_seq_ret ?_
  refine k_fin ?_
  obtain rfl := Option.some.inj hF1
  exact ends_gen [] [] (by rw [Try.results10]; exact (res_tmp (by conv => lhs; whnf) res_nil))
  refine awp_skip ?_
  refine k_seq ?_
  refine awp_seq ?_
  refine awp_region ?_
  refine s_mv ?_
  replace hF1 := bind_some' hF1
  obtain ⟨v3, hv3, hF2⟩ := hF1
  refine s_pure [] (m_spec_DrawHitForms_ok fuel _ _ hv3) ?_
  refine s_alloc yZ65 ?_
  refine s_stW yS65 ?_
  refine k_nil ?_
  refine k_seq ?_
  refine awp_seq ?_
  refine awp_region ?_
  refine s_ldW yA65 yS65 ?_
  replace hF2 := bind_some' hF2
  obtain ⟨v4, hv4, hF3⟩ := hF2
  refine s_pure [] (m_impl_HitForms_ok fuel _ _ hv4) ?_
  refine s_as ?_
  refine k_nil ?_
  refine k_seq ?_
  refine awp_seq ?_
  refine awp_seqJ [14, 15, 16, 17, 18, 19, 20, 21, 22, 23, 24] [] [21] [] (fun a : Nat × Bool => [(24, .t (.sc (.bool a.2)))]) (fun a : Nat × Bool => []) (fun a : Nat × Bool => a.1 ≤ fuel ∧ m_laws_FnHitForms_j1 a.1 v3 v4 a.2 = some r) (by rfl) (fun _ => rfl) (fun _ h => by cases h) freshS_nil freshM_nil ?_ ?_
  refine awp_region ?_
  refine s_mv ?_
  refine s_ldW yA65 yS65 ?_
  replace hF3 := bind_some' hF3
  obtain ⟨v5, hv5, hF4⟩ := hF3
  refine s_pure [] (m_spec_HitForms_ok fuel _ _ hv5) ?_
  replace hF4 := bind_some' hF4
  obtain ⟨v6, hv6, hF5⟩ := hF4
  refine s_pure [] (m_laws_mxForms_ok fuel _ _ _ hv6) ?_
  refine s_not ?_
  refine s_mv ?_
  refine w_guard _ 19 hF5 (fun hc7 hF6 => ?_) (fun hc7 hF6 => ?_) <;> clear hF5
  iterate 4 refine r_no rfl ?_
  refine s_pkt ?_
  refine k_nil ?_
  exact s_join (fuel, true) [] ⟨by first | omega | (dsimp only; omega), hF6⟩ (hasR_cons (by conv => lhs; whnf) (by rfl) rfl trivial) trivial
  refine s_ldW yA65 yS65 ?_
  refine s_bs Hit.row [v3] yP34 yR65 ?_
  replace hF6 := bind_some' hF6
  obtain ⟨v8, hv8, hF7⟩ := hF6
  refine s_pure [21] (m_impl_HitsValid_ok fuel _ _ hv8) ?_
  refine s_not ?_
  refine s_pkf ?_
  refine k_nil ?_
  exact s_join (fuel, (!v8)) [] ⟨by first | omega | (dsimp only; omega), hF7⟩ (hasR_cons (by conv => lhs; whnf) (by rfl) rfl trivial) trivial
  clear hF3
  rintro ⟨fu, g9⟩ ⟨hl10, hF4⟩
  dsimp only at hl10 hF4 ⊢
  obtain _ | fu := fu
  · rw [m_laws_FnHitForms_j1] at hF4; cases hF4
  rw [m_laws_FnHitForms_j1] at hF4
  refine w_cond hF4 (fun hc11 hF5 => ?_) (fun hc11 hF5 => ?_) <;> clear hF4
  refine awp_seqJ [2, 25, 26, 27, 28, 29, 30, 31, 32, 33, 34, 35, 36, 37, 38] [] [21, 35] [] (fun a : Nat × Bool => [(2, .t (.sc (.bool a.2)))]) (fun a : Nat × Bool => []) (fun a : Nat × Bool => a.1 ≤ fu ∧ m_laws_FnHitForms_j2 a.1  a.2 = some r) (by rfl) (fun _ => rfl) (fun _ h => by cases h) freshS_nil freshM_nil ?_ ?_
  refine awp_region ?_
  refine s_mv ?_
  refine s_ldW yA65 yS65 ?_
  replace hF5 := bind_some' hF5
  obtain ⟨v12, hv12, hF6⟩ := hF5
  refine s_pure [] (m_spec_HitForms_ok fu _ _ hv12) ?_
  replace hF6 := bind_some' hF6
  obtain ⟨v13, hv13, hF7⟩ := hF6
  refine s_pure [] (m_laws_mxForms_ok fu _ _ _ hv13) ?_
  refine s_mv ?_
  refine w_guard _ 29 hF7 (fun hc14 hF8 => ?_) (fun hc14 hF8 => ?_) <;> clear hF7
  refine s_mv ?_
  refine s_lenT yU30 ?_
  refine s_eq ?_
  refine s_mv ?_
  refine w_guard _ 33 hF8 (fun hc15 hF9 => ?_) (fun hc15 hF9 => ?_) <;> clear hF8
  iterate 3 refine r_no rfl ?_
  refine s_pkt ?_
  refine s_pkt ?_
  refine s_as ?_
  refine k_nil ?_
  exact s_join (fu, true) [] ⟨by first | omega | (dsimp only; omega), hF9⟩ (hasR_cons (by conv => lhs; whnf) (by rfl) rfl trivial) trivial
  refine s_ldW yA65 yS65 ?_
  refine s_bs Hit.row [v3] yP34 yR65 ?_
  replace hF9 := bind_some' hF9
  obtain ⟨v16, hv16, hF10⟩ := hF9
  refine s_pure [35] (m_impl_HitsValid_ok fu _ _ hv16) ?_
  refine s_pkf ?_
  refine s_pkt ?_
  refine s_as ?_
  refine k_nil ?_
  exact s_join (fu, v16) [] ⟨by first | omega | (dsimp only; omega), hF10⟩ (hasR_cons (by conv => lhs; whnf) (by rfl) rfl trivial) trivial
  iterate 8 refine r_no rfl ?_
  refine s_pkf ?_
  refine s_as ?_
  refine k_nil ?_
  exact s_join (fu, false) [] ⟨by first | omega | (dsimp only; omega), hF8⟩ (hasR_cons (by conv => lhs; whnf) (by rfl) rfl trivial) trivial
  clear hF5
  rintro ⟨fu, g17⟩ ⟨hl18, hF6⟩
  dsimp only at hl18 hF6 ⊢
  obtain _ | fu := fu
  · rw [m_laws_FnHitForms_j2] at hF6; cases hF6
  rw [m_laws_FnHitForms_j2] at hF6
  refine awp_ret ?_
  refine k_seq_ret ?_
  refine k_fin ?_
  obtain rfl := Option.some.inj hF6
  exact ends_gen [] [] (by rw [Try.results10]; exact (res_tmp (by conv => lhs; whnf) res_nil))
  refine awp_skip ?_
  refine k_seq ?_
  refine awp_seq ?_
  refine awp_seq ?_
  refine awp_region ?_
  refine s_fa yF65_1 ?_
  refine s_ld1 yA3 ?_
  refine s_eq ?_
  refine k_nil ?_
  refine k_seq ?_
  refine w_cond hF5 (fun hc19 hF6 => ?_) (fun hc19 hF6 => ?_) <;> clear hF5
  refine awp_seqJ [2, 42, 43, 44, 45, 46, 47, 48, 49, 50, 51, 52] [] [] [] (fun a : Nat × Bool => [(2, .t (.sc (.bool a.2)))]) (fun a : Nat × Bool => []) (fun a : Nat × Bool => a.1 ≤ fu ∧ m_laws_FnHitForms_j2 a.1  a.2 = some r) (by rfl) (fun _ => rfl) (fun _ h => by cases h) freshS_nil freshM_nil ?_ ?_
  refine awp_draw yMix (by kernel_rfl) ?_
  refine s_mv ?_
  refine s_lenT yU30 ?_
  refine s_eq ?_
  refine s_mv ?_
  refine w_guard _ 45 hF6 (fun hc20 hF7 => ?_) (fun hc20 hF7 => ?_) <;> clear hF6
  refine s_mv ?_
  replace hF7 := bind_some' hF7
  obtain ⟨v21, hv21, hF8⟩ := hF7
  refine s_ixT Form.row hv21 (Form.row_eq _) yE30 ?_
  refine s_ldN yA32 yS32 ?_
  refine s_fa yF65_2 ?_
  refine s_ldN yA32 yS32 ?_
  replace hF8 := bind_some' hF8
  obtain ⟨v22, hv22, hF9⟩ := hF8
  refine s_pure [] (m_impl_FormSame_ok fu _ _ _ hv22) ?_
  refine s_pkt ?_
  refine s_as ?_
  refine k_nilD (by kernel_rfl) ?_
  exact s_join (fu, v22) [] ⟨by first | omega | (dsimp only; omega), hF9⟩ (hasR_cons (by conv => lhs; whnf) (by rfl) rfl trivial) trivial
  iterate 6 refine r_no rfl ?_
  refine s_pkf ?_
  refine s_as ?_
  refine k_nilD (by kernel_rfl) ?_
  exact s_join (fu, false) [] ⟨by first | omega | (dsimp only; omega), hF7⟩ (hasR_cons (by conv => lhs; whnf) (by rfl) rfl trivial) trivial
  clear hF6
  rintro ⟨fu, g23⟩ ⟨hl24, hF7⟩
  dsimp only at hl24 hF7 ⊢
  obtain _ | fu := fu
  · rw [m_laws_FnHitForms_j2] at hF7; cases hF7
  rw [m_laws_FnHitForms_j2] at hF7
  refine awp_ret ?_
  refine k_seq_ret ?_
  refine k_fin ?_
  obtain rfl := Option.some.inj hF7
  exact ends_gen [] [] (by rw [Try.results10]; exact (res_tmp (by conv => lhs; whnf) res_nil))
  refine awp_skip ?_
  refine k_seq ?_
  refine awp_seq ?_
  refine awp_region ?_
  refine s_bs Form.row ([] : List Form) yP30 yR32 ?_
  refine s_as ?_
  refine k_nil ?_
  refine k_seq ?_
  refine awp_seq ?_
  refine awp_seq ?_
  refine awp_region ?_
  refine s_as ?_
  refine k_nil ?_
  refine k_seq ?_
  refine awp_block ?_
  refine awp_mv 5 53 5080 (by conv => lhs; whnf) (by conv => lhs; whnf) rfl ?_
  refine awp_frame2 [5, 6, 54, 55, 56, 57, 58, 59, 60, 61, 62, 63, 64, 65, 66, 67, 68] [5080] [68] [5080] (fun a : Nat × (List Form) × Int => a.1) (fun a : Nat × (List Form) × Int => [(5, .ar 5080), (6, .t (.sc (.int .i64 a.2.2)))]) (fun a : Nat × (List Form) × Int => [(5080, .arr (a.2.1.map Form.row) 32 true)]) (fun a : Nat × (List Form) × Int => a.1 ≤ fu ∧ m_laws_FnHitForms_l4 a.1 v3 v4 a.2.1 a.2.2 = some r ∧ 0 ≤ a.2.2) (fu, ([] : List Form), 0) ⟨Nat.le_refl _, hF6, by simp⟩ (by rfl) (by rfl) (fun _ => rfl) (hasF_cons (by conv => lhs; whnf) (by rfl) (hasF_cons (by conv => lhs; whnf) (by rfl) hasF_nil)) (hasO_cons (by conv => lhs; whnf) (by rfl) hasO_nil) (fresh_C hC rfl) (by repeat (first | exact freshS_args rfl | refine freshS_upd rfl ?_ | refine freshS_frame rfl ?_)) (by repeat (first | exact freshM_no | exact objs_fresh rfl | refine freshM_upd rfl ?_ | refine freshM_frame rfl ?_)) ?_
  clear hF6
  rintro ⟨fu, g25, g26⟩ ⟨hl27, hF7, hn_g26⟩
  dsimp only at hl27 hF7 hn_g26 ⊢
  obtain _ | fu := fu
  · rw [m_laws_FnHitForms_l4] at hF7; cases hF7
  rw [m_laws_FnHitForms_l4] at hF7
  refine awp_seq ?_
  refine awp_seq ?_
  refine awp_region ?_
  refine s_mv ?_
  refine s_fa yF65_3 ?_
  refine s_ld1 yA34 ?_
  refine s_lenT yU34 ?_
  refine s_lt ?_
  refine k_nil ?_
  refine k_seq ?_
  refine w_cond hF7 (fun hc28 hF8 => ?_) (fun hc28 hF8 => ?_) <;> clear hF7
  refine awp_lenT 56 (fun hb29 => ?_)
  refine awp_skip ?_
  refine k_seq ?_
  refine awp_seq ?_
  refine awp_block ?_
  refine awp_region ?_
  refine s_mv ?_
  refine s_fa yF65_3 ?_
  refine s_ld1 yA34 ?_
  refine s_mv ?_
  replace hF8 := bind_some' hF8
  obtain ⟨v30, hv30, hF9⟩ := hF8
  refine s_ixT Hit.row hv30 (Hit.row_eq _) yE34 ?_
  refine s_ldN yA65 yS65 ?_
  replace hF9 := bind_some' hF9
  obtain ⟨v31, hv31, hF10⟩ := hF9
  refine s_pure [] (m_impl_HitForms_ok fu _ _ hv31) ?_
  obtain ⟨hk32, hF11⟩ := chk_some hF10
  refine s_apT Form.row (fun y => Form.row_len y) hk32 yP30 ?_
  refine s_as ?_
  refine k_nil ?_
  refine k_blk ?_
  refine k_seq ?_
  refine awp_region ?_
  refine s_mv ?_
  refine s_add (winc2 hc28 hb29 hn_g26) ?_
  refine s_as ?_
  refine k_nil ?_
  exact s_rnd2 (fu, (g25 ++ v31), (g26 + 1)) [(5080, 68)] ⟨by first | omega | (dsimp only; omega), hF11, by first | omega | (dsimp only; omega)⟩ (hasR_cons (by conv => lhs; whnf) (by rfl) rfl (hasR_cons (by conv => lhs; whnf) (by rfl) rfl trivial)) (hasQ_cons (by conv => lhs; whnf) (by rfl) rfl trivial)
  refine awp_exit ?_
  refine k_seq_exit ?_
  refine k_rnd_exit2 ?_
  refine k_blk_exit ?_
  refine k_seq ?_
  refine awp_seq ?_
  refine awp_region ?_
  refine s_mv ?_
  refine s_mv ?_
  replace hF8 := bind_some' hF8
  obtain ⟨v33, hv33, hF9⟩ := hF8
  refine s_pure [5080] (m_laws_mxForms_ok fu _ _ _ hv33) ?_
  refine s_as ?_
  refine k_nil ?_
  refine k_seq ?_
  refine awp_ret ?_
  refine k_fin ?_
  obtain rfl := Option.some.inj hF9
  exact ends_gen [] [] (by rw [Try.results10]; exact (res_tmp (by conv => lhs; whnf) res_nil))
end Go.Abs
end
section
set_option linter.unusedVariables false
namespace Go.Abs
def Tr {α : Type} (F : Nat → Option α) (v : α) : Prop := ∃ n, ∀ m, n ≤ m → F m = some v
theorem Tr.val {α : Type} {v : α} : Tr (fun _ => some v) v := ⟨0, fun _ _ => rfl⟩
theorem Tr.of {α : Type} {F : Nat → Option α} {v : α} (h : ∀ m, F m = some v) : Tr F v := ⟨0, fun m _ => h m⟩
theorem Tr.bind {α β : Type} {f : Nat → Option α} {g : α → Nat → Option β} {v : α} {w : β} (h1 : Tr f v) (h2 : Tr (fun m => g v m) w) : Tr (fun m => (f m).bind fun x => g x m) w := by
  obtain ⟨n1, h1⟩ := h1
  obtain ⟨n2, h2⟩ := h2
  refine ⟨n1 + n2, fun m hm => ?_⟩
  show (f m).bind _ = _
  rw [h1 m (by omega)]
  exact h2 m (by omega)
theorem Tr.step {α : Type} {F G : Nat → Option α} {v : α} (h : ∀ m, F (m + 1) = G m) (hg : Tr G v) : Tr F v := by
  obtain ⟨n, hg⟩ := hg
  refine ⟨n + 1, fun m hm => ?_⟩
  obtain ⟨k, rfl⟩ : ∃ k, m = k + 1 := ⟨m - 1, by omega⟩
  rw [h, hg k (by omega)]
theorem Tr.eq {α : Type} {F G : Nat → Option α} {v : α} (h : ∀ m, F m = G m) (hg : Tr G v) : Tr F v := by
  obtain ⟨n, hg⟩ := hg
  exact ⟨n, fun m hm => by rw [h, hg m hm]⟩
theorem Tr.tt {α : Type} {F G : Nat → Option α} {b : Bool} {v : α} (hb : b = true) (h : Tr F v) : Tr (fun m => bif b then F m else G m) v := by subst hb; exact h
theorem Tr.ff {α : Type} {F G : Nat → Option α} {b : Bool} {v : α} (hb : b = false) (h : Tr G v) : Tr (fun m => bif b then F m else G m) v := by subst hb; exact h
theorem Tr.chk {α : Type} {F : Nat → Option α} {b : Bool} {v : α} (hb : b = true) (h : Tr F v) : Tr (fun m => Abs.chk b (F m)) v := by subst hb; exact h
theorem Tr.idx {α β : Type} {l : List α} {i : Int} {x : α} {g : α → Nat → Option β} {w : β} (hx : idx l i = some x) (h : Tr (fun m => g x m) w) : Tr (fun m => (Abs.idx l i).bind fun y => g y m) w := by
  rw [hx]; exact h
theorem Tr.get {α : Type} {F : Nat → Option α} {v : α} (h : Tr F v) : ∃ n, F n = some v := by
  obtain ⟨n, h⟩ := h; exact ⟨n, h n (Nat.le_refl n)⟩
theorem idx_nat {α : Type} {l : List α} {k : Nat} {x : α} (h : l[k]? = some x) : idx l (k : Int) = some x := by
  unfold idx
  simp [h]
theorem idx_int {α : Type} {l : List α} {i : Int} (h0 : 0 ≤ i) (h1 : i < l.length) : ∃ x, idx l i = some x ∧ x ∈ l := by
  obtain ⟨k, rfl⟩ := Int.eq_ofNat_of_zero_le h0
  have hk : k < l.length := by omega
  exact ⟨l[k], idx_nat (List.getElem?_eq_getElem hk), List.getElem_mem hk⟩
theorem drop_ind {α : Type} (l : List α) (motive : Nat → List α → Prop) (nil : motive l.length [])
    (cons : ∀ k x xs, k < l.length → l[k]? = some x → l.drop k = x :: xs → motive (k + 1) xs → motive k (x :: xs)) : ∀ k, k ≤ l.length → motive k (l.drop k) := by
  have key : ∀ n k, l.length - k = n → k ≤ l.length → motive k (l.drop k) := by
    intro n
    induction n with
    | zero =>
      intro k hk hle
      have : k = l.length := by omega
      subst this
      rw [List.drop_length]; exact nil
    | succ n ih =>
      intro k hk hle
      have hlt : k < l.length := by omega
      have := ih (k + 1) (by omega) (by omega)
      rw [List.drop_eq_getElem_cons hlt]
      exact cons k _ _ hlt (List.getElem?_eq_getElem hlt) (List.drop_eq_getElem_cons hlt) this
  exact fun k hk => key _ k rfl hk
theorem ltN {k n : Nat} (h : k < n) : decide ((k : Int) < (n : Int)) = true := by simpa using h
theorem geN {k n : Nat} (h : ¬ k < n) : decide ((k : Int) < (n : Int)) = false := by simpa using h
theorem ltN_self {n : Nat} : decide ((n : Int) < (n : Int)) = false := by simp
theorem succN (k : Nat) : (k : Int) + 1 = ((k + 1 : Nat) : Int) := by simp
theorem w64_in {n : Int} (h : -9223372036854775808 ≤ n ∧ n ≤ 9223372036854775807) : w64 n = n := IntWalk.i64_in n (by omega)
def TQ {α : Type} (F : Nat → Option α) (Q : α → Prop) : Prop := ∃ r, Tr F r ∧ Q r
theorem TQ.val {α : Type} {v : α} {Q : α → Prop} (h : Q v) : TQ (fun _ => some v) Q := ⟨v, Tr.val, h⟩
theorem TQ.bind {α β : Type} {f : Nat → Option α} {g : α → Nat → Option β} {Q : α → Prop} {R : β → Prop} (h1 : TQ f Q) (h2 : ∀ v, Q v → TQ (fun m => g v m) R) : TQ (fun m => (f m).bind fun x => g x m) R := by
  obtain ⟨v, h1, hq⟩ := h1
  obtain ⟨w, h2, hr⟩ := h2 v hq
  exact ⟨w, h1.bind h2, hr⟩
theorem TQ.ev {α β : Type} {f : Nat → Option α} {g : α → Nat → Option β} {v : α} {R : β → Prop} (h1 : Tr f v) (h2 : TQ (fun m => g v m) R) : TQ (fun m => (f m).bind fun x => g x m) R := by
  obtain ⟨w, h2, hr⟩ := h2
  exact ⟨w, h1.bind h2, hr⟩
theorem TQ.step {α : Type} {F G : Nat → Option α} {Q : α → Prop} (h : ∀ m, F (m + 1) = G m) (hg : TQ G Q) : TQ F Q := by
  obtain ⟨v, h1, hq⟩ := hg
  exact ⟨v, Tr.step h h1, hq⟩
theorem TQ.eq {α : Type} {F G : Nat → Option α} {Q : α → Prop} (h : ∀ m, F m = G m) (hg : TQ G Q) : TQ F Q := by
  obtain ⟨v, h1, hq⟩ := hg
  exact ⟨v, Tr.eq h h1, hq⟩
theorem TQ.cond {α : Type} {F G : Nat → Option α} {b : Bool} {Q : α → Prop} (h1 : b = true → TQ F Q) (h2 : b = false → TQ G Q) : TQ (fun m => bif b then F m else G m) Q := by
  cases b
  · exact h2 rfl
  · exact h1 rfl
theorem TQ.chk {α : Type} {F : Nat → Option α} {b : Bool} {Q : α → Prop} (hb : b = true) (h : TQ F Q) : TQ (fun m => Abs.chk b (F m)) Q := by subst hb; exact h
theorem TQ.idx {α β : Type} {l : List α} {i : Int} {g : α → Nat → Option β} {R : β → Prop} (h0 : 0 ≤ i) (h1 : i < l.length) (h : ∀ x, x ∈ l → TQ (fun m => g x m) R) : TQ (fun m => (Abs.idx l i).bind fun y => g y m) R := by
  obtain ⟨x, hx, hm⟩ := idx_int h0 h1
  obtain ⟨w, hw, hr⟩ := h x hm
  exact ⟨w, Tr.idx hx hw, hr⟩
theorem TQ.mono {α : Type} {F : Nat → Option α} {Q R : α → Prop} (h : TQ F Q) (hq : ∀ v, Q v → R v) : TQ F R := by
  obtain ⟨v, h1, h2⟩ := h; exact ⟨v, h1, hq v h2⟩
mutual
def Form.w : Form → Nat
  | .mk _ _ _ scopes kids => 1 + scopes.length + Form.ws kids
def Form.ws : List Form → Nat
  | [] => 0
  | f :: fs => 1 + f.w + Form.ws fs
end
mutual
def Core.w : Core → Nat
  | .mk _ _ _ _ ids data kids => 1 + ids.length + data.w + Core.ws kids
def Core.ws : List Core → Nat
  | [] => 0
  | f :: fs => 1 + f.w + Core.ws fs
end
theorem Form.ws_len : ∀ (l : List Form), l.length ≤ Form.ws l
  | [] => by simp
  | f :: fs => by have := Form.ws_len fs; rw [Form.ws, List.length_cons]; omega
theorem Core.ws_len : ∀ (l : List Core), l.length ≤ Core.ws l
  | [] => by simp
  | f :: fs => by have := Core.ws_len fs; rw [Core.ws, List.length_cons]; omega
theorem Form.ws_mem : ∀ {l : List Form} {x : Form}, x ∈ l → x.w < Form.ws l
  | f :: fs, x, h => by
    rw [Form.ws]
    rcases List.mem_cons.1 h with rfl | h
    · omega
    · have := Form.ws_mem h; omega
theorem Core.ws_mem : ∀ {l : List Core} {x : Core}, x ∈ l → x.w < Core.ws l
  | f :: fs, x, h => by
    rw [Core.ws]
    rcases List.mem_cons.1 h with rfl | h
    · omega
    · have := Core.ws_mem h; omega
theorem Form.ws_append (a b : List Form) : Form.ws (a ++ b) = Form.ws a + Form.ws b := by
  induction a with
  | nil => simp [Form.ws]
  | cons x a ih => rw [List.cons_append, Form.ws, Form.ws, ih]; omega
theorem Core.ws_append (a b : List Core) : Core.ws (a ++ b) = Core.ws a + Core.ws b := by
  induction a with
  | nil => simp [Core.ws]
  | cons x a ih => rw [List.cons_append, Core.ws, Core.ws, ih]; omega
theorem Form.w_kids (f : Form) : Form.ws f.kids + f.scopes.length + 1 = f.w := by obtain ⟨a, b, c, d, e⟩ := f; simp only [Form.w, Form.kids, Form.scopes]; omega
theorem Core.w_kids (f : Core) : Core.ws f.kids + f.ids.length + f.data.w + 1 = f.w := by obtain ⟨a, b, c, d, e, g, h⟩ := f; simp only [Core.w, Core.kids, Core.ids, Core.data]; omega
structure OkRd (r : l15Rd) (K : Int) : Prop where
  len : r.b.length ≤ 2000
  byte : ∀ x ∈ r.b, 0 ≤ x ∧ x < 256
  lo : 0 ≤ r.p
  hi : r.p ≤ K
theorem OkRd.mono {r : l15Rd} {K K' : Int} (h : OkRd r K) (hk : K ≤ K') : OkRd r K' := ⟨h.len, h.byte, h.lo, by have := h.hi; omega⟩
theorem OkRd.mk' {r : l15Rd} {K : Int} (h : OkRd r K) : OkRd (l15Rd.mk r.b r.p) K := h
end Go.Abs
end
section
section
set_option linter.unusedVariables false
set_option linter.unusedSimpArgs false
namespace Go.Abs
noncomputable def same {α : Type} (a b : α) : Bool := @decide (a = b) (Classical.propDecidable _)
theorem same_iff {α : Type} {a b : α} : same a b = true ↔ a = b := by unfold same; exact @decide_eq_true_iff _ (Classical.propDecidable _)
theorem same_self {α : Type} (a : α) : same a a = true := same_iff.2 rfl
theorem same_ne {α : Type} {a b : α} (h : a ≠ b) : same a b = false := by
  rw [← Bool.not_eq_true, same_iff]; exact h
theorem same_dec {α : Type} (a b : α) [inst : Decidable (a = b)] : same a b = decide (a = b) := by
  rw [Bool.eq_iff_iff, same_iff, decide_eq_true_iff]
theorem same_cons {α : Type} (a b : α) (xs ys : List α) : same (a :: xs) (b :: ys) = (same a b && same xs ys) := by
  rw [Bool.eq_iff_iff, Bool.and_eq_true, same_iff, same_iff, same_iff, List.cons.injEq]
theorem drop_get {α : Type} {l : List α} {k : Nat} {x : α} (h : l[k]? = some x) : l.drop k = x :: l.drop (k + 1) := by
  obtain ⟨hk, rfl⟩ := List.getElem?_eq_some_iff.1 h
  exact List.drop_eq_getElem_cons hk
theorem loop_eq {α : Type} {xs ys : List α} (hl : xs.length = ys.length) {L : Nat → Int → Option Bool} {E : Nat → α → α → Option Bool}
    (h0 : ∀ m k, L (m + 1) k = bif decide (k < (xs.length : Int)) then (idx xs k).bind fun a => (idx ys k).bind fun b => (E m a b).bind fun v => bif !v then some false else L m (k + 1) else some true)
    (hE : ∀ a ∈ xs, ∀ b ∈ ys, Tr (fun m => E m a b) (same a b)) : Tr (fun m => L m 0) (same xs ys) := by
  have key := drop_ind xs (fun k zs => Tr (fun m => L m (k : Int)) (same zs (ys.drop k))) ?_ ?_ 0 (Nat.zero_le _)
  · simpa using key
  · rw [hl, List.drop_length, same_self]
    exact Tr.step (fun m => by rw [h0, hl, ltN_self, cond_false]) Tr.val
  · intro k x zs hk hx hd ih
    have hk' : k < ys.length := by omega
    have hy : ys[k]? = some ys[k] := List.getElem?_eq_getElem hk'
    rw [drop_get hy, same_cons]
    refine Tr.step (fun m => by rw [h0, ltN hk, cond_true, idx_nat hx, Option.bind_some, idx_nat hy, Option.bind_some, succN]) ?_
    refine Tr.bind (hE x (List.mem_of_getElem? hx) ys[k] (List.getElem_mem hk')) ?_
    cases h : same x ys[k] with
    | false => exact Tr.tt rfl Tr.val
    | true => exact Tr.ff rfl ih
theorem loop_eqI {α : Type} [DecidableEq α] {xs ys : List α} (hl : xs.length = ys.length) {L : Nat → Int → Option Bool}
    (h0 : ∀ m k, L (m + 1) k = bif decide (k < (xs.length : Int)) then (idx xs k).bind fun a => (idx ys k).bind fun b => bif decide (a ≠ b) then some false else L m (k + 1) else some true) : Tr (fun m => L m 0) (same xs ys) :=
  loop_eq (E := fun _ a b => some (decide (a = b))) hl (fun m k => by
    rw [h0]; congr 1; congr 1; funext a; congr 1; funext b; rw [Option.bind_some]; congr 1; simp) (fun a _ b _ => Tr.of (fun _ => by rw [same_dec]))
def alls {α : Type} (D : α → Bool) : List α → Bool
  | [] => true
  | x :: xs => D x && alls D xs
theorem alls_iff {α : Type} {D : α → Bool} : ∀ {l : List α}, alls D l = true ↔ ∀ x ∈ l, D x = true
  | [] => by simp [alls]
  | x :: xs => by rw [alls, Bool.and_eq_true, alls_iff]; simp
theorem loop_all {α : Type} {xs : List α} {c : Bool} {D : α → Bool} {L : Nat → Int → Option Bool} {E : Nat → α → Option Bool}
    (h0 : ∀ m k, L (m + 1) k = bif decide (k < (xs.length : Int)) then (idx xs k).bind fun a => (E m a).bind fun v => bif !v then some false else L m (k + 1) else some c)
    (hE : ∀ a ∈ xs, Tr (fun m => E m a) (D a)) : Tr (fun m => L m 0) (alls D xs && c) := by
  have key := drop_ind xs (fun k zs => Tr (fun m => L m (k : Int)) (alls D zs && c)) ?_ ?_ 0 (Nat.zero_le _)
  · simpa using key
  · exact Tr.step (fun m => by rw [h0, ltN_self, cond_false]) (by simpa [alls] using Tr.val)
  · intro k x zs hk hx hd ih
    refine Tr.step (fun m => by rw [h0, ltN hk, cond_true, idx_nat hx, Option.bind_some, succN]) ?_
    refine Tr.bind (hE x (List.mem_of_getElem? hx)) ?_
    rw [alls]
    cases h : D x with
    | false => exact Tr.tt rfl Tr.val
    | true => exact Tr.ff rfl (by simpa using ih)
def fnd {α : Type} (D : α → Bool) : List α → Nat → Int
  | [], _ => -1
  | x :: xs, k => bif D x then (k : Int) else fnd D xs (k + 1)
theorem fnd_ge {α : Type} {D : α → Bool} : ∀ {l : List α} {k : Nat}, (0 ≤ fnd D l k) ↔ ∃ x ∈ l, D x = true
  | [], k => by simp [fnd]
  | x :: xs, k => by
    rw [fnd]
    cases h : D x with
    | true => simp [h]
    | false => rw [cond_false, fnd_ge]; simp [h]
theorem loop_find {α : Type} {xs : List α} {D : α → Bool} {L : Nat → Int → Option Int} {E : Nat → α → Option Bool}
    (h0 : ∀ m k, L (m + 1) k = bif decide (k < (xs.length : Int)) then (idx xs k).bind fun a => (E m a).bind fun v => bif v then some k else L m (k + 1) else some (-1))
    (hE : ∀ a ∈ xs, Tr (fun m => E m a) (D a)) : Tr (fun m => L m 0) (fnd D xs 0) := by
  have key := drop_ind xs (fun k zs => Tr (fun m => L m (k : Int)) (fnd D zs k)) ?_ ?_ 0 (Nat.zero_le _)
  · simpa using key
  · exact Tr.step (fun m => by rw [h0, ltN_self, cond_false]; rfl) Tr.val
  · intro k x zs hk hx hd ih
    refine Tr.step (fun m => by rw [h0, ltN hk, cond_true, idx_nat hx, Option.bind_some, succN]) ?_
    refine Tr.bind (hE x (List.mem_of_getElem? hx)) ?_
    rw [fnd]
    cases h : D x with
    | false => exact Tr.ff rfl ih
    | true => exact Tr.tt rfl Tr.val
end Go.Abs
end
section
set_option linter.unusedVariables false
set_option linter.unusedSimpArgs false
namespace Go.Abs
mutual
def Hit.w : Hit → Nat
  | .mk name _ one many => 1 + name.w + one.w + Hit.ws many
def Hit.ws : List Hit → Nat
  | [] => 0
  | f :: fs => 1 + f.w + Hit.ws fs
end
theorem Hit.ws_len : ∀ (l : List Hit), l.length ≤ Hit.ws l
  | [] => by simp
  | f :: fs => by have := Hit.ws_len fs; rw [Hit.ws, List.length_cons]; omega
theorem Hit.ws_mem : ∀ {l : List Hit} {x : Hit}, x ∈ l → x.w < Hit.ws l
  | f :: fs, x, h => by
    rw [Hit.ws]
    rcases List.mem_cons.1 h with rfl | h
    · omega
    · have := Hit.ws_mem h; omega
theorem Hit.w_parts (f : Hit) : Hit.ws f.many + f.name.w + f.one.w + 1 = f.w := by obtain ⟨a, b, c, d⟩ := f; simp only [Hit.w, Hit.many, Hit.name, Hit.one]; omega
theorem Form.w_pos (f : Form) : 1 ≤ f.w := by have := f.w_kids; omega
theorem same_len {α : Type} {a b : List α} (h : a.length ≠ b.length) : same a b = false := same_ne (fun e => h (by rw [e]))
theorem form_same (a b : Form) : same a b = (decide (a.kind = b.kind) && (decide (a.name = b.name) && (decide (a.n = b.n) && (same a.scopes b.scopes && same a.kids b.kids)))) := by
  obtain ⟨k, nm, n, sc, ki⟩ := a
  obtain ⟨k', nm', n', sc', ki'⟩ := b
  show _ = (decide (k = k') && (decide (nm = nm') && (decide (n = n') && (same sc sc' && same ki ki'))))
  rw [Bool.eq_iff_iff]
  simp only [Bool.and_eq_true, same_iff, decide_eq_true_eq, Form.mk.injEq]
theorem lenB {a b : Nat} (h : a ≠ b) : decide ((a : Int) ≠ (b : Int)) = true := decide_eq_true (by omega)
theorem lenE {a b : Nat} (h : a = b) : decide ((a : Int) ≠ (b : Int)) = false := decide_eq_false (by omega)
theorem slEqual_tr (a b : List Int) : Tr (fun m => m_slices_Equal_int m a b) (same a b) := by
  refine Tr.eq (fun m => by unfold m_slices_Equal_int; rfl) ?_
  by_cases h : a.length = b.length
  · exact Tr.ff (lenE h) (loop_eqI h (L := fun m k => m_slices_Equal_int_l1 m a b k) (fun m k => by rw [m_slices_Equal_int_l1]))
  · rw [same_len h]; exact Tr.tt (lenB h) Tr.val
theorem l1Ints_tr (a b : List Int) : Tr (fun m => m_spec_l1Ints m a b) (same a b) := by
  refine Tr.eq (fun m => by unfold m_spec_l1Ints; rfl) ?_
  by_cases h : a.length = b.length
  · exact Tr.ff (lenE h) (loop_eqI h (L := fun m k => m_spec_l1Ints_l1 m a b k) (fun m k => by rw [m_spec_l1Ints_l1]))
  · rw [same_len h]; exact Tr.tt (lenB h) Tr.val
theorem implFormSame_n : ∀ (n : Nat) (a b : Form), a.w ≤ n → Tr (fun m => m_impl_FormSame m a b) (same a b) := by
  intro n
  induction n with
  | zero => intro a b h; have := a.w_pos; omega
  | succ n ih =>
    intro a b h
    have hw := a.w_kids
    rw [form_same]
    refine Tr.step (fun m => by rw [m_impl_FormSame]) ?_
    cases decide (a.kind = b.kind) with
    | false => exact Tr.ff rfl Tr.val
    | true =>
    refine Tr.tt rfl ?_
    cases decide (a.name = b.name) with
    | false => exact Tr.ff rfl Tr.val
    | true =>
    refine Tr.tt rfl ?_
    cases decide (a.n = b.n) with
    | false => exact Tr.ff rfl Tr.val
    | true =>
    refine Tr.tt rfl (Tr.bind (slEqual_tr _ _) ?_)
    cases same a.scopes b.scopes with
    | false => exact Tr.ff rfl Tr.val
    | true =>
    refine Tr.tt rfl (Tr.bind (v := same a.kids b.kids) (Tr.step (fun m => by rw [m_slices_EqualFunc_Form_FormSame]) ?_) Tr.val)
    by_cases hl : a.kids.length = b.kids.length
    · exact Tr.ff (lenE hl) (loop_eq hl (L := fun m k => m_slices_EqualFunc_Form_FormSame_l1 m a.kids b.kids k) (E := fun m x y => m_impl_FormSame m x y) (fun m k => by rw [m_slices_EqualFunc_Form_FormSame_l1]) (fun x hx y _ => ih x y (by have := Form.ws_mem hx; omega)))
    · rw [same_len hl]; exact Tr.tt (lenB hl) Tr.val
theorem implFormSame_tr (a b : Form) : Tr (fun m => m_impl_FormSame m a b) (same a b) := implFormSame_n _ a b (Nat.le_refl _)
theorem specFormSame_n : ∀ (n : Nat) (a b : Form), a.w ≤ n → Tr (fun m => m_spec_FormSame m a b) (same a b) := by
  intro n
  induction n with
  | zero => intro a b h; have := a.w_pos; omega
  | succ n ih =>
    intro a b h
    have hw := a.w_kids
    rw [form_same]
    refine Tr.step (fun m => by rw [m_spec_FormSame]) ?_
    by_cases h1 : a.kind = b.kind
    case neg => rw [decide_eq_false h1]; exact Tr.tt (by simpa using h1) Tr.val
    rw [decide_eq_true h1]
    refine Tr.ff (by simpa using h1) ?_
    by_cases h2 : a.name = b.name
    case neg => rw [decide_eq_false h2]; exact Tr.tt (by simpa using h2) Tr.val
    rw [decide_eq_true h2]
    refine Tr.ff (by simpa using h2) ?_
    by_cases h3 : a.n = b.n
    case neg => rw [decide_eq_false h3]; exact Tr.tt (by simpa using h3) Tr.val
    rw [decide_eq_true h3]
    refine Tr.ff (by simpa using h3) (Tr.bind (l1Ints_tr _ _) ?_)
    cases same a.scopes b.scopes with
    | false => exact Tr.tt rfl Tr.val
    | true =>
    refine Tr.ff rfl ?_
    by_cases hl : a.kids.length = b.kids.length
    · exact Tr.ff (lenE hl) (loop_eq hl (L := fun m k => m_spec_FormSame_l1 m a b k) (E := fun m x y => m_spec_FormSame m x y) (fun m k => by rw [m_spec_FormSame_l1]) (fun x hx y _ => ih x y (by have := Form.ws_mem hx; omega)))
    · rw [same_len hl]; exact Tr.tt (lenB hl) Tr.val
theorem specFormSame_tr (a b : Form) : Tr (fun m => m_spec_FormSame m a b) (same a b) := specFormSame_n _ a b (Nat.le_refl _)
end Go.Abs
end
section
set_option linter.unusedVariables false
set_option linter.unusedSimpArgs false
namespace Go.Abs
mutual
def Form.fit : Form → Prop
  | .mk _ name _ scopes kids => name.size ≤ 9223372036854775807 ∧ scopes.length ≤ 9223372036854775807 ∧ kids.length ≤ 9223372036854775807 ∧ Form.fits kids
def Form.fits : List Form → Prop
  | [] => True
  | f :: fs => f.fit ∧ Form.fits fs
end
mutual
def Hit.fit : Hit → Prop
  | .mk name _ one many => name.fit ∧ one.fit ∧ many.length ≤ 9223372036854775807 ∧ Hit.fits many
def Hit.fits : List Hit → Prop
  | [] => True
  | f :: fs => f.fit ∧ Hit.fits fs
end
theorem Form.fits_mem : ∀ {l : List Form} {x : Form}, Form.fits l → x ∈ l → x.fit
  | f :: fs, x, h, hx => by
    rw [Form.fits] at h
    rcases List.mem_cons.1 hx with rfl | hx
    · exact h.1
    · exact Form.fits_mem h.2 hx
theorem Hit.fits_mem : ∀ {l : List Hit} {x : Hit}, Hit.fits l → x ∈ l → x.fit
  | f :: fs, x, h, hx => by
    rw [Hit.fits] at h
    rcases List.mem_cons.1 hx with rfl | hx
    · exact h.1
    · exact Hit.fits_mem h.2 hx
theorem Form.fit.parts {f : Form} (h : f.fit) : f.name.size ≤ 9223372036854775807 ∧ f.scopes.length ≤ 9223372036854775807 ∧ f.kids.length ≤ 9223372036854775807 ∧ Form.fits f.kids := by
  obtain ⟨a, b, c, d, e⟩ := f; rw [Form.fit] at h; exact h
theorem Hit.fit.parts {f : Hit} (h : f.fit) : f.name.fit ∧ f.one.fit ∧ f.many.length ≤ 9223372036854775807 ∧ Hit.fits f.many := by
  obtain ⟨a, b, c, d⟩ := f; rw [Hit.fit] at h; exact h
end Go.Abs
end
section
set_option linter.unusedVariables false
set_option linter.unusedSimpArgs false
namespace Go.Abs
def letterB (c : Int) (first : Bool) : Bool := (decide (97 ≤ c) && decide (c ≤ 122)) || (decide (c = 42) || (decide (c = 63) || (decide (c = 61) || (decide (c = 43) || (decide (c = 60) || (!first && ((decide (48 ≤ c) && decide (c ≤ 57)) || decide (c = 45))))))))
theorem l1Letter_tr (c : Int) (first : Bool) : Tr (fun m => m_spec_l1Letter m c first) (letterB c first) := by
  refine Tr.of (fun m => ?_)
  unfold m_spec_l1Letter letterB
  cases decide (97 ≤ c) <;> cases decide (c ≤ 122) <;> cases decide (c = 42) <;> cases decide (c = 63) <;> cases decide (c = 61) <;> cases decide (c = 43) <;> cases decide (c = 60) <;> cases first <;> cases decide (48 ≤ c) <;> cases decide (c ≤ 57) <;> rfl
def nmF : Nat → List UInt8 → Bool
  | _, [] => true
  | k, x :: xs => letterB (x.toNat : Int) (decide ((k : Int) = 0)) && nmF (k + 1) xs
def nmSz (s : ByteArray) : Bool := decide (1 ≤ (s.size : Int)) && decide ((s.size : Int) ≤ 12)
def nmOk (s : ByteArray) : Bool := decide (s = (⟨#[46, 46, 46]⟩ : ByteArray)) || (decide (s = (⟨#[95]⟩ : ByteArray)) || (nmF 0 s.data.toList && nmSz s))
theorem sz_list (s : ByteArray) : s.size = s.data.toList.length := by rw [ByteArray.size]; simp
theorem bidx_nat {s : ByteArray} {k : Nat} {x : UInt8} (h : s.data.toList[k]? = some x) : bidx s (k : Int) = some (x.toNat : Int) := by
  have hk : k < s.size := by rw [sz_list]; exact (List.getElem?_eq_some_iff.1 h).1
  unfold bidx
  rw [show (decide ((0 : Int) ≤ k) && decide ((k : Int) < s.size)) = true by simp; omega, cond_true]
  rw [Int.toNat_natCast, byteAt, List.getD_eq_getElem?_getD, h]; rfl
theorem bif_and (a b : Bool) : (bif a then some b else some false) = some (a && b) := by cases a <;> rfl
theorem specNm_tr (s : ByteArray) : Tr (fun m => m_spec_NameValid m s) (nmOk s) := by
  refine Tr.eq (fun m => by unfold m_spec_NameValid; rfl) ?_
  unfold nmOk
  cases decide (s = (⟨#[46, 46, 46]⟩ : ByteArray)) with
  | true => exact Tr.tt rfl Tr.val
  | false =>
  refine Tr.ff rfl ?_
  cases decide (s = (⟨#[95]⟩ : ByteArray)) with
  | true => exact Tr.tt rfl Tr.val
  | false =>
  refine Tr.ff rfl ?_
  have hs := sz_list s
  have key := drop_ind s.data.toList (fun k zs => Tr (fun m => m_spec_NameValid_l1 m s (k : Int)) (nmF k zs && nmSz s)) ?_ ?_ 0 (Nat.zero_le _)
  · simpa using key
  · refine Tr.step (fun m => by rw [m_spec_NameValid_l1, hs, ltN_self, cond_false, ← hs]) (Tr.of fun m => ?_)
    rw [bif_and]; rfl
  · intro k x zs hk hx hd ih
    refine Tr.step (fun m => by rw [m_spec_NameValid_l1, ltN (show k < s.size by omega), cond_true]) ?_
    by_cases h12 : k ≤ 12
    · refine Tr.tt (decide_eq_true (by omega)) (Tr.eq (fun m => by rw [bidx_nat hx, Option.bind_some, w64_in (by omega), succN]) ?_)
      refine Tr.bind (l1Letter_tr _ _) ?_
      rw [nmF]
      cases letterB (x.toNat : Int) (decide ((k : Int) = 0)) with
      | false => exact Tr.tt rfl Tr.val
      | true => exact Tr.ff rfl (by simpa using ih)
    · refine Tr.ff (decide_eq_false (by omega)) (Tr.of fun m => ?_)
      have : nmSz s = false := by unfold nmSz; rw [decide_eq_false (show ¬ (s.size : Int) ≤ 12 by omega), Bool.and_false]
      rw [bif_and, this, Bool.and_false]
      rw [decide_eq_false (show ¬ (s.size : Int) ≤ 12 by omega), Bool.and_false]
theorem within_tr (x lo hi : Int) : Tr (fun m => m_impl_within m x lo hi) (decide (lo ≤ x) && decide (x ≤ hi)) :=
  Tr.of (fun m => by unfold m_impl_within; rw [bif_and])
theorem star_eq (x : UInt8) : decide (0 ≤ Lib.indexByte [42, 63, 61, 43, 60] ((x.toNat : Int).toNat.toUInt8)) = (decide ((x.toNat : Int) = 42) || (decide ((x.toNat : Int) = 63) || (decide ((x.toNat : Int) = 61) || (decide ((x.toNat : Int) = 43) || decide ((x.toNat : Int) = 60))))) := by
  have hx : ((x.toNat : Int).toNat.toUInt8) = x := by rw [Int.toNat_natCast]; exact UInt8.ofNat_toNat
  rw [hx]
  show decide (0 ≤ Lib.indexByte [42, 63, 61, 43, 60] x) = _
  by_cases h1 : x = 42
  · subst h1; decide
  by_cases h2 : x = 63
  · subst h2; decide
  by_cases h3 : x = 61
  · subst h3; decide
  by_cases h4 : x = 43
  · subst h4; decide
  by_cases h5 : x = 60
  · subst h5; decide
  have ne : ∀ (y : UInt8) (z : Int), (y.toNat : Int) = z → x ≠ y → ¬ ((x.toNat : Int) = z) := fun y z hz hy e => hy (UInt8.toNat_inj.1 (by omega))
  have e : Lib.indexByte [42, 63, 61, 43, 60] x = -1 := by
    simp [Lib.indexByte, Ne.symm h1, Ne.symm h2, Ne.symm h3, Ne.symm h4, Ne.symm h5, beq_eq_false_iff_ne]
  rw [e, decide_eq_false (ne 42 42 rfl h1), decide_eq_false (ne 63 63 rfl h2), decide_eq_false (ne 61 61 rfl h3), decide_eq_false (ne 43 43 rfl h4), decide_eq_false (ne 60 60 rfl h5)]
  rfl
theorem implNm_tr (s : ByteArray) (hs : s.size ≤ 9223372036854775807) : Tr (fun m => m_impl_NameValid m s) (nmOk s) := by
  refine Tr.eq (fun m => by unfold m_impl_NameValid; rfl) ?_
  unfold nmOk
  cases decide (s = (⟨#[46, 46, 46]⟩ : ByteArray)) with
  | true => exact Tr.tt rfl Tr.val
  | false =>
  refine Tr.ff rfl ?_
  cases decide (s = (⟨#[95]⟩ : ByteArray)) with
  | true => exact Tr.tt rfl Tr.val
  | false =>
  refine Tr.ff rfl ?_
  have hsz := sz_list s
  have key := drop_ind s.data.toList (fun k zs => Tr (fun m => m_impl_NameValid_l1 m s (k : Int)) (nmF k zs && nmSz s)) ?_ ?_ 0 (Nat.zero_le _)
  · simpa using key
  · refine Tr.step (fun m => by rw [m_impl_NameValid_l1, hsz, ltN_self, cond_false, ← hsz]) ?_
    refine Tr.bind (within_tr _ _ _) Tr.val
  · intro k x zs hk hx hd ih
    refine Tr.step (fun m => by rw [m_impl_NameValid_l1, ltN (show k < s.size by omega), cond_true, bidx_nat hx, Option.bind_some, w64_in (by omega), succN]) ?_
    simp only [m_strings_IndexByte, Option.bind_some, star_eq]
    rw [nmF]
    unfold letterB
    have hp : decide (0 < (k : Int)) = !decide ((k : Int) = 0) := by
      rw [Bool.eq_iff_iff, Bool.not_eq_true', decide_eq_true_iff, decide_eq_false_iff_not]; omega
    rw [hp]
    rw [Bool.and_assoc]
    generalize hR : (nmF (k + 1) zs && nmSz s) = R at ih ⊢
    generalize decide (97 ≤ (x.toNat : Int)) = b1
    generalize decide ((x.toNat : Int) ≤ 122) = b2
    generalize decide ((x.toNat : Int) = 42) = c1
    generalize decide ((x.toNat : Int) = 63) = c2
    generalize decide ((x.toNat : Int) = 61) = c3
    generalize decide ((x.toNat : Int) = 43) = c4
    generalize decide ((x.toNat : Int) = 60) = c5
    generalize decide ((k : Int) = 0) = z
    generalize decide (48 ≤ (x.toNat : Int)) = b3
    generalize decide ((x.toNat : Int) ≤ 57) = b4
    generalize decide ((x.toNat : Int) = 45) = b5
    have hc : ∀ a b c d e w : Bool, (a || (b || (c || (d || (e || w))))) = ((a || (b || (c || (d || e)))) || w) := by decide
    rw [hc c1 c2 c3 c4 c5]
    generalize (c1 || (c2 || (c3 || (c4 || c5)))) = st
    cases b1 <;> cases b2 <;> cases st <;> cases z <;> cases b3 <;> cases b4 <;> cases b5 <;> first | exact Tr.val | exact ih
def gtP : Option Int → Int → Bool
  | none, _ => true
  | some q, x => decide (q < x)
def scF : Option Int → List Int → Bool
  | _, [] => true
  | p, x :: xs => (decide (1 ≤ x) && decide (x ≤ 99)) && (gtP p x && scF (some x) xs)
def prevAt (l : List Int) : Nat → Option Int
  | 0 => none
  | j + 1 => l[j]?
def scOk (l : List Int) : Bool := scF none l && decide ((l.length : Int) ≤ 24)
theorem prev_succ {l : List Int} {k : Nat} {x : Int} (h : l[k]? = some x) : prevAt l (k + 1) = some x := h
theorem pos_succ (k : Nat) : decide ((0 : Int) < ((k + 1 : Nat) : Int)) = true := decide_eq_true (by omega)
theorem implSc_tr (l : List Int) (hl : l.length ≤ 9223372036854775807) : Tr (fun m => m_impl_scopesOk m l) (scOk l) := by
  refine Tr.eq (fun m => by unfold m_impl_scopesOk; rfl) ?_
  have key := drop_ind l (fun k zs => Tr (fun m => m_impl_scopesOk_l1 m l (k : Int)) (scF (prevAt l k) zs && decide ((l.length : Int) ≤ 24))) ?_ ?_ 0 (Nat.zero_le _)
  · simpa [scOk, prevAt] using key
  · exact Tr.step (fun m => by rw [m_impl_scopesOk_l1, ltN_self, cond_false]; simp [scF]) Tr.val
  · intro k x zs hk hx hd ih
    rw [prev_succ hx] at ih
    refine Tr.step (fun m => by rw [m_impl_scopesOk_l1, ltN hk, cond_true, idx_nat hx, Option.bind_some, succN]) ?_
    refine Tr.bind (within_tr _ _ _) ?_
    rw [scF]
    cases (decide (1 ≤ x) && decide (x ≤ 99)) with
    | false => exact Tr.tt rfl Tr.val
    | true =>
    refine Tr.ff rfl ?_
    cases k with
    | zero => exact Tr.ff (by simp) (by simpa [prevAt, gtP] using ih)
    | succ j =>
      have hj : l[j]? = some l[j] := List.getElem?_eq_getElem (by omega)
      refine Tr.tt (pos_succ j) (Tr.eq (fun m => by rw [w64_in (by omega), show ((j + 1 : Nat) : Int) - 1 = (j : Int) by omega, idx_nat hj, Option.bind_some]) ?_)
      rw [show prevAt l (j + 1) = some l[j] from hj, gtP]
      by_cases h : x ≤ l[j]
      · rw [decide_eq_false (show ¬ l[j] < x by omega)]; exact Tr.tt (decide_eq_true h) Tr.val
      · rw [decide_eq_true (show l[j] < x by omega)]; exact Tr.ff (decide_eq_false h) (by simpa using ih)
theorem specSc_tr (l : List Int) (hl : l.length ≤ 9223372036854775807) : Tr (fun m => m_spec_l1Scopes m l) (scOk l) := by
  refine Tr.eq (fun m => by unfold m_spec_l1Scopes; rfl) ?_
  have key := drop_ind l (fun k zs => Tr (fun m => m_spec_l1Scopes_l1 m l (k : Int)) (scF (prevAt l k) zs && decide ((l.length : Int) ≤ 24))) ?_ ?_ 0 (Nat.zero_le _)
  · simpa [scOk, prevAt] using key
  · exact Tr.step (fun m => by rw [m_spec_l1Scopes_l1, ltN_self, cond_false]; simp [scF]) Tr.val
  · intro k x zs hk hx hd ih
    rw [prev_succ hx] at ih
    refine Tr.step (fun m => by rw [m_spec_l1Scopes_l1, ltN hk, cond_true]) ?_
    by_cases h24 : k ≤ 24
    case neg =>
      refine Tr.ff (decide_eq_false (by omega)) (Tr.of fun m => ?_)
      rw [decide_eq_false (show ¬ (l.length : Int) ≤ 24 by omega), Bool.and_false]
    refine Tr.tt (decide_eq_true (by omega)) (Tr.eq (fun m => by rw [idx_nat hx, Option.bind_some, Option.bind_some]) ?_)
    rw [scF]
    by_cases h1 : x < 1
    · rw [decide_eq_false (show ¬ 1 ≤ x by omega)]; exact Tr.tt (decide_eq_true h1) Tr.val
    rw [decide_eq_true (show 1 ≤ x by omega)]
    refine Tr.ff (decide_eq_false h1) ?_
    by_cases h2 : 99 < x
    · rw [decide_eq_false (show ¬ x ≤ 99 by omega)]; exact Tr.tt (decide_eq_true h2) Tr.val
    rw [decide_eq_true (show x ≤ 99 by omega)]
    refine Tr.ff (decide_eq_false h2) ?_
    cases k with
    | zero => exact Tr.ff (by simp) (Tr.eq (fun m => by rw [w64_in (by omega), succN]) (by simpa [prevAt, gtP] using ih))
    | succ j =>
      have hj : l[j]? = some l[j] := List.getElem?_eq_getElem (by omega)
      refine Tr.tt (pos_succ j) (Tr.eq (fun m => by rw [Option.bind_some, w64_in (by omega), show ((j + 1 : Nat) : Int) - 1 = (j : Int) by omega, idx_nat hj, Option.bind_some]) ?_)
      rw [show prevAt l (j + 1) = some l[j] from hj, gtP]
      by_cases h : x ≤ l[j]
      · rw [decide_eq_false (show ¬ l[j] < x by omega)]; exact Tr.tt (decide_eq_true h) Tr.val
      · rw [decide_eq_true (show l[j] < x by omega)]; exact Tr.ff (decide_eq_false h) (Tr.eq (fun m => by rw [w64_in (by omega), succN]) (by simpa using ih))
end Go.Abs
end
section
set_option linter.unusedVariables false
set_option linter.unusedSimpArgs false
namespace Go.Abs
mutual
def Form.isOk : Form → Nat → Bool
  | .mk kind name n scopes kids, d => bif decide (d = 0) then false else
    bif decide (kind = 1) then (nmOk name && (decide (n = 0) && (scOk scopes && decide ((kids.length : Int) = 0))))
    else bif decide (kind = 2) then (decide (name = (⟨#[]⟩ : ByteArray)) && ((decide (0 ≤ n) && decide (n ≤ 999)) && (decide ((scopes.length : Int) = 0) && decide ((kids.length : Int) = 0))))
    else (decide (kind = 3) && (decide (name = (⟨#[]⟩ : ByteArray)) && (decide (n = 0) && (decide ((scopes.length : Int) = 0) && Form.isOks kids (d - 1)))))
def Form.isOks : List Form → Nat → Bool
  | [], _ => true
  | f :: fs, d => f.isOk d && Form.isOks fs d
end
mutual
def Form.cnt : Form → Nat
  | .mk _ _ _ _ kids => 1 + Form.cnts kids
def Form.cnts : List Form → Nat
  | [] => 0
  | f :: fs => f.cnt + Form.cnts fs
end
theorem Form.isOks_eq (d : Nat) : ∀ l : List Form, Form.isOks l d = alls (fun x => x.isOk d) l
  | [] => rfl
  | f :: fs => by rw [Form.isOks, alls, Form.isOks_eq d fs]
theorem Form.isOk_eq (f : Form) (d : Nat) : f.isOk d = bif decide (d = 0) then false else
    bif decide (f.kind = 1) then (nmOk f.name && (decide (f.n = 0) && (scOk f.scopes && decide ((f.kids.length : Int) = 0))))
    else bif decide (f.kind = 2) then (decide (f.name = (⟨#[]⟩ : ByteArray)) && ((decide (0 ≤ f.n) && decide (f.n ≤ 999)) && (decide ((f.scopes.length : Int) = 0) && decide ((f.kids.length : Int) = 0))))
    else (decide (f.kind = 3) && (decide (f.name = (⟨#[]⟩ : ByteArray)) && (decide (f.n = 0) && (decide ((f.scopes.length : Int) = 0) && alls (fun x => x.isOk (d - 1)) f.kids)))) := by
  obtain ⟨a, b, c, e, g⟩ := f; rw [Form.isOk, Form.isOks_eq]; rfl
theorem Form.cnt_eq (f : Form) : f.cnt = 1 + Form.cnts f.kids := by obtain ⟨a, b, c, e, g⟩ := f; rw [Form.cnt]; rfl
mutual
theorem Form.cnt_w : ∀ f : Form, f.cnt ≤ f.w
  | .mk a b c d e => by have := Form.cnts_ws e; rw [Form.cnt, Form.w]; omega
theorem Form.cnts_ws : ∀ l : List Form, Form.cnts l ≤ Form.ws l
  | [] => by simp [Form.cnts]
  | f :: fs => by have := Form.cnt_w f; have := Form.cnts_ws fs; rw [Form.cnts, Form.ws]; omega
end
def Form.valid (f : Form) : Bool := f.isOk 40 && decide (f.cnt ≤ 400)
theorem l1Is_n : ∀ (n : Nat) (f : Form) (d : Nat), f.w ≤ n → f.fit → d ≤ 40 → Tr (fun m => m_spec_l1Is m f (d : Int)) (f.isOk d) := by
  intro n
  induction n with
  | zero => intro a d h; have := a.w_pos; omega
  | succ n ih =>
    intro f d h hf hd
    obtain ⟨f1, f2, f3, f4⟩ := hf.parts
    have hw := f.w_kids
    rw [Form.isOk_eq]
    refine Tr.step (fun m => by rw [m_spec_l1Is]) ?_
    cases hd0 : decide (d = 0) with
    | true => exact Tr.tt (decide_eq_true (by simpa using hd0)) Tr.val
    | false =>
    have hd1 : d ≠ 0 := by simpa using hd0
    refine Tr.ff (decide_eq_false (by omega)) ?_
    rw [cond_false]
    cases decide (f.kind = 1) with
    | true =>
      refine Tr.tt rfl (Tr.bind (specNm_tr _) ?_)
      rw [cond_true]
      cases nmOk f.name with
      | false => exact Tr.ff rfl Tr.val
      | true =>
      refine Tr.tt rfl ?_
      cases decide (f.n = 0) with
      | false => exact Tr.ff rfl Tr.val
      | true =>
      refine Tr.tt rfl (Tr.bind (specSc_tr _ f2) ?_)
      cases scOk f.scopes with
      | false => exact Tr.ff rfl Tr.val
      | true => exact Tr.tt rfl Tr.val
    | false =>
    refine Tr.ff rfl ?_
    rw [cond_false]
    cases decide (f.kind = 2) with
    | true =>
      refine Tr.tt rfl (Tr.of fun m => ?_)
      rw [cond_true]
      cases decide (f.name = (⟨#[]⟩ : ByteArray)) <;> cases decide (0 ≤ f.n) <;> cases decide (f.n ≤ 999) <;> cases decide ((f.scopes.length : Int) = 0) <;> rfl
    | false =>
    refine Tr.ff rfl ?_
    rw [cond_false]
    by_cases h3 : f.kind = 3
    case neg => rw [decide_eq_false h3]; exact Tr.tt (by simpa using h3) Tr.val
    rw [decide_eq_true h3]
    refine Tr.ff (by simpa using h3) ?_
    by_cases h4 : f.name = (⟨#[]⟩ : ByteArray)
    case neg => rw [decide_eq_false h4]; exact Tr.tt (by simpa using h4) Tr.val
    rw [decide_eq_true h4]
    refine Tr.ff (by simpa using h4) ?_
    by_cases h5 : f.n = 0
    case neg => rw [decide_eq_false h5]; exact Tr.tt (by simpa using h5) Tr.val
    rw [decide_eq_true h5]
    refine Tr.ff (by simpa using h5) ?_
    by_cases h6 : (f.scopes.length : Int) = 0
    case neg => rw [decide_eq_false h6]; exact Tr.tt (by rw [decide_eq_true_eq]; exact h6) Tr.val
    rw [decide_eq_true h6]
    refine Tr.ff (by rw [decide_eq_false_iff_not]; exact fun h => h h6) ?_
    have e : ((d : Int) - 1) = ((d - 1 : Nat) : Int) := by omega
    have := loop_all (xs := f.kids) (c := true) (D := fun x => x.isOk (d - 1)) (L := fun m k => m_spec_l1Is_l1 m f (d : Int) k) (E := fun m x => m_spec_l1Is m x (w64 ((d : Int) - 1))) (fun m k => by rw [m_spec_l1Is_l1]) (fun x hx => by
      rw [w64_in (by omega), e]; exact ih x (d - 1) (by have := Form.ws_mem hx; omega) (Form.fits_mem f4 hx) (by omega))
    simpa using this
theorem l1Count_n : ∀ (n : Nat) (f : Form), f.w ≤ n → f.w ≤ 2 ^ 36 → Tr (fun m => m_spec_l1Count m f) (f.cnt : Int) := by
  intro n
  induction n with
  | zero => intro a h; have := a.w_pos; omega
  | succ n ih =>
    intro f h hb
    have hw := f.w_kids
    have hc := Form.cnts_ws f.kids
    refine Tr.step (fun m => by rw [m_spec_l1Count]) ?_
    have key := drop_ind f.kids (fun k zs => ∀ g : Nat, g + Form.ws zs ≤ 2 ^ 37 → Tr (fun m => m_spec_l1Count_l1 m f (g : Int) (k : Int)) ((g + Form.cnts zs : Nat) : Int)) ?_ ?_ 0 (Nat.zero_le _) 1 (by simp; omega)
    · rw [Form.cnt_eq]; simpa using key
    · intro g hg
      exact Tr.step (fun m => by rw [m_spec_l1Count_l1, ltN_self, cond_false]; simp [Form.cnts]) Tr.val
    · intro k x zs hk hx hd ihk g hg
      have hm := List.mem_of_getElem? hx
      have hxw := Form.ws_mem hm
      have hcx := Form.cnt_w x
      rw [Form.ws] at hg
      refine Tr.step (fun m => by rw [m_spec_l1Count_l1, ltN hk, cond_true, idx_nat hx, Option.bind_some, succN]) ?_
      refine Tr.bind (ih x (by omega) (by omega)) ?_
      refine Tr.eq (fun m => by rw [w64_in (by omega), show (g : Int) + (x.cnt : Int) = ((g + x.cnt : Nat) : Int) by omega]) ?_
      rw [Form.cnts, ← Nat.add_assoc]
      exact ihk _ (by omega)
theorem specFormValid_tr (f : Form) (hf : f.fit) (hb : f.w ≤ 2 ^ 36) : Tr (fun m => m_spec_FormValid m f) f.valid := by
  refine Tr.eq (fun m => by unfold m_spec_FormValid; rfl) (Tr.bind (l1Is_n _ f 40 (Nat.le_refl _) hf (by omega)) ?_)
  unfold Form.valid
  cases f.isOk 40 with
  | false => exact Tr.ff rfl Tr.val
  | true =>
    refine Tr.tt rfl (Tr.bind (l1Count_n _ f (Nat.le_refl _) hb) (Tr.of fun m => ?_))
    rw [Bool.true_and]; congr 1
    rw [Bool.eq_iff_iff, decide_eq_true_iff, decide_eq_true_iff]; omega
theorem formOk_n : ∀ (n : Nat) (f : Form) (d : Nat) (g : Int), f.w ≤ n → f.fit → 1 ≤ d → d ≤ 41 → 0 ≤ g → g ≤ 400 → TQ (fun m => m_impl_formOk m f (d : Int) g) (fun r => r.1 = (f.isOk (41 - d) && decide ((f.cnt : Int) ≤ g)) ∧ (r.1 = true → r.2 = g - f.cnt)) := by
  intro n
  induction n with
  | zero => intro a d g h; have := a.w_pos; omega
  | succ n ih =>
    intro f d g h hf hd hd' hg hg'
    obtain ⟨f1, f2, f3, f4⟩ := hf.parts
    have hw := f.w_kids
    have hcn := f.cnt_eq
    rw [Form.isOk_eq]
    refine TQ.step (fun m => by rw [m_impl_formOk, w64_in (by omega)]) ?_
    by_cases hg0 : g - 1 < 0
    · refine TQ.eq (fun m => by rw [decide_eq_true hg0, cond_true]) (TQ.val ⟨?_, fun h => by cases h⟩)
      rw [decide_eq_false (show ¬ (f.cnt : Int) ≤ g by omega), Bool.and_false]
    refine TQ.eq (fun m => by rw [decide_eq_false hg0, cond_false]) ?_
    by_cases hd0 : 40 < (d : Int)
    · refine TQ.eq (fun m => by rw [decide_eq_true hd0, cond_true]) (TQ.val ⟨?_, fun h => by cases h⟩)
      rw [decide_eq_true (show 41 - d = 0 by omega), cond_true, Bool.false_and]
    refine TQ.eq (fun m => by rw [decide_eq_false hd0, cond_false]) ?_
    rw [decide_eq_false (show ¬ 41 - d = 0 by omega), cond_false]
    have leaf : ∀ (b : Bool), ((b && decide ((f.kids.length : Int) = 0)) = true → True) := fun _ _ => trivial
    have cnt1 : (f.kids.length : Int) = 0 → (f.cnt : Int) = 1 := fun h => by
      have : f.kids = [] := List.eq_nil_of_length_eq_zero (by omega)
      rw [hcn, this, Form.cnts]; rfl
    have fin : TQ (fun _ => some ((decide ((f.kids.length : Int) = 0)), g - 1)) (fun r => r.1 = (decide ((f.kids.length : Int) = 0) && decide ((f.cnt : Int) ≤ g)) ∧ (r.1 = true → r.2 = g - f.cnt)) := by
      refine TQ.val ⟨?_, fun h => by have := cnt1 (by simpa using h); omega⟩
      by_cases hk : (f.kids.length : Int) = 0
      · have := cnt1 hk
        rw [decide_eq_true hk, decide_eq_true (show (f.cnt : Int) ≤ g by omega)]; rfl
      · rw [decide_eq_false hk]; rfl
    have no : TQ (fun _ => some (false, g - 1)) (fun r => r.1 = (false && decide ((f.cnt : Int) ≤ g)) ∧ (r.1 = true → r.2 = g - f.cnt)) := TQ.val ⟨rfl, fun h => by cases h⟩
    cases decide (f.kind = 1) with
    | true =>
      refine TQ.eq (fun m => by rw [cond_true]) (TQ.ev (implNm_tr _ f1) ?_)
      rw [cond_true]
      cases nmOk f.name with
      | false => exact no
      | true =>
      refine TQ.eq (fun m => by rw [cond_true]) ?_
      cases decide (f.n = 0) with
      | false => exact no
      | true =>
      refine TQ.eq (fun m => by rw [cond_true]) (TQ.ev (implSc_tr _ f2) ?_)
      cases scOk f.scopes with
      | false => exact no
      | true => exact fin
    | false =>
    refine TQ.eq (fun m => by rw [cond_false]) ?_
    rw [cond_false]
    cases decide (f.kind = 2) with
    | true =>
      refine TQ.eq (fun m => by rw [cond_true]) ?_
      rw [cond_true]
      cases decide (f.name = (⟨#[]⟩ : ByteArray)) with
      | false => exact no
      | true =>
      refine TQ.eq (fun m => by rw [cond_true]) (TQ.ev (within_tr _ _ _) ?_)
      cases (decide (0 ≤ f.n) && decide (f.n ≤ 999)) with
      | false => exact no
      | true =>
      refine TQ.eq (fun m => by rw [cond_true]) ?_
      cases decide ((f.scopes.length : Int) = 0) with
      | false => exact no
      | true => exact fin
    | false =>
    refine TQ.eq (fun m => by rw [cond_false]) ?_
    rw [cond_false]
    cases decide (f.kind = 3) with
    | false => exact no
    | true =>
    refine TQ.eq (fun m => by rw [cond_true]) ?_
    by_cases h4 : f.name = (⟨#[]⟩ : ByteArray)
    case neg => rw [decide_eq_false h4]; exact TQ.eq (fun m => by rw [decide_eq_true h4, cond_true]) no
    rw [decide_eq_true h4]
    refine TQ.eq (fun m => by rw [decide_eq_false (fun h => h h4), cond_false]) ?_
    by_cases h5 : f.n = 0
    case neg => rw [decide_eq_false h5]; exact TQ.eq (fun m => by rw [decide_eq_true h5, cond_true]) no
    rw [decide_eq_true h5]
    refine TQ.eq (fun m => by rw [decide_eq_false (fun h => h h5), cond_false]) ?_
    by_cases h6 : (f.scopes.length : Int) = 0
    case neg => rw [decide_eq_false h6]; exact TQ.eq (fun m => by rw [decide_eq_true (show 0 < (f.scopes.length : Int) by omega), cond_true]) no
    rw [decide_eq_true h6]
    refine TQ.eq (fun m => by rw [decide_eq_false (show ¬ 0 < (f.scopes.length : Int) by omega), cond_false]) ?_
    have key := drop_ind f.kids (fun k zs => ∀ g : Int, 0 ≤ g → g ≤ 400 → TQ (fun m => m_impl_formOk_l1 m f (d : Int) (k : Int) g) (fun r => r.1 = (alls (fun x => x.isOk (41 - d - 1)) zs && decide ((Form.cnts zs : Int) ≤ g)) ∧ (r.1 = true → r.2 = g - Form.cnts zs))) ?_ ?_ 0 (Nat.zero_le _) (g - 1) (by omega) (by omega)
    · refine TQ.mono (by simpa using key) (fun r hr => ⟨?_, fun h => by have := hr.2 h; omega⟩)
      rw [hr.1]
      simp only [Bool.true_and]
      congr 1
      rw [Bool.eq_iff_iff, decide_eq_true_iff, decide_eq_true_iff]; omega
    · intro g hg _
      exact TQ.step (fun m => by rw [m_impl_formOk_l1, ltN_self, cond_false]) (TQ.val ⟨by simp [alls, Form.cnts, hg], fun _ => by simp [Form.cnts]⟩)
    · intro k x zs hk hx hdr ihk g hg hg'
      have hm := List.mem_of_getElem? hx
      refine TQ.step (fun m => by rw [m_impl_formOk_l1, ltN hk, cond_true, idx_nat hx, Option.bind_some, succN, w64_in (by omega), succN]) ?_
      refine TQ.bind (ih x (d + 1) g (by have := Form.ws_mem hm; omega) (Form.fits_mem f4 hm) (by omega) (by omega) hg hg') (fun r hr => ?_)
      obtain ⟨h1, h2⟩ := hr
      have e : 41 - (d + 1) = 41 - d - 1 := by omega
      rw [e] at h1
      refine TQ.cond (fun hb => ?_) (fun hb => ?_)
      · refine TQ.val ⟨?_, fun h => by cases h⟩
        replace hb : r.1 = false := by simpa using hb
        rw [hb] at h1
        rw [alls, Form.cnts]
        cases hx : x.isOk (41 - d - 1) with
        | false => rfl
        | true =>
          rw [hx, Bool.true_and] at h1
          have : ¬ (x.cnt : Int) ≤ g := of_decide_eq_false h1.symm
          rw [decide_eq_false (show ¬ ((x.cnt + Form.cnts zs : Nat) : Int) ≤ g by omega), Bool.and_false]
      · replace hb : r.1 = true := by simpa using hb
        have h3 := h2 hb
        rw [hb] at h1
        have h4 := (Bool.and_eq_true _ _ ▸ h1.symm : _ ∧ _)
        have h5 : (x.cnt : Int) ≤ g := of_decide_eq_true h4.2
        refine TQ.mono (ihk r.2 (by omega) (by omega)) (fun q hq => ⟨?_, fun h => by have := hq.2 h; rw [Form.cnts]; omega⟩)
        rw [hq.1, alls, Form.cnts, h4.1, Bool.true_and]
        congr 1
        rw [Bool.eq_iff_iff, decide_eq_true_iff, decide_eq_true_iff]; omega
theorem implFormValid_tr (f : Form) (hf : f.fit) : Tr (fun m => m_impl_FormValid m f) f.valid := by
  obtain ⟨r, h1, h2, _⟩ := formOk_n _ f 1 400 (Nat.le_refl _) hf (by omega) (by omega) (by omega) (by omega)
  refine Tr.eq (fun m => by unfold m_impl_FormValid; rfl) (Tr.bind h1 (Tr.of fun m => ?_))
  rw [h2]; unfold Form.valid; congr 2
  rw [Bool.eq_iff_iff, decide_eq_true_iff, decide_eq_true_iff]; omega
end Go.Abs
end
section
set_option linter.unusedVariables false
set_option linter.unusedSimpArgs false
namespace Go.Abs
abbrev dotsN : ByteArray := (⟨#[46, 46, 46]⟩ : ByteArray)
abbrev underN : ByteArray := (⟨#[95]⟩ : ByteArray)
abbrev form0 : Form := Form.mk 0 (⟨#[]⟩ : ByteArray) 0 ([] : List Int) ([] : List Form)
def isNm (f : Form) : Bool := decide (f.kind = 1) && f.valid
theorem implIsName_tr (f : Form) (hf : f.fit) : Tr (fun m => m_impl_isName m f) (isNm f) := by
  refine Tr.eq (fun m => by unfold m_impl_isName; rfl) ?_
  unfold isNm
  cases decide (f.kind = 1) with
  | false => exact Tr.ff rfl Tr.val
  | true => exact Tr.tt rfl (Tr.bind (implFormValid_tr f hf) Tr.val)
theorem l3Is_tr (f : Form) (hf : f.fit) (hb : f.w ≤ 2 ^ 36) : Tr (fun m => m_spec_l3Is m f) (isNm f) := by
  refine Tr.eq (fun m => by unfold m_spec_l3Is; rfl) ?_
  unfold isNm
  cases decide (f.kind = 1) with
  | false => exact Tr.ff rfl Tr.val
  | true => exact Tr.tt rfl (Tr.bind (specFormValid_tr f hf hb) Tr.val)
mutual
noncomputable def Hit.isOk : Hit → Bool
  | .mk name depth one many => isNm name && (!decide (name.name = dotsN) && (!decide (name.name = underN) && ((decide (0 ≤ depth) && decide (depth ≤ 3)) &&
      bif decide (depth = 0) then (one.valid && decide ((many.length : Int) = 0)) else (same one form0 && (decide ((many.length : Int) ≤ 400) && Hit.isOks many name (depth - 1))))))
noncomputable def Hit.isOks : List Hit → Form → Int → Bool
  | [], _, _ => true
  | x :: xs, nm, d => (same x.name nm && (decide (x.depth = d) && x.isOk)) && Hit.isOks xs nm d
end
theorem Hit.isOks_eq (nm : Form) (d : Int) : ∀ l : List Hit, Hit.isOks l nm d = alls (fun x => same x.name nm && (decide (x.depth = d) && x.isOk)) l
  | [] => by rw [Hit.isOks, alls]
  | x :: xs => by rw [Hit.isOks, alls, Hit.isOks_eq nm d xs]
theorem Hit.isOk_eq (h : Hit) : h.isOk = (isNm h.name && (!decide (h.name.name = dotsN) && (!decide (h.name.name = underN) && ((decide (0 ≤ h.depth) && decide (h.depth ≤ 3)) &&
      bif decide (h.depth = 0) then (h.one.valid && decide ((h.many.length : Int) = 0)) else (same h.one form0 && (decide ((h.many.length : Int) ≤ 400) && alls (fun x => same x.name h.name && (decide (x.depth = h.depth - 1) && x.isOk)) h.many)))))) := by
  obtain ⟨a, b, c, d⟩ := h; rw [Hit.isOk, Hit.isOks_eq]; rfl
theorem fnd_none {α : Type} {D : α → Bool} {l : List α} {k : Nat} : decide (0 ≤ fnd D l k) = !alls (fun x => !D x) l := by
  rw [Bool.eq_iff_iff, decide_eq_true_iff, fnd_ge, Bool.not_eq_true', ← Bool.not_eq_true, alls_iff]
  constructor
  · rintro ⟨x, hx, h⟩ hh
    have := hh x hx
    rw [h] at this; cases this
  · intro h
    refine Classical.byContradiction fun hn => h fun x hx => ?_
    cases hd : D x with
    | false => rfl
    | true => exact absurd ⟨x, hx, hd⟩ hn
theorem hitOk_n : ∀ (n : Nat) (h : Hit), h.w ≤ n → h.fit → Tr (fun m => m_impl_hitOk m h) h.isOk := by
  intro n
  induction n with
  | zero => intro a h; have := a.w_parts; omega
  | succ n ih =>
    intro h hn hf
    obtain ⟨f1, f2, f3, f4⟩ := hf.parts
    have hw := h.w_parts
    rw [Hit.isOk_eq]
    refine Tr.step (fun m => by rw [m_impl_hitOk]) (Tr.bind (implIsName_tr _ f1) ?_)
    cases isNm h.name with
    | false => exact Tr.tt rfl Tr.val
    | true =>
    refine Tr.ff rfl ?_
    cases decide (h.name.name = dotsN) with
    | true => exact Tr.tt rfl Tr.val
    | false =>
    refine Tr.ff rfl ?_
    cases decide (h.name.name = underN) with
    | true => exact Tr.tt rfl Tr.val
    | false =>
    refine Tr.ff rfl (Tr.bind (within_tr _ _ _) ?_)
    cases hr : (decide (0 ≤ h.depth) && decide (h.depth ≤ 3)) with
    | false => exact Tr.tt rfl Tr.val
    | true =>
    obtain ⟨hr1, hr2⟩ : 0 ≤ h.depth ∧ h.depth ≤ 3 := by simpa using hr
    refine Tr.ff rfl ?_
    cases decide (h.depth = 0) with
    | true =>
      refine Tr.tt rfl (Tr.bind (implFormValid_tr _ f2) ?_)
      cases h.one.valid with
      | false => exact Tr.ff rfl Tr.val
      | true => exact Tr.tt rfl Tr.val
    | false =>
    refine Tr.ff rfl (Tr.bind (implFormSame_tr _ _) ?_)
    simp only [cond_false, Bool.not_false, Bool.true_and]
    cases same h.one form0 with
    | false => exact Tr.ff rfl Tr.val
    | true =>
    refine Tr.tt rfl ?_
    cases decide ((h.many.length : Int) ≤ 400) with
    | false => exact Tr.ff rfl Tr.val
    | true =>
    refine Tr.tt rfl ?_
    have bad : ∀ x ∈ h.many, Tr (fun m => m_impl_hitOk_1 m x h) (!(same x.name h.name && (decide (x.depth = h.depth - 1) && x.isOk))) := by
      intro x hx
      refine Tr.step (fun m => by rw [m_impl_hitOk_1]) (Tr.bind (implFormSame_tr _ _) ?_)
      cases same x.name h.name with
      | false => exact Tr.tt rfl Tr.val
      | true =>
      refine Tr.ff rfl (Tr.eq (fun m => by rw [w64_in (by omega)]) ?_)
      by_cases hd : x.depth = h.depth - 1
      · refine Tr.ff (decide_eq_false (fun h => h hd)) (Tr.bind (ih x (by have := Hit.ws_mem hx; omega) (Hit.fits_mem f4 hx)) ?_)
        rw [decide_eq_true hd]; exact Tr.val
      · rw [decide_eq_false hd]; exact Tr.tt (decide_eq_true hd) Tr.val
    refine Tr.bind (v := decide (0 ≤ fnd (fun x => !(same x.name h.name && (decide (x.depth = h.depth - 1) && x.isOk))) h.many 0)) ?_ (Tr.of fun m => ?_)
    · refine Tr.step (fun m => by rw [m_slices_ContainsFunc_Hit_hitOk_1]) (Tr.bind ?_ Tr.val)
      refine Tr.step (fun m => by rw [m_slices_IndexFunc_Hit_hitOk_1]) ?_
      exact loop_find (xs := h.many) (L := fun m k => m_slices_IndexFunc_Hit_hitOk_1_l1 m h.many h k) (E := fun m x => m_impl_hitOk_1 m x h) (fun m k => by rw [m_slices_IndexFunc_Hit_hitOk_1_l1]) bad
    · rw [fnd_none, Bool.not_not]; simp only [Bool.not_not]; rfl
theorem hitOk_tr (h : Hit) (hf : h.fit) : Tr (fun m => m_impl_hitOk m h) h.isOk := hitOk_n _ h (Nat.le_refl _) hf
theorem l4Hit_n : ∀ (n : Nat) (h : Hit) (x2 : Int), h.w ≤ n → h.w ≤ 2 ^ 36 → h.fit → Tr (fun m => m_spec_l4Hit m h x2) (decide (h.depth = x2) && h.isOk) := by
  intro n
  induction n with
  | zero => intro a x2 h; have := a.w_parts; omega
  | succ n ih =>
    intro h x2 hn hb hf
    obtain ⟨f1, f2, f3, f4⟩ := hf.parts
    have hw := h.w_parts
    rw [Hit.isOk_eq]
    refine Tr.step (fun m => by rw [m_spec_l4Hit]) ?_
    by_cases hd : h.depth = x2
    case neg => rw [decide_eq_false hd]; exact Tr.tt (decide_eq_true hd) Tr.val
    subst hd
    rw [decide_eq_true rfl, Bool.true_and]
    refine Tr.ff (decide_eq_false (fun h => h rfl)) ?_
    by_cases h0 : h.depth < 0
    · rw [decide_eq_false (show ¬ 0 ≤ h.depth by omega)]
      simp only [Bool.false_and, Bool.and_false]
      exact Tr.tt (decide_eq_true h0) Tr.val
    refine Tr.ff (decide_eq_false h0) ?_
    by_cases h3 : 3 < h.depth
    · rw [decide_eq_false (show ¬ h.depth ≤ 3 by omega)]
      simp only [Bool.false_and, Bool.and_false]
      exact Tr.tt (decide_eq_true h3) Tr.val
    refine Tr.ff (decide_eq_false h3) (Tr.bind (l3Is_tr _ f1 (by omega)) ?_)
    rw [decide_eq_true (show 0 ≤ h.depth by omega), decide_eq_true (show h.depth ≤ 3 by omega), Bool.true_and, Bool.true_and]
    cases isNm h.name with
    | false => exact Tr.tt rfl Tr.val
    | true =>
    refine Tr.ff rfl ?_
    cases decide (h.name.name = dotsN) with
    | true => exact Tr.tt rfl Tr.val
    | false =>
    refine Tr.ff rfl ?_
    cases decide (h.name.name = underN) with
    | true => exact Tr.tt rfl Tr.val
    | false =>
    refine Tr.ff rfl ?_
    simp only [Bool.not_false, Bool.true_and]
    cases hz : decide (h.depth = 0) with
    | true =>
      refine Tr.tt rfl (Tr.bind (specFormValid_tr _ f2 (by omega)) ?_)
      cases h.one.valid with
      | false => exact Tr.ff rfl Tr.val
      | true => exact Tr.tt rfl Tr.val
    | false =>
    refine Tr.ff rfl ?_
    rw [cond_false]
    have key := drop_ind h.many (fun k zs => Tr (fun m => m_spec_l4Hit_l1 m h h.depth (k : Int)) (alls (fun x => same x.name h.name && (decide (x.depth = h.depth - 1) && x.isOk)) zs && (same h.one form0 && decide ((h.many.length : Int) ≤ 400)))) ?_ ?_ 0 (Nat.zero_le _)
    · have e : (same h.one form0 && (decide ((h.many.length : Int) ≤ 400) && alls (fun x => same x.name h.name && (decide (x.depth = h.depth - 1) && x.isOk)) h.many)) = (alls (fun x => same x.name h.name && (decide (x.depth = h.depth - 1) && x.isOk)) h.many && (same h.one form0 && decide ((h.many.length : Int) ≤ 400))) := by
        rw [← Bool.and_assoc, Bool.and_comm]
      rw [e]
      simpa using key
    · refine Tr.step (fun m => by rw [m_spec_l4Hit_l1, ltN_self, cond_false]) (Tr.bind (specFormSame_tr _ _) ?_)
      rw [alls, Bool.true_and]
      cases same h.one form0 with
      | false => exact Tr.ff rfl Tr.val
      | true => exact Tr.tt rfl Tr.val
    · intro k x zs hk hx hdr ihk
      have hm := List.mem_of_getElem? hx
      refine Tr.step (fun m => by rw [m_spec_l4Hit_l1, ltN hk, cond_true, idx_nat hx, Option.bind_some, succN]) (Tr.bind (specFormSame_tr _ _) ?_)
      rw [alls]
      cases same x.name h.name with
      | false => exact Tr.tt rfl Tr.val
      | true =>
      refine Tr.ff rfl (Tr.eq (fun m => by rw [Option.bind_some, w64_in (by omega)]) ?_)
      refine Tr.bind (ih x (h.depth - 1) (by have := Hit.ws_mem hm; omega) (by have := Hit.ws_mem hm; omega) (Hit.fits_mem f4 hm)) ?_
      rw [Bool.true_and]
      cases (decide (x.depth = h.depth - 1) && x.isOk) with
      | false => exact Tr.tt rfl Tr.val
      | true => exact Tr.ff rfl (by simpa using ihk)
noncomputable def hvF : List Hit → List Hit → Bool
  | _, [] => true
  | ps, x :: xs => x.isOk && (alls (fun y => !same y.name x.name) ps && hvF (ps ++ [x]) xs)
noncomputable def hvOk (l : List Hit) : Bool := hvF [] l && decide ((l.length : Int) ≤ 20)
theorem take_succ' {α : Type} {l : List α} {k : Nat} {x : α} (h : l[k]? = some x) : l.take (k + 1) = l.take k ++ [x] := by
  rw [List.take_add_one, h]; rfl
theorem sub_take {α : Type} {l : List α} {k : Nat} (h : k ≤ l.length) : sub l 0 (k : Int) = some (l.take k) := by
  unfold sub
  rw [show (decide ((0 : Int) ≤ 0) && decide ((0 : Int) ≤ k) && decide ((k : Int) ≤ l.length)) = true by simp; omega, cond_true]
  simp
theorem implHitsValid_tr (l : List Hit) (hf : Hit.fits l) : Tr (fun m => m_impl_HitsValid m l) (hvOk l) := by
  refine Tr.eq (fun m => by unfold m_impl_HitsValid; rfl) ?_
  have key := drop_ind l (fun k zs => Tr (fun m => m_impl_HitsValid_l1 m l (k : Int)) (hvF (l.take k) zs && decide ((l.length : Int) ≤ 20))) ?_ ?_ 0 (Nat.zero_le _)
  · simpa [hvOk] using key
  · exact Tr.step (fun m => by rw [m_impl_HitsValid_l1, ltN_self, cond_false, hvF, Bool.true_and]) Tr.val
  · intro k x zs hk hx hd ih
    have hm := List.mem_of_getElem? hx
    rw [take_succ' hx] at ih
    refine Tr.step (fun m => by rw [m_impl_HitsValid_l1, ltN hk, cond_true, idx_nat hx, Option.bind_some, succN]) (Tr.bind (hitOk_tr x (Hit.fits_mem hf hm)) ?_)
    rw [hvF]
    cases x.isOk with
    | false => exact Tr.tt rfl Tr.val
    | true =>
    refine Tr.ff rfl (Tr.eq (fun m => by rw [sub_take (by omega), Option.bind_some]) ?_)
    refine Tr.bind (v := fnd (fun y => same y.name x.name) (l.take k) 0) ?_ ?_
    · refine Tr.eq (fun m => by unfold m_impl_hitAt; rfl) (Tr.bind ?_ Tr.val)
      refine Tr.eq (fun m => by unfold m_slices_IndexFunc_Hit_hitAt_1; rfl) ?_
      exact loop_find (xs := l.take k) (L := fun m j => m_slices_IndexFunc_Hit_hitAt_1_l1 m (l.take k) x.name j) (E := fun m y => m_impl_hitAt_1 m y x.name) (fun m j => by rw [m_slices_IndexFunc_Hit_hitAt_1_l1]) (fun y _ => Tr.eq (fun m => by unfold m_impl_hitAt_1; rfl) (Tr.bind (implFormSame_tr _ _) Tr.val))
    · have e := fnd_none (D := fun y : Hit => same y.name x.name) (l := l.take k) (k := 0)
      cases ha : alls (fun y => !same y.name x.name) (l.take k) with
      | false => rw [ha] at e; exact Tr.tt e Tr.val
      | true => rw [ha] at e; exact Tr.ff e (by simpa using ih)
end Go.Abs
end
section
set_option linter.unusedVariables false
set_option linter.unusedSimpArgs false
namespace Go.Abs
def isDots (f : Form) : Bool := decide (f.kind = 1) && decide (f.name = dotsN)
theorem l4Dots_tr (f : Form) : Tr (fun m => m_spec_l4Dots m f) (isDots f) :=
  Tr.of (fun m => by unfold m_spec_l4Dots isDots; rw [bif_and])
noncomputable def depF : List (Form × Int) → Form → Int
  | [], _ => -1
  | p :: ps, f => bif same p.1 f then p.2 else depF ps f
noncomputable def dep (l : List (Form × Int)) (f : Form) : Int := bif decide (f.kind ≠ 1) then -1 else depF l f
def nd (l : List Hit) : List (Form × Int) := l.map fun h => (h.name, h.depth)
def nextD : List Form → Bool
  | [] => false
  | y :: _ => isDots y
def pdAt (l : List Form) : Nat → Bool
  | 0 => true
  | j + 1 => match l[j]? with
    | some y => isDots y
    | none => true
theorem pd_succ {l : List Form} {k : Nat} {x : Form} (h : l[k]? = some x) : pdAt l (k + 1) = isDots x := by rw [pdAt, h]
end Go.Abs
end
section
set_option linter.unusedVariables false
set_option linter.unusedSimpArgs false
namespace Go.Abs
def lessI (k : Nat) (d : Int) : Int := bif decide (0 < d) then (bif decide ((k : Int) < d) then d - k else 0) else d
theorem lessI_pos (k : Nat) (d : Int) : (0 < lessI k d) ↔ (k : Int) < d := by
  unfold lessI
  by_cases h : 0 < d
  · rw [decide_eq_true h, cond_true]
    by_cases h2 : (k : Int) < d
    · rw [decide_eq_true h2, cond_true]; omega
    · rw [decide_eq_false h2, cond_false]; omega
  · rw [decide_eq_false h, cond_false]; omega
theorem lessI_succ (k : Nat) (d : Int) : lessI (k + 1) d = bif decide (0 < lessI k d) then lessI k d - 1 else lessI k d := by
  unfold lessI
  by_cases h : 0 < d
  · rw [decide_eq_true h, cond_true, cond_true]
    by_cases h2 : (k : Int) < d
    · rw [decide_eq_true h2, cond_true, decide_eq_true (show 0 < d - (k : Int) by omega), cond_true]
      by_cases h3 : ((k + 1 : Nat) : Int) < d
      · rw [decide_eq_true h3, cond_true]; omega
      · rw [decide_eq_false h3, cond_false]; omega
    · rw [decide_eq_false h2, cond_false, decide_eq_false (show ¬ ((k + 1 : Nat) : Int) < d by omega), cond_false]; rfl
  · rw [decide_eq_false h, cond_false, cond_false, decide_eq_false h, cond_false]
theorem lessI_zero (d : Int) : lessI 0 d = d := by
  unfold lessI
  by_cases h : 0 < d
  · rw [decide_eq_true h, cond_true, decide_eq_true (show ((0 : Nat) : Int) < d by omega), cond_true]; omega
  · rw [decide_eq_false h, cond_false]
def rowOf (h : Hit) : Hit := Hit.mk h.name (bif decide (0 < h.depth) then h.depth - 1 else h.depth) h.one ([] : List Hit)
theorem depF_row (f : Form) : ∀ l : List Hit, depF (nd (l.map rowOf)) f = bif decide (0 < depF (nd l) f) then depF (nd l) f - 1 else depF (nd l) f
  | [] => rfl
  | h :: hs => by
    have ih := depF_row f hs
    simp only [nd, List.map_cons, List.map_map] at ih ⊢
    rw [depF, depF]
    show (bif same h.name f then _ else _) = _
    simp only
    cases same h.name f with
    | true => rfl
    | false => simp only [cond_false]; exact ih
theorem dep_row (f : Form) (l : List Hit) : dep (nd (l.map rowOf)) f = bif decide (0 < dep (nd l) f) then dep (nd l) f - 1 else dep (nd l) f := by
  unfold dep
  cases decide (f.kind ≠ 1) with
  | true => rfl
  | false => simp only [cond_false]; exact depF_row f l
structure RowK (k : Nat) (l' l : List Hit) : Prop where
  dep : ∀ f, Abs.dep (nd l') f = lessI k (Abs.dep (nd l) f)
  len : l'.length = l.length
  fit : ∀ h ∈ l', -9223372036854775808 ≤ h.depth ∧ h.depth ≤ 9223372036854775807
theorem RowK.zero {l : List Hit} (h : ∀ h ∈ l, -9223372036854775808 ≤ h.depth ∧ h.depth ≤ 9223372036854775807) : RowK 0 l l := ⟨fun f => (lessI_zero _).symm, rfl, h⟩
theorem RowK.succ {k : Nat} {l' l : List Hit} (h : RowK k l' l) : RowK (k + 1) (l'.map rowOf) l := by
  refine ⟨fun f => by rw [dep_row, h.dep f, lessI_succ], by rw [List.length_map, h.len], fun y hy => ?_⟩
  obtain ⟨x, hx, rfl⟩ := List.mem_map.1 hy
  obtain ⟨h1, h2⟩ := h.fit x hx
  show -9223372036854775808 ≤ (bif decide (0 < x.depth) then x.depth - 1 else x.depth) ∧ (bif decide (0 < x.depth) then x.depth - 1 else x.depth) ≤ 9223372036854775807
  by_cases h0 : 0 < x.depth
  · rw [decide_eq_true h0, cond_true]; omega
  · rw [decide_eq_false h0, cond_false]; exact ⟨h1, h2⟩
theorem RowK.pos {k : Nat} {l' l : List Hit} (h : RowK k l' l) (f : Form) : decide (0 < Abs.dep (nd l') f) = decide ((k : Int) < Abs.dep (nd l) f) := by
  rw [h.dep f, Bool.eq_iff_iff, decide_eq_true_iff, decide_eq_true_iff]; exact lessI_pos k _
theorem next_get {l : List Form} {k : Nat} {x : Form} {zs : List Form} (hd : l.drop k = x :: zs) : (zs = [] ∧ l.length = k + 1) ∨ (∃ y ys, zs = y :: ys ∧ l[k + 1]? = some y ∧ k + 1 < l.length) := by
  have hl : l.length = k + (x :: zs).length := by
    have := congrArg List.length hd
    rw [List.length_drop] at this
    have : (x :: zs).length ≠ 0 := by simp
    omega
  cases zs with
  | nil => exact .inl ⟨rfl, by simpa using hl⟩
  | cons y ys =>
    refine .inr ⟨y, ys, rfl, ?_, by rw [hl]; simp⟩
    have : (l.drop k)[1]? = some y := by rw [hd]; rfl
    rwa [List.getElem?_drop] at this
end Go.Abs
end
section
set_option linter.unusedVariables false
set_option linter.unusedSimpArgs false
namespace Go.Abs
end Go.Abs
end
section
set_option linter.unusedVariables false
set_option linter.unusedSimpArgs false
namespace Go.Abs
noncomputable def inF (l : List Form) (f : Form) : Bool := !alls (fun x => !same x f) l
theorem l4In_tr (l : List Form) (f : Form) : Tr (fun m => m_spec_l4In m l f) (inF l f) := by
  refine Tr.eq (fun m => by unfold m_spec_l4In; rfl) ?_
  have key := drop_ind l (fun k zs => Tr (fun m => m_spec_l4In_l1 m l f (k : Int)) (inF zs f)) ?_ ?_ 0 (Nat.zero_le _)
  · simpa using key
  · exact Tr.step (fun m => by rw [m_spec_l4In_l1, ltN_self, cond_false]; rfl) Tr.val
  · intro k x zs hk hx hd ih
    refine Tr.step (fun m => by rw [m_spec_l4In_l1, ltN hk, cond_true, idx_nat hx, Option.bind_some, succN]) (Tr.bind (specFormSame_tr _ _) ?_)
    unfold inF; rw [alls]
    cases same x f with
    | true => exact Tr.tt rfl Tr.val
    | false => exact Tr.ff rfl (by simpa [inF] using ih)
noncomputable def litF : List Form → List Form → Bool
  | _, [] => true
  | ps, x :: xs => isNm x && (!decide (x.name = dotsN) && (!decide (x.name = underN) && (!inF ps x && litF (ps ++ [x]) xs)))
noncomputable def litOk (l : List Form) : Bool := litF [] l && decide ((l.length : Int) ≤ 9)
theorem specLit_tr (l : List Form) (hf : Form.fits l) (hb : Form.ws l ≤ 2 ^ 36) : Tr (fun m => m_spec_l4Literals m l) (litOk l) := by
  refine Tr.eq (fun m => by unfold m_spec_l4Literals; rfl) ?_
  have hlen := Form.ws_len l
  have e9 : decide ((l.length : Int) < 10) = decide ((l.length : Int) ≤ 9) := by
    rw [Bool.eq_iff_iff, decide_eq_true_iff, decide_eq_true_iff]; omega
  have key := drop_ind l (fun k zs => Tr (fun m => m_spec_l4Literals_l1 m l (k : Int)) (litF (l.take k) zs && decide ((l.length : Int) ≤ 9))) ?_ ?_ 0 (Nat.zero_le _)
  · simpa [litOk] using key
  · exact Tr.step (fun m => by rw [m_spec_l4Literals_l1, ltN_self, cond_false, litF, Bool.true_and, e9]) Tr.val
  · intro k x zs hk hx hd ih
    have hm := List.mem_of_getElem? hx
    have hmw := Form.ws_mem hm
    rw [take_succ' hx] at ih
    refine Tr.step (fun m => by rw [m_spec_l4Literals_l1, ltN hk, cond_true, e9]) ?_
    by_cases h10 : k < 10
    case neg =>
      refine Tr.ff (decide_eq_false (by omega)) (Tr.of fun m => ?_)
      rw [decide_eq_false (show ¬ (l.length : Int) ≤ 9 by omega), Bool.and_false]
    refine Tr.tt (decide_eq_true (by omega)) (Tr.eq (fun m => by rw [idx_nat hx, Option.bind_some]) (Tr.bind (l3Is_tr x (Form.fits_mem hf hm) (by omega)) ?_))
    rw [litF]
    cases isNm x with
    | false => exact Tr.tt rfl Tr.val
    | true =>
    refine Tr.ff rfl (Tr.eq (fun m => by rw [Option.bind_some]) ?_)
    cases decide (x.name = dotsN) with
    | true => exact Tr.tt rfl Tr.val
    | false =>
    refine Tr.ff rfl (Tr.eq (fun m => by rw [Option.bind_some]) ?_)
    cases decide (x.name = underN) with
    | true => exact Tr.tt rfl Tr.val
    | false =>
    refine Tr.ff rfl (Tr.eq (fun m => by rw [sub_take (by omega), Option.bind_some, Option.bind_some, w64_in (by omega), succN]) (Tr.bind (l4In_tr _ _) ?_))
    cases inF (l.take k) x with
    | true => exact Tr.tt rfl Tr.val
    | false => exact Tr.ff rfl (by simpa using ih)
def cntD : List Form → Nat
  | [] => 0
  | x :: xs => (bif isDots x then 1 else 0) + cntD xs
mutual
def Form.shp : Form → Bool
  | .mk k nm n sc kids => !isDots (.mk k nm n sc kids) && (Form.kP true kids && decide (cntD kids ≤ 1))
def Form.kP : Bool → List Form → Bool
  | _, [] => true
  | pd, x :: xs => (bif isDots x then !pd else x.shp) && Form.kP (isDots x) xs
end
theorem Form.shp_eq (f : Form) : f.shp = (!isDots f && (Form.kP true f.kids && decide (cntD f.kids ≤ 1))) := by obtain ⟨a, b, c, d, e⟩ := f; rw [Form.shp]; rfl
theorem l4Shape_n : ∀ (n : Nat) (f : Form), f.w ≤ n → f.w ≤ 2 ^ 36 → Tr (fun m => m_spec_l4Shape m f) f.shp := by
  intro n
  induction n with
  | zero => intro a h; have := a.w_pos; omega
  | succ n ih =>
    intro f h hb
    have hw := f.w_kids
    have hlen := Form.ws_len f.kids
    rw [Form.shp_eq]
    refine Tr.step (fun m => by rw [m_spec_l4Shape]) (Tr.bind (l4Dots_tr f) ?_)
    cases isDots f with
    | true => exact Tr.tt rfl Tr.val
    | false =>
    refine Tr.ff rfl ?_
    rw [Bool.not_false, Bool.true_and]
    have key := drop_ind f.kids (fun k zs => ∀ g : Nat, g ≤ k → Tr (fun m => m_spec_l4Shape_l1 m f (g : Int) (k : Int)) (Form.kP (pdAt f.kids k) zs && decide (g + cntD zs ≤ 1))) ?_ ?_ 0 (Nat.zero_le _) 0 (Nat.le_refl _)
    · simpa [pdAt] using key
    · intro g _
      refine Tr.step (fun m => by rw [m_spec_l4Shape_l1, ltN_self, cond_false]) (Tr.of fun m => ?_)
      rw [Form.kP, cntD, Bool.true_and]; congr 1
      rw [Bool.eq_iff_iff, decide_eq_true_iff, decide_eq_true_iff]; omega
    · intro k x zs hk hx hd ihk g hg
      have hm := Form.ws_mem (List.mem_of_getElem? hx)
      rw [pd_succ hx] at ihk
      refine Tr.step (fun m => by rw [m_spec_l4Shape_l1, ltN hk, cond_true, idx_nat hx, Option.bind_some, succN]) (Tr.bind (l4Dots_tr x) ?_)
      rw [Form.kP, cntD]
      cases hxd : isDots x with
      | true =>
        rw [hxd] at ihk
        refine Tr.tt rfl ?_
        rw [cond_true]
        cases k with
        | zero => exact Tr.tt rfl Tr.val
        | succ j =>
          have hj : f.kids[j]? = some f.kids[j] := List.getElem?_eq_getElem (by omega)
          refine Tr.ff (decide_eq_false (by omega)) (Tr.eq (fun m => by rw [w64_in (by omega), show ((j + 1 : Nat) : Int) - 1 = (j : Int) by omega, idx_nat hj, Option.bind_some]) (Tr.bind (l4Dots_tr _) ?_))
          rw [pd_succ hj]
          cases isDots f.kids[j] with
          | true => exact Tr.tt rfl Tr.val
          | false =>
            have := ihk (g + 1) (by omega)
            rw [Nat.add_assoc g 1] at this
            exact Tr.ff rfl (Tr.eq (fun m => by rw [w64_in (by omega), succN]) this)
      | false =>
        rw [hxd] at ihk
        refine Tr.ff rfl (Tr.eq (fun m => by rw [Option.bind_some]) (Tr.bind (ih x (by omega) (by omega)) ?_))
        rw [cond_false, cond_false, Nat.zero_add]
        cases x.shp with
        | false => exact Tr.tt rfl Tr.val
        | true => exact Tr.ff rfl (by simpa using ihk g (by omega))
end Go.Abs
end
section
set_option linter.unusedVariables false
set_option linter.unusedSimpArgs false
namespace Go.Abs
noncomputable def isVarB (lits : List Form) (f : Form) : Bool := decide (f.kind = 1) && (!decide (f.name = dotsN) && (!decide (f.name = underN) && !inF lits f))
theorem dec_ne {α : Type} (a b : α) [DecidableEq α] : decide (a ≠ b) = !decide (a = b) := by
  by_cases h : a = b
  · rw [decide_eq_true h, decide_eq_false (fun hh => hh h)]; rfl
  · rw [decide_eq_false h, decide_eq_true h]; rfl
theorem l4Var_tr (f : Form) (lits : List Form) : Tr (fun m => m_spec_l4Var m f lits) (isVarB lits f) := by
  refine Tr.eq (fun m => by unfold m_spec_l4Var; rw [dec_ne, dec_ne]) ?_
  unfold isVarB
  cases decide (f.kind = 1) with
  | false => exact Tr.ff rfl Tr.val
  | true =>
  refine Tr.tt rfl ?_
  cases decide (f.name = dotsN) with
  | true => exact Tr.ff rfl Tr.val
  | false =>
  refine Tr.tt rfl ?_
  cases decide (f.name = underN) with
  | true => exact Tr.ff rfl Tr.val
  | false => exact Tr.tt rfl (Tr.bind (l4In_tr _ _) Tr.val)
mutual
noncomputable def Form.vd (lits : List Form) : Nat → Form → List (Form × Int)
  | v, .mk k nm n sc kids => (bif isVarB lits (.mk k nm n sc kids) then [((Form.mk k nm n sc kids), (v : Int))] else []) ++ Form.kV lits v kids
noncomputable def Form.kV (lits : List Form) : Nat → List Form → List (Form × Int)
  | _, [] => []
  | v, x :: xs => (bif nextD xs then x.vd lits (v + 1) else x.vd lits v) ++ Form.kV lits v xs
end
mutual
noncomputable def Form.vs (lits : List Form) : Form → List Form
  | .mk k nm n sc kids => (bif isVarB lits (.mk k nm n sc kids) then [(Form.mk k nm n sc kids)] else []) ++ Form.kVs lits kids
noncomputable def Form.kVs (lits : List Form) : List Form → List Form
  | [] => []
  | x :: xs => x.vs lits ++ Form.kVs lits xs
end
theorem Form.vd_eq (lits : List Form) (v : Nat) (f : Form) : f.vd lits v = (bif isVarB lits f then [(f, (v : Int))] else []) ++ Form.kV lits v f.kids := by obtain ⟨a, b, c, d, e⟩ := f; rw [Form.vd]; rfl
theorem Form.vs_eq (lits : List Form) (f : Form) : f.vs lits = (bif isVarB lits f then [f] else []) ++ Form.kVs lits f.kids := by obtain ⟨a, b, c, d, e⟩ := f; rw [Form.vs]; rfl
mutual
theorem Form.vd_fst (lits : List Form) : ∀ (f : Form) (v : Nat), (f.vd lits v).map (·.1) = f.vs lits
  | .mk k nm n sc kids, v => by
    have := Form.kV_fst lits kids v
    rw [Form.vd, Form.vs, List.map_append, this]
    cases isVarB lits (.mk k nm n sc kids) <;> rfl
theorem Form.kV_fst (lits : List Form) : ∀ (l : List Form) (v : Nat), (Form.kV lits v l).map (·.1) = Form.kVs lits l
  | [], v => by rw [Form.kV, Form.kVs]; rfl
  | x :: xs, v => by
    have h1 := Form.vd_fst lits x v
    have h2 := Form.vd_fst lits x (v + 1)
    have h3 := Form.kV_fst lits xs v
    rw [Form.kV, Form.kVs, List.map_append, h3]
    cases nextD xs
    · rw [cond_false, h1]
    · rw [cond_true, h2]
end
mutual
theorem Form.vd_len (lits : List Form) : ∀ (f : Form) (v : Nat), (f.vd lits v).length ≤ f.w
  | .mk k nm n sc kids, v => by
    have := Form.kV_len lits kids v
    rw [Form.vd, Form.w, List.length_append]
    cases isVarB lits (.mk k nm n sc kids) <;> simp <;> omega
theorem Form.kV_len (lits : List Form) : ∀ (l : List Form) (v : Nat), (Form.kV lits v l).length ≤ Form.ws l
  | [], v => by rw [Form.kV]; simp
  | x :: xs, v => by
    have h1 := Form.vd_len lits x v
    have h2 := Form.vd_len lits x (v + 1)
    have h3 := Form.kV_len lits xs v
    rw [Form.kV, Form.ws, List.length_append]
    cases nextD xs
    · rw [cond_false]; omega
    · rw [cond_true]; omega
end
theorem l4Vars_n (lits : List Form) : ∀ (n : Nat) (f : Form) (a : List Form), f.w ≤ n → a.length + f.w ≤ 2 ^ 37 → Tr (fun m => m_spec_l4Vars m a f lits) (a ++ f.vs lits) ∧ (f.vs lits).length ≤ f.w := by
  intro n
  induction n with
  | zero => intro a _ h; have := a.w_pos; omega
  | succ n ih =>
    intro f a h ha
    have hw := f.w_kids
    have hlenv : (f.vs lits).length ≤ f.w := by have := Form.vd_len lits f 0; rw [← Form.vd_fst lits f 0, List.length_map]; exact this
    refine ⟨?_, hlenv⟩
    have loop : ∀ k, k ≤ f.kids.length → ∀ (a : List Form), a.length + Form.ws (f.kids.drop k) ≤ 2 ^ 37 → Tr (fun m => m_spec_l4Vars_l1 m f lits a (k : Int)) (a ++ Form.kVs lits (f.kids.drop k)) := by
      refine drop_ind f.kids (fun k zs => ∀ (a : List Form), a.length + Form.ws zs ≤ 2 ^ 37 → Tr (fun m => m_spec_l4Vars_l1 m f lits a (k : Int)) (a ++ Form.kVs lits zs)) ?_ ?_
      · intro a _
        exact Tr.step (fun m => by rw [m_spec_l4Vars_l1, ltN_self, cond_false, Form.kVs]; simp) Tr.val
      · intro k x zs hk hx hd ihk a ha
        have hm := Form.ws_mem (List.mem_of_getElem? hx)
        rw [Form.ws] at ha
        obtain ⟨i1, i2⟩ := ih x a (by omega) (by omega)
        refine Tr.step (fun m => by rw [m_spec_l4Vars_l1, ltN hk, cond_true, idx_nat hx, Option.bind_some, succN]) (Tr.bind i1 ?_)
        rw [Form.kVs, ← List.append_assoc]
        exact ihk _ (by simp; omega)
    have l0 := fun a h1 => loop 0 (Nat.zero_le _) a (by rw [List.drop_zero]; exact h1)
    simp only [List.drop_zero] at l0
    rw [Form.vs_eq]
    refine Tr.step (fun m => by rw [m_spec_l4Vars]) (Tr.bind (l4Var_tr _ _) ?_)
    cases isVarB lits f with
    | false => exact Tr.ff rfl (l0 a (by omega))
    | true =>
      refine Tr.tt rfl (Tr.chk (by simp; omega) ?_)
      have := l0 (a ++ [f]) (by simp; omega)
      simpa using this
theorem l4Depths_n (lits : List Form) : ∀ (n : Nat) (f : Form) (v : Nat) (b : List Int), f.w ≤ n → f.w + v ≤ 2 ^ 37 → b.length + f.w ≤ 2 ^ 37 → Tr (fun m => m_spec_l4Depths m b f lits (v : Int)) (b ++ (f.vd lits v).map (·.2)) := by
  intro n
  induction n with
  | zero => intro a v _ h; have := a.w_pos; omega
  | succ n ih =>
    intro f v b h hb hbb
    have hw := f.w_kids
    have hlen := Form.ws_len f.kids
    have loop : ∀ k, k ≤ f.kids.length → ∀ (b : List Int), b.length + Form.ws (f.kids.drop k) ≤ 2 ^ 37 → Tr (fun m => m_spec_l4Depths_l1 m f lits (v : Int) b (k : Int)) (b ++ (Form.kV lits v (f.kids.drop k)).map (·.2)) := by
      refine drop_ind f.kids (fun k zs => ∀ (b : List Int), b.length + Form.ws zs ≤ 2 ^ 37 → Tr (fun m => m_spec_l4Depths_l1 m f lits (v : Int) b (k : Int)) (b ++ (Form.kV lits v zs).map (·.2))) ?_ ?_
      · intro b _
        exact Tr.step (fun m => by rw [m_spec_l4Depths_l1, ltN_self, cond_false, Form.kV]; simp) Tr.val
      · intro k x zs hk hx hd ihk b hb2
        have hm := Form.ws_mem (List.mem_of_getElem? hx)
        rw [Form.ws] at hb2
        have l0 := Form.vd_len lits x v
        have l1 := Form.vd_len lits x (v + 1)
        refine Tr.step (fun m => by rw [m_spec_l4Depths_l1, ltN hk, cond_true, idx_nat hx, succN]) ?_
        have plain : Tr (fun m => (m_spec_l4Depths m b x lits (v : Int)).bind fun v18 => m_spec_l4Depths_l1 m f lits (v : Int) v18 ((k + 1 : Nat) : Int)) (b ++ (x.vd lits v ++ Form.kV lits v zs).map (·.2)) := by
          refine Tr.bind (ih x v b (by omega) (by omega) (by omega)) ?_
          have := ihk (b ++ (x.vd lits v).map (·.2)) (by simp; omega)
          simpa only [List.map_append, List.append_assoc] using this
        rcases next_get hd with ⟨rfl, hl⟩ | ⟨y, ys, rfl, hy, hl⟩
        · rw [Form.kV, nextD, cond_false]
          exact Tr.ff (decide_eq_false (by omega)) (Tr.eq (fun m => by rw [Option.bind_some]) plain)
        · rw [Form.kV, nextD]
          refine Tr.tt (decide_eq_true (by omega)) (Tr.eq (fun m => by rw [idx_nat hy, Option.bind_some]) (Tr.bind (l4Dots_tr _) ?_))
          cases isDots y with
          | false => exact Tr.ff rfl (Tr.eq (fun m => by rw [Option.bind_some]) plain)
          | true =>
          refine Tr.tt rfl (Tr.eq (fun m => by rw [Option.bind_some, w64_in (by omega), succN]) (Tr.bind (ih x (v + 1) b (by omega) (by omega) (by omega)) ?_))
          rw [cond_true]
          have := ihk (b ++ (x.vd lits (v + 1)).map (·.2)) (by simp; omega)
          simpa only [List.map_append, List.append_assoc] using this
    have l0 := fun b h1 => loop 0 (Nat.zero_le _) b (by rw [List.drop_zero]; exact h1)
    simp only [List.drop_zero] at l0
    rw [Form.vd_eq]
    refine Tr.step (fun m => by rw [m_spec_l4Depths]) (Tr.bind (l4Var_tr _ _) ?_)
    cases isVarB lits f with
    | false => exact Tr.ff rfl (l0 b (by omega))
    | true =>
      refine Tr.tt rfl (Tr.chk (by simp; omega) ?_)
      have := l0 (b ++ [(v : Int)]) (by simp; omega)
      simpa using this
end Go.Abs
end
section
set_option linter.unusedVariables false
set_option linter.unusedSimpArgs false
namespace Go.Abs
noncomputable def distF : List Form → List Form → Bool
  | _, [] => true
  | ps, x :: xs => !inF ps x && distF (ps ++ [x]) xs
def dsOk (l : List Int) : Bool := alls (fun d => !decide (3 < d)) l
noncomputable def patOk (f : Form) (lits : List Form) : Bool := f.valid && (litOk lits && (f.shp && ((distF [] (f.vs lits) && dsOk ((f.vd lits 0).map (·.2))) && decide (((f.vs lits).length : Int) ≤ 20))))
theorem l4Is_tr (f : Form) (lits : List Form) (hf : f.fit) (hb : f.w ≤ 2 ^ 36) (hl : Form.fits lits) (hlb : Form.ws lits ≤ 2 ^ 36) : Tr (fun m => m_spec_l4Is m f lits) (patOk f lits) := by
  refine Tr.eq (fun m => by unfold m_spec_l4Is; rfl) (Tr.bind (specFormValid_tr f hf hb) ?_)
  unfold patOk
  cases f.valid with
  | false => exact Tr.tt rfl Tr.val
  | true =>
  refine Tr.ff rfl (Tr.bind (specLit_tr lits hl hlb) ?_)
  cases litOk lits with
  | false => exact Tr.tt rfl Tr.val
  | true =>
  refine Tr.ff rfl (Tr.bind (l4Shape_n _ f (Nat.le_refl _) hb) ?_)
  cases f.shp with
  | false => exact Tr.tt rfl Tr.val
  | true =>
  refine Tr.ff rfl (Tr.bind (l4Vars_n lits _ f [] (Nat.le_refl _) (by simp; omega)).1 ?_)
  rw [List.nil_append]
  have key := drop_ind (f.vs lits) (fun k zs => Tr (fun m => m_spec_l4Is_l1 m f lits (k : Int) (f.vs lits)) ((distF ((f.vs lits).take k) zs && dsOk ((f.vd lits 0).map (·.2))) && decide (((f.vs lits).length : Int) ≤ 20))) ?_ ?_ 0 (Nat.zero_le _)
  · simpa using key
  · refine Tr.step (fun m => by rw [m_spec_l4Is_l1, ltN_self, cond_false]) ?_
    refine Tr.bind (l4Depths_n lits _ f 0 [] (Nat.le_refl _) (by omega) (by simp; omega)) ?_
    rw [List.nil_append, distF, Bool.true_and]
    have inner := drop_ind ((f.vd lits 0).map (·.2)) (fun j ws => Tr (fun m => m_spec_l4Is_l2 m (f.vs lits) ((f.vd lits 0).map (·.2)) (j : Int)) (dsOk ws && decide (((f.vs lits).length : Int) ≤ 20))) ?_ ?_ 0 (Nat.zero_le _)
    · simpa using inner
    · exact Tr.step (fun m => by rw [m_spec_l4Is_l2, ltN_self, cond_false]; simp [dsOk, alls]) Tr.val
    · intro j y ws hj hy hdj ihj
      refine Tr.step (fun m => by rw [m_spec_l4Is_l2, ltN hj, cond_true, idx_nat hy, Option.bind_some, succN]) ?_
      rw [dsOk, alls]
      cases decide (3 < y) with
      | true => exact Tr.tt rfl Tr.val
      | false => exact Tr.ff rfl (by simpa [dsOk] using ihj)
  · intro k x zs hk hx hd ih
    rw [take_succ' hx] at ih
    refine Tr.step (fun m => by rw [m_spec_l4Is_l1, ltN hk, cond_true, sub_take (by omega), Option.bind_some, idx_nat hx, Option.bind_some, succN]) (Tr.bind (l4In_tr _ _) ?_)
    rw [distF]
    cases inF ((f.vs lits).take k) x with
    | true => exact Tr.tt rfl Tr.val
    | false => exact Tr.ff rfl (by simpa using ih)
mutual
theorem Form.vd_nn (lits : List Form) : ∀ (f : Form) (v : Nat), ∀ x ∈ f.vd lits v, 0 ≤ x.2
  | .mk k nm n sc kids, v, x, hx => by
    have := Form.kV_nn lits kids v x
    rw [Form.vd, List.mem_append] at hx
    rcases hx with hx | hx
    · cases h : isVarB lits (.mk k nm n sc kids) with
      | true => rw [h, cond_true, List.mem_singleton] at hx; subst hx; exact Int.natCast_nonneg v
      | false => rw [h, cond_false] at hx; cases hx
    · exact this hx
theorem Form.kV_nn (lits : List Form) : ∀ (l : List Form) (v : Nat), ∀ x ∈ Form.kV lits v l, 0 ≤ x.2
  | [], v, x, hx => by rw [Form.kV] at hx; cases hx
  | y :: ys, v, x, hx => by
    have h1 := Form.vd_nn lits y v x
    have h2 := Form.vd_nn lits y (v + 1) x
    have h3 := Form.kV_nn lits ys v x
    rw [Form.kV, List.mem_append] at hx
    rcases hx with hx | hx
    · cases h : nextD ys with
      | true => rw [h, cond_true] at hx; exact h2 hx
      | false => rw [h, cond_false] at hx; exact h1 hx
    · exact h3 hx
end
end Go.Abs
end
end
section
set_option linter.unusedVariables false
set_option linter.unusedSimpArgs false
namespace Go.Abs
theorem byte_mem {r : l15Rd} {K : Int} (h : OkRd r K) {x : Int} (hx : x ∈ r.b) : 0 ≤ x ∧ x < 256 := h.byte x hx
theorem tmod_lt {a b : Int} (ha : 0 ≤ a) (hb : 0 < b) : 0 ≤ a.tmod b ∧ a.tmod b < b := by
  rw [Int.tmod_eq_emod_of_nonneg ha]
  exact ⟨Int.emod_nonneg _ (by omega), Int.emod_lt_of_pos _ hb⟩
theorem pick_tq (o : l15Rd) (n : Int) (K : Int) (h : OkRd o K) (hK : K ≤ 1000000000000) : TQ (fun m => m_spec_l15Rd_pick m o n) (fun r => OkRd r.2 (K + 1) ∧ r.2.b = o.b ∧ (0 < n → 0 ≤ r.1 ∧ r.1 < n) ∧ (n ≤ 0 → r.1 = 0)) := by
  have h0 := h.lo
  have h1 := h.hi
  have e1 : w64 (o.p + 1) = o.p + 1 := w64_in (by omega)
  have e2 : w64 (o.p + 1 - 1) = o.p := by rw [w64_in (by omega)]; omega
  have hok : OkRd (l15Rd.mk o.b (o.p + 1)) (K + 1) := ⟨h.len, h.byte, by simp only; omega, by simp only; omega⟩
  refine TQ.eq (fun m => by unfold m_spec_l15Rd_pick; rw [e1, e2]) ?_
  refine TQ.cond (fun hc => TQ.val ⟨hok, rfl, fun hn => ?_, fun _ => rfl⟩) (fun hc => ?_)
  · simp at hc; omega
  have hn : 0 < n := by simp at hc; omega
  refine TQ.cond (fun hc2 => TQ.val ⟨hok, rfl, fun _ => ⟨Int.le_refl _, hn⟩, fun _ => rfl⟩) (fun hc2 => ?_)
  have hlen : 0 < o.b.length := by simp at hc2; exact List.length_pos_iff.2 hc2
  have hlen2 := h.len
  refine TQ.cond (fun hc3 => ?_) (fun hc3 => ?_)
  · refine TQ.idx h0 (by simpa using hc3) (fun x hx => ?_)
    obtain ⟨b0, b1⟩ := byte_mem h hx
    refine TQ.chk (by simp; omega) (TQ.val ⟨hok, rfl, fun _ => ?_, fun hh => absurd hn (by omega)⟩)
    rw [w64_in (by omega)]
    exact tmod_lt b0 hn
  · refine TQ.chk (by simp; exact List.length_pos_iff.1 hlen) ?_
    obtain ⟨i0, i1⟩ := tmod_lt h0 (show (0 : Int) < o.b.length by omega)
    refine TQ.idx i0 i1 (fun x hx => ?_)
    obtain ⟨b0, b1⟩ := byte_mem h hx
    refine TQ.chk (by simp; exact List.length_pos_iff.1 hlen) ?_
    have e3 : w64 (w64 (o.p * 7) + 3) = o.p * 7 + 3 := by rw [w64_in (n := o.p * 7) (by omega), w64_in (by omega)]
    rw [e3]
    obtain ⟨j0, j1⟩ := tmod_lt (show (0 : Int) ≤ o.p * 7 + 3 by omega) (show (0 : Int) < o.b.length by omega)
    refine TQ.idx j0 j1 (fun y hy => ?_)
    obtain ⟨c0, c1⟩ := byte_mem h hy
    refine TQ.chk (by simp; exact List.length_pos_iff.1 hlen) ?_
    refine TQ.chk (by simp; omega) (TQ.val ⟨hok, rfl, fun _ => ?_, fun hh => absurd hn (by omega)⟩)
    have q1 : 0 ≤ o.p.tdiv o.b.length ∧ o.p.tdiv o.b.length ≤ o.p := by
      rw [Int.tdiv_eq_ediv_of_nonneg h0]
      exact ⟨Int.ediv_nonneg h0 (by omega), Int.ediv_le_self _ h0⟩
    have e4 : w64 (w64 (w64 (w64 (w64 x * 131) + w64 (w64 y * 1117)) + w64 (o.p * 29)) + w64 (w64 (o.p.tdiv o.b.length) * 53)) = x * 131 + y * 1117 + o.p * 29 + o.p.tdiv o.b.length * 53 := by
      rw [w64_in (n := x) (by omega), w64_in (n := y) (by omega), w64_in (n := x * 131) (by omega), w64_in (n := y * 1117) (by omega), w64_in (n := x * 131 + y * 1117) (by omega), w64_in (n := o.p * 29) (by omega), w64_in (n := o.p.tdiv o.b.length) (by omega), w64_in (n := o.p.tdiv o.b.length * 53) (by omega), w64_in (n := x * 131 + y * 1117 + o.p * 29) (by omega), w64_in (by omega)]
    rw [e4]
    have hx0 : 0 ≤ x * 131 + y * 1117 + o.p * 29 + o.p.tdiv o.b.length * 53 := by omega
    have hx1 : x * 131 + y * 1117 + o.p * 29 + o.p.tdiv o.b.length * 53 < 2 ^ 60 := by omega
    generalize x * 131 + y * 1117 + o.p * 29 + o.p.tdiv o.b.length * 53 = z at hx0 hx1
    have hz : 0 ≤ z.tdiv 64 ∧ z.tdiv 64 ≤ z := by
      rw [Int.tdiv_eq_ediv_of_nonneg hx0]
      exact ⟨by omega, by omega⟩
    rw [w64_in (n := z.tdiv 64) (by omega)]
    exact tmod_lt (xor_nonneg hx0 (by omega) hz.1 (by omega)) hn
theorem num_tq (o : l15Rd) (l : List Int) (K : Int) (h : OkRd o K) (hK : K ≤ 1000000000000) (hl : 0 < l.length) : TQ (fun m => m_spec_l15Rd_num m o l) (fun r => OkRd r.2 (K + 1) ∧ r.1 ∈ l) := by
  refine TQ.eq (fun m => by unfold m_spec_l15Rd_num; rfl) ?_
  refine TQ.bind (pick_tq o _ K h hK) (fun v hv => ?_)
  obtain ⟨h1, _, h2, _⟩ := hv
  obtain ⟨h2, h3⟩ := h2 (by omega)
  exact TQ.idx h2 h3 (fun x hx => TQ.val ⟨h1, hx⟩)
theorem of_tq (o : l15Rd) (l : List ByteArray) (K : Int) (h : OkRd o K) (hK : K ≤ 1000000000000) (hl : 0 < l.length) : TQ (fun m => m_spec_l15Rd_of m o l) (fun r => OkRd r.2 (K + 1) ∧ r.1 ∈ l) := by
  refine TQ.eq (fun m => by unfold m_spec_l15Rd_of; rfl) ?_
  refine TQ.bind (pick_tq o _ K h hK) (fun v hv => ?_)
  obtain ⟨h1, _, h2, _⟩ := hv
  obtain ⟨h2, h3⟩ := h2 (by omega)
  exact TQ.idx h2 h3 (fun x hx => TQ.val ⟨h1, hx⟩)
theorem open_tq (code : List Int) (h : ∀ x ∈ code, 0 ≤ x ∧ x < 256) : TQ (fun m => m_spec_l15Open m code) (fun r => OkRd r 0) := by
  refine TQ.eq (fun m => by unfold m_spec_l15Open; rfl) ?_
  refine TQ.cond (fun hc => ?_) (fun hc => ?_)
  · have hlt : 2000 < code.length := by simp at hc; omega
    have e : sub code 0 2000 = some (code.take 2000) := by
      unfold sub
      have : (2000 : Int) ≤ code.length := by omega
      simp [this]
    refine ⟨_, Tr.eq (fun m => by rw [e]; rfl) Tr.val, ⟨?_, ?_, ?_, ?_⟩⟩
    · simp [List.length_take]; omega
    · intro x hx; exact h x (List.mem_of_mem_take hx)
    · simp
    · simp
  · refine TQ.val ⟨?_, h, ?_, ?_⟩
    · simp at hc; simp; omega
    · simp
    · simp
end Go.Abs
end
