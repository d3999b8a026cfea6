/- The functions answer what their mirrors answer. -/
import Derived.Test.YtgicgbokgmmgdaaMirF
import Derived.Test.YtgicgbokgmmgdaaMirQ5
set_option linter.unusedSimpArgs false
set_option maxRecDepth 100000
set_option maxHeartbeats 4000000
set_option linter.unusedVariables false
namespace Go.Abs
open Go.Proofs
def m_laws_eqRule_AC (fuel : Nat) : Prop := ∀ (x1 : Rule) (x2 : Rule) (r : Bool), m_laws_eqRule fuel x1 x2 = some r → AC Try.prog 26 [.ag [.t (.sc (.int .i64 x1.pattern.kind)), .t (.sc (.str x1.pattern.name)), .t (.sc (.int .i64 x1.pattern.n)), .t (.sl (x1.pattern.scopes.map rI)), .t (.sl (x1.pattern.kids.map Form.row)), .t (.sc (.int .i64 x1.template.kind)), .t (.sc (.str x1.template.name)), .t (.sc (.int .i64 x1.template.n)), .t (.sl (x1.template.scopes.map rI)), .t (.sl (x1.template.kids.map Form.row))], .ag [.t (.sc (.int .i64 x2.pattern.kind)), .t (.sc (.str x2.pattern.name)), .t (.sc (.int .i64 x2.pattern.n)), .t (.sl (x2.pattern.scopes.map rI)), .t (.sl (x2.pattern.kids.map Form.row)), .t (.sc (.int .i64 x2.template.kind)), .t (.sc (.str x2.template.name)), .t (.sc (.int .i64 x2.template.n)), .t (.sl (x2.template.scopes.map rI)), .t (.sl (x2.template.kids.map Form.row))]] noOb (.t (.sc (.bool r))) noOb
theorem m_laws_eqRule_ok (fuel : Nat) : m_laws_eqRule_AC fuel := by
  intro x1 x2 r hF0
  unfold m_laws_eqRule at hF0
  refine AC_intro (rs := [.t (.sc (.bool r))]) Try.func26 rfl (by kernel_rfl) (by simp [Try.ntmps26]) (by simp [noOb]) ?_
  intro C hC
  rw [Try.ntmps26]
  refine awp_seq ?_
  refine awp_region ?_
  refine s_box ?_
  refine s_box ?_
  refine s_as ?_
  refine k_nil ?_
  refine k_seq ?_
  refine awp_seq ?_
  refine awp_seq ?_
  refine awp_region ?_
  refine s_fa yF45_0 ?_
  refine s_ldN yA32 yS32 ?_
  refine s_fa yF45_0 ?_
  refine s_ldN yA32 yS32 ?_
  replace hF0 := bind_some' hF0
  obtain ⟨v1, hv1, hF1⟩ := hF0
  refine s_pure [] (m_laws_eqForm_ok fuel _ _ _ hv1) ?_
  refine s_not ?_
  refine k_nil ?_
  refine k_seq ?_
  refine w_cond hF1 (fun hc2 hF2 => ?_) (fun hc2 hF2 => ?_) <;> clear hF1
  refine awp_seq ?_
  refine awp_region ?_
  refine s_as ?_
  refine k_nil ?_
  refine k_seq ?_
  refine awp_ret ?_
  refine k_seq_ret ?_
  refine k_fin ?_
  obtain rfl := Option.some.inj hF2
  exact ends_gen [] [] (by rw [Try.results26]; exact (res_tmp (by conv => lhs; whnf) res_nil))
  refine awp_skip ?_
  refine k_seq ?_
  refine awp_seq ?_
  refine awp_seq ?_
  refine awp_region ?_
  refine s_fa yF45_1 ?_
  refine s_ldN yA32 yS32 ?_
  refine s_fa yF45_1 ?_
  refine s_ldN yA32 yS32 ?_
  replace hF2 := bind_some' hF2
  obtain ⟨v3, hv3, hF3⟩ := hF2
  refine s_pure [] (m_laws_eqForm_ok fuel _ _ _ hv3) ?_
  refine s_not ?_
  refine k_nil ?_
  refine k_seq ?_
  refine w_cond hF3 (fun hc4 hF4 => ?_) (fun hc4 hF4 => ?_) <;> clear hF3
  refine awp_seq ?_
  refine awp_region ?_
  refine s_as ?_
  refine k_nil ?_
  refine k_seq ?_
  refine awp_ret ?_
  refine k_seq_ret ?_
  refine k_fin ?_
  obtain rfl := Option.some.inj hF4
  exact ends_gen [] [] (by rw [Try.results26]; exact (res_tmp (by conv => lhs; whnf) res_nil))
  refine awp_skip ?_
  refine k_seq ?_
  refine awp_seq ?_
  refine awp_region ?_
  refine s_as ?_
  refine k_nil ?_
  refine k_seq ?_
  refine awp_ret ?_
  refine k_fin ?_
  obtain rfl := Option.some.inj hF4
  exact ends_gen [] [] (by rw [Try.results26]; exact (res_tmp (by conv => lhs; whnf) res_nil))
def m_laws_FnExactRuleValid_AC (fuel : Nat) : Prop := ∀ (x1 : Rule) (x2 : (List Form)) (r : Bool), m_laws_FnExactRuleValid fuel x1 x2 = some r → AC Try.prog 4 [.ag [.t (.sc (.int .i64 x1.pattern.kind)), .t (.sc (.str x1.pattern.name)), .t (.sc (.int .i64 x1.pattern.n)), .t (.sl (x1.pattern.scopes.map rI)), .t (.sl (x1.pattern.kids.map Form.row)), .t (.sc (.int .i64 x1.template.kind)), .t (.sc (.str x1.template.name)), .t (.sc (.int .i64 x1.template.n)), .t (.sl (x1.template.scopes.map rI)), .t (.sl (x1.template.kids.map Form.row))], .t (.sl (x2.map Form.row))] noOb (.t (.sc (.bool r))) noOb
theorem m_laws_FnExactRuleValid_ok (fuel : Nat) : m_laws_FnExactRuleValid_AC fuel := by
  intro x1 x2 r hF0
  unfold m_laws_FnExactRuleValid at hF0
  refine AC_intro (rs := [.t (.sc (.bool r))]) Try.func4 rfl (by kernel_rfl) (by simp [Try.ntmps4]) (by simp [noOb]) ?_
  intro C hC
  rw [Try.ntmps4]
  refine awp_seq ?_
  refine awp_region ?_
  refine s_box ?_
  refine s_as ?_
  refine k_nil ?_
  refine k_seq ?_
  refine awp_seq ?_
  refine awp_region ?_
  refine s_as ?_
  refine k_nil ?_
  refine k_seq ?_
  refine awp_seq ?_
  refine awp_region ?_
  refine s_ldW yA40 yS40 ?_
  refine s_mv ?_
  replace hF0 := bind_some' hF0
  obtain ⟨v1, hv1, hF1⟩ := hF0
  refine s_pure [] (m_laws_szRule_ok fuel _ _ _ hv1) ?_
  refine s_as ?_
  refine k_nil ?_
  refine k_seq ?_
  refine awp_seq ?_
  refine awp_seq ?_
  refine awp_region ?_
  refine s_mv ?_
  refine s_lt ?_
  refine k_nil ?_
  refine k_seq ?_
  refine w_cond hF1 (fun hc2 hF2 => ?_) (fun hc2 hF2 => ?_) <;> clear hF1
  refine awp_seq ?_
  refine awp_region ?_
  refine s_as ?_
  refine k_nil ?_
  refine k_seq ?_
  refine awp_ret ?_
  refine k_seq_ret ?_
  refine k_fin ?_
  obtain rfl := Option.some.inj hF2
  exact ends_gen [] [] (by rw [Try.results4]; exact (res_tmp (by conv => lhs; whnf) res_nil))
  refine awp_skip ?_
  refine k_seq ?_
  refine awp_seq ?_
  refine awp_region ?_
  refine s_mv ?_
  refine s_mv ?_
  replace hF2 := bind_some' hF2
  obtain ⟨v3, hv3, hF3⟩ := hF2
  refine s_pure [] (m_laws_szFormS_ok fuel _ _ _ hv3) ?_
  refine s_as ?_
  refine k_nil ?_
  refine k_seq ?_
  refine awp_seq ?_
  refine awp_seq ?_
  refine awp_region ?_
  refine s_mv ?_
  refine s_lt ?_
  refine k_nil ?_
  refine k_seq ?_
  refine w_cond hF3 (fun hc4 hF4 => ?_) (fun hc4 hF4 => ?_) <;> clear hF3
  refine awp_seq ?_
  refine awp_region ?_
  refine s_as ?_
  refine k_nil ?_
  refine k_seq ?_
  refine awp_ret ?_
  refine k_seq_ret ?_
  refine k_fin ?_
  obtain rfl := Option.some.inj hF4
  exact ends_gen [] [] (by rw [Try.results4]; exact (res_tmp (by conv => lhs; whnf) res_nil))
  refine awp_skip ?_
  refine k_seq ?_
  refine awp_seq ?_
  refine awp_region ?_
  refine s_ldW yA40 yS40 ?_
  replace hF4 := bind_some' hF4
  obtain ⟨v5, hv5, hF5⟩ := hF4
  refine s_pure [] (m_laws_toRule_ok fuel _ _ hv5) ?_
  refine s_mv ?_
  replace hF5 := bind_some' hF5
  obtain ⟨v6, hv6, hF6⟩ := hF5
  refine s_pure [] (m_laws_toFormS_ok fuel _ _ hv6) ?_
  replace hF6 := bind_some' hF6
  obtain ⟨v7, hv7, hF7⟩ := hF6
  refine s_pure [] (m_spec_RuleValid_ok fuel _ _ _ hv7) ?_
  refine s_as ?_
  refine k_nil ?_
  refine k_seq ?_
  refine awp_seq ?_
  refine awp_region ?_
  refine s_ldW yA40 yS40 ?_
  replace hF7 := bind_some' hF7
  obtain ⟨v8, hv8, hF8⟩ := hF7
  refine s_pure [] (m_laws_toRule_ok fuel _ _ hv8) ?_
  refine s_alloc yZ45 ?_
  refine s_stW yS45 ?_
  refine k_nil ?_
  refine k_seq ?_
  refine awp_seq ?_
  refine awp_region ?_
  refine s_mv ?_
  replace hF8 := bind_some' hF8
  obtain ⟨v9, hv9, hF9⟩ := hF8
  refine s_pure [] (m_laws_toFormS_ok fuel _ _ hv9) ?_
  refine s_as ?_
  refine k_nil ?_
  refine k_seq ?_
  refine awp_seq ?_
  refine awp_region ?_
  refine s_ldW yA45 yS45 ?_
  refine s_mv ?_
  replace hF9 := bind_some' hF9
  obtain ⟨v10, hv10, hF10⟩ := hF9
  refine s_pure [] (m_impl_RuleValid_ok fuel _ _ _ hv10) ?_
  refine s_as ?_
  refine k_nil ?_
  refine k_seq ?_
  refine awp_seq ?_
  refine awp_seq ?_
  refine awp_region ?_
  refine s_mv ?_
  refine s_mv ?_
  refine s_neB yU4 ?_
  refine k_nil ?_
  refine k_seq ?_
  refine w_cond hF10 (fun hc11 hF11 => ?_) (fun hc11 hF11 => ?_) <;> clear hF10
  refine awp_seq ?_
  refine awp_region ?_
  refine s_as ?_
  refine k_nil ?_
  refine k_seq ?_
  refine awp_ret ?_
  refine k_seq_ret ?_
  refine k_fin ?_
  obtain rfl := Option.some.inj hF11
  exact ends_gen [] [] (by rw [Try.results4]; exact (res_tmp (by conv => lhs; whnf) res_nil))
  refine awp_skip ?_
  refine k_seq ?_
  refine awp_seq ?_
  refine awp_seq ?_
  refine awp_draw yMix (by kernel_rfl) ?_
  refine s_ldW yA45 yS45 ?_
  refine s_ldW yA40 yS40 ?_
  replace hF11 := bind_some' hF11
  obtain ⟨v12, hv12, hF12⟩ := hF11
  refine s_pure [] (m_laws_toRule_ok fuel _ _ hv12) ?_
  replace hF12 := bind_some' hF12
  obtain ⟨v13, hv13, hF13⟩ := hF12
  refine s_pure [] (m_laws_eqRule_ok fuel _ _ _ hv13) ?_
  refine s_not ?_
  refine k_nilD (by kernel_rfl) ?_
  refine k_seq ?_
  refine w_cond hF13 (fun hc14 hF14 => ?_) (fun hc14 hF14 => ?_) <;> clear hF13
  refine awp_seq ?_
  refine awp_region ?_
  refine s_as ?_
  refine k_nil ?_
  refine k_seq ?_
  refine awp_ret ?_
  refine k_seq_ret ?_
  refine k_fin ?_
  obtain rfl := Option.some.inj hF14
  exact ends_gen [] [] (by rw [Try.results4]; exact (res_tmp (by conv => lhs; whnf) res_nil))
  refine awp_skip ?_
  refine k_seq ?_
  refine awp_seq ?_
  refine awp_seq ?_
  refine awp_region ?_
  refine s_mv ?_
  refine s_mv ?_
  replace hF14 := bind_some' hF14
  obtain ⟨v15, hv15, hF15⟩ := hF14
  refine s_pure [] (m_laws_toFormS_ok fuel _ _ hv15) ?_
  replace hF15 := bind_some' hF15
  obtain ⟨v16, hv16, hF16⟩ := hF15
  refine s_pure [] (m_laws_eqFormS_ok fuel _ _ _ hv16) ?_
  refine s_not ?_
  refine k_nil ?_
  refine k_seq ?_
  refine w_cond hF16 (fun hc17 hF17 => ?_) (fun hc17 hF17 => ?_) <;> clear hF16
  refine awp_seq ?_
  refine awp_region ?_
  refine s_as ?_
  refine k_nil ?_
  refine k_seq ?_
  refine awp_ret ?_
  refine k_seq_ret ?_
  refine k_fin ?_
  obtain rfl := Option.some.inj hF17
  exact ends_gen [] [] (by rw [Try.results4]; exact (res_tmp (by conv => lhs; whnf) res_nil))
  refine awp_skip ?_
  refine k_seq ?_
  refine awp_seq ?_
  refine awp_region ?_
  refine s_as ?_
  refine k_nil ?_
  refine k_seq ?_
  refine awp_ret ?_
  refine k_fin ?_
  obtain rfl := Option.some.inj hF17
  exact ends_gen [] [] (by rw [Try.results4]; exact (res_tmp (by conv => lhs; whnf) res_nil))
end Go.Abs
