/- The functions answer what their mirrors answer. -/
import Derived.Test.YtgicgbokgmmgdaaMirF
import Derived.Test.YtgicgbokgmmgdaaMirQ0
set_option linter.unusedSimpArgs false
set_option maxRecDepth 100000
set_option maxHeartbeats 4000000
set_option linter.unusedVariables false
namespace Go.Abs
open Go.Proofs
def m_impl_scopesOk_AC (fuel : Nat) : Prop := ∀ (x1 : (List Int)) (r : Bool), m_impl_scopesOk fuel x1 = some r → AC Try.prog 143 [.t (.sl (x1.map rI))] noOb (.t (.sc (.bool r))) noOb
theorem m_impl_scopesOk_ok (fuel : Nat) : m_impl_scopesOk_AC fuel := by
  intro x1 r hF0
  unfold m_impl_scopesOk at hF0
  refine AC_intro (rs := [.t (.sc (.bool r))]) Try.func143 rfl (by kernel_rfl) (by simp [Try.ntmps143]) (by simp [noOb]) ?_
  intro C hC
  rw [Try.ntmps143]
  refine awp_seq ?_
  refine awp_region ?_
  refine s_as ?_
  refine k_nil ?_
  refine k_seq ?_
  refine awp_seq ?_
  refine awp_seq ?_
  refine awp_region ?_
  refine s_mv ?_
  refine s_lenT yU22 ?_
  refine s_mv ?_
  refine k_nil ?_
  refine k_seq ?_
  refine awp_block ?_
  refine awp_frame2 [2, 3, 4, 7, 8, 9, 10, 11, 12, 13, 14, 15, 16, 17, 18, 19, 20, 21, 22, 23, 24, 25, 26, 27, 28] [] [] [] (fun a : Nat × Int => a.1) (fun a : Nat × Int => [(2, .t (.sc (.bool false))), (7, .t (.sc (.int .i64 a.2)))]) (fun a : Nat × Int => []) (fun a : Nat × Int => a.1 ≤ fuel ∧ m_impl_scopesOk_l1 a.1 x1 a.2 = some r ∧ 0 ≤ a.2) (fuel, 0) ⟨Nat.le_refl _, hF0, by simp⟩ (by rfl) (by rfl) (fun _ => rfl) (hasF_cons (by conv => lhs; whnf) (by rfl) (hasF_cons (by conv => lhs; whnf) (by rfl) hasF_nil)) hasO_nil (fun _ h => by cases h) freshS_nil freshM_nil ?_
  clear hF0
  rintro ⟨fu, g1⟩ ⟨hl2, hF1, hn_g1⟩
  dsimp only at hl2 hF1 hn_g1 ⊢
  obtain _ | fu := fu
  · rw [m_impl_scopesOk_l1] at hF1; cases hF1
  rw [m_impl_scopesOk_l1] at hF1
  refine awp_seq ?_
  refine awp_region ?_
  refine s_lt ?_
  refine k_nil ?_
  refine k_seq ?_
  refine awp_seq ?_
  refine w_cond hF1 (fun hc3 hF2 => ?_) (fun hc3 hF2 => ?_) <;> clear hF1
  refine awp_lenT 0 (fun hb4 => ?_)
  refine awp_skip ?_
  refine k_seq ?_
  refine awp_seq ?_
  refine awp_block ?_
  refine awp_seq ?_
  refine awp_region ?_
  refine s_mv ?_
  replace hF2 := bind_some' hF2
  obtain ⟨v5, hv5, hF3⟩ := hF2
  refine s_ixT rI hv5 rfl yE22 ?_
  refine s_ld1 yA3 ?_
  refine s_as ?_
  refine s_as ?_
  refine k_nil ?_
  refine k_seq ?_
  refine awp_seq ?_
  refine awp_region ?_
  refine s_mv ?_
  replace hF3 := bind_some' hF3
  obtain ⟨v6, hv6, hF4⟩ := hF3
  refine s_pure [] (m_impl_within_ok fu _ _ _ _ hv6) ?_
  refine s_not ?_
  refine s_mv ?_
  refine w_guard _ 15 hF4 (fun hc7 hF5 => ?_) (fun hc7 hF5 => ?_) <;> clear hF4
  refine r_no rfl ?_
  refine r_no rfl ?_
  refine r_no rfl ?_
  refine r_no rfl ?_
  refine r_no rfl ?_
  refine r_no rfl ?_
  refine r_no rfl ?_
  refine r_no rfl ?_
  refine r_no rfl ?_
  refine r_no rfl ?_
  refine r_no rfl ?_
  refine s_pkt ?_
  refine k_nil ?_
  refine k_seq ?_
  refine awp_true rfl ?_
  refine awp_seq ?_
  refine awp_region ?_
  refine s_as ?_
  refine k_nil ?_
  refine k_seq ?_
  refine awp_ret ?_
  refine k_blk_ret ?_
  refine k_seq_ret ?_
  refine k_rnd_ret2 ?_
  refine k_blk_ret ?_
  refine k_seq_ret ?_
  refine k_fin ?_
  obtain rfl := Option.some.inj hF5
  exact ends_gen [] [] (by rw [Try.results143]; exact (res_tmp (by conv => lhs; whnf) res_nil))
  refine s_mv ?_
  refine s_gt ?_
  refine s_mv ?_
  refine w_guard _ 18 hF5 (fun hc8 hF6 => ?_) (fun hc8 hF6 => ?_) <;> clear hF5
  refine s_mv ?_
  refine s_mv ?_
  refine s_sub rfl ?_
  replace hF6 := bind_some' hF6
  obtain ⟨v9, hv9, hF7⟩ := hF6
  refine s_ixT rI hv9 rfl yE22 ?_
  refine s_ld1 yA3 ?_
  refine s_mv ?_
  refine s_ge ?_
  refine s_pkt ?_
  refine s_pkf ?_
  refine k_nil ?_
  refine k_seq ?_
  refine w_cond hF7 (fun hc10 hF8 => ?_) (fun hc10 hF8 => ?_) <;> clear hF7
  refine awp_seq ?_
  refine awp_region ?_
  refine s_as ?_
  refine k_nil ?_
  refine k_seq ?_
  refine awp_ret ?_
  refine k_blk_ret ?_
  refine k_seq_ret ?_
  refine k_rnd_ret2 ?_
  refine k_blk_ret ?_
  refine k_seq_ret ?_
  refine k_fin ?_
  obtain rfl := Option.some.inj hF8
  exact ends_gen [] [] (by rw [Try.results143]; exact (res_tmp (by conv => lhs; whnf) res_nil))
  refine awp_skip ?_
  refine k_blk ?_
  refine k_seq ?_
  refine awp_region ?_
  refine s_add (winc2 hc3 hb4 hn_g1) ?_
  refine s_mv ?_
  refine k_nil ?_
  exact s_rnd2 (fu, (g1 + 1)) [] ⟨by first | omega | (dsimp only; omega), hF8, by first | omega | (dsimp only; omega)⟩ (hasR_cons (by conv => lhs; whnf) (by rfl) rfl (hasR_cons (by conv => lhs; whnf) (by rfl) rfl trivial)) trivial
  refine r_no rfl ?_
  refine r_no rfl ?_
  refine r_no rfl ?_
  refine r_no rfl ?_
  refine r_no rfl ?_
  refine r_no rfl ?_
  refine r_no rfl ?_
  refine s_pkf ?_
  refine s_pkf ?_
  refine k_nil ?_
  refine k_seq ?_
  refine awp_false rfl ?_
  refine awp_skip ?_
  refine k_blk ?_
  refine k_seq ?_
  refine awp_region ?_
  refine s_add (winc2 hc3 hb4 hn_g1) ?_
  refine s_mv ?_
  refine k_nil ?_
  exact s_rnd2 (fu, (g1 + 1)) [] ⟨by first | omega | (dsimp only; omega), hF6, by first | omega | (dsimp only; omega)⟩ (hasR_cons (by conv => lhs; whnf) (by rfl) rfl (hasR_cons (by conv => lhs; whnf) (by rfl) rfl trivial)) trivial
  refine awp_exit ?_
  refine k_seq_exit ?_
  refine k_rnd_exit2 ?_
  refine k_blk_exit ?_
  refine k_seq ?_
  refine awp_seq ?_
  refine awp_region ?_
  refine s_mv ?_
  refine s_lenT yU22 ?_
  refine s_le ?_
  refine s_as ?_
  refine k_nil ?_
  refine k_seq ?_
  refine awp_ret ?_
  refine k_fin ?_
  obtain rfl := Option.some.inj hF2
  exact ends_gen [] [] (by rw [Try.results143]; exact (res_tmp (by conv => lhs; whnf) res_nil))
def m_impl_formOk_AC (fuel : Nat) : Prop := ∀ (x1 : Form) (x2 : Int) (o1 : Int) (r : (Bool × Int)), m_impl_formOk fuel x1 x2 o1 = some r → AC Try.prog 116 [.ag [.t (.sc (.int .i64 x1.kind)), .t (.sc (.str x1.name)), .t (.sc (.int .i64 x1.n)), .t (.sl (x1.scopes.map rI)), .t (.sl (x1.kids.map Form.row))], .t (.sc (.int .i64 x2)), .rf 9000 0] (objs [(9000, .box [.t (.sc (.int .i64 o1))])]) (.t (.sc (.bool r.1))) (objs [(9000, .box [.t (.sc (.int .i64 r.2))])])
theorem m_impl_formOk_st (fu : Nat) (ih_m_impl_formOk : ∀ k, k ≤ fu → m_impl_formOk_AC k) : m_impl_formOk_AC (fu + 1) := by
  intro x1 x2 o1 r hF0
  rw [m_impl_formOk] at hF0
  refine AC_intro (rs := [.t (.sc (.bool r.1))]) Try.func116 rfl (by kernel_rfl) (by simp [Try.ntmps116]) (keep_all rfl) ?_
  intro C hC
  rw [Try.ntmps116]
  refine awp_seq ?_
  refine awp_region ?_
  refine s_box ?_
  refine s_as ?_
  refine k_nil ?_
  refine k_seq ?_
  refine awp_seq ?_
  refine awp_region ?_
  refine s_mv ?_
  refine s_nc ?_
  refine s_ld1 yA3 ?_
  refine s_sub rfl ?_
  refine s_nc ?_
  refine s_stW yS3 ?_
  refine k_nil ?_
  refine k_seq ?_
  refine awp_seq ?_
  refine awp_seq ?_
  refine awp_region ?_
  refine s_mv ?_
  refine s_nc ?_
  refine s_ld1 yA3 ?_
  refine s_lt ?_
  refine s_mv ?_
  refine w_guard _ 18 hF0 (fun hc1 hF1 => ?_) (fun hc1 hF1 => ?_) <;> clear hF0
  refine r_no rfl ?_
  refine r_no rfl ?_
  refine s_pkt ?_
  refine k_nil ?_
  refine k_seq ?_
  refine awp_true rfl ?_
  refine awp_seq ?_
  refine awp_region ?_
  refine s_as ?_
  refine k_nil ?_
  refine k_seq ?_
  refine awp_ret ?_
  refine k_seq_ret ?_
  refine k_fin ?_
  obtain rfl := Option.some.inj hF1
  exact ends_gen _ [] (by rw [Try.results116]; exact (res_tmp (by conv => lhs; whnf) res_nil))
  refine s_mv ?_
  refine s_gt ?_
  refine s_pkf ?_
  refine k_nil ?_
  refine k_seq ?_
  refine w_cond hF1 (fun hc2 hF2 => ?_) (fun hc2 hF2 => ?_) <;> clear hF1
  refine awp_seq ?_
  refine awp_region ?_
  refine s_as ?_
  refine k_nil ?_
  refine k_seq ?_
  refine awp_ret ?_
  refine k_seq_ret ?_
  refine k_fin ?_
  obtain rfl := Option.some.inj hF2
  exact ends_gen _ [] (by rw [Try.results116]; exact (res_tmp (by conv => lhs; whnf) res_nil))
  refine awp_skip ?_
  refine k_seq ?_
  refine awp_seq ?_
  refine awp_seq ?_
  refine awp_region ?_
  refine s_fa yF32_0 ?_
  refine s_ld1 yA3 ?_
  refine k_nil ?_
  refine k_seq ?_
  refine awp_block ?_
  refine awp_seq ?_
  refine awp_region ?_
  refine s_eq ?_
  refine s_as ?_
  refine k_nil ?_
  refine k_seq ?_
  refine w_cond hF2 (fun hc3 hF3 => ?_) (fun hc3 hF3 => ?_) <;> clear hF2
  refine awp_seq ?_
  refine awp_region ?_
  refine s_fa yF32_1 ?_
  refine s_ld1 yA9 ?_
  replace hF3 := bind_some' hF3
  obtain ⟨v4, hv4, hF4⟩ := hF3
  refine s_pure [] (m_impl_NameValid_ok fu _ _ hv4) ?_
  refine s_mv ?_
  refine w_guard _ 29 hF4 (fun hc5 hF5 => ?_) (fun hc5 hF5 => ?_) <;> clear hF4
  refine s_fa yF32_2 ?_
  refine s_ld1 yA3 ?_
  refine s_eq ?_
  refine s_pkt ?_
  refine s_mv ?_
  refine w_guard _ 34 hF5 (fun hc6 hF6 => ?_) (fun hc6 hF6 => ?_) <;> clear hF5
  refine s_fa yF32_3 ?_
  refine s_ld1 yA22 ?_
  replace hF6 := bind_some' hF6
  obtain ⟨v7, hv7, hF7⟩ := hF6
  refine s_pure [] (m_impl_scopesOk_ok fu _ _ hv7) ?_
  refine s_pkt ?_
  refine s_mv ?_
  refine w_guard _ 39 hF7 (fun hc8 hF8 => ?_) (fun hc8 hF8 => ?_) <;> clear hF7
  refine s_fa yF32_4 ?_
  refine s_ld1 yA30 ?_
  refine s_lenT yU30 ?_
  refine s_eq ?_
  refine s_pkt ?_
  refine s_as ?_
  refine k_nil ?_
  refine k_seq ?_
  refine awp_ret ?_
  refine k_blk_ret ?_
  refine k_seq_ret ?_
  refine k_fin ?_
  obtain rfl := Option.some.inj hF8
  exact ends_gen _ [] (by rw [Try.results116]; exact (res_tmp (by conv => lhs; whnf) res_nil))
  refine r_no rfl ?_
  refine r_no rfl ?_
  refine r_no rfl ?_
  refine r_no rfl ?_
  refine s_pkf ?_
  refine s_as ?_
  refine k_nil ?_
  refine k_seq ?_
  refine awp_ret ?_
  refine k_blk_ret ?_
  refine k_seq_ret ?_
  refine k_fin ?_
  obtain rfl := Option.some.inj hF8
  exact ends_gen _ [] (by rw [Try.results116]; exact (res_tmp (by conv => lhs; whnf) res_nil))
  refine r_no rfl ?_
  refine r_no rfl ?_
  refine r_no rfl ?_
  refine s_pkf ?_
  refine s_mv ?_
  refine r_no rfl ?_
  refine r_no rfl ?_
  refine r_no rfl ?_
  refine r_no rfl ?_
  refine s_pkf ?_
  refine s_as ?_
  refine k_nil ?_
  refine k_seq ?_
  refine awp_ret ?_
  refine k_blk_ret ?_
  refine k_seq_ret ?_
  refine k_fin ?_
  obtain rfl := Option.some.inj hF6
  exact ends_gen _ [] (by rw [Try.results116]; exact (res_tmp (by conv => lhs; whnf) res_nil))
  refine r_no rfl ?_
  refine r_no rfl ?_
  refine r_no rfl ?_
  refine s_pkf ?_
  refine s_mv ?_
  refine r_no rfl ?_
  refine r_no rfl ?_
  refine r_no rfl ?_
  refine s_pkf ?_
  refine s_mv ?_
  refine r_no rfl ?_
  refine r_no rfl ?_
  refine r_no rfl ?_
  refine r_no rfl ?_
  refine s_pkf ?_
  refine s_as ?_
  refine k_nil ?_
  refine k_seq ?_
  refine awp_ret ?_
  refine k_blk_ret ?_
  refine k_seq_ret ?_
  refine k_fin ?_
  obtain rfl := Option.some.inj hF5
  exact ends_gen _ [] (by rw [Try.results116]; exact (res_tmp (by conv => lhs; whnf) res_nil))
  refine awp_seq ?_
  refine awp_region ?_
  refine s_eq ?_
  refine s_as ?_
  refine k_nil ?_
  refine k_seq ?_
  refine w_cond hF3 (fun hc9 hF4 => ?_) (fun hc9 hF4 => ?_) <;> clear hF3
  refine awp_seq ?_
  refine awp_region ?_
  refine s_fa yF32_1 ?_
  refine s_ld1 yA9 ?_
  refine s_eqS ?_
  refine s_mv ?_
  refine w_guard _ 50 hF4 (fun hc10 hF5 => ?_) (fun hc10 hF5 => ?_) <;> clear hF4
  refine s_fa yF32_2 ?_
  refine s_ld1 yA3 ?_
  replace hF5 := bind_some' hF5
  obtain ⟨v11, hv11, hF6⟩ := hF5
  refine s_pure [] (m_impl_within_ok fu _ _ _ _ hv11) ?_
  refine s_pkt ?_
  refine s_mv ?_
  refine w_guard _ 55 hF6 (fun hc12 hF7 => ?_) (fun hc12 hF7 => ?_) <;> clear hF6
  refine s_fa yF32_3 ?_
  refine s_ld1 yA22 ?_
  refine s_lenT yU22 ?_
  refine s_eq ?_
  refine s_pkt ?_
  refine s_mv ?_
  refine w_guard _ 61 hF7 (fun hc13 hF8 => ?_) (fun hc13 hF8 => ?_) <;> clear hF7
  refine s_fa yF32_4 ?_
  refine s_ld1 yA30 ?_
  refine s_lenT yU30 ?_
  refine s_eq ?_
  refine s_pkt ?_
  refine s_as ?_
  refine k_nil ?_
  refine k_seq ?_
  refine awp_ret ?_
  refine k_blk_ret ?_
  refine k_seq_ret ?_
  refine k_fin ?_
  obtain rfl := Option.some.inj hF8
  exact ends_gen _ [] (by rw [Try.results116]; exact (res_tmp (by conv => lhs; whnf) res_nil))
  refine r_no rfl ?_
  refine r_no rfl ?_
  refine r_no rfl ?_
  refine r_no rfl ?_
  refine s_pkf ?_
  refine s_as ?_
  refine k_nil ?_
  refine k_seq ?_
  refine awp_ret ?_
  refine k_blk_ret ?_
  refine k_seq_ret ?_
  refine k_fin ?_
  obtain rfl := Option.some.inj hF8
  exact ends_gen _ [] (by rw [Try.results116]; exact (res_tmp (by conv => lhs; whnf) res_nil))
  refine r_no rfl ?_
  refine r_no rfl ?_
  refine r_no rfl ?_
  refine r_no rfl ?_
  refine s_pkf ?_
  refine s_mv ?_
  refine r_no rfl ?_
  refine r_no rfl ?_
  refine r_no rfl ?_
  refine r_no rfl ?_
  refine s_pkf ?_
  refine s_as ?_
  refine k_nil ?_
  refine k_seq ?_
  refine awp_ret ?_
  refine k_blk_ret ?_
  refine k_seq_ret ?_
  refine k_fin ?_
  obtain rfl := Option.some.inj hF7
  exact ends_gen _ [] (by rw [Try.results116]; exact (res_tmp (by conv => lhs; whnf) res_nil))
  refine r_no rfl ?_
  refine r_no rfl ?_
  refine r_no rfl ?_
  refine s_pkf ?_
  refine s_mv ?_
  refine r_no rfl ?_
  refine r_no rfl ?_
  refine r_no rfl ?_
  refine r_no rfl ?_
  refine s_pkf ?_
  refine s_mv ?_
  refine r_no rfl ?_
  refine r_no rfl ?_
  refine r_no rfl ?_
  refine r_no rfl ?_
  refine s_pkf ?_
  refine s_as ?_
  refine k_nil ?_
  refine k_seq ?_
  refine awp_ret ?_
  refine k_blk_ret ?_
  refine k_seq_ret ?_
  refine k_fin ?_
  obtain rfl := Option.some.inj hF5
  exact ends_gen _ [] (by rw [Try.results116]; exact (res_tmp (by conv => lhs; whnf) res_nil))
  refine awp_seq ?_
  refine awp_region ?_
  refine s_eq ?_
  refine s_as ?_
  refine k_nil ?_
  refine k_seq ?_
  refine w_cond hF4 (fun hc14 hF5 => ?_) (fun hc14 hF5 => ?_) <;> clear hF4
  refine awp_seq ?_
  refine awp_seq ?_
  refine awp_region ?_
  refine s_fa yF32_1 ?_
  refine s_ld1 yA9 ?_
  refine s_neS ?_
  refine s_mv ?_
  refine w_guard _ 72 hF5 (fun hc15 hF6 => ?_) (fun hc15 hF6 => ?_) <;> clear hF5
  refine r_no rfl ?_
  refine r_no rfl ?_
  refine r_no rfl ?_
  refine s_pkt ?_
  refine s_mv ?_
  refine r_no rfl ?_
  refine r_no rfl ?_
  refine r_no rfl ?_
  refine r_no rfl ?_
  refine s_pkt ?_
  refine k_nil ?_
  refine k_seq ?_
  refine awp_true rfl ?_
  refine awp_seq ?_
  refine awp_region ?_
  refine s_as ?_
  refine k_nil ?_
  refine k_seq ?_
  refine awp_ret ?_
  refine k_seq_ret ?_
  refine k_blk_ret ?_
  refine k_seq_ret ?_
  refine k_fin ?_
  obtain rfl := Option.some.inj hF6
  exact ends_gen _ [] (by rw [Try.results116]; exact (res_tmp (by conv => lhs; whnf) res_nil))
  refine s_fa yF32_2 ?_
  refine s_ld1 yA3 ?_
  refine s_ne ?_
  refine s_pkf ?_
  refine s_mv ?_
  refine w_guard _ 77 hF6 (fun hc16 hF7 => ?_) (fun hc16 hF7 => ?_) <;> clear hF6
  refine r_no rfl ?_
  refine r_no rfl ?_
  refine r_no rfl ?_
  refine r_no rfl ?_
  refine s_pkt ?_
  refine k_nil ?_
  refine k_seq ?_
  refine awp_true rfl ?_
  refine awp_seq ?_
  refine awp_region ?_
  refine s_as ?_
  refine k_nil ?_
  refine k_seq ?_
  refine awp_ret ?_
  refine k_seq_ret ?_
  refine k_blk_ret ?_
  refine k_seq_ret ?_
  refine k_fin ?_
  obtain rfl := Option.some.inj hF7
  exact ends_gen _ [] (by rw [Try.results116]; exact (res_tmp (by conv => lhs; whnf) res_nil))
  refine s_fa yF32_3 ?_
  refine s_ld1 yA22 ?_
  refine s_lenT yU22 ?_
  refine s_gt ?_
  refine s_pkf ?_
  refine k_nil ?_
  refine k_seq ?_
  refine w_cond hF7 (fun hc17 hF8 => ?_) (fun hc17 hF8 => ?_) <;> clear hF7
  refine awp_lenT 79 (fun hb18 => ?_)
  refine awp_seq ?_
  refine awp_region ?_
  refine s_as ?_
  refine k_nil ?_
  refine k_seq ?_
  refine awp_ret ?_
  refine k_seq_ret ?_
  refine k_blk_ret ?_
  refine k_seq_ret ?_
  refine k_fin ?_
  obtain rfl := Option.some.inj hF8
  exact ends_gen _ [] (by rw [Try.results116]; exact (res_tmp (by conv => lhs; whnf) res_nil))
  refine awp_skip ?_
  refine k_seq ?_
  refine awp_seq ?_
  refine awp_seq ?_
  refine awp_region ?_
  refine s_fa yF32_4 ?_
  refine s_ld1 yA30 ?_
  refine s_lenT yU30 ?_
  refine s_mv ?_
  refine k_nil ?_
  refine k_seq ?_
  refine awp_block ?_
  refine awp_frame2 [6, 8, 86, 87, 88, 89, 90, 91, 92, 93, 94, 95, 96] [9000] [8] [] (fun a : Nat × Int × Int => a.1) (fun a : Nat × Int × Int => [(6, .t (.sc (.bool false))), (86, .t (.sc (.int .i64 a.2.1)))]) (fun a : Nat × Int × Int => [(9000, .box [.t (.sc (.int .i64 a.2.2))])]) (fun a : Nat × Int × Int => a.1 ≤ fu ∧ m_impl_formOk_l1 a.1 x1 x2 a.2.1 a.2.2 = some r ∧ 0 ≤ a.2.1) (fu, 0, (w64 (o1 - 1))) ⟨Nat.le_refl _, hF8, by simp⟩ (by rfl) (by rfl) (fun _ => rfl) (hasF_cons (by conv => lhs; whnf) (by rfl) (hasF_cons (by conv => lhs; whnf) (by rfl) hasF_nil)) (hasO_cons (by conv => lhs; whnf) (by rfl) hasO_nil) (fun _ h => by cases h) freshS_nil freshM_nil ?_
  clear hF8
  rintro ⟨fu, g19, g20⟩ ⟨hl21, hF9, hn_g19⟩
  dsimp only at hl21 hF9 hn_g19 ⊢
  obtain _ | fu := fu
  · rw [m_impl_formOk_l1] at hF9; cases hF9
  rw [m_impl_formOk_l1] at hF9
  refine awp_seq ?_
  refine awp_region ?_
  refine s_lt ?_
  refine k_nil ?_
  refine k_seq ?_
  refine awp_seq ?_
  refine w_cond hF9 (fun hc22 hF10 => ?_) (fun hc22 hF10 => ?_) <;> clear hF9
  refine awp_lenT 84 (fun hb23 => ?_)
  refine awp_skip ?_
  refine k_seq ?_
  refine awp_seq ?_
  refine awp_block ?_
  refine awp_seq ?_
  refine awp_region ?_
  replace hF10 := bind_some' hF10
  obtain ⟨v24, hv24, hF11⟩ := hF10
  refine s_ixT Form.row hv24 (Form.row_eq _) yE30 ?_
  refine s_ldN yA32 yS32 ?_
  refine s_alloc yZ32 ?_
  refine s_stW yS32 ?_
  refine k_nil ?_
  refine k_seq ?_
  refine awp_seq ?_
  refine awp_region ?_
  refine s_ldW yA32 yS32 ?_
  refine s_mv ?_
  refine s_add rfl ?_
  refine s_mv ?_
  replace hF11 := bind_some' hF11
  obtain ⟨v25, hv25, hF12⟩ := hF11
  refine s_call [(9000, 9000)] [] _ _ (ih_m_impl_formOk fu (by omega) _ _ _ _ hv25) ?_
  refine s_not ?_
  refine k_nil ?_
  refine k_seq ?_
  refine w_cond hF12 (fun hc26 hF13 => ?_) (fun hc26 hF13 => ?_) <;> clear hF12
  refine awp_seq ?_
  refine awp_region ?_
  refine s_as ?_
  refine k_nil ?_
  refine k_seq ?_
  refine awp_ret ?_
  refine k_blk_ret ?_
  refine k_seq_ret ?_
  refine k_rnd_ret2 ?_
  refine k_blk_ret ?_
  refine k_seq_ret ?_
  refine k_blk_ret ?_
  refine k_seq_ret ?_
  refine k_fin ?_
  obtain rfl := Option.some.inj hF13
  exact ends_gen _ [] (by rw [Try.results116]; exact (res_tmp (by conv => lhs; whnf) res_nil))
  refine awp_skip ?_
  refine k_blk ?_
  refine k_seq ?_
  refine awp_region ?_
  refine s_add (winc2 hc22 hb23 hn_g19) ?_
  refine s_mv ?_
  refine k_nil ?_
  exact s_rnd2 (fu, (g19 + 1), v25.2) [] ⟨by first | omega | (dsimp only; omega), hF13, by first | omega | (dsimp only; omega)⟩ (hasR_cons (by conv => lhs; whnf) (by rfl) rfl (hasR_cons (by conv => lhs; whnf) (by rfl) rfl trivial)) (hasQ_cons (by conv => lhs; whnf) (by rfl) rfl trivial)
  refine awp_exit ?_
  refine k_seq_exit ?_
  refine k_rnd_exit2 ?_
  refine k_blk_exit ?_
  refine k_seq ?_
  refine awp_seq ?_
  refine awp_region ?_
  refine s_as ?_
  refine k_nil ?_
  refine k_seq ?_
  refine awp_ret ?_
  refine k_blk_ret ?_
  refine k_seq_ret ?_
  refine k_fin ?_
  obtain rfl := Option.some.inj hF10
  exact ends_gen _ [] (by rw [Try.results116]; exact (res_tmp (by conv => lhs; whnf) res_nil))
  refine awp_skip ?_
  refine k_blk ?_
  refine k_seq ?_
  refine awp_seq ?_
  refine awp_region ?_
  refine s_as ?_
  refine k_nil ?_
  refine k_seq ?_
  refine awp_ret ?_
  refine k_fin ?_
  obtain rfl := Option.some.inj hF5
  exact ends_gen _ [] (by rw [Try.results116]; exact (res_tmp (by conv => lhs; whnf) res_nil))
theorem m_impl_formOk_all (fuel : Nat) : m_impl_formOk_AC fuel := by
  induction fuel using Nat.strongRecOn with
  | _ N ih =>
    cases N with
    | zero => exact (by intro x1 x2 o1 r h; rw [m_impl_formOk] at h; cases h)
    | succ fu => exact m_impl_formOk_st fu (fun k hk => (ih k (by omega)))
theorem m_impl_formOk_ok (fuel : Nat) : m_impl_formOk_AC fuel := (m_impl_formOk_all fuel)
def m_impl_FormValid_AC (fuel : Nat) : Prop := ∀ (x1 : Form) (r : Bool), m_impl_FormValid fuel x1 = some r → AC Try.prog 77 [.ag [.t (.sc (.int .i64 x1.kind)), .t (.sc (.str x1.name)), .t (.sc (.int .i64 x1.n)), .t (.sl (x1.scopes.map rI)), .t (.sl (x1.kids.map Form.row))]] noOb (.t (.sc (.bool r))) noOb
theorem m_impl_FormValid_ok (fuel : Nat) : m_impl_FormValid_AC fuel := by
  intro x1 r hF0
  unfold m_impl_FormValid at hF0
  refine AC_intro (rs := [.t (.sc (.bool r))]) Try.func77 rfl (by kernel_rfl) (by simp [Try.ntmps77]) (by simp [noOb]) ?_
  intro C hC
  rw [Try.ntmps77]
  refine awp_seq ?_
  refine awp_region ?_
  refine s_box ?_
  refine s_as ?_
  refine k_nil ?_
  refine k_seq ?_
  refine awp_seq ?_
  refine awp_region ?_
  refine s_alloc yZ3 ?_
  refine s_stW yS3 ?_
  refine k_nil ?_
  refine k_seq ?_
  refine awp_seq ?_
  refine awp_region ?_
  refine s_ldW yA32 yS32 ?_
  replace hF0 := bind_some' hF0
  obtain ⟨v1, hv1, hF1⟩ := hF0
  refine s_call [(9000, 3)] [] _ _ (m_impl_formOk_ok fuel _ _ _ _ hv1) ?_
  refine s_as ?_
  refine k_nil ?_
  refine k_seq ?_
  refine awp_ret ?_
  refine k_fin ?_
  obtain rfl := Option.some.inj hF1
  exact ends_gen [] [] (by rw [Try.results77]; exact (res_tmp (by conv => lhs; whnf) res_nil))
def m_impl_isName_AC (fuel : Nat) : Prop := ∀ (x1 : Form) (r : Bool), m_impl_isName fuel x1 = some r → AC Try.prog 117 [.ag [.t (.sc (.int .i64 x1.kind)), .t (.sc (.str x1.name)), .t (.sc (.int .i64 x1.n)), .t (.sl (x1.scopes.map rI)), .t (.sl (x1.kids.map Form.row))]] noOb (.t (.sc (.bool r))) noOb
theorem m_impl_isName_ok (fuel : Nat) : m_impl_isName_AC fuel := by
  intro x1 r hF0
  unfold m_impl_isName at hF0
  refine AC_intro (rs := [.t (.sc (.bool r))]) Try.func117 rfl (by kernel_rfl) (by simp [Try.ntmps117]) (by simp [noOb]) ?_
  intro C hC
  rw [Try.ntmps117]
  refine awp_seq ?_
  refine awp_region ?_
  refine s_box ?_
  refine s_as ?_
  refine k_nil ?_
  refine k_seq ?_
  refine awp_seq ?_
  refine awp_region ?_
  refine s_fa yF32_0 ?_
  refine s_ld1 yA3 ?_
  refine s_eq ?_
  refine s_mv ?_
  refine w_guard _ 6 hF0 (fun hc1 hF1 => ?_) (fun hc1 hF1 => ?_) <;> clear hF0
  refine s_ldW yA32 yS32 ?_
  replace hF1 := bind_some' hF1
  obtain ⟨v2, hv2, hF2⟩ := hF1
  refine s_pure [] (m_impl_FormValid_ok fuel _ _ hv2) ?_
  refine s_pkt ?_
  refine s_as ?_
  refine k_nil ?_
  refine k_seq ?_
  refine awp_ret ?_
  refine k_fin ?_
  obtain rfl := Option.some.inj hF2
  exact ends_gen [] [] (by rw [Try.results117]; exact (res_tmp (by conv => lhs; whnf) res_nil))
  refine r_no rfl ?_
  refine r_no rfl ?_
  refine s_pkf ?_
  refine s_as ?_
  refine k_nil ?_
  refine k_seq ?_
  refine awp_ret ?_
  refine k_fin ?_
  obtain rfl := Option.some.inj hF1
  exact ends_gen [] [] (by rw [Try.results117]; exact (res_tmp (by conv => lhs; whnf) res_nil))
def m_slices_Equal_int_AC (fuel : Nat) : Prop := ∀ (x1 : (List Int)) (x2 : (List Int)) (r : Bool), m_slices_Equal_int fuel x1 x2 = some r → AC Try.prog 69 [.t (.sl (x1.map rI)), .t (.sl (x2.map rI))] noOb (.t (.sc (.bool r))) noOb
theorem m_slices_Equal_int_ok (fuel : Nat) : m_slices_Equal_int_AC fuel := by
  intro x1 x2 r hF0
  unfold m_slices_Equal_int at hF0
  refine AC_intro (rs := [.t (.sc (.bool r))]) Try.func69 rfl (by kernel_rfl) (by simp [Try.ntmps69]) (by simp [noOb]) ?_
  intro C hC
  rw [Try.ntmps69]
  refine awp_seq ?_
  refine awp_region ?_
  refine s_as ?_
  refine k_nil ?_
  refine k_seq ?_
  refine awp_seq ?_
  refine awp_seq ?_
  refine awp_region ?_
  refine s_mv ?_
  refine s_lenT yU22 ?_
  refine s_mv ?_
  refine s_lenT yU22 ?_
  refine s_ne ?_
  refine k_nil ?_
  refine k_seq ?_
  refine w_cond hF0 (fun hc1 hF1 => ?_) (fun hc1 hF1 => ?_) <;> clear hF0
  refine awp_seq ?_
  refine awp_region ?_
  refine s_as ?_
  refine k_nil ?_
  refine k_seq ?_
  refine awp_ret ?_
  refine k_seq_ret ?_
  refine k_fin ?_
  obtain rfl := Option.some.inj hF1
  exact ends_gen [] [] (by rw [Try.results69]; exact (res_tmp (by conv => lhs; whnf) res_nil))
  refine awp_skip ?_
  refine k_seq ?_
  refine awp_seq ?_
  refine awp_seq ?_
  refine awp_region ?_
  refine s_mv ?_
  refine s_lenT yU22 ?_
  refine s_mv ?_
  refine k_nil ?_
  refine k_seq ?_
  refine awp_block ?_
  refine awp_frame2 [4, 5, 13, 14, 15, 16, 17, 18, 19, 20, 21, 22, 23, 24, 25] [] [] [] (fun a : Nat × Int => a.1) (fun a : Nat × Int => [(4, .t (.sc (.bool false))), (13, .t (.sc (.int .i64 a.2)))]) (fun a : Nat × Int => []) (fun a : Nat × Int => a.1 ≤ fuel ∧ m_slices_Equal_int_l1 a.1 x1 x2 a.2 = some r ∧ 0 ≤ a.2) (fuel, 0) ⟨Nat.le_refl _, hF1, by simp⟩ (by rfl) (by rfl) (fun _ => rfl) (hasF_cons (by conv => lhs; whnf) (by rfl) (hasF_cons (by conv => lhs; whnf) (by rfl) hasF_nil)) hasO_nil (fun _ h => by cases h) freshS_nil freshM_nil ?_
  clear hF1
  rintro ⟨fu, g2⟩ ⟨hl3, hF2, hn_g2⟩
  dsimp only at hl3 hF2 hn_g2 ⊢
  obtain _ | fu := fu
  · rw [m_slices_Equal_int_l1] at hF2; cases hF2
  rw [m_slices_Equal_int_l1] at hF2
  refine awp_seq ?_
  refine awp_region ?_
  refine s_lt ?_
  refine k_nil ?_
  refine k_seq ?_
  refine awp_seq ?_
  refine w_cond hF2 (fun hc4 hF3 => ?_) (fun hc4 hF3 => ?_) <;> clear hF2
  refine awp_lenT 0 (fun hb5 => ?_)
  refine awp_skip ?_
  refine k_seq ?_
  refine awp_seq ?_
  refine awp_block ?_
  refine awp_seq ?_
  refine awp_region ?_
  refine s_mv ?_
  refine s_as ?_
  refine k_nil ?_
  refine k_seq ?_
  refine awp_seq ?_
  refine awp_draw yMix (by kernel_rfl) ?_
  refine s_mv ?_
  refine s_mv ?_
  replace hF3 := bind_some' hF3
  obtain ⟨v6, hv6, hF4⟩ := hF3
  refine s_ixT rI hv6 rfl yE22 ?_
  refine s_ld1 yA3 ?_
  refine s_mv ?_
  refine s_mv ?_
  replace hF4 := bind_some' hF4
  obtain ⟨v7, hv7, hF5⟩ := hF4
  refine s_ixT rI hv7 rfl yE22 ?_
  refine s_ld1 yA3 ?_
  refine s_ne ?_
  refine k_nilD (by kernel_rfl) ?_
  refine k_seq ?_
  refine w_cond hF5 (fun hc8 hF6 => ?_) (fun hc8 hF6 => ?_) <;> clear hF5
  refine awp_seq ?_
  refine awp_region ?_
  refine s_as ?_
  refine k_nil ?_
  refine k_seq ?_
  refine awp_ret ?_
  refine k_blk_ret ?_
  refine k_seq_ret ?_
  refine k_rnd_ret2 ?_
  refine k_blk_ret ?_
  refine k_seq_ret ?_
  refine k_fin ?_
  obtain rfl := Option.some.inj hF6
  exact ends_gen [] [] (by rw [Try.results69]; exact (res_tmp (by conv => lhs; whnf) res_nil))
  refine awp_skip ?_
  refine k_blk ?_
  refine k_seq ?_
  refine awp_region ?_
  refine s_add (winc2 hc4 hb5 hn_g2) ?_
  refine s_mv ?_
  refine k_nil ?_
  exact s_rnd2 (fu, (g2 + 1)) [] ⟨by first | omega | (dsimp only; omega), hF6, by first | omega | (dsimp only; omega)⟩ (hasR_cons (by conv => lhs; whnf) (by rfl) rfl (hasR_cons (by conv => lhs; whnf) (by rfl) rfl trivial)) trivial
  refine awp_exit ?_
  refine k_seq_exit ?_
  refine k_rnd_exit2 ?_
  refine k_blk_exit ?_
  refine k_seq ?_
  refine awp_seq ?_
  refine awp_region ?_
  refine s_as ?_
  refine k_nil ?_
  refine k_seq ?_
  refine awp_ret ?_
  refine k_fin ?_
  obtain rfl := Option.some.inj hF3
  exact ends_gen [] [] (by rw [Try.results69]; exact (res_tmp (by conv => lhs; whnf) res_nil))
def m_impl_FormSame_AC (fuel : Nat) : Prop := ∀ (x1 : Form) (x2 : Form) (r : Bool), m_impl_FormSame fuel x1 x2 = some r → AC Try.prog 33 [.ag [.t (.sc (.int .i64 x1.kind)), .t (.sc (.str x1.name)), .t (.sc (.int .i64 x1.n)), .t (.sl (x1.scopes.map rI)), .t (.sl (x1.kids.map Form.row))], .ag [.t (.sc (.int .i64 x2.kind)), .t (.sc (.str x2.name)), .t (.sc (.int .i64 x2.n)), .t (.sl (x2.scopes.map rI)), .t (.sl (x2.kids.map Form.row))]] noOb (.t (.sc (.bool r))) noOb
def m_slices_EqualFunc_Form_FormSame_AC (fuel : Nat) : Prop := ∀ (x1 : (List Form)) (x2 : (List Form)) (r : Bool), m_slices_EqualFunc_Form_FormSame fuel x1 x2 = some r → AC Try.prog 70 [.t (.sl (x1.map Form.row)), .t (.sl (x2.map Form.row)), .fn 33 []] noOb (.t (.sc (.bool r))) noOb
theorem m_impl_FormSame_st (fu : Nat) (ih_m_impl_FormSame : ∀ k, k ≤ fu → m_impl_FormSame_AC k) (ih_m_slices_EqualFunc_Form_FormSame : ∀ k, k ≤ fu → m_slices_EqualFunc_Form_FormSame_AC k) : m_impl_FormSame_AC (fu + 1) := by
  intro x1 x2 r hF0
  rw [m_impl_FormSame] at hF0
  refine AC_intro (rs := [.t (.sc (.bool r))]) Try.func33 rfl (by kernel_rfl) (by simp [Try.ntmps33]) (by simp [noOb]) ?_
  intro C hC
  rw [Try.ntmps33]
  refine awp_seq ?_
  refine awp_region ?_
  refine s_box ?_
  refine s_box ?_
  refine s_as ?_
  refine k_nil ?_
  refine k_seq ?_
  refine awp_seq ?_
  refine awp_region ?_
  refine s_fa yF32_0 ?_
  refine s_ld1 yA3 ?_
  refine s_fa yF32_0 ?_
  refine s_ld1 yA3 ?_
  refine s_eq ?_
  refine s_mv ?_
  refine w_guard _ 10 hF0 (fun hc1 hF1 => ?_) (fun hc1 hF1 => ?_) <;> clear hF0
  refine s_fa yF32_1 ?_
  refine s_ld1 yA9 ?_
  refine s_fa yF32_1 ?_
  refine s_ld1 yA9 ?_
  refine s_eqS ?_
  refine s_pkt ?_
  refine s_mv ?_
  refine w_guard _ 17 hF1 (fun hc2 hF2 => ?_) (fun hc2 hF2 => ?_) <;> clear hF1
  refine s_fa yF32_2 ?_
  refine s_ld1 yA3 ?_
  refine s_fa yF32_2 ?_
  refine s_ld1 yA3 ?_
  refine s_eq ?_
  refine s_pkt ?_
  refine s_mv ?_
  refine w_guard _ 24 hF2 (fun hc3 hF3 => ?_) (fun hc3 hF3 => ?_) <;> clear hF2
  refine s_fa yF32_3 ?_
  refine s_ld1 yA22 ?_
  refine s_fa yF32_3 ?_
  refine s_ld1 yA22 ?_
  replace hF3 := bind_some' hF3
  obtain ⟨v4, hv4, hF4⟩ := hF3
  refine s_pure [] (m_slices_Equal_int_ok fu _ _ _ hv4) ?_
  refine s_pkt ?_
  refine s_mv ?_
  refine w_guard _ 31 hF4 (fun hc5 hF5 => ?_) (fun hc5 hF5 => ?_) <;> clear hF4
  refine s_fa yF32_4 ?_
  refine s_ld1 yA30 ?_
  refine s_fa yF32_4 ?_
  refine s_ld1 yA30 ?_
  replace hF5 := bind_some' hF5
  obtain ⟨v6, hv6, hF6⟩ := hF5
  refine s_pure [] (ih_m_slices_EqualFunc_Form_FormSame fu (by omega) _ _ _ hv6) ?_
  refine s_pkt ?_
  refine s_as ?_
  refine k_nil ?_
  refine k_seq ?_
  refine awp_ret ?_
  refine k_fin ?_
  obtain rfl := Option.some.inj hF6
  exact ends_gen [] [] (by rw [Try.results33]; exact (res_tmp (by conv => lhs; whnf) res_nil))
  refine r_no rfl ?_
  refine r_no rfl ?_
  refine r_no rfl ?_
  refine r_no rfl ?_
  refine r_no rfl ?_
  refine s_pkf ?_
  refine s_as ?_
  refine k_nil ?_
  refine k_seq ?_
  refine awp_ret ?_
  refine k_fin ?_
  obtain rfl := Option.some.inj hF5
  exact ends_gen [] [] (by rw [Try.results33]; exact (res_tmp (by conv => lhs; whnf) res_nil))
  refine r_no rfl ?_
  refine r_no rfl ?_
  refine r_no rfl ?_
  refine r_no rfl ?_
  refine r_no rfl ?_
  refine s_pkf ?_
  refine s_mv ?_
  refine r_no rfl ?_
  refine r_no rfl ?_
  refine r_no rfl ?_
  refine r_no rfl ?_
  refine r_no rfl ?_
  refine s_pkf ?_
  refine s_as ?_
  refine k_nil ?_
  refine k_seq ?_
  refine awp_ret ?_
  refine k_fin ?_
  obtain rfl := Option.some.inj hF3
  exact ends_gen [] [] (by rw [Try.results33]; exact (res_tmp (by conv => lhs; whnf) res_nil))
  refine r_no rfl ?_
  refine r_no rfl ?_
  refine r_no rfl ?_
  refine r_no rfl ?_
  refine r_no rfl ?_
  refine s_pkf ?_
  refine s_mv ?_
  refine r_no rfl ?_
  refine r_no rfl ?_
  refine r_no rfl ?_
  refine r_no rfl ?_
  refine r_no rfl ?_
  refine s_pkf ?_
  refine s_mv ?_
  refine r_no rfl ?_
  refine r_no rfl ?_
  refine r_no rfl ?_
  refine r_no rfl ?_
  refine r_no rfl ?_
  refine s_pkf ?_
  refine s_as ?_
  refine k_nil ?_
  refine k_seq ?_
  refine awp_ret ?_
  refine k_fin ?_
  obtain rfl := Option.some.inj hF2
  exact ends_gen [] [] (by rw [Try.results33]; exact (res_tmp (by conv => lhs; whnf) res_nil))
  refine r_no rfl ?_
  refine r_no rfl ?_
  refine r_no rfl ?_
  refine r_no rfl ?_
  refine r_no rfl ?_
  refine s_pkf ?_
  refine s_mv ?_
  refine r_no rfl ?_
  refine r_no rfl ?_
  refine r_no rfl ?_
  refine r_no rfl ?_
  refine r_no rfl ?_
  refine s_pkf ?_
  refine s_mv ?_
  refine r_no rfl ?_
  refine r_no rfl ?_
  refine r_no rfl ?_
  refine r_no rfl ?_
  refine r_no rfl ?_
  refine s_pkf ?_
  refine s_mv ?_
  refine r_no rfl ?_
  refine r_no rfl ?_
  refine r_no rfl ?_
  refine r_no rfl ?_
  refine r_no rfl ?_
  refine s_pkf ?_
  refine s_as ?_
  refine k_nil ?_
  refine k_seq ?_
  refine awp_ret ?_
  refine k_fin ?_
  obtain rfl := Option.some.inj hF1
  exact ends_gen [] [] (by rw [Try.results33]; exact (res_tmp (by conv => lhs; whnf) res_nil))
theorem m_slices_EqualFunc_Form_FormSame_st (fu : Nat) (ih_m_impl_FormSame : ∀ k, k ≤ fu → m_impl_FormSame_AC k) (ih_m_slices_EqualFunc_Form_FormSame : ∀ k, k ≤ fu → m_slices_EqualFunc_Form_FormSame_AC k) : m_slices_EqualFunc_Form_FormSame_AC (fu + 1) := by
  intro x1 x2 r hF0
  rw [m_slices_EqualFunc_Form_FormSame] at hF0
  refine AC_intro (rs := [.t (.sc (.bool r))]) Try.func70 rfl (by kernel_rfl) (by simp [Try.ntmps70]) (by simp [noOb]) ?_
  intro C hC
  rw [Try.ntmps70]
  refine awp_seq ?_
  refine awp_region ?_
  refine s_as ?_
  refine k_nil ?_
  refine k_seq ?_
  refine awp_seq ?_
  refine awp_seq ?_
  refine awp_region ?_
  refine s_mv ?_
  refine s_lenT yU30 ?_
  refine s_mv ?_
  refine s_lenT yU30 ?_
  refine s_ne ?_
  refine k_nil ?_
  refine k_seq ?_
  refine w_cond hF0 (fun hc1 hF1 => ?_) (fun hc1 hF1 => ?_) <;> clear hF0
  refine awp_seq ?_
  refine awp_region ?_
  refine s_as ?_
  refine k_nil ?_
  refine k_seq ?_
  refine awp_ret ?_
  refine k_seq_ret ?_
  refine k_fin ?_
  obtain rfl := Option.some.inj hF1
  exact ends_gen [] [] (by rw [Try.results70]; exact (res_tmp (by conv => lhs; whnf) res_nil))
  refine awp_skip ?_
  refine k_seq ?_
  refine awp_seq ?_
  refine awp_seq ?_
  refine awp_region ?_
  refine s_mv ?_
  refine s_lenT yU30 ?_
  refine s_mv ?_
  refine k_nil ?_
  refine k_seq ?_
  refine awp_block ?_
  refine awp_frame2 [6, 7, 8, 9, 17, 18, 19, 20, 21, 22, 23, 24, 25, 26, 27, 28, 29, 30, 31] [] [8, 9] [] (fun a : Nat × Int => a.1) (fun a : Nat × Int => [(6, .t (.sc (.bool false))), (17, .t (.sc (.int .i64 a.2)))]) (fun a : Nat × Int => []) (fun a : Nat × Int => a.1 ≤ fu ∧ m_slices_EqualFunc_Form_FormSame_l1 a.1 x1 x2 a.2 = some r ∧ 0 ≤ a.2) (fu, 0) ⟨Nat.le_refl _, hF1, by simp⟩ (by rfl) (by rfl) (fun _ => rfl) (hasF_cons (by conv => lhs; whnf) (by rfl) (hasF_cons (by conv => lhs; whnf) (by rfl) hasF_nil)) hasO_nil (fun _ h => by cases h) freshS_nil freshM_nil ?_
  clear hF1
  rintro ⟨fu, g2⟩ ⟨hl3, hF2, hn_g2⟩
  dsimp only at hl3 hF2 hn_g2 ⊢
  obtain _ | fu := fu
  · rw [m_slices_EqualFunc_Form_FormSame_l1] at hF2; cases hF2
  rw [m_slices_EqualFunc_Form_FormSame_l1] at hF2
  refine awp_seq ?_
  refine awp_region ?_
  refine s_lt ?_
  refine k_nil ?_
  refine k_seq ?_
  refine awp_seq ?_
  refine w_cond hF2 (fun hc4 hF3 => ?_) (fun hc4 hF3 => ?_) <;> clear hF2
  refine awp_lenT 0 (fun hb5 => ?_)
  refine awp_skip ?_
  refine k_seq ?_
  refine awp_seq ?_
  refine awp_block ?_
  refine awp_seq ?_
  refine awp_region ?_
  refine s_mv ?_
  replace hF3 := bind_some' hF3
  obtain ⟨v6, hv6, hF4⟩ := hF3
  refine s_ixT Form.row hv6 (Form.row_eq _) yE30 ?_
  refine s_ldN yA32 yS32 ?_
  refine s_alloc yZ32 ?_
  refine s_as ?_
  refine s_stW yS32 ?_
  refine k_nil ?_
  refine k_seq ?_
  refine awp_seq ?_
  refine awp_region ?_
  refine s_mv ?_
  refine s_mv ?_
  replace hF4 := bind_some' hF4
  obtain ⟨v7, hv7, hF5⟩ := hF4
  refine s_ixT Form.row hv7 (Form.row_eq _) yE30 ?_
  refine s_ldN yA32 yS32 ?_
  refine s_alloc yZ32 ?_
  refine s_stW yS32 ?_
  refine k_nil ?_
  refine k_seq ?_
  refine awp_seq ?_
  refine awp_region ?_
  refine s_mv ?_
  refine s_ldW yA32 yS32 ?_
  refine s_ldW yA32 yS32 ?_
  replace hF5 := bind_some' hF5
  obtain ⟨v8, hv8, hF6⟩ := hF5
  refine s_pure [] (ih_m_impl_FormSame fu (by omega) _ _ _ hv8) ?_
  refine s_not ?_
  refine k_nil ?_
  refine k_seq ?_
  refine w_cond hF6 (fun hc9 hF7 => ?_) (fun hc9 hF7 => ?_) <;> clear hF6
  refine awp_seq ?_
  refine awp_region ?_
  refine s_as ?_
  refine k_nil ?_
  refine k_seq ?_
  refine awp_ret ?_
  refine k_blk_ret ?_
  refine k_seq_ret ?_
  refine k_rnd_ret2 ?_
  refine k_blk_ret ?_
  refine k_seq_ret ?_
  refine k_fin ?_
  obtain rfl := Option.some.inj hF7
  exact ends_gen [] [] (by rw [Try.results70]; exact (res_tmp (by conv => lhs; whnf) res_nil))
  refine awp_skip ?_
  refine k_blk ?_
  refine k_seq ?_
  refine awp_region ?_
  refine s_add (winc2 hc4 hb5 hn_g2) ?_
  refine s_mv ?_
  refine k_nil ?_
  exact s_rnd2 (fu, (g2 + 1)) [] ⟨by first | omega | (dsimp only; omega), hF7, by first | omega | (dsimp only; omega)⟩ (hasR_cons (by conv => lhs; whnf) (by rfl) rfl (hasR_cons (by conv => lhs; whnf) (by rfl) rfl trivial)) trivial
  refine awp_exit ?_
  refine k_seq_exit ?_
  refine k_rnd_exit2 ?_
  refine k_blk_exit ?_
  refine k_seq ?_
  refine awp_seq ?_
  refine awp_region ?_
  refine s_as ?_
  refine k_nil ?_
  refine k_seq ?_
  refine awp_ret ?_
  refine k_fin ?_
  obtain rfl := Option.some.inj hF3
  exact ends_gen [] [] (by rw [Try.results70]; exact (res_tmp (by conv => lhs; whnf) res_nil))
theorem m_impl_FormSame_all (fuel : Nat) : m_impl_FormSame_AC fuel ∧ m_slices_EqualFunc_Form_FormSame_AC fuel := by
  induction fuel using Nat.strongRecOn with
  | _ N ih =>
    cases N with
    | zero => exact ⟨(by intro x1 x2 r h; rw [m_impl_FormSame] at h; cases h), (by intro x1 x2 r h; rw [m_slices_EqualFunc_Form_FormSame] at h; cases h)⟩
    | succ fu => exact ⟨m_impl_FormSame_st fu (fun k hk => (ih k (by omega)).1) (fun k hk => (ih k (by omega)).2), m_slices_EqualFunc_Form_FormSame_st fu (fun k hk => (ih k (by omega)).1) (fun k hk => (ih k (by omega)).2)⟩
theorem m_impl_FormSame_ok (fuel : Nat) : m_impl_FormSame_AC fuel := (m_impl_FormSame_all fuel).1
theorem m_slices_EqualFunc_Form_FormSame_ok (fuel : Nat) : m_slices_EqualFunc_Form_FormSame_AC fuel := (m_impl_FormSame_all fuel).2
def m_impl_isIn_1_AC (fuel : Nat) : Prop := ∀ (x1 : Form) (o1 : Form) (r : Bool), m_impl_isIn_1 fuel x1 o1 = some r → AC Try.prog 120 [.ag [.t (.sc (.int .i64 x1.kind)), .t (.sc (.str x1.name)), .t (.sc (.int .i64 x1.n)), .t (.sl (x1.scopes.map rI)), .t (.sl (x1.kids.map Form.row))], .rf 9000 0] (objs [(9000, .box [.t (.sc (.int .i64 o1.kind)), .t (.sc (.str o1.name)), .t (.sc (.int .i64 o1.n)), .t (.sl (o1.scopes.map rI)), .t (.sl (o1.kids.map Form.row))])]) (.t (.sc (.bool r))) (objs [(9000, .box [.t (.sc (.int .i64 o1.kind)), .t (.sc (.str o1.name)), .t (.sc (.int .i64 o1.n)), .t (.sl (o1.scopes.map rI)), .t (.sl (o1.kids.map Form.row))])])
theorem m_impl_isIn_1_ok (fuel : Nat) : m_impl_isIn_1_AC fuel := by
  intro x1 o1 r hF0
  unfold m_impl_isIn_1 at hF0
  refine AC_intro (rs := [.t (.sc (.bool r))]) Try.func120 rfl (by kernel_rfl) (by simp [Try.ntmps120]) (keep_all rfl) ?_
  intro C hC
  rw [Try.ntmps120]
  refine awp_seq ?_
  refine awp_region ?_
  refine s_box ?_
  refine s_as ?_
  refine k_nil ?_
  refine k_seq ?_
  refine awp_seq ?_
  refine awp_region ?_
  refine s_ldW yA32 yS32 ?_
  refine s_ldW yA32 yS32 ?_
  replace hF0 := bind_some' hF0
  obtain ⟨v1, hv1, hF1⟩ := hF0
  refine s_pure [] (m_impl_FormSame_ok fuel _ _ _ hv1) ?_
  refine s_as ?_
  refine k_nil ?_
  refine k_seq ?_
  refine awp_ret ?_
  refine k_fin ?_
  obtain rfl := Option.some.inj hF1
  exact ends_gen _ [] (by rw [Try.results120]; exact (res_tmp (by conv => lhs; whnf) res_nil))
def m_slices_IndexFunc_Form_isIn_1_AC (fuel : Nat) : Prop := ∀ (x1 : (List Form)) (o1 : Form) (r : Int), m_slices_IndexFunc_Form_isIn_1 fuel x1 o1 = some r → AC Try.prog 144 [.t (.sl (x1.map Form.row)), .fn 120 [.rf 9000 0]] (objs [(9000, .box [.t (.sc (.int .i64 o1.kind)), .t (.sc (.str o1.name)), .t (.sc (.int .i64 o1.n)), .t (.sl (o1.scopes.map rI)), .t (.sl (o1.kids.map Form.row))])]) (.t (.sc (.int .i64 r))) (objs [(9000, .box [.t (.sc (.int .i64 o1.kind)), .t (.sc (.str o1.name)), .t (.sc (.int .i64 o1.n)), .t (.sl (o1.scopes.map rI)), .t (.sl (o1.kids.map Form.row))])])
theorem m_slices_IndexFunc_Form_isIn_1_ok (fuel : Nat) : m_slices_IndexFunc_Form_isIn_1_AC fuel := by
  intro x1 o1 r hF0
  unfold m_slices_IndexFunc_Form_isIn_1 at hF0
  refine AC_intro (rs := [.t (.sc (.int .i64 r))]) Try.func144 rfl (by kernel_rfl) (by simp [Try.ntmps144]) (keep_all rfl) ?_
  intro C hC
  rw [Try.ntmps144]
  refine awp_seq ?_
  refine awp_region ?_
  refine s_as ?_
  refine k_nil ?_
  refine k_seq ?_
  refine awp_seq ?_
  refine awp_seq ?_
  refine awp_region ?_
  refine s_mv ?_
  refine s_lenT yU30 ?_
  refine s_mv ?_
  refine k_nil ?_
  refine k_seq ?_
  refine awp_block ?_
  refine awp_frame2 [4, 5, 8, 9, 10, 11, 12, 13, 14, 15, 16, 17, 18] [] [] [] (fun a : Nat × Int => a.1) (fun a : Nat × Int => [(4, .t (.sc (.int .i64 0))), (8, .t (.sc (.int .i64 a.2)))]) (fun a : Nat × Int => []) (fun a : Nat × Int => a.1 ≤ fuel ∧ m_slices_IndexFunc_Form_isIn_1_l1 a.1 x1 o1 a.2 = some r ∧ 0 ≤ a.2) (fuel, 0) ⟨Nat.le_refl _, hF0, by simp⟩ (by rfl) (by rfl) (fun _ => rfl) (hasF_cons (by conv => lhs; whnf) (by rfl) (hasF_cons (by conv => lhs; whnf) (by rfl) hasF_nil)) hasO_nil (fun _ h => by cases h) freshS_nil freshM_nil ?_
  clear hF0
  rintro ⟨fu, g1⟩ ⟨hl2, hF1, hn_g1⟩
  dsimp only at hl2 hF1 hn_g1 ⊢
  obtain _ | fu := fu
  · rw [m_slices_IndexFunc_Form_isIn_1_l1] at hF1; cases hF1
  rw [m_slices_IndexFunc_Form_isIn_1_l1] at hF1
  refine awp_seq ?_
  refine awp_region ?_
  refine s_lt ?_
  refine k_nil ?_
  refine k_seq ?_
  refine awp_seq ?_
  refine w_cond hF1 (fun hc3 hF2 => ?_) (fun hc3 hF2 => ?_) <;> clear hF1
  refine awp_lenT 0 (fun hb4 => ?_)
  refine awp_skip ?_
  refine k_seq ?_
  refine awp_seq ?_
  refine awp_block ?_
  refine awp_seq ?_
  refine awp_region ?_
  refine s_mv ?_
  refine s_as ?_
  refine k_nil ?_
  refine k_seq ?_
  refine awp_seq ?_
  refine awp_region ?_
  refine s_mv ?_
  refine s_mv ?_
  refine s_mv ?_
  replace hF2 := bind_some' hF2
  obtain ⟨v5, hv5, hF3⟩ := hF2
  refine s_ixT Form.row hv5 (Form.row_eq _) yE30 ?_
  refine s_ldN yA32 yS32 ?_
  replace hF3 := bind_some' hF3
  obtain ⟨v6, hv6, hF4⟩ := hF3
  refine s_call [(9000, 9000)] [] _ _ (m_impl_isIn_1_ok fu _ _ _ hv6) ?_
  refine k_nil ?_
  refine k_seq ?_
  refine w_cond hF4 (fun hc7 hF5 => ?_) (fun hc7 hF5 => ?_) <;> clear hF4
  refine awp_seq ?_
  refine awp_region ?_
  refine s_mv ?_
  refine s_as ?_
  refine k_nil ?_
  refine k_seq ?_
  refine awp_ret ?_
  refine k_blk_ret ?_
  refine k_seq_ret ?_
  refine k_rnd_ret2 ?_
  refine k_blk_ret ?_
  refine k_seq_ret ?_
  refine k_fin ?_
  obtain rfl := Option.some.inj hF5
  exact ends_gen _ [] (by rw [Try.results144]; exact (res_tmp (by conv => lhs; whnf) res_nil))
  refine awp_skip ?_
  refine k_blk ?_
  refine k_seq ?_
  refine awp_region ?_
  refine s_add (winc2 hc3 hb4 hn_g1) ?_
  refine s_mv ?_
  refine k_nil ?_
  exact s_rnd2 (fu, (g1 + 1)) [] ⟨by first | omega | (dsimp only; omega), hF5, by first | omega | (dsimp only; omega)⟩ (hasR_cons (by conv => lhs; whnf) (by rfl) rfl (hasR_cons (by conv => lhs; whnf) (by rfl) rfl trivial)) trivial
  refine awp_exit ?_
  refine k_seq_exit ?_
  refine k_rnd_exit2 ?_
  refine k_blk_exit ?_
  refine k_seq ?_
  refine awp_seq ?_
  refine awp_region ?_
  refine s_as ?_
  refine k_nil ?_
  refine k_seq ?_
  refine awp_ret ?_
  refine k_fin ?_
  obtain rfl := Option.some.inj hF2
  exact ends_gen _ [] (by rw [Try.results144]; exact (res_tmp (by conv => lhs; whnf) res_nil))
def m_slices_ContainsFunc_Form_isIn_1_AC (fuel : Nat) : Prop := ∀ (x1 : (List Form)) (o1 : Form) (r : Bool), m_slices_ContainsFunc_Form_isIn_1 fuel x1 o1 = some r → AC Try.prog 119 [.t (.sl (x1.map Form.row)), .fn 120 [.rf 9000 0]] (objs [(9000, .box [.t (.sc (.int .i64 o1.kind)), .t (.sc (.str o1.name)), .t (.sc (.int .i64 o1.n)), .t (.sl (o1.scopes.map rI)), .t (.sl (o1.kids.map Form.row))])]) (.t (.sc (.bool r))) (objs [(9000, .box [.t (.sc (.int .i64 o1.kind)), .t (.sc (.str o1.name)), .t (.sc (.int .i64 o1.n)), .t (.sl (o1.scopes.map rI)), .t (.sl (o1.kids.map Form.row))])])
theorem m_slices_ContainsFunc_Form_isIn_1_ok (fuel : Nat) : m_slices_ContainsFunc_Form_isIn_1_AC fuel := by
  intro x1 o1 r hF0
  unfold m_slices_ContainsFunc_Form_isIn_1 at hF0
  refine AC_intro (rs := [.t (.sc (.bool r))]) Try.func119 rfl (by kernel_rfl) (by simp [Try.ntmps119]) (keep_all rfl) ?_
  intro C hC
  rw [Try.ntmps119]
  refine awp_seq ?_
  refine awp_region ?_
  refine s_as ?_
  refine k_nil ?_
  refine k_seq ?_
  refine awp_seq ?_
  refine awp_region ?_
  refine s_mv ?_
  refine s_mv ?_
  replace hF0 := bind_some' hF0
  obtain ⟨v1, hv1, hF1⟩ := hF0
  refine s_call [(9000, 9000)] [] _ _ (m_slices_IndexFunc_Form_isIn_1_ok fuel _ _ _ hv1) ?_
  refine s_ge ?_
  refine s_as ?_
  refine k_nil ?_
  refine k_seq ?_
  refine awp_ret ?_
  refine k_fin ?_
  obtain rfl := Option.some.inj hF1
  exact ends_gen _ [] (by rw [Try.results119]; exact (res_tmp (by conv => lhs; whnf) res_nil))
def m_impl_isIn_AC (fuel : Nat) : Prop := ∀ (x1 : (List Form)) (x2 : Form) (r : Bool), m_impl_isIn fuel x1 x2 = some r → AC Try.prog 81 [.t (.sl (x1.map Form.row)), .ag [.t (.sc (.int .i64 x2.kind)), .t (.sc (.str x2.name)), .t (.sc (.int .i64 x2.n)), .t (.sl (x2.scopes.map rI)), .t (.sl (x2.kids.map Form.row))]] noOb (.t (.sc (.bool r))) noOb
theorem m_impl_isIn_ok (fuel : Nat) : m_impl_isIn_AC fuel := by
  intro x1 x2 r hF0
  unfold m_impl_isIn at hF0
  refine AC_intro (rs := [.t (.sc (.bool r))]) Try.func81 rfl (by kernel_rfl) (by simp [Try.ntmps81]) (by simp [noOb]) ?_
  intro C hC
  rw [Try.ntmps81]
  refine awp_seq ?_
  refine awp_region ?_
  refine s_box ?_
  refine s_as ?_
  refine k_nil ?_
  refine k_seq ?_
  refine awp_seq ?_
  refine awp_region ?_
  refine s_mv ?_
  refine s_fn ?_
  replace hF0 := bind_some' hF0
  obtain ⟨v1, hv1, hF1⟩ := hF0
  refine s_call [(9000, 3)] [] _ _ (m_slices_ContainsFunc_Form_isIn_1_ok fuel _ _ _ hv1) ?_
  refine s_as ?_
  refine k_nil ?_
  refine k_seq ?_
  refine awp_ret ?_
  refine k_fin ?_
  obtain rfl := Option.some.inj hF1
  exact ends_gen [] [] (by rw [Try.results81]; exact (res_tmp (by conv => lhs; whnf) res_nil))
def m_impl_literalsOk_AC (fuel : Nat) : Prop := ∀ (x1 : (List Form)) (r : Bool), m_impl_literalsOk fuel x1 = some r → AC Try.prog 78 [.t (.sl (x1.map Form.row))] noOb (.t (.sc (.bool r))) noOb
theorem m_impl_literalsOk_ok (fuel : Nat) : m_impl_literalsOk_AC fuel := by
  intro x1 r hF0
  unfold m_impl_literalsOk at hF0
  refine AC_intro (rs := [.t (.sc (.bool r))]) Try.func78 rfl (by kernel_rfl) (by simp [Try.ntmps78]) (by simp [noOb]) ?_
  intro C hC
  rw [Try.ntmps78]
  refine awp_seq ?_
  refine awp_region ?_
  refine s_as ?_
  refine k_nil ?_
  refine k_seq ?_
  refine awp_seq ?_
  refine awp_seq ?_
  refine awp_region ?_
  refine s_mv ?_
  refine s_lenT yU30 ?_
  refine s_mv ?_
  refine k_nil ?_
  refine k_seq ?_
  refine awp_block ?_
  refine awp_frame2 [2, 3, 4, 7, 8, 9, 10, 11, 12, 13, 14, 15, 16, 17, 18, 19, 20, 21, 22, 23, 24, 25, 26, 27, 28, 29, 30, 31, 32] [] [4] [] (fun a : Nat × Int => a.1) (fun a : Nat × Int => [(2, .t (.sc (.bool false))), (7, .t (.sc (.int .i64 a.2)))]) (fun a : Nat × Int => []) (fun a : Nat × Int => a.1 ≤ fuel ∧ m_impl_literalsOk_l1 a.1 x1 a.2 = some r ∧ 0 ≤ a.2) (fuel, 0) ⟨Nat.le_refl _, hF0, by simp⟩ (by rfl) (by rfl) (fun _ => rfl) (hasF_cons (by conv => lhs; whnf) (by rfl) (hasF_cons (by conv => lhs; whnf) (by rfl) hasF_nil)) hasO_nil (fun _ h => by cases h) freshS_nil freshM_nil ?_
  clear hF0
  rintro ⟨fu, g1⟩ ⟨hl2, hF1, hn_g1⟩
  dsimp only at hl2 hF1 hn_g1 ⊢
  obtain _ | fu := fu
  · rw [m_impl_literalsOk_l1] at hF1; cases hF1
  rw [m_impl_literalsOk_l1] at hF1
  refine awp_seq ?_
  refine awp_region ?_
  refine s_lt ?_
  refine k_nil ?_
  refine k_seq ?_
  refine awp_seq ?_
  refine w_cond hF1 (fun hc3 hF2 => ?_) (fun hc3 hF2 => ?_) <;> clear hF1
  refine awp_lenT 0 (fun hb4 => ?_)
  refine awp_skip ?_
  refine k_seq ?_
  refine awp_seq ?_
  refine awp_block ?_
  refine awp_seq ?_
  refine awp_region ?_
  refine s_mv ?_
  replace hF2 := bind_some' hF2
  obtain ⟨v5, hv5, hF3⟩ := hF2
  refine s_ixT Form.row hv5 (Form.row_eq _) yE30 ?_
  refine s_ldN yA32 yS32 ?_
  refine s_alloc yZ32 ?_
  refine s_as ?_
  refine s_stW yS32 ?_
  refine k_nil ?_
  refine k_seq ?_
  refine awp_seq ?_
  refine awp_draw yMix (by kernel_rfl) ?_
  refine s_ldW yA32 yS32 ?_
  replace hF3 := bind_some' hF3
  obtain ⟨v6, hv6, hF4⟩ := hF3
  refine s_pure [] (m_impl_isName_ok fu _ _ hv6) ?_
  refine s_not ?_
  refine s_mv ?_
  refine w_guard _ 15 hF4 (fun hc7 hF5 => ?_) (fun hc7 hF5 => ?_) <;> clear hF4
  refine r_no rfl ?_
  refine r_no rfl ?_
  refine r_no rfl ?_
  refine s_pkt ?_
  refine s_mv ?_
  refine r_no rfl ?_
  refine r_no rfl ?_
  refine r_no rfl ?_
  refine s_pkt ?_
  refine s_mv ?_
  refine r_no rfl ?_
  refine r_no rfl ?_
  refine r_no rfl ?_
  refine r_no rfl ?_
  refine r_no rfl ?_
  refine s_pkt ?_
  refine k_nilD (by kernel_rfl) ?_
  refine k_seq ?_
  refine awp_true rfl ?_
  refine awp_seq ?_
  refine awp_region ?_
  refine s_as ?_
  refine k_nil ?_
  refine k_seq ?_
  refine awp_ret ?_
  refine k_blk_ret ?_
  refine k_seq_ret ?_
  refine k_rnd_ret2 ?_
  refine k_blk_ret ?_
  refine k_seq_ret ?_
  refine k_fin ?_
  obtain rfl := Option.some.inj hF5
  exact ends_gen [] [] (by rw [Try.results78]; exact (res_tmp (by conv => lhs; whnf) res_nil))
  refine s_fa yF32_1 ?_
  refine s_ld1 yA9 ?_
  refine s_eqS ?_
  refine s_pkf ?_
  refine s_mv ?_
  refine w_guard _ 20 hF5 (fun hc8 hF6 => ?_) (fun hc8 hF6 => ?_) <;> clear hF5
  refine r_no rfl ?_
  refine r_no rfl ?_
  refine r_no rfl ?_
  refine s_pkt ?_
  refine s_mv ?_
  refine r_no rfl ?_
  refine r_no rfl ?_
  refine r_no rfl ?_
  refine r_no rfl ?_
  refine r_no rfl ?_
  refine s_pkt ?_
  refine k_nilD (by kernel_rfl) ?_
  refine k_seq ?_
  refine awp_true rfl ?_
  refine awp_seq ?_
  refine awp_region ?_
  refine s_as ?_
  refine k_nil ?_
  refine k_seq ?_
  refine awp_ret ?_
  refine k_blk_ret ?_
  refine k_seq_ret ?_
  refine k_rnd_ret2 ?_
  refine k_blk_ret ?_
  refine k_seq_ret ?_
  refine k_fin ?_
  obtain rfl := Option.some.inj hF6
  exact ends_gen [] [] (by rw [Try.results78]; exact (res_tmp (by conv => lhs; whnf) res_nil))
  refine s_fa yF32_1 ?_
  refine s_ld1 yA9 ?_
  refine s_eqS ?_
  refine s_pkf ?_
  refine s_mv ?_
  refine w_guard _ 25 hF6 (fun hc9 hF7 => ?_) (fun hc9 hF7 => ?_) <;> clear hF6
  refine r_no rfl ?_
  refine r_no rfl ?_
  refine r_no rfl ?_
  refine r_no rfl ?_
  refine r_no rfl ?_
  refine s_pkt ?_
  refine k_nilD (by kernel_rfl) ?_
  refine k_seq ?_
  refine awp_true rfl ?_
  refine awp_seq ?_
  refine awp_region ?_
  refine s_as ?_
  refine k_nil ?_
  refine k_seq ?_
  refine awp_ret ?_
  refine k_blk_ret ?_
  refine k_seq_ret ?_
  refine k_rnd_ret2 ?_
  refine k_blk_ret ?_
  refine k_seq_ret ?_
  refine k_fin ?_
  obtain rfl := Option.some.inj hF7
  exact ends_gen [] [] (by rw [Try.results78]; exact (res_tmp (by conv => lhs; whnf) res_nil))
  refine s_mv ?_
  refine s_mv ?_
  replace hF7 := bind_some' hF7
  obtain ⟨v10, hv10, hF8⟩ := hF7
  refine s_sl01 Form.row (fun y => Form.row_len y) hv10 yU30 yE30 ?_
  refine s_ldW yA32 yS32 ?_
  replace hF8 := bind_some' hF8
  obtain ⟨v11, hv11, hF9⟩ := hF8
  refine s_pure [] (m_impl_isIn_ok fu _ _ _ hv11) ?_
  refine s_pkf ?_
  refine k_nilD (by kernel_rfl) ?_
  refine k_seq ?_
  refine w_cond hF9 (fun hc12 hF10 => ?_) (fun hc12 hF10 => ?_) <;> clear hF9
  refine awp_seq ?_
  refine awp_region ?_
  refine s_as ?_
  refine k_nil ?_
  refine k_seq ?_
  refine awp_ret ?_
  refine k_blk_ret ?_
  refine k_seq_ret ?_
  refine k_rnd_ret2 ?_
  refine k_blk_ret ?_
  refine k_seq_ret ?_
  refine k_fin ?_
  obtain rfl := Option.some.inj hF10
  exact ends_gen [] [] (by rw [Try.results78]; exact (res_tmp (by conv => lhs; whnf) res_nil))
  refine awp_skip ?_
  refine k_blk ?_
  refine k_seq ?_
  refine awp_region ?_
  refine s_add (winc2 hc3 hb4 hn_g1) ?_
  refine s_mv ?_
  refine k_nil ?_
  exact s_rnd2 (fu, (g1 + 1)) [] ⟨by first | omega | (dsimp only; omega), hF10, by first | omega | (dsimp only; omega)⟩ (hasR_cons (by conv => lhs; whnf) (by rfl) rfl (hasR_cons (by conv => lhs; whnf) (by rfl) rfl trivial)) trivial
  refine awp_exit ?_
  refine k_seq_exit ?_
  refine k_rnd_exit2 ?_
  refine k_blk_exit ?_
  refine k_seq ?_
  refine awp_seq ?_
  refine awp_region ?_
  refine s_mv ?_
  refine s_lenT yU30 ?_
  refine s_le ?_
  refine s_as ?_
  refine k_nil ?_
  refine k_seq ?_
  refine awp_ret ?_
  refine k_fin ?_
  obtain rfl := Option.some.inj hF2
  exact ends_gen [] [] (by rw [Try.results78]; exact (res_tmp (by conv => lhs; whnf) res_nil))
def m_impl_named_AC (fuel : Nat) : Prop := ∀ (x1 : Form) (x2 : ByteArray) (r : Bool), m_impl_named fuel x1 x2 = some r → AC Try.prog 79 [.ag [.t (.sc (.int .i64 x1.kind)), .t (.sc (.str x1.name)), .t (.sc (.int .i64 x1.n)), .t (.sl (x1.scopes.map rI)), .t (.sl (x1.kids.map Form.row))], .t (.sc (.str x2))] noOb (.t (.sc (.bool r))) noOb
theorem m_impl_named_ok (fuel : Nat) : m_impl_named_AC fuel := by
  intro x1 x2 r hF0
  unfold m_impl_named at hF0
  refine AC_intro (rs := [.t (.sc (.bool r))]) Try.func79 rfl (by kernel_rfl) (by simp [Try.ntmps79]) (by simp [noOb]) ?_
  intro C hC
  rw [Try.ntmps79]
  refine awp_seq ?_
  refine awp_region ?_
  refine s_box ?_
  refine s_as ?_
  refine k_nil ?_
  refine k_seq ?_
  refine awp_seq ?_
  refine awp_region ?_
  refine s_fa yF32_0 ?_
  refine s_ld1 yA3 ?_
  refine s_eq ?_
  refine s_mv ?_
  refine w_guard _ 8 hF0 (fun hc1 hF1 => ?_) (fun hc1 hF1 => ?_) <;> clear hF0
  refine s_fa yF32_1 ?_
  refine s_ld1 yA9 ?_
  refine s_mv ?_
  refine s_eqS ?_
  refine s_pkt ?_
  refine s_as ?_
  refine k_nil ?_
  refine k_seq ?_
  refine awp_ret ?_
  refine k_fin ?_
  obtain rfl := Option.some.inj hF1
  exact ends_gen [] [] (by rw [Try.results79]; exact (res_tmp (by conv => lhs; whnf) res_nil))
  refine r_no rfl ?_
  refine r_no rfl ?_
  refine r_no rfl ?_
  refine r_no rfl ?_
  refine s_pkf ?_
  refine s_as ?_
  refine k_nil ?_
  refine k_seq ?_
  refine awp_ret ?_
  refine k_fin ?_
  obtain rfl := Option.some.inj hF1
  exact ends_gen [] [] (by rw [Try.results79]; exact (res_tmp (by conv => lhs; whnf) res_nil))
def m_impl_dotsAt_1_AC (fuel : Nat) : Prop := ∀ (x1 : Form) (r : Bool), m_impl_dotsAt_1 fuel x1 = some r → AC Try.prog 145 [.ag [.t (.sc (.int .i64 x1.kind)), .t (.sc (.str x1.name)), .t (.sc (.int .i64 x1.n)), .t (.sl (x1.scopes.map rI)), .t (.sl (x1.kids.map Form.row))]] noOb (.t (.sc (.bool r))) noOb
theorem m_impl_dotsAt_1_ok (fuel : Nat) : m_impl_dotsAt_1_AC fuel := by
  intro x1 r hF0
  unfold m_impl_dotsAt_1 at hF0
  refine AC_intro (rs := [.t (.sc (.bool r))]) Try.func145 rfl (by kernel_rfl) (by simp [Try.ntmps145]) (by simp [noOb]) ?_
  intro C hC
  rw [Try.ntmps145]
  refine awp_seq ?_
  refine awp_region ?_
  refine s_box ?_
  refine s_as ?_
  refine k_nil ?_
  refine k_seq ?_
  refine awp_seq ?_
  refine awp_region ?_
  refine s_ldW yA32 yS32 ?_
  replace hF0 := bind_some' hF0
  obtain ⟨v1, hv1, hF1⟩ := hF0
  refine s_pure [] (m_impl_named_ok fuel _ _ _ hv1) ?_
  refine s_as ?_
  refine k_nil ?_
  refine k_seq ?_
  refine awp_ret ?_
  refine k_fin ?_
  obtain rfl := Option.some.inj hF1
  exact ends_gen [] [] (by rw [Try.results145]; exact (res_tmp (by conv => lhs; whnf) res_nil))
def m_slices_IndexFunc_Form_dotsAt_1_AC (fuel : Nat) : Prop := ∀ (x1 : (List Form)) (r : Int), m_slices_IndexFunc_Form_dotsAt_1 fuel x1 = some r → AC Try.prog 144 [.t (.sl (x1.map Form.row)), .fn 145 []] noOb (.t (.sc (.int .i64 r))) noOb
theorem m_slices_IndexFunc_Form_dotsAt_1_ok (fuel : Nat) : m_slices_IndexFunc_Form_dotsAt_1_AC fuel := by
  intro x1 r hF0
  unfold m_slices_IndexFunc_Form_dotsAt_1 at hF0
  refine AC_intro (rs := [.t (.sc (.int .i64 r))]) Try.func144 rfl (by kernel_rfl) (by simp [Try.ntmps144]) (by simp [noOb]) ?_
  intro C hC
  rw [Try.ntmps144]
  refine awp_seq ?_
  refine awp_region ?_
  refine s_as ?_
  refine k_nil ?_
  refine k_seq ?_
  refine awp_seq ?_
  refine awp_seq ?_
  refine awp_region ?_
  refine s_mv ?_
  refine s_lenT yU30 ?_
  refine s_mv ?_
  refine k_nil ?_
  refine k_seq ?_
  refine awp_block ?_
  refine awp_frame2 [4, 5, 8, 9, 10, 11, 12, 13, 14, 15, 16, 17, 18] [] [] [] (fun a : Nat × Int => a.1) (fun a : Nat × Int => [(4, .t (.sc (.int .i64 0))), (8, .t (.sc (.int .i64 a.2)))]) (fun a : Nat × Int => []) (fun a : Nat × Int => a.1 ≤ fuel ∧ m_slices_IndexFunc_Form_dotsAt_1_l1 a.1 x1 a.2 = some r ∧ 0 ≤ a.2) (fuel, 0) ⟨Nat.le_refl _, hF0, by simp⟩ (by rfl) (by rfl) (fun _ => rfl) (hasF_cons (by conv => lhs; whnf) (by rfl) (hasF_cons (by conv => lhs; whnf) (by rfl) hasF_nil)) hasO_nil (fun _ h => by cases h) freshS_nil freshM_nil ?_
  clear hF0
  rintro ⟨fu, g1⟩ ⟨hl2, hF1, hn_g1⟩
  dsimp only at hl2 hF1 hn_g1 ⊢
  obtain _ | fu := fu
  · rw [m_slices_IndexFunc_Form_dotsAt_1_l1] at hF1; cases hF1
  rw [m_slices_IndexFunc_Form_dotsAt_1_l1] at hF1
  refine awp_seq ?_
  refine awp_region ?_
  refine s_lt ?_
  refine k_nil ?_
  refine k_seq ?_
  refine awp_seq ?_
  refine w_cond hF1 (fun hc3 hF2 => ?_) (fun hc3 hF2 => ?_) <;> clear hF1
  refine awp_lenT 0 (fun hb4 => ?_)
  refine awp_skip ?_
  refine k_seq ?_
  refine awp_seq ?_
  refine awp_block ?_
  refine awp_seq ?_
  refine awp_region ?_
  refine s_mv ?_
  refine s_as ?_
  refine k_nil ?_
  refine k_seq ?_
  refine awp_seq ?_
  refine awp_region ?_
  refine s_mv ?_
  refine s_mv ?_
  refine s_mv ?_
  replace hF2 := bind_some' hF2
  obtain ⟨v5, hv5, hF3⟩ := hF2
  refine s_ixT Form.row hv5 (Form.row_eq _) yE30 ?_
  refine s_ldN yA32 yS32 ?_
  replace hF3 := bind_some' hF3
  obtain ⟨v6, hv6, hF4⟩ := hF3
  refine s_pure [] (m_impl_dotsAt_1_ok fu _ _ hv6) ?_
  refine k_nil ?_
  refine k_seq ?_
  refine w_cond hF4 (fun hc7 hF5 => ?_) (fun hc7 hF5 => ?_) <;> clear hF4
  refine awp_seq ?_
  refine awp_region ?_
  refine s_mv ?_
  refine s_as ?_
  refine k_nil ?_
  refine k_seq ?_
  refine awp_ret ?_
  refine k_blk_ret ?_
  refine k_seq_ret ?_
  refine k_rnd_ret2 ?_
  refine k_blk_ret ?_
  refine k_seq_ret ?_
  refine k_fin ?_
  obtain rfl := Option.some.inj hF5
  exact ends_gen [] [] (by rw [Try.results144]; exact (res_tmp (by conv => lhs; whnf) res_nil))
  refine awp_skip ?_
  refine k_blk ?_
  refine k_seq ?_
  refine awp_region ?_
  refine s_add (winc2 hc3 hb4 hn_g1) ?_
  refine s_mv ?_
  refine k_nil ?_
  exact s_rnd2 (fu, (g1 + 1)) [] ⟨by first | omega | (dsimp only; omega), hF5, by first | omega | (dsimp only; omega)⟩ (hasR_cons (by conv => lhs; whnf) (by rfl) rfl (hasR_cons (by conv => lhs; whnf) (by rfl) rfl trivial)) trivial
  refine awp_exit ?_
  refine k_seq_exit ?_
  refine k_rnd_exit2 ?_
  refine k_blk_exit ?_
  refine k_seq ?_
  refine awp_seq ?_
  refine awp_region ?_
  refine s_as ?_
  refine k_nil ?_
  refine k_seq ?_
  refine awp_ret ?_
  refine k_fin ?_
  obtain rfl := Option.some.inj hF2
  exact ends_gen [] [] (by rw [Try.results144]; exact (res_tmp (by conv => lhs; whnf) res_nil))
def m_impl_dotsAt_AC (fuel : Nat) : Prop := ∀ (x1 : (List Form)) (r : Int), m_impl_dotsAt fuel x1 = some r → AC Try.prog 118 [.t (.sl (x1.map Form.row))] noOb (.t (.sc (.int .i64 r))) noOb
theorem m_impl_dotsAt_ok (fuel : Nat) : m_impl_dotsAt_AC fuel := by
  intro x1 r hF0
  unfold m_impl_dotsAt at hF0
  refine AC_intro (rs := [.t (.sc (.int .i64 r))]) Try.func118 rfl (by kernel_rfl) (by simp [Try.ntmps118]) (by simp [noOb]) ?_
  intro C hC
  rw [Try.ntmps118]
  refine awp_seq ?_
  refine awp_region ?_
  refine s_as ?_
  refine k_nil ?_
  refine k_seq ?_
  refine awp_seq ?_
  refine awp_region ?_
  refine s_mv ?_
  replace hF0 := bind_some' hF0
  obtain ⟨v1, hv1, hF1⟩ := hF0
  refine s_pure [] (m_slices_IndexFunc_Form_dotsAt_1_ok fuel _ _ hv1) ?_
  refine s_as ?_
  refine k_nil ?_
  refine k_seq ?_
  refine awp_ret ?_
  refine k_fin ?_
  obtain rfl := Option.some.inj hF1
  exact ends_gen [] [] (by rw [Try.results118]; exact (res_tmp (by conv => lhs; whnf) res_nil))
end Go.Abs
