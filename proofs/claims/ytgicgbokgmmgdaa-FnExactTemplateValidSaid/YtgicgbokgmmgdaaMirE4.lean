/- The functions answer what their mirrors answer. -/
import Derived.Test.YtgicgbokgmmgdaaMirF
import Derived.Test.YtgicgbokgmmgdaaMirE0
import Derived.Test.YtgicgbokgmmgdaaMirE2
import Derived.Test.YtgicgbokgmmgdaaMirE3
set_option linter.unusedSimpArgs false
set_option maxHeartbeats 4000000
set_option linter.unusedVariables false
namespace Go.Abs
open Go.Proofs
def m_spec_HitsValid_AC (fuel : Nat) : Prop := ∀ (x1 : (List Hit)) (r : Bool), m_spec_HitsValid fuel x1 = some r → AC Try.prog 47 [.t (.sl (x1.map Hit.row))] noOb (.t (.sc (.bool r))) noOb
theorem m_spec_HitsValid_ok (fuel : Nat) : m_spec_HitsValid_AC fuel := by
  intro x1 r hF0
  unfold m_spec_HitsValid at hF0
  refine AC_intro (rs := [.t (.sc (.bool r))]) Try.func47 rfl (by kernel_rfl) (by simp [Try.ntmps47]) (by simp [noOb]) ?_
  intro C hC
  rw [Try.ntmps47]
  refine awp_seq ?_
  refine awp_region ?_
  refine s_as ?_
  refine k_nil ?_
  refine k_seq ?_
  refine awp_seq ?_
  refine awp_seq ?_
  refine awp_region ?_
  refine s_as ?_
  refine k_nil ?_
  refine k_seq ?_
  refine awp_block ?_
  refine awp_frame2 [2, 3, 4, 5, 6, 7, 8, 9, 10, 11, 12, 13, 14, 15, 16, 17, 18, 19, 20, 21, 22, 23, 24, 25, 26, 27, 28, 29, 30, 31, 32, 33, 34, 35, 36, 37, 38, 39, 40, 41] [] [] [] (fun a : Nat × Int => a.1) (fun a : Nat × Int => [(2, .t (.sc (.bool false))), (3, .t (.sc (.int .i64 a.2)))]) (fun a : Nat × Int => []) (fun a : Nat × Int => a.1 ≤ fuel ∧ m_spec_HitsValid_l1 a.1 x1 a.2 = some r) (fuel, 0) ⟨Nat.le_refl _, hF0⟩ (by rfl) (by rfl) (fun _ => rfl) (hasF_cons (by conv => lhs; whnf) (by rfl) (hasF_cons (by conv => lhs; whnf) (by rfl) hasF_nil)) hasO_nil (fun _ h => by cases h) freshS_nil freshM_nil ?_
  clear hF0
  rintro ⟨fu, g1⟩ ⟨hl2, hF1⟩
  dsimp only at hl2 hF1 ⊢
  obtain _ | fu := fu
  · rw [m_spec_HitsValid_l1] at hF1; cases hF1
  rw [m_spec_HitsValid_l1] at hF1
  refine awp_seq ?_
  refine awp_seq ?_
  refine awp_region ?_
  refine s_mv ?_
  refine s_mv ?_
  refine s_lenT yU34 ?_
  refine s_lt ?_
  refine s_mv ?_
  refine w_guard _ 9 hF1 (fun hc3 hF2 => ?_) (fun hc3 hF2 => ?_) <;> clear hF1
  refine s_mv ?_
  refine s_le ?_
  refine s_pkt ?_
  refine k_nil ?_
  refine k_seq ?_
  refine w_cond hF2 (fun hc4 hF3 => ?_) (fun hc4 hF3 => ?_) <;> clear hF2
  refine awp_skip ?_
  refine k_seq ?_
  refine awp_seq ?_
  refine awp_block ?_
  refine awp_seq ?_
  refine awp_seq ?_
  refine awp_draw yMix (by kernel_rfl) ?_
  refine s_mv ?_
  refine s_mv ?_
  replace hF3 := bind_some' hF3
  obtain ⟨v5, hv5, hF4⟩ := hF3
  refine s_ixT Hit.row hv5 (Hit.row_eq _) yE34 ?_
  refine s_ldN yA65 yS65 ?_
  refine s_mv ?_
  refine s_mv ?_
  replace hF4 := bind_some' hF4
  obtain ⟨v6, hv6, hF5⟩ := hF4
  refine s_ixT Hit.row hv6 (Hit.row_eq _) yE34 ?_
  refine s_fa yF65_1 ?_
  refine s_ld1 yA3 ?_
  replace hF5 := bind_some' hF5
  obtain ⟨v7, hv7, hF6⟩ := hF5
  refine s_pure [] (m_spec_l4Hit_ok fu _ _ _ hv7) ?_
  refine s_not ?_
  refine k_nilD (by kernel_rfl) ?_
  refine k_seq ?_
  refine w_cond hF6 (fun hc8 hF7 => ?_) (fun hc8 hF7 => ?_) <;> clear hF6
  refine awp_seq ?_
  refine awp_region ?_
  refine s_as ?_
  refine k_nil ?_
  refine k_seq ?_
  refine awp_ret ?_
  refine k_seq_ret ?_
  refine k_blk_ret ?_
  refine k_seq_ret ?_
  refine k_rnd_ret2 ?_
  refine k_blk_ret ?_
  refine k_seq_ret ?_
  refine k_fin ?_
  obtain rfl := Option.some.inj hF7
  exact ends_gen [] [] (by rw [Try.results47]; exact (res_tmp (by conv => lhs; whnf) res_nil))
  refine awp_skip ?_
  refine k_seq ?_
  refine awp_seq ?_
  refine awp_region ?_
  refine s_as ?_
  refine k_nil ?_
  refine k_seq ?_
  refine awp_block ?_
  refine awp_frame2 [2, 4, 26, 27, 28, 29, 30, 31, 32, 33, 34, 35, 36, 37, 38, 39, 40, 41] [] [] [] (fun a : Nat × Int => a.1) (fun a : Nat × Int => [(2, .t (.sc (.bool false))), (4, .t (.sc (.int .i64 a.2)))]) (fun a : Nat × Int => []) (fun a : Nat × Int => a.1 ≤ fu ∧ m_spec_HitsValid_l2 a.1 x1 g1 a.2 = some r) (fu, 0) ⟨Nat.le_refl _, hF7⟩ (by rfl) (by rfl) (fun _ => rfl) (hasF_cons (by conv => lhs; whnf) (by rfl) (hasF_cons (by conv => lhs; whnf) (by rfl) hasF_nil)) hasO_nil (fun _ h => by cases h) freshS_nil freshM_nil ?_
  clear hF7
  rintro ⟨fu, g9⟩ ⟨hl10, hF8⟩
  dsimp only at hl10 hF8 ⊢
  obtain _ | fu := fu
  · rw [m_spec_HitsValid_l2] at hF8; cases hF8
  rw [m_spec_HitsValid_l2] at hF8
  refine awp_seq ?_
  refine awp_seq ?_
  refine awp_region ?_
  refine s_mv ?_
  refine s_mv ?_
  refine s_lt ?_
  refine k_nil ?_
  refine k_seq ?_
  refine w_cond hF8 (fun hc11 hF9 => ?_) (fun hc11 hF9 => ?_) <;> clear hF8
  refine awp_skip ?_
  refine k_seq ?_
  refine awp_seq ?_
  refine awp_block ?_
  refine awp_seq ?_
  refine awp_draw yMix (by kernel_rfl) ?_
  refine s_mv ?_
  refine s_mv ?_
  replace hF9 := bind_some' hF9
  obtain ⟨v12, hv12, hF10⟩ := hF9
  refine s_ixT Hit.row hv12 (Hit.row_eq _) yE34 ?_
  refine s_fa yF65_0 ?_
  refine s_ldN yA32 yS32 ?_
  refine s_mv ?_
  refine s_mv ?_
  replace hF10 := bind_some' hF10
  obtain ⟨v13, hv13, hF11⟩ := hF10
  refine s_ixT Hit.row hv13 (Hit.row_eq _) yE34 ?_
  refine s_fa yF65_0 ?_
  refine s_ldN yA32 yS32 ?_
  replace hF11 := bind_some' hF11
  obtain ⟨v14, hv14, hF12⟩ := hF11
  refine s_pure [] (m_spec_FormSame_ok fu _ _ _ hv14) ?_
  refine k_nilD (by kernel_rfl) ?_
  refine k_seq ?_
  refine w_cond hF12 (fun hc15 hF13 => ?_) (fun hc15 hF13 => ?_) <;> clear hF12
  refine awp_seq ?_
  refine awp_region ?_
  refine s_as ?_
  refine k_nil ?_
  refine k_seq ?_
  refine awp_ret ?_
  refine k_blk_ret ?_
  refine k_seq_ret ?_
  refine k_rnd_ret2 ?_
  refine k_blk_ret ?_
  refine k_blk_ret ?_
  refine k_seq_ret ?_
  refine k_rnd_ret2 ?_
  refine k_blk_ret ?_
  refine k_seq_ret ?_
  refine k_fin ?_
  obtain rfl := Option.some.inj hF13
  exact ends_gen [] [] (by rw [Try.results47]; exact (res_tmp (by conv => lhs; whnf) res_nil))
  refine awp_skip ?_
  refine k_blk ?_
  refine k_seq ?_
  refine awp_region ?_
  refine s_mv ?_
  refine s_add rfl ?_
  refine s_as ?_
  refine k_nil ?_
  exact s_rnd2 (fu, (w64 (g9 + 1))) [] ⟨by first | omega | (dsimp only; omega), hF13⟩ (hasR_cons (by conv => lhs; whnf) (by rfl) rfl (hasR_cons (by conv => lhs; whnf) (by rfl) rfl trivial)) trivial
  refine awp_exit ?_
  refine k_seq_exit ?_
  refine k_rnd_exit2 ?_
  refine k_blk_exit ?_
  refine k_blk ?_
  refine k_seq ?_
  refine awp_region ?_
  refine s_mv ?_
  refine s_add rfl ?_
  refine s_as ?_
  refine k_nil ?_
  exact s_rnd2 (fu, (w64 (g1 + 1))) [] ⟨by first | omega | (dsimp only; omega), hF9⟩ (hasR_cons (by conv => lhs; whnf) (by rfl) rfl (hasR_cons (by conv => lhs; whnf) (by rfl) rfl trivial)) trivial
  refine awp_exit ?_
  refine k_seq_exit ?_
  refine k_rnd_exit2 ?_
  refine k_blk_exit ?_
  refine k_seq ?_
  refine awp_seq ?_
  refine awp_region ?_
  refine s_mv ?_
  refine s_lenT yU34 ?_
  refine s_le ?_
  refine s_as ?_
  refine k_nil ?_
  refine k_seq ?_
  refine awp_ret ?_
  refine k_fin ?_
  obtain rfl := Option.some.inj hF3
  exact ends_gen [] [] (by rw [Try.results47]; exact (res_tmp (by conv => lhs; whnf) res_nil))
  refine r_no rfl ?_
  refine r_no rfl ?_
  refine s_pkf ?_
  refine k_nil ?_
  refine k_seq ?_
  refine awp_false rfl ?_
  refine awp_exit ?_
  refine k_seq_exit ?_
  refine k_rnd_exit2 ?_
  refine k_blk_exit ?_
  refine k_seq ?_
  refine awp_seq ?_
  refine awp_region ?_
  refine s_mv ?_
  refine s_lenT yU34 ?_
  refine s_le ?_
  refine s_as ?_
  refine k_nil ?_
  refine k_seq ?_
  refine awp_ret ?_
  refine k_fin ?_
  obtain rfl := Option.some.inj hF2
  exact ends_gen [] [] (by rw [Try.results47]; exact (res_tmp (by conv => lhs; whnf) res_nil))
def m_laws_szIntS_AC (fuel : Nat) : Prop := ∀ (x1 : (List Int)) (x2 : Int) (r : Int), m_laws_szIntS fuel x1 x2 = some r → AC Try.prog 53 [.t (.sl (x1.map rI)), .t (.sc (.int .i64 x2))] noOb (.t (.sc (.int .i64 r))) noOb
theorem m_laws_szIntS_ok (fuel : Nat) : m_laws_szIntS_AC fuel := by
  intro x1 x2 r hF0
  unfold m_laws_szIntS at hF0
  refine AC_intro (rs := [.t (.sc (.int .i64 r))]) Try.func53 rfl (by kernel_rfl) (by simp [Try.ntmps53]) (by simp [noOb]) ?_
  intro C hC
  rw [Try.ntmps53]
  refine awp_seq ?_
  refine awp_region ?_
  refine s_as ?_
  refine k_nil ?_
  refine k_seq ?_
  refine awp_seq ?_
  refine awp_region ?_
  refine s_mv ?_
  refine s_mv ?_
  refine s_lenT yU22 ?_
  refine s_sub rfl ?_
  refine s_as ?_
  refine k_nil ?_
  refine k_seq ?_
  refine awp_seq ?_
  refine awp_seq ?_
  refine awp_region ?_
  refine s_mv ?_
  refine s_lt ?_
  refine k_nil ?_
  refine k_seq ?_
  refine w_cond hF0 (fun hc1 hF1 => ?_) (fun hc1 hF1 => ?_) <;> clear hF0
  refine awp_seq ?_
  refine awp_region ?_
  refine s_as ?_
  refine k_nil ?_
  refine k_seq ?_
  refine awp_ret ?_
  refine k_seq_ret ?_
  refine k_fin ?_
  obtain rfl := Option.some.inj hF1
  exact ends_gen [] [] (by rw [Try.results53]; exact (res_tmp (by conv => lhs; whnf) res_nil))
  refine awp_skip ?_
  refine k_seq ?_
  refine awp_seq ?_
  refine awp_region ?_
  refine s_mv ?_
  refine s_as ?_
  refine k_nil ?_
  refine k_seq ?_
  refine awp_ret ?_
  refine k_fin ?_
  obtain rfl := Option.some.inj hF1
  exact ends_gen [] [] (by rw [Try.results53]; exact (res_tmp (by conv => lhs; whnf) res_nil))
def m_laws_szForm_AC (fuel : Nat) : Prop := ∀ (x1 : Form) (x2 : Int) (r : Int), m_laws_szForm fuel x1 x2 = some r → AC Try.prog 12 [.ag [.t (.sc (.int .i64 x1.kind)), .t (.sc (.str x1.name)), .t (.sc (.int .i64 x1.n)), .t (.sl (x1.scopes.map rI)), .t (.sl (x1.kids.map Form.row))], .t (.sc (.int .i64 x2))] noOb (.t (.sc (.int .i64 r))) noOb
def m_laws_szFormS_AC (fuel : Nat) : Prop := ∀ (x1 : (List Form)) (x2 : Int) (r : Int), m_laws_szFormS fuel x1 x2 = some r → AC Try.prog 21 [.t (.sl (x1.map Form.row)), .t (.sc (.int .i64 x2))] noOb (.t (.sc (.int .i64 r))) noOb
theorem m_laws_szForm_st (fu : Nat) (ih_m_laws_szForm : ∀ k, k ≤ fu → m_laws_szForm_AC k) (ih_m_laws_szFormS : ∀ k, k ≤ fu → m_laws_szFormS_AC k) : m_laws_szForm_AC (fu + 1) := by
  intro x1 x2 r hF0
  rw [m_laws_szForm] at hF0
  refine AC_intro (rs := [.t (.sc (.int .i64 r))]) Try.func12 rfl (by kernel_rfl) (by simp [Try.ntmps12]) (by simp [noOb]) ?_
  intro C hC
  rw [Try.ntmps12]
  refine awp_seq ?_
  refine awp_region ?_
  refine s_box ?_
  refine s_as ?_
  refine k_nil ?_
  refine k_seq ?_
  refine awp_seq ?_
  refine awp_region ?_
  refine s_mv ?_
  refine s_fa yF25_1 ?_
  refine s_ld1 yA9 ?_
  refine s_lenS yU9 ?_
  refine s_sub rfl ?_
  refine s_as ?_
  refine k_nil ?_
  refine k_seq ?_
  refine awp_seq ?_
  refine awp_seq ?_
  refine awp_region ?_
  refine s_mv ?_
  refine s_lt ?_
  refine k_nil ?_
  refine k_seq ?_
  refine w_cond hF0 (fun hc1 hF1 => ?_) (fun hc1 hF1 => ?_) <;> clear hF0
  refine awp_seq ?_
  refine awp_region ?_
  refine s_as ?_
  refine k_nil ?_
  refine k_seq ?_
  refine awp_ret ?_
  refine k_seq_ret ?_
  refine k_fin ?_
  obtain rfl := Option.some.inj hF1
  exact ends_gen [] [] (by rw [Try.results12]; exact (res_tmp (by conv => lhs; whnf) res_nil))
  refine awp_skip ?_
  refine k_seq ?_
  refine awp_seq ?_
  refine awp_region ?_
  refine s_fa yF25_3 ?_
  refine s_ld1 yA22 ?_
  refine s_mv ?_
  replace hF1 := bind_some' hF1
  obtain ⟨v2, hv2, hF2⟩ := hF1
  refine s_pure [] (m_laws_szIntS_ok fu _ _ _ hv2) ?_
  refine s_as ?_
  refine k_nil ?_
  refine k_seq ?_
  refine awp_seq ?_
  refine awp_seq ?_
  refine awp_region ?_
  refine s_mv ?_
  refine s_lt ?_
  refine k_nil ?_
  refine k_seq ?_
  refine w_cond hF2 (fun hc3 hF3 => ?_) (fun hc3 hF3 => ?_) <;> clear hF2
  refine awp_seq ?_
  refine awp_region ?_
  refine s_as ?_
  refine k_nil ?_
  refine k_seq ?_
  refine awp_ret ?_
  refine k_seq_ret ?_
  refine k_fin ?_
  obtain rfl := Option.some.inj hF3
  exact ends_gen [] [] (by rw [Try.results12]; exact (res_tmp (by conv => lhs; whnf) res_nil))
  refine awp_skip ?_
  refine k_seq ?_
  refine awp_seq ?_
  refine awp_region ?_
  refine s_fa yF25_4 ?_
  refine s_ld1 yA23 ?_
  refine s_mv ?_
  replace hF3 := bind_some' hF3
  obtain ⟨v4, hv4, hF4⟩ := hF3
  refine s_pure [] (ih_m_laws_szFormS fu (by omega) _ _ _ hv4) ?_
  refine s_as ?_
  refine k_nil ?_
  refine k_seq ?_
  refine awp_seq ?_
  refine awp_seq ?_
  refine awp_region ?_
  refine s_mv ?_
  refine s_lt ?_
  refine k_nil ?_
  refine k_seq ?_
  refine w_cond hF4 (fun hc5 hF5 => ?_) (fun hc5 hF5 => ?_) <;> clear hF4
  refine awp_seq ?_
  refine awp_region ?_
  refine s_as ?_
  refine k_nil ?_
  refine k_seq ?_
  refine awp_ret ?_
  refine k_seq_ret ?_
  refine k_fin ?_
  obtain rfl := Option.some.inj hF5
  exact ends_gen [] [] (by rw [Try.results12]; exact (res_tmp (by conv => lhs; whnf) res_nil))
  refine awp_skip ?_
  refine k_seq ?_
  refine awp_seq ?_
  refine awp_region ?_
  refine s_mv ?_
  refine s_as ?_
  refine k_nil ?_
  refine k_seq ?_
  refine awp_ret ?_
  refine k_fin ?_
  obtain rfl := Option.some.inj hF5
  exact ends_gen [] [] (by rw [Try.results12]; exact (res_tmp (by conv => lhs; whnf) res_nil))
theorem m_laws_szFormS_st (fu : Nat) (ih_m_laws_szForm : ∀ k, k ≤ fu → m_laws_szForm_AC k) (ih_m_laws_szFormS : ∀ k, k ≤ fu → m_laws_szFormS_AC k) : m_laws_szFormS_AC (fu + 1) := by
  intro x1 x2 r hF0
  rw [m_laws_szFormS] at hF0
  refine AC_intro (rs := [.t (.sc (.int .i64 r))]) Try.func21 rfl (by kernel_rfl) (by simp [Try.ntmps21]) (by simp [noOb]) ?_
  intro C hC
  rw [Try.ntmps21]
  refine awp_seq ?_
  refine awp_region ?_
  refine s_as ?_
  refine k_nil ?_
  refine k_seq ?_
  refine awp_seq ?_
  refine awp_region ?_
  refine s_mv ?_
  refine s_mv ?_
  refine s_lenT yU23 ?_
  refine s_sub rfl ?_
  refine s_as ?_
  refine k_nil ?_
  refine k_seq ?_
  refine awp_seq ?_
  refine awp_seq ?_
  refine awp_region ?_
  refine s_mv ?_
  refine s_lt ?_
  refine k_nil ?_
  refine k_seq ?_
  refine w_cond hF0 (fun hc1 hF1 => ?_) (fun hc1 hF1 => ?_) <;> clear hF0
  refine awp_seq ?_
  refine awp_region ?_
  refine s_as ?_
  refine k_nil ?_
  refine k_seq ?_
  refine awp_ret ?_
  refine k_seq_ret ?_
  refine k_fin ?_
  obtain rfl := Option.some.inj hF1
  exact ends_gen [] [] (by rw [Try.results21]; exact (res_tmp (by conv => lhs; whnf) res_nil))
  refine awp_skip ?_
  refine k_seq ?_
  refine awp_seq ?_
  refine awp_seq ?_
  refine awp_region ?_
  refine s_as ?_
  refine k_nil ?_
  refine k_seq ?_
  refine awp_block ?_
  refine awp_frame2 [1, 4, 5, 12, 13, 14, 15, 16, 17, 18, 19, 20, 21, 22, 23, 24, 25] [] [] [] (fun a : Nat × Int × Int => a.1) (fun a : Nat × Int × Int => [(1, .t (.sc (.int .i64 a.2.1))), (4, .t (.sc (.int .i64 0))), (5, .t (.sc (.int .i64 a.2.2)))]) (fun a : Nat × Int × Int => []) (fun a : Nat × Int × Int => a.1 ≤ fu ∧ m_laws_szFormS_l1 a.1 x1 a.2.1 a.2.2 = some r ∧ 0 ≤ a.2.2) (fu, (w64 (x2 - (x1.length : Int))), 0) ⟨Nat.le_refl _, hF1, by simp⟩ (by rfl) (by rfl) (fun _ => rfl) (hasF_cons (by conv => lhs; whnf) (by rfl) (hasF_cons (by conv => lhs; whnf) (by rfl) (hasF_cons (by conv => lhs; whnf) (by rfl) hasF_nil))) hasO_nil (fun _ h => by cases h) freshS_nil freshM_nil ?_
  clear hF1
  rintro ⟨fu, g2, g3⟩ ⟨hl4, hF2, hn_g3⟩
  dsimp only at hl4 hF2 hn_g3 ⊢
  obtain _ | fu := fu
  · rw [m_laws_szFormS_l1] at hF2; cases hF2
  rw [m_laws_szFormS_l1] at hF2
  refine awp_seq ?_
  refine awp_seq ?_
  refine awp_region ?_
  refine s_mv ?_
  refine s_mv ?_
  refine s_lenT yU23 ?_
  refine s_lt ?_
  refine k_nil ?_
  refine k_seq ?_
  refine w_cond hF2 (fun hc5 hF3 => ?_) (fun hc5 hF3 => ?_) <;> clear hF2
  refine awp_lenT 0 (fun hb6 => ?_)
  refine awp_skip ?_
  refine k_seq ?_
  refine awp_seq ?_
  refine awp_block ?_
  refine awp_seq ?_
  refine awp_region ?_
  refine s_mv ?_
  refine s_mv ?_
  replace hF3 := bind_some' hF3
  obtain ⟨v7, hv7, hF4⟩ := hF3
  refine s_ixT Form.row hv7 (Form.row_eq _) yE23 ?_
  refine s_ldN yA25 yS25 ?_
  refine s_mv ?_
  replace hF4 := bind_some' hF4
  obtain ⟨v8, hv8, hF5⟩ := hF4
  refine s_pure [] (ih_m_laws_szForm fu (by omega) _ _ _ hv8) ?_
  refine s_as ?_
  refine k_nil ?_
  refine k_seq ?_
  refine awp_seq ?_
  refine awp_region ?_
  refine s_mv ?_
  refine s_lt ?_
  refine k_nil ?_
  refine k_seq ?_
  refine w_cond hF5 (fun hc9 hF6 => ?_) (fun hc9 hF6 => ?_) <;> clear hF5
  refine awp_seq ?_
  refine awp_region ?_
  refine s_as ?_
  refine k_nil ?_
  refine k_seq ?_
  refine awp_ret ?_
  refine k_blk_ret ?_
  refine k_seq_ret ?_
  refine k_rnd_ret2 ?_
  refine k_blk_ret ?_
  refine k_seq_ret ?_
  refine k_fin ?_
  obtain rfl := Option.some.inj hF6
  exact ends_gen [] [] (by rw [Try.results21]; exact (res_tmp (by conv => lhs; whnf) res_nil))
  refine awp_skip ?_
  refine k_blk ?_
  refine k_seq ?_
  refine awp_region ?_
  refine s_mv ?_
  refine s_add (winc2 hc5 hb6 hn_g3) ?_
  refine s_as ?_
  refine k_nil ?_
  exact s_rnd2 (fu, v8, (g3 + 1)) [] ⟨by first | omega | (dsimp only; omega), hF6, by first | omega | (dsimp only; omega)⟩ (hasR_cons (by conv => lhs; whnf) (by rfl) rfl (hasR_cons (by conv => lhs; whnf) (by rfl) rfl (hasR_cons (by conv => lhs; whnf) (by rfl) rfl trivial))) trivial
  refine awp_exit ?_
  refine k_seq_exit ?_
  refine k_rnd_exit2 ?_
  refine k_blk_exit ?_
  refine k_seq ?_
  refine awp_seq ?_
  refine awp_region ?_
  refine s_mv ?_
  refine s_as ?_
  refine k_nil ?_
  refine k_seq ?_
  refine awp_ret ?_
  refine k_fin ?_
  obtain rfl := Option.some.inj hF3
  exact ends_gen [] [] (by rw [Try.results21]; exact (res_tmp (by conv => lhs; whnf) res_nil))
theorem m_laws_szForm_all (fuel : Nat) : m_laws_szForm_AC fuel ∧ m_laws_szFormS_AC fuel := by
  induction fuel using Nat.strongRecOn with
  | _ N ih =>
    cases N with
    | zero => exact ⟨(by intro x1 x2 r h; rw [m_laws_szForm] at h; cases h), (by intro x1 x2 r h; rw [m_laws_szFormS] at h; cases h)⟩
    | succ fu => exact ⟨m_laws_szForm_st fu (fun k hk => (ih k (by omega)).1) (fun k hk => (ih k (by omega)).2), m_laws_szFormS_st fu (fun k hk => (ih k (by omega)).1) (fun k hk => (ih k (by omega)).2)⟩
theorem m_laws_szForm_ok (fuel : Nat) : m_laws_szForm_AC fuel := (m_laws_szForm_all fuel).1
theorem m_laws_szFormS_ok (fuel : Nat) : m_laws_szFormS_AC fuel := (m_laws_szForm_all fuel).2
def m_laws_szHit_AC (fuel : Nat) : Prop := ∀ (x1 : Hit) (x2 : Int) (r : Int), m_laws_szHit fuel x1 x2 = some r → AC Try.prog 54 [.ag [.t (.sc (.int .i64 x1.name.kind)), .t (.sc (.str x1.name.name)), .t (.sc (.int .i64 x1.name.n)), .t (.sl (x1.name.scopes.map rI)), .t (.sl (x1.name.kids.map Form.row)), .t (.sc (.int .i64 x1.depth)), .t (.sc (.int .i64 x1.one.kind)), .t (.sc (.str x1.one.name)), .t (.sc (.int .i64 x1.one.n)), .t (.sl (x1.one.scopes.map rI)), .t (.sl (x1.one.kids.map Form.row)), .t (.sl (x1.many.map Hit.row))], .t (.sc (.int .i64 x2))] noOb (.t (.sc (.int .i64 r))) noOb
def m_laws_szHitS_AC (fuel : Nat) : Prop := ∀ (x1 : (List Hit)) (x2 : Int) (r : Int), m_laws_szHitS fuel x1 x2 = some r → AC Try.prog 13 [.t (.sl (x1.map Hit.row)), .t (.sc (.int .i64 x2))] noOb (.t (.sc (.int .i64 r))) noOb
theorem m_laws_szHit_st (fu : Nat) (ih_m_laws_szHit : ∀ k, k ≤ fu → m_laws_szHit_AC k) (ih_m_laws_szHitS : ∀ k, k ≤ fu → m_laws_szHitS_AC k) : m_laws_szHit_AC (fu + 1) := by
  intro x1 x2 r hF0
  rw [m_laws_szHit] at hF0
  refine AC_intro (rs := [.t (.sc (.int .i64 r))]) Try.func54 rfl (by kernel_rfl) (by simp [Try.ntmps54]) (by simp [noOb]) ?_
  intro C hC
  rw [Try.ntmps54]
  refine awp_seq ?_
  refine awp_region ?_
  refine s_box ?_
  refine s_as ?_
  refine k_nil ?_
  refine k_seq ?_
  refine awp_seq ?_
  refine awp_region ?_
  refine s_fa yF76_0 ?_
  refine s_ldN yA25 yS25 ?_
  refine s_mv ?_
  replace hF0 := bind_some' hF0
  obtain ⟨v1, hv1, hF1⟩ := hF0
  refine s_pure [] (m_laws_szForm_ok fu _ _ _ hv1) ?_
  refine s_as ?_
  refine k_nil ?_
  refine k_seq ?_
  refine awp_seq ?_
  refine awp_seq ?_
  refine awp_region ?_
  refine s_mv ?_
  refine s_lt ?_
  refine k_nil ?_
  refine k_seq ?_
  refine w_cond hF1 (fun hc2 hF2 => ?_) (fun hc2 hF2 => ?_) <;> clear hF1
  refine awp_seq ?_
  refine awp_region ?_
  refine s_as ?_
  refine k_nil ?_
  refine k_seq ?_
  refine awp_ret ?_
  refine k_seq_ret ?_
  refine k_fin ?_
  obtain rfl := Option.some.inj hF2
  exact ends_gen [] [] (by rw [Try.results54]; exact (res_tmp (by conv => lhs; whnf) res_nil))
  refine awp_skip ?_
  refine k_seq ?_
  refine awp_seq ?_
  refine awp_region ?_
  refine s_fa yF76_2 ?_
  refine s_ldN yA25 yS25 ?_
  refine s_mv ?_
  replace hF2 := bind_some' hF2
  obtain ⟨v3, hv3, hF3⟩ := hF2
  refine s_pure [] (m_laws_szForm_ok fu _ _ _ hv3) ?_
  refine s_as ?_
  refine k_nil ?_
  refine k_seq ?_
  refine awp_seq ?_
  refine awp_seq ?_
  refine awp_region ?_
  refine s_mv ?_
  refine s_lt ?_
  refine k_nil ?_
  refine k_seq ?_
  refine w_cond hF3 (fun hc4 hF4 => ?_) (fun hc4 hF4 => ?_) <;> clear hF3
  refine awp_seq ?_
  refine awp_region ?_
  refine s_as ?_
  refine k_nil ?_
  refine k_seq ?_
  refine awp_ret ?_
  refine k_seq_ret ?_
  refine k_fin ?_
  obtain rfl := Option.some.inj hF4
  exact ends_gen [] [] (by rw [Try.results54]; exact (res_tmp (by conv => lhs; whnf) res_nil))
  refine awp_skip ?_
  refine k_seq ?_
  refine awp_seq ?_
  refine awp_region ?_
  refine s_fa yF76_3 ?_
  refine s_ld1 yA26 ?_
  refine s_mv ?_
  replace hF4 := bind_some' hF4
  obtain ⟨v5, hv5, hF5⟩ := hF4
  refine s_pure [] (ih_m_laws_szHitS fu (by omega) _ _ _ hv5) ?_
  refine s_as ?_
  refine k_nil ?_
  refine k_seq ?_
  refine awp_seq ?_
  refine awp_seq ?_
  refine awp_region ?_
  refine s_mv ?_
  refine s_lt ?_
  refine k_nil ?_
  refine k_seq ?_
  refine w_cond hF5 (fun hc6 hF6 => ?_) (fun hc6 hF6 => ?_) <;> clear hF5
  refine awp_seq ?_
  refine awp_region ?_
  refine s_as ?_
  refine k_nil ?_
  refine k_seq ?_
  refine awp_ret ?_
  refine k_seq_ret ?_
  refine k_fin ?_
  obtain rfl := Option.some.inj hF6
  exact ends_gen [] [] (by rw [Try.results54]; exact (res_tmp (by conv => lhs; whnf) res_nil))
  refine awp_skip ?_
  refine k_seq ?_
  refine awp_seq ?_
  refine awp_region ?_
  refine s_mv ?_
  refine s_as ?_
  refine k_nil ?_
  refine k_seq ?_
  refine awp_ret ?_
  refine k_fin ?_
  obtain rfl := Option.some.inj hF6
  exact ends_gen [] [] (by rw [Try.results54]; exact (res_tmp (by conv => lhs; whnf) res_nil))
theorem m_laws_szHitS_st (fu : Nat) (ih_m_laws_szHit : ∀ k, k ≤ fu → m_laws_szHit_AC k) (ih_m_laws_szHitS : ∀ k, k ≤ fu → m_laws_szHitS_AC k) : m_laws_szHitS_AC (fu + 1) := by
  intro x1 x2 r hF0
  rw [m_laws_szHitS] at hF0
  refine AC_intro (rs := [.t (.sc (.int .i64 r))]) Try.func13 rfl (by kernel_rfl) (by simp [Try.ntmps13]) (by simp [noOb]) ?_
  intro C hC
  rw [Try.ntmps13]
  refine awp_seq ?_
  refine awp_region ?_
  refine s_as ?_
  refine k_nil ?_
  refine k_seq ?_
  refine awp_seq ?_
  refine awp_region ?_
  refine s_mv ?_
  refine s_mv ?_
  refine s_lenT yU26 ?_
  refine s_sub rfl ?_
  refine s_as ?_
  refine k_nil ?_
  refine k_seq ?_
  refine awp_seq ?_
  refine awp_seq ?_
  refine awp_region ?_
  refine s_mv ?_
  refine s_lt ?_
  refine k_nil ?_
  refine k_seq ?_
  refine w_cond hF0 (fun hc1 hF1 => ?_) (fun hc1 hF1 => ?_) <;> clear hF0
  refine awp_seq ?_
  refine awp_region ?_
  refine s_as ?_
  refine k_nil ?_
  refine k_seq ?_
  refine awp_ret ?_
  refine k_seq_ret ?_
  refine k_fin ?_
  obtain rfl := Option.some.inj hF1
  exact ends_gen [] [] (by rw [Try.results13]; exact (res_tmp (by conv => lhs; whnf) res_nil))
  refine awp_skip ?_
  refine k_seq ?_
  refine awp_seq ?_
  refine awp_seq ?_
  refine awp_region ?_
  refine s_as ?_
  refine k_nil ?_
  refine k_seq ?_
  refine awp_block ?_
  refine awp_frame2 [1, 4, 5, 12, 13, 14, 15, 16, 17, 18, 19, 20, 21, 22, 23, 24, 25] [] [] [] (fun a : Nat × Int × Int => a.1) (fun a : Nat × Int × Int => [(1, .t (.sc (.int .i64 a.2.1))), (4, .t (.sc (.int .i64 0))), (5, .t (.sc (.int .i64 a.2.2)))]) (fun a : Nat × Int × Int => []) (fun a : Nat × Int × Int => a.1 ≤ fu ∧ m_laws_szHitS_l1 a.1 x1 a.2.1 a.2.2 = some r ∧ 0 ≤ a.2.2) (fu, (w64 (x2 - (x1.length : Int))), 0) ⟨Nat.le_refl _, hF1, by simp⟩ (by rfl) (by rfl) (fun _ => rfl) (hasF_cons (by conv => lhs; whnf) (by rfl) (hasF_cons (by conv => lhs; whnf) (by rfl) (hasF_cons (by conv => lhs; whnf) (by rfl) hasF_nil))) hasO_nil (fun _ h => by cases h) freshS_nil freshM_nil ?_
  clear hF1
  rintro ⟨fu, g2, g3⟩ ⟨hl4, hF2, hn_g3⟩
  dsimp only at hl4 hF2 hn_g3 ⊢
  obtain _ | fu := fu
  · rw [m_laws_szHitS_l1] at hF2; cases hF2
  rw [m_laws_szHitS_l1] at hF2
  refine awp_seq ?_
  refine awp_seq ?_
  refine awp_region ?_
  refine s_mv ?_
  refine s_mv ?_
  refine s_lenT yU26 ?_
  refine s_lt ?_
  refine k_nil ?_
  refine k_seq ?_
  refine w_cond hF2 (fun hc5 hF3 => ?_) (fun hc5 hF3 => ?_) <;> clear hF2
  refine awp_lenT 0 (fun hb6 => ?_)
  refine awp_skip ?_
  refine k_seq ?_
  refine awp_seq ?_
  refine awp_block ?_
  refine awp_seq ?_
  refine awp_region ?_
  refine s_mv ?_
  refine s_mv ?_
  replace hF3 := bind_some' hF3
  obtain ⟨v7, hv7, hF4⟩ := hF3
  refine s_ixT Hit.row hv7 (Hit.row_eq _) yE26 ?_
  refine s_ldN yA76 yS76 ?_
  refine s_mv ?_
  replace hF4 := bind_some' hF4
  obtain ⟨v8, hv8, hF5⟩ := hF4
  refine s_pure [] (ih_m_laws_szHit fu (by omega) _ _ _ hv8) ?_
  refine s_as ?_
  refine k_nil ?_
  refine k_seq ?_
  refine awp_seq ?_
  refine awp_region ?_
  refine s_mv ?_
  refine s_lt ?_
  refine k_nil ?_
  refine k_seq ?_
  refine w_cond hF5 (fun hc9 hF6 => ?_) (fun hc9 hF6 => ?_) <;> clear hF5
  refine awp_seq ?_
  refine awp_region ?_
  refine s_as ?_
  refine k_nil ?_
  refine k_seq ?_
  refine awp_ret ?_
  refine k_blk_ret ?_
  refine k_seq_ret ?_
  refine k_rnd_ret2 ?_
  refine k_blk_ret ?_
  refine k_seq_ret ?_
  refine k_fin ?_
  obtain rfl := Option.some.inj hF6
  exact ends_gen [] [] (by rw [Try.results13]; exact (res_tmp (by conv => lhs; whnf) res_nil))
  refine awp_skip ?_
  refine k_blk ?_
  refine k_seq ?_
  refine awp_region ?_
  refine s_mv ?_
  refine s_add (winc2 hc5 hb6 hn_g3) ?_
  refine s_as ?_
  refine k_nil ?_
  exact s_rnd2 (fu, v8, (g3 + 1)) [] ⟨by first | omega | (dsimp only; omega), hF6, by first | omega | (dsimp only; omega)⟩ (hasR_cons (by conv => lhs; whnf) (by rfl) rfl (hasR_cons (by conv => lhs; whnf) (by rfl) rfl (hasR_cons (by conv => lhs; whnf) (by rfl) rfl trivial))) trivial
  refine awp_exit ?_
  refine k_seq_exit ?_
  refine k_rnd_exit2 ?_
  refine k_blk_exit ?_
  refine k_seq ?_
  refine awp_seq ?_
  refine awp_region ?_
  refine s_mv ?_
  refine s_as ?_
  refine k_nil ?_
  refine k_seq ?_
  refine awp_ret ?_
  refine k_fin ?_
  obtain rfl := Option.some.inj hF3
  exact ends_gen [] [] (by rw [Try.results13]; exact (res_tmp (by conv => lhs; whnf) res_nil))
theorem m_laws_szHit_all (fuel : Nat) : m_laws_szHit_AC fuel ∧ m_laws_szHitS_AC fuel := by
  induction fuel using Nat.strongRecOn with
  | _ N ih =>
    cases N with
    | zero => exact ⟨(by intro x1 x2 r h; rw [m_laws_szHit] at h; cases h), (by intro x1 x2 r h; rw [m_laws_szHitS] at h; cases h)⟩
    | succ fu => exact ⟨m_laws_szHit_st fu (fun k hk => (ih k (by omega)).1) (fun k hk => (ih k (by omega)).2), m_laws_szHitS_st fu (fun k hk => (ih k (by omega)).1) (fun k hk => (ih k (by omega)).2)⟩
theorem m_laws_szHit_ok (fuel : Nat) : m_laws_szHit_AC fuel := (m_laws_szHit_all fuel).1
theorem m_laws_szHitS_ok (fuel : Nat) : m_laws_szHitS_AC fuel := (m_laws_szHit_all fuel).2
def m_laws_toIntS_AC (fuel : Nat) : Prop := ∀ (x1 : (List Int)) (r : (List Int)), m_laws_toIntS fuel x1 = some r → AC Try.prog 57 [.t (.sl (x1.map rI))] noOb (.t (.sl (r.map rI))) noOb
theorem m_laws_toIntS_ok (fuel : Nat) : m_laws_toIntS_AC fuel := by
  intro x1 r hF0
  unfold m_laws_toIntS at hF0
  refine AC_intro (rs := [.t (.sl (r.map rI))]) Try.func57 rfl (by kernel_rfl) (by simp [Try.ntmps57]) (by simp [noOb]) ?_
  intro C hC
  rw [Try.ntmps57]
  refine awp_seq ?_
  refine awp_region ?_
  refine s_as ?_
  refine k_nil ?_
  refine k_seq ?_
  refine awp_seq ?_
  refine awp_region ?_
  refine s_mv ?_
  refine s_lenT yU22 ?_
  obtain ⟨hk1, hF1⟩ := chk_some hF0
  refine s_mk rI 0 rfl hk1 yP22 yR3 ?_
  refine s_as ?_
  refine k_nil ?_
  refine k_seq ?_
  refine awp_seq ?_
  refine awp_seq ?_
  refine awp_region ?_
  refine s_as ?_
  refine k_nil ?_
  refine k_seq ?_
  refine awp_block ?_
  refine awp_frame2 [4, 8, 9, 10, 11, 12, 13, 14, 15, 16, 17, 18, 19, 20] [7] [] [] (fun a : Nat × Int × (List Int) => a.1) (fun a : Nat × Int × (List Int) => [(4, .t (.sc (.int .i64 a.2.1)))]) (fun a : Nat × Int × (List Int) => [(7, .arr (a.2.2.map rI) 3 true)]) (fun a : Nat × Int × (List Int) => a.1 ≤ fuel ∧ m_laws_toIntS_l1 a.1 x1 a.2.1 a.2.2 = some r ∧ 0 ≤ a.2.1) (fuel, 0, (List.replicate (x1.length : Int).toNat 0)) ⟨Nat.le_refl _, hF1, by simp⟩ (by rfl) (by rfl) (fun _ => rfl) (hasF_cons (by conv => lhs; whnf) (by rfl) hasF_nil) (hasO_cons (by conv => lhs; whnf) (by rfl) hasO_nil) (fun _ h => by cases h) freshS_nil freshM_nil ?_
  clear hF1
  rintro ⟨fu, g2, g3⟩ ⟨hl4, hF2, hn_g2⟩
  dsimp only at hl4 hF2 hn_g2 ⊢
  obtain _ | fu := fu
  · rw [m_laws_toIntS_l1] at hF2; cases hF2
  rw [m_laws_toIntS_l1] at hF2
  refine awp_seq ?_
  refine awp_seq ?_
  refine awp_region ?_
  refine s_mv ?_
  refine s_mv ?_
  refine s_lenT yU22 ?_
  refine s_lt ?_
  refine k_nil ?_
  refine k_seq ?_
  refine w_cond hF2 (fun hc5 hF3 => ?_) (fun hc5 hF3 => ?_) <;> clear hF2
  refine awp_lenT 0 (fun hb6 => ?_)
  refine awp_skip ?_
  refine k_seq ?_
  refine awp_seq ?_
  refine awp_block ?_
  refine awp_region ?_
  refine s_mv ?_
  refine s_mv ?_
  refine s_mv ?_
  refine s_mv ?_
  replace hF3 := bind_some' hF3
  obtain ⟨v7, hv7, hF4⟩ := hF3
  refine s_ixT rI hv7 rfl yE22 ?_
  refine s_ld1 yA3 ?_
  replace hF4 := bind_some' hF4
  obtain ⟨v8, hv8, hF5⟩ := hF4
  refine s_ixA rI hv8 yE22 ?_
  refine s_stA rI v7 hv8 rfl rfl yS3 yS3 ?_
  refine k_nil ?_
  refine k_blk ?_
  refine k_seq ?_
  refine awp_region ?_
  refine s_mv ?_
  refine s_add (winc2 hc5 hb6 hn_g2) ?_
  refine s_as ?_
  refine k_nil ?_
  exact s_rnd2 (fu, (g2 + 1), (g3.set g2.toNat v7)) [] ⟨by first | omega | (dsimp only; omega), hF5, by first | omega | (dsimp only; omega)⟩ (hasR_cons (by conv => lhs; whnf) (by rfl) rfl trivial) (hasQ_cons (by conv => lhs; whnf) (by rfl) rfl trivial)
  refine awp_exit ?_
  refine k_seq_exit ?_
  refine k_rnd_exit2 ?_
  refine k_blk_exit ?_
  refine k_seq ?_
  refine awp_seq ?_
  refine awp_region ?_
  refine s_mv ?_
  refine s_as ?_
  refine k_nil ?_
  refine k_seq ?_
  refine awp_ret ?_
  refine k_fin ?_
  obtain rfl := Option.some.inj hF3
  exact ends_gen [] [7] (by rw [Try.results57]; exact (res_tmp (by conv => lhs; whnf) res_nil))
def m_laws_toForm_AC (fuel : Nat) : Prop := ∀ (x1 : Form) (r : Form), m_laws_toForm fuel x1 = some r → AC Try.prog 15 [.ag [.t (.sc (.int .i64 x1.kind)), .t (.sc (.str x1.name)), .t (.sc (.int .i64 x1.n)), .t (.sl (x1.scopes.map rI)), .t (.sl (x1.kids.map Form.row))]] noOb (.ag [.t (.sc (.int .i64 r.kind)), .t (.sc (.str r.name)), .t (.sc (.int .i64 r.n)), .t (.sl (r.scopes.map rI)), .t (.sl (r.kids.map Form.row))]) noOb
def m_laws_toFormS_AC (fuel : Nat) : Prop := ∀ (x1 : (List Form)) (r : (List Form)), m_laws_toFormS fuel x1 = some r → AC Try.prog 24 [.t (.sl (x1.map Form.row))] noOb (.t (.sl (r.map Form.row))) noOb
theorem m_laws_toForm_st (fu : Nat) (ih_m_laws_toForm : ∀ k, k ≤ fu → m_laws_toForm_AC k) (ih_m_laws_toFormS : ∀ k, k ≤ fu → m_laws_toFormS_AC k) : m_laws_toForm_AC (fu + 1) := by
  intro x1 r hF0
  rw [m_laws_toForm] at hF0
  refine AC_intro (rs := [.ag [.t (.sc (.int .i64 r.kind)), .t (.sc (.str r.name)), .t (.sc (.int .i64 r.n)), .t (.sl (r.scopes.map rI)), .t (.sl (r.kids.map Form.row))]]) Try.func15 rfl (by kernel_rfl) (by simp [Try.ntmps15]) (by simp [noOb]) ?_
  intro C hC
  rw [Try.ntmps15]
  refine awp_seq ?_
  refine awp_region ?_
  refine s_box ?_
  refine s_alloc yZ32 ?_
  refine k_nil ?_
  refine k_seq ?_
  refine awp_seq ?_
  refine awp_region ?_
  refine s_alloc yZ32 ?_
  refine k_nil ?_
  refine k_seq ?_
  refine awp_seq ?_
  refine awp_region ?_
  refine s_fa yF25_0 ?_
  refine s_ld1 yA3 ?_
  refine s_fa yF32_0 ?_
  refine s_stP yS3 ?_
  refine k_nil ?_
  refine k_seq ?_
  refine awp_seq ?_
  refine awp_region ?_
  refine s_fa yF25_1 ?_
  refine s_ld1 yA9 ?_
  refine s_fa yF32_1 ?_
  refine s_stP yS9 ?_
  refine k_nil ?_
  refine k_seq ?_
  refine awp_seq ?_
  refine awp_region ?_
  refine s_fa yF25_2 ?_
  refine s_ld1 yA3 ?_
  refine s_fa yF32_2 ?_
  refine s_stP yS3 ?_
  refine k_nil ?_
  refine k_seq ?_
  refine awp_seq ?_
  refine awp_region ?_
  refine s_fa yF25_3 ?_
  refine s_ld1 yA22 ?_
  replace hF0 := bind_some' hF0
  obtain ⟨v1, hv1, hF1⟩ := hF0
  refine s_pure [] (m_laws_toIntS_ok fu _ _ hv1) ?_
  refine s_fa yF32_3 ?_
  refine s_stP yS22 ?_
  refine k_nil ?_
  refine k_seq ?_
  refine awp_seq ?_
  refine awp_region ?_
  refine s_fa yF25_4 ?_
  refine s_ld1 yA23 ?_
  replace hF1 := bind_some' hF1
  obtain ⟨v2, hv2, hF2⟩ := hF1
  refine s_pure [] (ih_m_laws_toFormS fu (by omega) _ _ hv2) ?_
  refine s_fa yF32_4 ?_
  refine s_stP yS30 ?_
  refine k_nil ?_
  refine k_seq ?_
  refine awp_seq ?_
  refine awp_region ?_
  refine s_ldW yA32 yS32 ?_
  refine s_stW yS32 ?_
  refine k_nil ?_
  refine k_seq ?_
  refine awp_ret ?_
  refine k_fin ?_
  obtain rfl := Option.some.inj hF2
  exact ends_gen [] [] (by rw [Try.results15]; exact (res_agg (by conv => lhs; whnf) (by conv => lhs; whnf) yA32 yS32 rfl res_nil))
theorem m_laws_toFormS_st (fu : Nat) (ih_m_laws_toForm : ∀ k, k ≤ fu → m_laws_toForm_AC k) (ih_m_laws_toFormS : ∀ k, k ≤ fu → m_laws_toFormS_AC k) : m_laws_toFormS_AC (fu + 1) := by
  intro x1 r hF0
  rw [m_laws_toFormS] at hF0
  refine AC_intro (rs := [.t (.sl (r.map Form.row))]) Try.func24 rfl (by kernel_rfl) (by simp [Try.ntmps24]) (by simp [noOb]) ?_
  intro C hC
  rw [Try.ntmps24]
  refine awp_seq ?_
  refine awp_region ?_
  refine s_as ?_
  refine k_nil ?_
  refine k_seq ?_
  refine awp_seq ?_
  refine awp_region ?_
  refine s_mv ?_
  refine s_lenT yU23 ?_
  obtain ⟨hk1, hF1⟩ := chk_some hF0
  refine s_mk Form.row (Form.mk 0 (⟨#[]⟩ : ByteArray) 0 ([] : List Int) ([] : List Form)) (Form.row_eq _) hk1 yP30 yR32 ?_
  refine s_as ?_
  refine k_nil ?_
  refine k_seq ?_
  refine awp_seq ?_
  refine awp_seq ?_
  refine awp_region ?_
  refine s_as ?_
  refine k_nil ?_
  refine k_seq ?_
  refine awp_block ?_
  refine awp_frame2 [4, 8, 9, 10, 11, 12, 13, 14, 15, 16, 17, 18, 19, 20, 21] [7] [] [] (fun a : Nat × Int × (List Form) => a.1) (fun a : Nat × Int × (List Form) => [(4, .t (.sc (.int .i64 a.2.1)))]) (fun a : Nat × Int × (List Form) => [(7, .arr (a.2.2.map Form.row) 32 true)]) (fun a : Nat × Int × (List Form) => a.1 ≤ fu ∧ m_laws_toFormS_l1 a.1 x1 a.2.1 a.2.2 = some r ∧ 0 ≤ a.2.1) (fu, 0, (List.replicate (x1.length : Int).toNat (Form.mk 0 (⟨#[]⟩ : ByteArray) 0 ([] : List Int) ([] : List Form)))) ⟨Nat.le_refl _, hF1, by simp⟩ (by rfl) (by rfl) (fun _ => rfl) (hasF_cons (by conv => lhs; whnf) (by rfl) hasF_nil) (hasO_cons (by conv => lhs; whnf) (by rfl) hasO_nil) (fun _ h => by cases h) freshS_nil freshM_nil ?_
  clear hF1
  rintro ⟨fu, g2, g3⟩ ⟨hl4, hF2, hn_g2⟩
  dsimp only at hl4 hF2 hn_g2 ⊢
  obtain _ | fu := fu
  · rw [m_laws_toFormS_l1] at hF2; cases hF2
  rw [m_laws_toFormS_l1] at hF2
  refine awp_seq ?_
  refine awp_seq ?_
  refine awp_region ?_
  refine s_mv ?_
  refine s_mv ?_
  refine s_lenT yU23 ?_
  refine s_lt ?_
  refine k_nil ?_
  refine k_seq ?_
  refine w_cond hF2 (fun hc5 hF3 => ?_) (fun hc5 hF3 => ?_) <;> clear hF2
  refine awp_lenT 0 (fun hb6 => ?_)
  refine awp_skip ?_
  refine k_seq ?_
  refine awp_seq ?_
  refine awp_block ?_
  refine awp_region ?_
  refine s_mv ?_
  refine s_mv ?_
  refine s_mv ?_
  refine s_mv ?_
  replace hF3 := bind_some' hF3
  obtain ⟨v7, hv7, hF4⟩ := hF3
  refine s_ixT Form.row hv7 (Form.row_eq _) yE23 ?_
  refine s_ldN yA25 yS25 ?_
  replace hF4 := bind_some' hF4
  obtain ⟨v8, hv8, hF5⟩ := hF4
  refine s_pure [] (ih_m_laws_toForm fu (by omega) _ _ hv8) ?_
  replace hF5 := bind_some' hF5
  obtain ⟨v9, hv9, hF6⟩ := hF5
  refine s_ixA Form.row hv9 yE30 ?_
  refine s_stA Form.row v8 hv9 (Form.row_eq _) (Form.row_eq _) yS32 yS32 ?_
  refine k_nil ?_
  refine k_blk ?_
  refine k_seq ?_
  refine awp_region ?_
  refine s_mv ?_
  refine s_add (winc2 hc5 hb6 hn_g2) ?_
  refine s_as ?_
  refine k_nil ?_
  exact s_rnd2 (fu, (g2 + 1), (g3.set g2.toNat v8)) [] ⟨by first | omega | (dsimp only; omega), hF6, by first | omega | (dsimp only; omega)⟩ (hasR_cons (by conv => lhs; whnf) (by rfl) rfl trivial) (hasQ_cons (by conv => lhs; whnf) (by rfl) rfl trivial)
  refine awp_exit ?_
  refine k_seq_exit ?_
  refine k_rnd_exit2 ?_
  refine k_blk_exit ?_
  refine k_seq ?_
  refine awp_seq ?_
  refine awp_region ?_
  refine s_mv ?_
  refine s_as ?_
  refine k_nil ?_
  refine k_seq ?_
  refine awp_ret ?_
  refine k_fin ?_
  obtain rfl := Option.some.inj hF3
  exact ends_gen [] [7] (by rw [Try.results24]; exact (res_tmp (by conv => lhs; whnf) res_nil))
theorem m_laws_toForm_all (fuel : Nat) : m_laws_toForm_AC fuel ∧ m_laws_toFormS_AC fuel := by
  induction fuel using Nat.strongRecOn with
  | _ N ih =>
    cases N with
    | zero => exact ⟨(by intro x1 r h; rw [m_laws_toForm] at h; cases h), (by intro x1 r h; rw [m_laws_toFormS] at h; cases h)⟩
    | succ fu => exact ⟨m_laws_toForm_st fu (fun k hk => (ih k (by omega)).1) (fun k hk => (ih k (by omega)).2), m_laws_toFormS_st fu (fun k hk => (ih k (by omega)).1) (fun k hk => (ih k (by omega)).2)⟩
theorem m_laws_toForm_ok (fuel : Nat) : m_laws_toForm_AC fuel := (m_laws_toForm_all fuel).1
theorem m_laws_toFormS_ok (fuel : Nat) : m_laws_toFormS_AC fuel := (m_laws_toForm_all fuel).2
def m_laws_toHit_AC (fuel : Nat) : Prop := ∀ (x1 : Hit) (r : Hit), m_laws_toHit fuel x1 = some r → AC Try.prog 58 [.ag [.t (.sc (.int .i64 x1.name.kind)), .t (.sc (.str x1.name.name)), .t (.sc (.int .i64 x1.name.n)), .t (.sl (x1.name.scopes.map rI)), .t (.sl (x1.name.kids.map Form.row)), .t (.sc (.int .i64 x1.depth)), .t (.sc (.int .i64 x1.one.kind)), .t (.sc (.str x1.one.name)), .t (.sc (.int .i64 x1.one.n)), .t (.sl (x1.one.scopes.map rI)), .t (.sl (x1.one.kids.map Form.row)), .t (.sl (x1.many.map Hit.row))]] noOb (.ag [.t (.sc (.int .i64 r.name.kind)), .t (.sc (.str r.name.name)), .t (.sc (.int .i64 r.name.n)), .t (.sl (r.name.scopes.map rI)), .t (.sl (r.name.kids.map Form.row)), .t (.sc (.int .i64 r.depth)), .t (.sc (.int .i64 r.one.kind)), .t (.sc (.str r.one.name)), .t (.sc (.int .i64 r.one.n)), .t (.sl (r.one.scopes.map rI)), .t (.sl (r.one.kids.map Form.row)), .t (.sl (r.many.map Hit.row))]) noOb
def m_laws_toHitS_AC (fuel : Nat) : Prop := ∀ (x1 : (List Hit)) (r : (List Hit)), m_laws_toHitS fuel x1 = some r → AC Try.prog 16 [.t (.sl (x1.map Hit.row))] noOb (.t (.sl (r.map Hit.row))) noOb
theorem m_laws_toHit_st (fu : Nat) (ih_m_laws_toHit : ∀ k, k ≤ fu → m_laws_toHit_AC k) (ih_m_laws_toHitS : ∀ k, k ≤ fu → m_laws_toHitS_AC k) : m_laws_toHit_AC (fu + 1) := by
  intro x1 r hF0
  rw [m_laws_toHit] at hF0
  refine AC_intro (rs := [.ag [.t (.sc (.int .i64 r.name.kind)), .t (.sc (.str r.name.name)), .t (.sc (.int .i64 r.name.n)), .t (.sl (r.name.scopes.map rI)), .t (.sl (r.name.kids.map Form.row)), .t (.sc (.int .i64 r.depth)), .t (.sc (.int .i64 r.one.kind)), .t (.sc (.str r.one.name)), .t (.sc (.int .i64 r.one.n)), .t (.sl (r.one.scopes.map rI)), .t (.sl (r.one.kids.map Form.row)), .t (.sl (r.many.map Hit.row))]]) Try.func58 rfl (by kernel_rfl) (by simp [Try.ntmps58]) (by simp [noOb]) ?_
  intro C hC
  rw [Try.ntmps58]
  refine awp_seq ?_
  refine awp_region ?_
  refine s_box ?_
  refine s_alloc yZ65 ?_
  refine k_nil ?_
  refine k_seq ?_
  refine awp_seq ?_
  refine awp_region ?_
  refine s_alloc yZ65 ?_
  refine k_nil ?_
  refine k_seq ?_
  refine awp_seq ?_
  refine awp_region ?_
  refine s_fa yF76_0 ?_
  refine s_ldN yA25 yS25 ?_
  replace hF0 := bind_some' hF0
  obtain ⟨v1, hv1, hF1⟩ := hF0
  refine s_pure [] (m_laws_toForm_ok fu _ _ hv1) ?_
  refine s_fa yF65_0 ?_
  refine s_stP yS32 ?_
  refine k_nil ?_
  refine k_seq ?_
  refine awp_seq ?_
  refine awp_region ?_
  refine s_fa yF76_1 ?_
  refine s_ld1 yA3 ?_
  refine s_fa yF65_1 ?_
  refine s_stP yS3 ?_
  refine k_nil ?_
  refine k_seq ?_
  refine awp_seq ?_
  refine awp_region ?_
  refine s_fa yF76_2 ?_
  refine s_ldN yA25 yS25 ?_
  replace hF1 := bind_some' hF1
  obtain ⟨v2, hv2, hF2⟩ := hF1
  refine s_pure [] (m_laws_toForm_ok fu _ _ hv2) ?_
  refine s_fa yF65_2 ?_
  refine s_stP yS32 ?_
  refine k_nil ?_
  refine k_seq ?_
  refine awp_seq ?_
  refine awp_region ?_
  refine s_fa yF76_3 ?_
  refine s_ld1 yA26 ?_
  replace hF2 := bind_some' hF2
  obtain ⟨v3, hv3, hF3⟩ := hF2
  refine s_pure [] (ih_m_laws_toHitS fu (by omega) _ _ hv3) ?_
  refine s_fa yF65_3 ?_
  refine s_stP yS34 ?_
  refine k_nil ?_
  refine k_seq ?_
  refine awp_seq ?_
  refine awp_region ?_
  refine s_ldW yA65 yS65 ?_
  refine s_stW yS65 ?_
  refine k_nil ?_
  refine k_seq ?_
  refine awp_ret ?_
  refine k_fin ?_
  obtain rfl := Option.some.inj hF3
  exact ends_gen [] [] (by rw [Try.results58]; exact (res_agg (by conv => lhs; whnf) (by conv => lhs; whnf) yA65 yS65 rfl res_nil))
theorem m_laws_toHitS_st (fu : Nat) (ih_m_laws_toHit : ∀ k, k ≤ fu → m_laws_toHit_AC k) (ih_m_laws_toHitS : ∀ k, k ≤ fu → m_laws_toHitS_AC k) : m_laws_toHitS_AC (fu + 1) := by
  intro x1 r hF0
  rw [m_laws_toHitS] at hF0
  refine AC_intro (rs := [.t (.sl (r.map Hit.row))]) Try.func16 rfl (by kernel_rfl) (by simp [Try.ntmps16]) (by simp [noOb]) ?_
  intro C hC
  rw [Try.ntmps16]
  refine awp_seq ?_
  refine awp_region ?_
  refine s_as ?_
  refine k_nil ?_
  refine k_seq ?_
  refine awp_seq ?_
  refine awp_region ?_
  refine s_mv ?_
  refine s_lenT yU26 ?_
  obtain ⟨hk1, hF1⟩ := chk_some hF0
  refine s_mk Hit.row (Hit.mk (Form.mk 0 (⟨#[]⟩ : ByteArray) 0 ([] : List Int) ([] : List Form)) 0 (Form.mk 0 (⟨#[]⟩ : ByteArray) 0 ([] : List Int) ([] : List Form)) ([] : List Hit)) (Hit.row_eq _) hk1 yP34 yR65 ?_
  refine s_as ?_
  refine k_nil ?_
  refine k_seq ?_
  refine awp_seq ?_
  refine awp_seq ?_
  refine awp_region ?_
  refine s_as ?_
  refine k_nil ?_
  refine k_seq ?_
  refine awp_block ?_
  refine awp_frame2 [4, 8, 9, 10, 11, 12, 13, 14, 15, 16, 17, 18, 19, 20, 21] [7] [] [] (fun a : Nat × Int × (List Hit) => a.1) (fun a : Nat × Int × (List Hit) => [(4, .t (.sc (.int .i64 a.2.1)))]) (fun a : Nat × Int × (List Hit) => [(7, .arr (a.2.2.map Hit.row) 65 true)]) (fun a : Nat × Int × (List Hit) => a.1 ≤ fu ∧ m_laws_toHitS_l1 a.1 x1 a.2.1 a.2.2 = some r ∧ 0 ≤ a.2.1) (fu, 0, (List.replicate (x1.length : Int).toNat (Hit.mk (Form.mk 0 (⟨#[]⟩ : ByteArray) 0 ([] : List Int) ([] : List Form)) 0 (Form.mk 0 (⟨#[]⟩ : ByteArray) 0 ([] : List Int) ([] : List Form)) ([] : List Hit)))) ⟨Nat.le_refl _, hF1, by simp⟩ (by rfl) (by rfl) (fun _ => rfl) (hasF_cons (by conv => lhs; whnf) (by rfl) hasF_nil) (hasO_cons (by conv => lhs; whnf) (by rfl) hasO_nil) (fun _ h => by cases h) freshS_nil freshM_nil ?_
  clear hF1
  rintro ⟨fu, g2, g3⟩ ⟨hl4, hF2, hn_g2⟩
  dsimp only at hl4 hF2 hn_g2 ⊢
  obtain _ | fu := fu
  · rw [m_laws_toHitS_l1] at hF2; cases hF2
  rw [m_laws_toHitS_l1] at hF2
  refine awp_seq ?_
  refine awp_seq ?_
  refine awp_region ?_
  refine s_mv ?_
  refine s_mv ?_
  refine s_lenT yU26 ?_
  refine s_lt ?_
  refine k_nil ?_
  refine k_seq ?_
  refine w_cond hF2 (fun hc5 hF3 => ?_) (fun hc5 hF3 => ?_) <;> clear hF2
  refine awp_lenT 0 (fun hb6 => ?_)
  refine awp_skip ?_
  refine k_seq ?_
  refine awp_seq ?_
  refine awp_block ?_
  refine awp_region ?_
  refine s_mv ?_
  refine s_mv ?_
  refine s_mv ?_
  refine s_mv ?_
  replace hF3 := bind_some' hF3
  obtain ⟨v7, hv7, hF4⟩ := hF3
  refine s_ixT Hit.row hv7 (Hit.row_eq _) yE26 ?_
  refine s_ldN yA76 yS76 ?_
  replace hF4 := bind_some' hF4
  obtain ⟨v8, hv8, hF5⟩ := hF4
  refine s_pure [] (ih_m_laws_toHit fu (by omega) _ _ hv8) ?_
  replace hF5 := bind_some' hF5
  obtain ⟨v9, hv9, hF6⟩ := hF5
  refine s_ixA Hit.row hv9 yE34 ?_
  refine s_stA Hit.row v8 hv9 (Hit.row_eq _) (Hit.row_eq _) yS65 yS65 ?_
  refine k_nil ?_
  refine k_blk ?_
  refine k_seq ?_
  refine awp_region ?_
  refine s_mv ?_
  refine s_add (winc2 hc5 hb6 hn_g2) ?_
  refine s_as ?_
  refine k_nil ?_
  exact s_rnd2 (fu, (g2 + 1), (g3.set g2.toNat v8)) [] ⟨by first | omega | (dsimp only; omega), hF6, by first | omega | (dsimp only; omega)⟩ (hasR_cons (by conv => lhs; whnf) (by rfl) rfl trivial) (hasQ_cons (by conv => lhs; whnf) (by rfl) rfl trivial)
  refine awp_exit ?_
  refine k_seq_exit ?_
  refine k_rnd_exit2 ?_
  refine k_blk_exit ?_
  refine k_seq ?_
  refine awp_seq ?_
  refine awp_region ?_
  refine s_mv ?_
  refine s_as ?_
  refine k_nil ?_
  refine k_seq ?_
  refine awp_ret ?_
  refine k_fin ?_
  obtain rfl := Option.some.inj hF3
  exact ends_gen [] [7] (by rw [Try.results16]; exact (res_tmp (by conv => lhs; whnf) res_nil))
theorem m_laws_toHit_all (fuel : Nat) : m_laws_toHit_AC fuel ∧ m_laws_toHitS_AC fuel := by
  induction fuel using Nat.strongRecOn with
  | _ N ih =>
    cases N with
    | zero => exact ⟨(by intro x1 r h; rw [m_laws_toHit] at h; cases h), (by intro x1 r h; rw [m_laws_toHitS] at h; cases h)⟩
    | succ fu => exact ⟨m_laws_toHit_st fu (fun k hk => (ih k (by omega)).1) (fun k hk => (ih k (by omega)).2), m_laws_toHitS_st fu (fun k hk => (ih k (by omega)).1) (fun k hk => (ih k (by omega)).2)⟩
theorem m_laws_toHit_ok (fuel : Nat) : m_laws_toHit_AC fuel := (m_laws_toHit_all fuel).1
theorem m_laws_toHitS_ok (fuel : Nat) : m_laws_toHitS_AC fuel := (m_laws_toHit_all fuel).2
def m_spec_TemplateValid_AC (fuel : Nat) : Prop := ∀ (x1 : Form) (x2 : (List Hit)) (r : Bool), m_spec_TemplateValid fuel x1 x2 = some r → AC Try.prog 14 [.ag [.t (.sc (.int .i64 x1.kind)), .t (.sc (.str x1.name)), .t (.sc (.int .i64 x1.n)), .t (.sl (x1.scopes.map rI)), .t (.sl (x1.kids.map Form.row))], .t (.sl (x2.map Hit.row))] noOb (.t (.sc (.bool r))) noOb
theorem m_spec_TemplateValid_ok (fuel : Nat) : m_spec_TemplateValid_AC fuel := by
  intro x1 x2 r hF0
  unfold m_spec_TemplateValid at hF0
  refine AC_intro (rs := [.t (.sc (.bool r))]) Try.func14 rfl (by kernel_rfl) (by simp [Try.ntmps14]) (by simp [noOb]) ?_
  intro C hC
  rw [Try.ntmps14]
  refine awp_seq ?_
  refine awp_region ?_
  refine s_box ?_
  refine s_as ?_
  refine k_nil ?_
  refine k_seq ?_
  refine awp_seq ?_
  refine awp_region ?_
  refine s_ldW yA32 yS32 ?_
  replace hF0 := bind_some' hF0
  obtain ⟨v1, hv1, hF1⟩ := hF0
  refine s_pure [] (m_spec_FormValid_ok fuel _ _ hv1) ?_
  refine s_mv ?_
  refine w_guard _ 7 hF1 (fun hc2 hF2 => ?_) (fun hc2 hF2 => ?_) <;> clear hF1
  refine s_mv ?_
  replace hF2 := bind_some' hF2
  obtain ⟨v3, hv3, hF3⟩ := hF2
  refine s_pure [] (m_spec_HitsValid_ok fuel _ _ hv3) ?_
  refine s_pkt ?_
  refine s_mv ?_
  refine w_guard _ 11 hF3 (fun hc4 hF4 => ?_) (fun hc4 hF4 => ?_) <;> clear hF3
  refine s_ldW yA32 yS32 ?_
  refine s_mv ?_
  replace hF4 := bind_some' hF4
  obtain ⟨v5, hv5, hF5⟩ := hF4
  refine s_pure [] (m_spec_l5Is_ok fuel _ _ _ hv5) ?_
  refine s_pkt ?_
  refine s_as ?_
  refine k_nil ?_
  refine k_seq ?_
  refine awp_ret ?_
  refine k_fin ?_
  obtain rfl := Option.some.inj hF5
  exact ends_gen [] [] (by rw [Try.results14]; exact (res_tmp (by conv => lhs; whnf) res_nil))
  refine r_no rfl ?_
  refine r_no rfl ?_
  refine r_no rfl ?_
  refine s_pkf ?_
  refine s_as ?_
  refine k_nil ?_
  refine k_seq ?_
  refine awp_ret ?_
  refine k_fin ?_
  obtain rfl := Option.some.inj hF4
  exact ends_gen [] [] (by rw [Try.results14]; exact (res_tmp (by conv => lhs; whnf) res_nil))
  refine r_no rfl ?_
  refine r_no rfl ?_
  refine s_pkf ?_
  refine s_mv ?_
  refine r_no rfl ?_
  refine r_no rfl ?_
  refine r_no rfl ?_
  refine s_pkf ?_
  refine s_as ?_
  refine k_nil ?_
  refine k_seq ?_
  refine awp_ret ?_
  refine k_fin ?_
  obtain rfl := Option.some.inj hF2
  exact ends_gen [] [] (by rw [Try.results14]; exact (res_tmp (by conv => lhs; whnf) res_nil))
def m_impl_hitVars_AC (fuel : Nat) : Prop := ∀ (x1 : (List Hit)) (r : ((List Form) × (List Int))), m_impl_hitVars fuel x1 = some r → AC Try.prog 59 [.t (.sl (x1.map Hit.row))] noOb (.tp [.t (.sl (r.1.map Form.row)), .t (.sl (r.2.map rI))]) noOb
theorem m_impl_hitVars_ok (fuel : Nat) : m_impl_hitVars_AC fuel := by
  intro x1 r hF0
  unfold m_impl_hitVars at hF0
  refine AC_intro (rs := [.t (.sl (r.1.map Form.row)), .t (.sl (r.2.map rI))]) Try.func59 rfl (by kernel_rfl) (by simp [Try.ntmps59]) (by simp [noOb]) ?_
  intro C hC
  rw [Try.ntmps59]
  refine awp_seq ?_
  refine awp_region ?_
  refine s_as ?_
  refine s_as ?_
  refine k_nil ?_
  refine k_seq ?_
  refine awp_seq ?_
  refine awp_region ?_
  refine s_bs Form.row ([] : List Form) yP30 yR32 ?_
  refine s_bs rI ([] : List Int) yP22 yR3 ?_
  refine s_as ?_
  refine s_as ?_
  refine k_nil ?_
  refine k_seq ?_
  refine awp_seq ?_
  refine awp_seq ?_
  refine awp_region ?_
  refine s_mv ?_
  refine s_lenT yU34 ?_
  refine s_mv ?_
  refine k_nil ?_
  refine k_seq ?_
  refine awp_block ?_
  refine awp_mv 4 8 5020 (by conv => lhs; whnf) (by conv => lhs; whnf) rfl ?_
  refine awp_mv 5 9 5021 (by conv => lhs; whnf) (by conv => lhs; whnf) rfl ?_
  refine awp_frame2 [4, 5, 7, 12, 13, 14, 15, 16, 17, 18, 19, 20, 21, 22, 23, 24, 25, 26] [5020, 5021] [7, 19, 20, 24, 25] [5020, 5021] (fun a : Nat × (List Form) × (List Int) × Int => a.1) (fun a : Nat × (List Form) × (List Int) × Int => [(4, .ar 5020), (5, .ar 5021), (12, .t (.sc (.int .i64 a.2.2.2)))]) (fun a : Nat × (List Form) × (List Int) × Int => [(5020, .arr (a.2.1.map Form.row) 32 true), (5021, .arr (a.2.2.1.map rI) 3 true)]) (fun a : Nat × (List Form) × (List Int) × Int => a.1 ≤ fuel ∧ m_impl_hitVars_l1 a.1 x1 a.2.1 a.2.2.1 a.2.2.2 = some r ∧ 0 ≤ a.2.2.2) (fuel, ([] : List Form), ([] : List Int), 0) ⟨Nat.le_refl _, hF0, by simp⟩ (by rfl) (by rfl) (fun _ => rfl) (hasF_cons (by conv => lhs; whnf) (by rfl) (hasF_cons (by conv => lhs; whnf) (by rfl) (hasF_cons (by conv => lhs; whnf) (by rfl) hasF_nil))) (hasO_cons (by conv => lhs; whnf) (by rfl) (hasO_cons (by conv => lhs; whnf) (by rfl) hasO_nil)) (fresh_C hC rfl) (by repeat (first | exact freshS_args rfl | refine freshS_upd rfl ?_ | refine freshS_frame rfl ?_)) (by repeat (first | exact freshM_no | exact objs_fresh rfl | refine freshM_upd rfl ?_ | refine freshM_frame rfl ?_)) ?_
  clear hF0
  rintro ⟨fu, g1, g2, g3⟩ ⟨hl4, hF1, hn_g3⟩
  dsimp only at hl4 hF1 hn_g3 ⊢
  obtain _ | fu := fu
  · rw [m_impl_hitVars_l1] at hF1; cases hF1
  rw [m_impl_hitVars_l1] at hF1
  refine awp_seq ?_
  refine awp_region ?_
  refine s_lt ?_
  refine k_nil ?_
  refine k_seq ?_
  refine awp_seq ?_
  refine w_cond hF1 (fun hc5 hF2 => ?_) (fun hc5 hF2 => ?_) <;> clear hF1
  refine awp_lenT 0 (fun hb6 => ?_)
  refine awp_skip ?_
  refine k_seq ?_
  refine awp_seq ?_
  refine awp_block ?_
  refine awp_seq ?_
  refine awp_region ?_
  replace hF2 := bind_some' hF2
  obtain ⟨v7, hv7, hF3⟩ := hF2
  refine s_ixT Hit.row hv7 (Hit.row_eq _) yE34 ?_
  refine s_ldN yA65 yS65 ?_
  refine s_alloc yZ65 ?_
  refine s_stW yS65 ?_
  refine k_nil ?_
  refine k_seq ?_
  refine awp_draw yMix (by kernel_rfl) ?_
  refine s_mv ?_
  refine s_fa yF65_0 ?_
  refine s_ldN yA32 yS32 ?_
  refine s_bs Form.row [v7.name] yP30 yR32 ?_
  obtain ⟨hk8, hF4⟩ := chk_some hF3
  refine s_apT Form.row (fun y => Form.row_len y) hk8 yP30 ?_
  refine s_mv ?_
  refine s_fa yF65_1 ?_
  refine s_ld1 yA3 ?_
  refine s_bs rI [v7.depth] yP22 yR3 ?_
  obtain ⟨hk9, hF5⟩ := chk_some hF4
  refine s_apT rI (fun _ => rfl) hk9 yP22 ?_
  refine s_as ?_
  refine s_as ?_
  refine k_nilD (by kernel_rfl) ?_
  refine k_blk ?_
  refine k_seq ?_
  refine awp_region ?_
  refine s_add (winc2 hc5 hb6 hn_g3) ?_
  refine s_mv ?_
  refine k_nil ?_
  exact s_rnd2 (fu, (g1 ++ [v7.name]), (g2 ++ [v7.depth]), (g3 + 1)) [(5020, 20), (5021, 25)] ⟨by first | omega | (dsimp only; omega), hF5, by first | omega | (dsimp only; omega)⟩ (hasR_cons (by conv => lhs; whnf) (by rfl) rfl (hasR_cons (by conv => lhs; whnf) (by rfl) rfl (hasR_cons (by conv => lhs; whnf) (by rfl) rfl trivial))) (hasQ_cons (by conv => lhs; whnf) (by rfl) rfl (hasQ_cons (by conv => lhs; whnf) (by rfl) rfl trivial))
  refine awp_exit ?_
  refine k_seq_exit ?_
  refine k_rnd_exit2 ?_
  refine k_blk_exit ?_
  refine k_seq ?_
  refine awp_seq ?_
  refine awp_region ?_
  refine s_mv ?_
  refine s_mv ?_
  refine s_as ?_
  refine s_as ?_
  refine k_nil ?_
  refine k_seq ?_
  refine awp_ret ?_
  refine k_fin ?_
  obtain rfl := Option.some.inj hF2
  exact ends_gen [] [5020, 5021] (by rw [Try.results59]; exact (res_tmp (by conv => lhs; whnf) (res_tmp (by conv => lhs; whnf) res_nil)))
def m_impl_TemplateValid_AC (fuel : Nat) : Prop := ∀ (x1 : Form) (x2 : (List Hit)) (r : Bool), m_impl_TemplateValid fuel x1 x2 = some r → AC Try.prog 17 [.ag [.t (.sc (.int .i64 x1.kind)), .t (.sc (.str x1.name)), .t (.sc (.int .i64 x1.n)), .t (.sl (x1.scopes.map rI)), .t (.sl (x1.kids.map Form.row))], .t (.sl (x2.map Hit.row))] noOb (.t (.sc (.bool r))) noOb
theorem m_impl_TemplateValid_ok (fuel : Nat) : m_impl_TemplateValid_AC fuel := by
  intro x1 x2 r hF0
  unfold m_impl_TemplateValid at hF0
  refine AC_intro (rs := [.t (.sc (.bool r))]) Try.func17 rfl (by kernel_rfl) (by simp [Try.ntmps17]) (by simp [noOb]) ?_
  intro C hC
  rw [Try.ntmps17]
  refine awp_seq ?_
  refine awp_region ?_
  refine s_box ?_
  refine s_as ?_
  refine k_nil ?_
  refine k_seq ?_
  refine awp_seq ?_
  refine awp_region ?_
  refine s_mv ?_
  replace hF0 := bind_some' hF0
  obtain ⟨v1, hv1, hF1⟩ := hF0
  refine s_pure [] (m_impl_hitVars_ok fuel _ _ hv1) ?_
  refine s_mv ?_
  refine s_ext ?_
  refine s_ext ?_
  refine s_as ?_
  refine s_as ?_
  refine k_nil ?_
  refine k_seq ?_
  refine awp_seq ?_
  refine awp_region ?_
  refine s_mv ?_
  replace hF1 := bind_some' hF1
  obtain ⟨v2, hv2, hF2⟩ := hF1
  refine s_pure [] (m_impl_HitsValid_ok fuel _ _ hv2) ?_
  refine s_mv ?_
  refine w_guard _ 14 hF2 (fun hc3 hF3 => ?_) (fun hc3 hF3 => ?_) <;> clear hF2
  refine s_ldW yA32 yS32 ?_
  refine s_mv ?_
  refine s_mv ?_
  replace hF3 := bind_some' hF3
  obtain ⟨v4, hv4, hF4⟩ := hF3
  refine s_pure [] (m_impl_templateOk_ok fuel _ _ _ _ hv4) ?_
  refine s_pkt ?_
  refine s_as ?_
  refine k_nil ?_
  refine k_seq ?_
  refine awp_ret ?_
  refine k_fin ?_
  obtain rfl := Option.some.inj hF4
  exact ends_gen [] [] (by rw [Try.results17]; exact (res_tmp (by conv => lhs; whnf) res_nil))
  refine r_no rfl ?_
  refine r_no rfl ?_
  refine r_no rfl ?_
  refine r_no rfl ?_
  refine s_pkf ?_
  refine s_as ?_
  refine k_nil ?_
  refine k_seq ?_
  refine awp_ret ?_
  refine k_fin ?_
  obtain rfl := Option.some.inj hF3
  exact ends_gen [] [] (by rw [Try.results17]; exact (res_tmp (by conv => lhs; whnf) res_nil))
def m_laws_eqIntS_AC (fuel : Nat) : Prop := ∀ (x1 : (List Int)) (x2 : (List Int)) (r : Bool), m_laws_eqIntS fuel x1 x2 = some r → AC Try.prog 61 [.t (.sl (x1.map rI)), .t (.sl (x2.map rI))] noOb (.t (.sc (.bool r))) noOb
theorem m_laws_eqIntS_ok (fuel : Nat) : m_laws_eqIntS_AC fuel := by
  intro x1 x2 r hF0
  unfold m_laws_eqIntS at hF0
  refine AC_intro (rs := [.t (.sc (.bool r))]) Try.func61 rfl (by kernel_rfl) (by simp [Try.ntmps61]) (by simp [noOb]) ?_
  intro C hC
  rw [Try.ntmps61]
  refine awp_seq ?_
  refine awp_region ?_
  refine s_as ?_
  refine k_nil ?_
  refine k_seq ?_
  refine awp_seq ?_
  refine awp_seq ?_
  refine awp_region ?_
  refine s_mv ?_
  refine s_lenT yU22 ?_
  refine s_mv ?_
  refine s_lenT yU22 ?_
  refine s_ne ?_
  refine k_nil ?_
  refine k_seq ?_
  refine w_cond hF0 (fun hc1 hF1 => ?_) (fun hc1 hF1 => ?_) <;> clear hF0
  refine awp_seq ?_
  refine awp_region ?_
  refine s_as ?_
  refine k_nil ?_
  refine k_seq ?_
  refine awp_ret ?_
  refine k_seq_ret ?_
  refine k_fin ?_
  obtain rfl := Option.some.inj hF1
  exact ends_gen [] [] (by rw [Try.results61]; exact (res_tmp (by conv => lhs; whnf) res_nil))
  refine awp_skip ?_
  refine k_seq ?_
  refine awp_seq ?_
  refine awp_seq ?_
  refine awp_region ?_
  refine s_as ?_
  refine k_nil ?_
  refine k_seq ?_
  refine awp_block ?_
  refine awp_frame2 [4, 5, 11, 12, 13, 14, 15, 16, 17, 18, 19, 20, 21, 22, 23, 24, 25] [] [] [] (fun a : Nat × Int => a.1) (fun a : Nat × Int => [(4, .t (.sc (.bool false))), (5, .t (.sc (.int .i64 a.2)))]) (fun a : Nat × Int => []) (fun a : Nat × Int => a.1 ≤ fuel ∧ m_laws_eqIntS_l1 a.1 x1 x2 a.2 = some r ∧ 0 ≤ a.2) (fuel, 0) ⟨Nat.le_refl _, hF1, by simp⟩ (by rfl) (by rfl) (fun _ => rfl) (hasF_cons (by conv => lhs; whnf) (by rfl) (hasF_cons (by conv => lhs; whnf) (by rfl) hasF_nil)) hasO_nil (fun _ h => by cases h) freshS_nil freshM_nil ?_
  clear hF1
  rintro ⟨fu, g2⟩ ⟨hl3, hF2, hn_g2⟩
  dsimp only at hl3 hF2 hn_g2 ⊢
  obtain _ | fu := fu
  · rw [m_laws_eqIntS_l1] at hF2; cases hF2
  rw [m_laws_eqIntS_l1] at hF2
  refine awp_seq ?_
  refine awp_seq ?_
  refine awp_region ?_
  refine s_mv ?_
  refine s_mv ?_
  refine s_lenT yU22 ?_
  refine s_lt ?_
  refine k_nil ?_
  refine k_seq ?_
  refine w_cond hF2 (fun hc4 hF3 => ?_) (fun hc4 hF3 => ?_) <;> clear hF2
  refine awp_lenT 0 (fun hb5 => ?_)
  refine awp_skip ?_
  refine k_seq ?_
  refine awp_seq ?_
  refine awp_block ?_
  refine awp_seq ?_
  refine awp_draw yMix (by kernel_rfl) ?_
  refine s_mv ?_
  refine s_mv ?_
  replace hF3 := bind_some' hF3
  obtain ⟨v6, hv6, hF4⟩ := hF3
  refine s_ixT rI hv6 rfl yE22 ?_
  refine s_ld1 yA3 ?_
  refine s_mv ?_
  refine s_mv ?_
  replace hF4 := bind_some' hF4
  obtain ⟨v7, hv7, hF5⟩ := hF4
  refine s_ixT rI hv7 rfl yE22 ?_
  refine s_ld1 yA3 ?_
  refine s_ne ?_
  refine k_nilD (by kernel_rfl) ?_
  refine k_seq ?_
  refine w_cond hF5 (fun hc8 hF6 => ?_) (fun hc8 hF6 => ?_) <;> clear hF5
  refine awp_seq ?_
  refine awp_region ?_
  refine s_as ?_
  refine k_nil ?_
  refine k_seq ?_
  refine awp_ret ?_
  refine k_blk_ret ?_
  refine k_seq_ret ?_
  refine k_rnd_ret2 ?_
  refine k_blk_ret ?_
  refine k_seq_ret ?_
  refine k_fin ?_
  obtain rfl := Option.some.inj hF6
  exact ends_gen [] [] (by rw [Try.results61]; exact (res_tmp (by conv => lhs; whnf) res_nil))
  refine awp_skip ?_
  refine k_blk ?_
  refine k_seq ?_
  refine awp_region ?_
  refine s_mv ?_
  refine s_add (winc2 hc4 hb5 hn_g2) ?_
  refine s_as ?_
  refine k_nil ?_
  exact s_rnd2 (fu, (g2 + 1)) [] ⟨by first | omega | (dsimp only; omega), hF6, by first | omega | (dsimp only; omega)⟩ (hasR_cons (by conv => lhs; whnf) (by rfl) rfl (hasR_cons (by conv => lhs; whnf) (by rfl) rfl trivial)) trivial
  refine awp_exit ?_
  refine k_seq_exit ?_
  refine k_rnd_exit2 ?_
  refine k_blk_exit ?_
  refine k_seq ?_
  refine awp_seq ?_
  refine awp_region ?_
  refine s_as ?_
  refine k_nil ?_
  refine k_seq ?_
  refine awp_ret ?_
  refine k_fin ?_
  obtain rfl := Option.some.inj hF3
  exact ends_gen [] [] (by rw [Try.results61]; exact (res_tmp (by conv => lhs; whnf) res_nil))
end Go.Abs
