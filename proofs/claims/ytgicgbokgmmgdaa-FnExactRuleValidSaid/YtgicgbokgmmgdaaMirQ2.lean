/- The functions answer what their mirrors answer. -/
import Derived.Test.YtgicgbokgmmgdaaMirF
import Derived.Test.YtgicgbokgmmgdaaMirQ0
import Derived.Test.YtgicgbokgmmgdaaMirQ1
set_option linter.unusedSimpArgs false
set_option maxRecDepth 100000
set_option maxHeartbeats 4000000
set_option linter.unusedVariables false
namespace Go.Abs
open Go.Proofs
def m_impl_dotsOk_AC (fuel : Nat) : Prop := ∀ (x1 : Form) (x2 : Bool) (r : Bool), m_impl_dotsOk fuel x1 x2 = some r → AC Try.prog 80 [.ag [.t (.sc (.int .i64 x1.kind)), .t (.sc (.str x1.name)), .t (.sc (.int .i64 x1.n)), .t (.sl (x1.scopes.map rI)), .t (.sl (x1.kids.map Form.row))], .t (.sc (.bool x2))] noOb (.t (.sc (.bool r))) noOb
theorem m_impl_dotsOk_st (fu : Nat) (ih_m_impl_dotsOk : ∀ k, k ≤ fu → m_impl_dotsOk_AC k) : m_impl_dotsOk_AC (fu + 1) := by
  intro x1 x2 r hF0
  rw [m_impl_dotsOk] at hF0
  refine AC_intro (rs := [.t (.sc (.bool r))]) Try.func80 rfl (by kernel_rfl) (by simp [Try.ntmps80]) (by simp [noOb]) ?_
  intro C hC
  rw [Try.ntmps80]
  refine awp_seq ?_
  refine awp_region ?_
  refine s_box ?_
  refine s_as ?_
  refine k_nil ?_
  refine k_seq ?_
  refine awp_seq ?_
  refine awp_seq ?_
  refine awp_region ?_
  refine s_fa yF32_4 ?_
  refine s_ld1 yA30 ?_
  refine s_lenT yU30 ?_
  refine s_mv ?_
  refine k_nil ?_
  refine k_seq ?_
  refine awp_block ?_
  refine awp_frame2 [4, 5, 6, 10, 11, 12, 13, 14, 15, 16, 17, 18, 19, 20, 21, 22, 23, 24, 25, 26, 27, 28, 29, 30, 31, 32, 33, 34, 35, 36, 37, 38, 39, 40, 41, 42, 43] [] [6] [] (fun a : Nat × Int => a.1) (fun a : Nat × Int => [(4, .t (.sc (.bool false))), (10, .t (.sc (.int .i64 a.2)))]) (fun a : Nat × Int => []) (fun a : Nat × Int => a.1 ≤ fu ∧ m_impl_dotsOk_l1 a.1 x1 x2 a.2 = some r ∧ 0 ≤ a.2) (fu, 0) ⟨Nat.le_refl _, hF0, by simp⟩ (by rfl) (by rfl) (fun _ => rfl) (hasF_cons (by conv => lhs; whnf) (by rfl) (hasF_cons (by conv => lhs; whnf) (by rfl) hasF_nil)) hasO_nil (fun _ h => by cases h) freshS_nil freshM_nil ?_
  clear hF0
  rintro ⟨fu, g1⟩ ⟨hl2, hF1, hn_g1⟩
  dsimp only at hl2 hF1 hn_g1 ⊢
  obtain _ | fu := fu
  · rw [m_impl_dotsOk_l1] at hF1; cases hF1
  rw [m_impl_dotsOk_l1] at hF1
  refine awp_seq ?_
  refine awp_region ?_
  refine s_lt ?_
  refine k_nil ?_
  refine k_seq ?_
  refine awp_seq ?_
  refine w_cond hF1 (fun hc3 hF2 => ?_) (fun hc3 hF2 => ?_) <;> clear hF1
  refine awp_lenT 8 (fun hb4 => ?_)
  refine awp_skip ?_
  refine k_seq ?_
  refine awp_seq ?_
  refine awp_block ?_
  refine awp_seq ?_
  refine awp_region ?_
  refine s_mv ?_
  replace hF2 := bind_some' hF2
  obtain ⟨v5, hv5, hF3⟩ := hF2
  refine s_ixT Form.row hv5 (Form.row_eq _) yE30 ?_
  refine s_ldN yA32 yS32 ?_
  refine s_alloc yZ32 ?_
  refine s_as ?_
  refine s_stW yS32 ?_
  refine k_nil ?_
  refine k_seq ?_
  refine awp_seq ?_
  refine awp_region ?_
  refine s_ldW yA32 yS32 ?_
  replace hF3 := bind_some' hF3
  obtain ⟨v6, hv6, hF4⟩ := hF3
  refine s_pure [] (m_impl_named_ok fu _ _ _ hv6) ?_
  refine k_nil ?_
  refine k_seq ?_
  refine w_cond hF4 (fun hc7 hF5 => ?_) (fun hc7 hF5 => ?_) <;> clear hF4
  refine awp_seq ?_
  refine awp_region ?_
  refine s_mv ?_
  refine s_eq ?_
  refine s_mv ?_
  refine w_guard _ 19 hF5 (fun hc8 hF6 => ?_) (fun hc8 hF6 => ?_) <;> clear hF5
  refine r_no rfl ?_
  refine r_no rfl ?_
  refine r_no rfl ?_
  refine r_no rfl ?_
  refine r_no rfl ?_
  refine r_no rfl ?_
  refine r_no rfl ?_
  refine s_pkt ?_
  refine s_mv ?_
  refine r_no rfl ?_
  refine r_no rfl ?_
  refine r_no rfl ?_
  refine r_no rfl ?_
  refine r_no rfl ?_
  refine r_no rfl ?_
  refine r_no rfl ?_
  refine r_no rfl ?_
  refine r_no rfl ?_
  refine s_pkt ?_
  refine k_nil ?_
  refine k_seq ?_
  refine awp_true rfl ?_
  refine awp_seq ?_
  refine awp_region ?_
  refine s_as ?_
  refine k_nil ?_
  refine k_seq ?_
  refine awp_ret ?_
  refine k_blk_ret ?_
  refine k_seq_ret ?_
  refine k_rnd_ret2 ?_
  refine k_blk_ret ?_
  refine k_seq_ret ?_
  refine k_fin ?_
  obtain rfl := Option.some.inj hF6
  exact ends_gen [] [] (by rw [Try.results80]; exact (res_tmp (by conv => lhs; whnf) res_nil))
  refine s_fa yF32_4 ?_
  refine s_ld1 yA30 ?_
  refine s_mv ?_
  refine s_sub rfl ?_
  replace hF6 := bind_some' hF6
  obtain ⟨v9, hv9, hF7⟩ := hF6
  refine s_ixT Form.row hv9 (Form.row_eq _) yE30 ?_
  refine s_ldN yA32 yS32 ?_
  replace hF7 := bind_some' hF7
  obtain ⟨v10, hv10, hF8⟩ := hF7
  refine s_pure [] (m_impl_named_ok fu _ _ _ hv10) ?_
  refine s_pkf ?_
  refine s_mv ?_
  refine w_guard _ 28 hF8 (fun hc11 hF9 => ?_) (fun hc11 hF9 => ?_) <;> clear hF8
  refine r_no rfl ?_
  refine r_no rfl ?_
  refine r_no rfl ?_
  refine r_no rfl ?_
  refine r_no rfl ?_
  refine r_no rfl ?_
  refine r_no rfl ?_
  refine r_no rfl ?_
  refine r_no rfl ?_
  refine s_pkt ?_
  refine k_nil ?_
  refine k_seq ?_
  refine awp_true rfl ?_
  refine awp_seq ?_
  refine awp_region ?_
  refine s_as ?_
  refine k_nil ?_
  refine k_seq ?_
  refine awp_ret ?_
  refine k_blk_ret ?_
  refine k_seq_ret ?_
  refine k_rnd_ret2 ?_
  refine k_blk_ret ?_
  refine k_seq_ret ?_
  refine k_fin ?_
  obtain rfl := Option.some.inj hF9
  exact ends_gen [] [] (by rw [Try.results80]; exact (res_tmp (by conv => lhs; whnf) res_nil))
  refine s_mv ?_
  refine s_mv ?_
  refine w_guard _ 30 hF9 (fun hc12 hF10 => ?_) (fun hc12 hF10 => ?_) <;> clear hF9
  refine s_fa yF32_4 ?_
  refine s_ld1 yA30 ?_
  refine s_mv ?_
  replace hF10 := bind_some' hF10
  obtain ⟨v13, hv13, hF11⟩ := hF10
  refine s_sl01 Form.row (fun y => Form.row_len y) hv13 yU30 yE30 ?_
  replace hF11 := bind_some' hF11
  obtain ⟨v14, hv14, hF12⟩ := hF11
  refine s_pure [] (m_impl_dotsAt_ok fu _ _ hv14) ?_
  refine s_ge ?_
  refine s_pkt ?_
  refine s_pkf ?_
  refine k_nil ?_
  refine k_seq ?_
  refine w_cond hF12 (fun hc15 hF13 => ?_) (fun hc15 hF13 => ?_) <;> clear hF12
  refine awp_seq ?_
  refine awp_region ?_
  refine s_as ?_
  refine k_nil ?_
  refine k_seq ?_
  refine awp_ret ?_
  refine k_blk_ret ?_
  refine k_seq_ret ?_
  refine k_rnd_ret2 ?_
  refine k_blk_ret ?_
  refine k_seq_ret ?_
  refine k_fin ?_
  obtain rfl := Option.some.inj hF13
  exact ends_gen [] [] (by rw [Try.results80]; exact (res_tmp (by conv => lhs; whnf) res_nil))
  refine awp_skip ?_
  refine k_blk ?_
  refine k_seq ?_
  refine awp_region ?_
  refine s_add (winc2 hc3 hb4 hn_g1) ?_
  refine s_mv ?_
  refine k_nil ?_
  exact s_rnd2 (fu, (g1 + 1)) [] ⟨by first | omega | (dsimp only; omega), hF13, by first | omega | (dsimp only; omega)⟩ (hasR_cons (by conv => lhs; whnf) (by rfl) rfl (hasR_cons (by conv => lhs; whnf) (by rfl) rfl trivial)) trivial
  refine r_no rfl ?_
  refine r_no rfl ?_
  refine r_no rfl ?_
  refine r_no rfl ?_
  refine r_no rfl ?_
  refine r_no rfl ?_
  refine s_pkf ?_
  refine s_pkf ?_
  refine k_nil ?_
  refine k_seq ?_
  refine awp_false rfl ?_
  refine awp_skip ?_
  refine k_blk ?_
  refine k_seq ?_
  refine awp_region ?_
  refine s_add (winc2 hc3 hb4 hn_g1) ?_
  refine s_mv ?_
  refine k_nil ?_
  exact s_rnd2 (fu, (g1 + 1)) [] ⟨by first | omega | (dsimp only; omega), hF10, by first | omega | (dsimp only; omega)⟩ (hasR_cons (by conv => lhs; whnf) (by rfl) rfl (hasR_cons (by conv => lhs; whnf) (by rfl) rfl trivial)) trivial
  refine awp_seq ?_
  refine awp_region ?_
  refine s_ldW yA32 yS32 ?_
  refine s_mv ?_
  replace hF5 := bind_some' hF5
  obtain ⟨v16, hv16, hF6⟩ := hF5
  refine s_pure [] (ih_m_impl_dotsOk fu (by omega) _ _ _ hv16) ?_
  refine s_not ?_
  refine k_nil ?_
  refine k_seq ?_
  refine w_cond hF6 (fun hc17 hF7 => ?_) (fun hc17 hF7 => ?_) <;> clear hF6
  refine awp_seq ?_
  refine awp_region ?_
  refine s_as ?_
  refine k_nil ?_
  refine k_seq ?_
  refine awp_ret ?_
  refine k_blk_ret ?_
  refine k_seq_ret ?_
  refine k_rnd_ret2 ?_
  refine k_blk_ret ?_
  refine k_seq_ret ?_
  refine k_fin ?_
  obtain rfl := Option.some.inj hF7
  exact ends_gen [] [] (by rw [Try.results80]; exact (res_tmp (by conv => lhs; whnf) res_nil))
  refine awp_skip ?_
  refine k_blk ?_
  refine k_seq ?_
  refine awp_region ?_
  refine s_add (winc2 hc3 hb4 hn_g1) ?_
  refine s_mv ?_
  refine k_nil ?_
  exact s_rnd2 (fu, (g1 + 1)) [] ⟨by first | omega | (dsimp only; omega), hF7, by first | omega | (dsimp only; omega)⟩ (hasR_cons (by conv => lhs; whnf) (by rfl) rfl (hasR_cons (by conv => lhs; whnf) (by rfl) rfl trivial)) trivial
  refine awp_exit ?_
  refine k_seq_exit ?_
  refine k_rnd_exit2 ?_
  refine k_blk_exit ?_
  refine k_seq ?_
  refine awp_seq ?_
  refine awp_region ?_
  refine s_as ?_
  refine k_nil ?_
  refine k_seq ?_
  refine awp_ret ?_
  refine k_fin ?_
  obtain rfl := Option.some.inj hF2
  exact ends_gen [] [] (by rw [Try.results80]; exact (res_tmp (by conv => lhs; whnf) res_nil))
theorem m_impl_dotsOk_all (fuel : Nat) : m_impl_dotsOk_AC fuel := by
  induction fuel using Nat.strongRecOn with
  | _ N ih =>
    cases N with
    | zero => exact (by intro x1 x2 r h; rw [m_impl_dotsOk] at h; cases h)
    | succ fu => exact m_impl_dotsOk_st fu (fun k hk => (ih k (by omega)))
theorem m_impl_dotsOk_ok (fuel : Nat) : m_impl_dotsOk_AC fuel := (m_impl_dotsOk_all fuel)
def m_impl_isVar_AC (fuel : Nat) : Prop := ∀ (x1 : Form) (x2 : (List Form)) (r : Bool), m_impl_isVar fuel x1 x2 = some r → AC Try.prog 139 [.ag [.t (.sc (.int .i64 x1.kind)), .t (.sc (.str x1.name)), .t (.sc (.int .i64 x1.n)), .t (.sl (x1.scopes.map rI)), .t (.sl (x1.kids.map Form.row))], .t (.sl (x2.map Form.row))] noOb (.t (.sc (.bool r))) noOb
theorem m_impl_isVar_ok (fuel : Nat) : m_impl_isVar_AC fuel := by
  intro x1 x2 r hF0
  unfold m_impl_isVar at hF0
  refine AC_intro (rs := [.t (.sc (.bool r))]) Try.func139 rfl (by kernel_rfl) (by simp [Try.ntmps139]) (by simp [noOb]) ?_
  intro C hC
  rw [Try.ntmps139]
  refine awp_seq ?_
  refine awp_region ?_
  refine s_box ?_
  refine s_as ?_
  refine k_nil ?_
  refine k_seq ?_
  refine awp_seq ?_
  refine awp_region ?_
  refine s_fa yF32_0 ?_
  refine s_ld1 yA3 ?_
  refine s_eq ?_
  refine s_mv ?_
  refine w_guard _ 8 hF0 (fun hc1 hF1 => ?_) (fun hc1 hF1 => ?_) <;> clear hF0
  refine s_fa yF32_1 ?_
  refine s_ld1 yA9 ?_
  refine s_neS ?_
  refine s_pkt ?_
  refine s_mv ?_
  refine w_guard _ 13 hF1 (fun hc2 hF2 => ?_) (fun hc2 hF2 => ?_) <;> clear hF1
  refine s_fa yF32_1 ?_
  refine s_ld1 yA9 ?_
  refine s_neS ?_
  refine s_pkt ?_
  refine s_mv ?_
  refine w_guard _ 18 hF2 (fun hc3 hF3 => ?_) (fun hc3 hF3 => ?_) <;> clear hF2
  refine s_mv ?_
  refine s_ldW yA32 yS32 ?_
  replace hF3 := bind_some' hF3
  obtain ⟨v4, hv4, hF4⟩ := hF3
  refine s_pure [] (m_impl_isIn_ok fuel _ _ _ hv4) ?_
  refine s_not ?_
  refine s_pkt ?_
  refine s_as ?_
  refine k_nil ?_
  refine k_seq ?_
  refine awp_ret ?_
  refine k_fin ?_
  obtain rfl := Option.some.inj hF4
  exact ends_gen [] [] (by rw [Try.results139]; exact (res_tmp (by conv => lhs; whnf) res_nil))
  refine r_no rfl ?_
  refine r_no rfl ?_
  refine r_no rfl ?_
  refine r_no rfl ?_
  refine s_pkf ?_
  refine s_as ?_
  refine k_nil ?_
  refine k_seq ?_
  refine awp_ret ?_
  refine k_fin ?_
  obtain rfl := Option.some.inj hF3
  exact ends_gen [] [] (by rw [Try.results139]; exact (res_tmp (by conv => lhs; whnf) res_nil))
  refine r_no rfl ?_
  refine r_no rfl ?_
  refine r_no rfl ?_
  refine s_pkf ?_
  refine s_mv ?_
  refine r_no rfl ?_
  refine r_no rfl ?_
  refine r_no rfl ?_
  refine r_no rfl ?_
  refine s_pkf ?_
  refine s_as ?_
  refine k_nil ?_
  refine k_seq ?_
  refine awp_ret ?_
  refine k_fin ?_
  obtain rfl := Option.some.inj hF2
  exact ends_gen [] [] (by rw [Try.results139]; exact (res_tmp (by conv => lhs; whnf) res_nil))
  refine r_no rfl ?_
  refine r_no rfl ?_
  refine r_no rfl ?_
  refine s_pkf ?_
  refine s_mv ?_
  refine r_no rfl ?_
  refine r_no rfl ?_
  refine r_no rfl ?_
  refine s_pkf ?_
  refine s_mv ?_
  refine r_no rfl ?_
  refine r_no rfl ?_
  refine r_no rfl ?_
  refine r_no rfl ?_
  refine s_pkf ?_
  refine s_as ?_
  refine k_nil ?_
  refine k_seq ?_
  refine awp_ret ?_
  refine k_fin ?_
  obtain rfl := Option.some.inj hF1
  exact ends_gen [] [] (by rw [Try.results139]; exact (res_tmp (by conv => lhs; whnf) res_nil))
def m_impl_patternVars_AC (fuel : Nat) : Prop := ∀ (x1 : Form) (x2 : (List Form)) (x3 : Int) (o1 : (List Form)) (o2 : (List Int)) (r : ((List Form) × (List Int))), m_impl_patternVars fuel x1 x2 x3 o1 o2 = some r → AC Try.prog 106 [.ag [.t (.sc (.int .i64 x1.kind)), .t (.sc (.str x1.name)), .t (.sc (.int .i64 x1.n)), .t (.sl (x1.scopes.map rI)), .t (.sl (x1.kids.map Form.row))], .t (.sl (x2.map Form.row)), .t (.sc (.int .i64 x3)), .rf 9000 0, .rf 9001 0] (objs [(9000, .box [.ar 9420]), (9420, .arr (o1.map Form.row) 32 true), (9001, .box [.ar 9440]), (9440, .arr (o2.map rI) 3 true)]) (.tp []) (objs [(9000, .box [.ar 10420]), (9420, .dead), (9001, .box [.ar 10440]), (9440, .dead), (10420, .arr (r.1.map Form.row) 32 true), (10440, .arr (r.2.map rI) 3 true)])
theorem m_impl_patternVars_st (fu : Nat) (ih_m_impl_patternVars : ∀ k, k ≤ fu → m_impl_patternVars_AC k) : m_impl_patternVars_AC (fu + 1) := by
  intro x1 x2 x3 o1 o2 r hF0
  rw [m_impl_patternVars] at hF0
  refine AC_intro (rs := []) Try.func106 rfl (by kernel_rfl) (by simp [Try.ntmps106]) (keep_all rfl) ?_
  intro C hC
  rw [Try.ntmps106]
  refine awp_seq ?_
  refine awp_region ?_
  refine s_box ?_
  refine k_nil ?_
  refine k_seq ?_
  refine awp_seq ?_
  refine awp_seq ?_
  refine awp_region ?_
  refine s_ldW yA32 yS32 ?_
  refine s_mv ?_
  replace hF0 := bind_some' hF0
  obtain ⟨v1, hv1, hF1⟩ := hF0
  refine s_pure [] (m_impl_isVar_ok fu _ _ _ hv1) ?_
  refine k_nil ?_
  refine k_seq ?_
  refine w_cond hF1 (fun hc2 hF2 => ?_) (fun hc2 hF2 => ?_) <;> clear hF1
  refine awp_seq ?_
  refine awp_draw yMix (by kernel_rfl) ?_
  refine s_mv ?_
  refine s_nc ?_
  refine s_ld1 yA30 ?_
  refine s_ldW yA32 yS32 ?_
  refine s_lenA yU30 ?_
  refine s_bs Form.row [(Form.mk 0 (⟨#[]⟩ : ByteArray) 0 ([] : List Int) ([] : List Form))] yP30 yR32 ?_
  obtain ⟨hk3, hF3⟩ := chk_some hF2
  refine s_apT Form.row (fun y => Form.row_len y) hk3 yP30 ?_
  replace hF3 := bind_some' hF3
  obtain ⟨v4, hv4, hF4⟩ := hF3
  refine s_ixA Form.row hv4 yE30 ?_
  refine s_stA Form.row x1 hv4 (Form.row_eq _) (Form.row_eq _) yS32 yS32 ?_
  refine s_nc ?_
  refine s_stW yS30 ?_
  refine k_nilD (by kernel_rfl) ?_
  refine k_seq ?_
  refine awp_region ?_
  refine s_mv ?_
  refine s_mv ?_
  refine s_nc ?_
  refine s_ld1 yA22 ?_
  refine s_mv ?_
  refine s_bs rI [x3] yP22 yR3 ?_
  obtain ⟨hk5, hF5⟩ := chk_some hF4
  refine s_apT rI (fun _ => rfl) hk5 yP22 ?_
  refine s_nc ?_
  refine s_stW yS22 ?_
  refine k_nil ?_
  refine k_seq ?_
  refine awp_seq ?_
  refine awp_region ?_
  refine s_fa yF32_4 ?_
  refine s_ld1 yA30 ?_
  refine s_lenT yU30 ?_
  refine s_mv ?_
  refine k_nil ?_
  refine k_seq ?_
  refine awp_block ?_
  refine awp_mvB 9000 22 5020 [.ar 5020] ?_
  refine awp_mvB 9001 31 5021 [.ar 5021] ?_
  refine awp_frame2 [10, 11, 12, 36, 37, 38, 39, 40, 41, 42, 43, 44, 45, 46, 47, 48, 49, 50, 51, 52, 53, 54, 55, 56, 57, 58, 59, 60, 61, 62, 63, 64, 65] [5020, 5021, 9000, 9001] [11, 42064, 52064] [5020, 5021] (fun a : Nat × Int × (List Form) × (List Int) => a.1) (fun a : Nat × Int × (List Form) × (List Int) => [(36, .t (.sc (.int .i64 a.2.1)))]) (fun a : Nat × Int × (List Form) × (List Int) => [(5020, .arr (a.2.2.1.map Form.row) 32 true), (5021, .arr (a.2.2.2.map rI) 3 true), (9000, .box [.ar 5020]), (9001, .box [.ar 5021])]) (fun a : Nat × Int × (List Form) × (List Int) => a.1 ≤ fu ∧ m_impl_patternVars_l1 a.1 x1 x2 x3 a.2.1 a.2.2.1 a.2.2.2 = some r ∧ 0 ≤ a.2.1) (fu, 0, ((o1 ++ [(Form.mk 0 (⟨#[]⟩ : ByteArray) 0 ([] : List Int) ([] : List Form))]).set (o1.length : Int).toNat x1), (o2 ++ [x3])) ⟨Nat.le_refl _, hF5, by simp⟩ (by rfl) (by rfl) (fun _ => rfl) (hasF_cons (by conv => lhs; whnf) (by rfl) hasF_nil) (hasO_cons (by conv => lhs; whnf) (by rfl) (hasO_cons (by conv => lhs; whnf) (by rfl) (hasO_cons (by conv => lhs; whnf) (by rfl) (hasO_cons (by conv => lhs; whnf) (by rfl) hasO_nil)))) (fresh_C hC rfl) (by repeat (first | exact freshS_args rfl | refine freshS_upd rfl ?_ | refine freshS_frame rfl ?_)) (by repeat (first | exact freshM_no | exact objs_fresh rfl | refine freshM_upd rfl ?_ | refine freshM_frame rfl ?_)) ?_
  clear hF5
  rintro ⟨fu, g6, g7, g8⟩ ⟨hl9, hF6, hn_g6⟩
  dsimp only at hl9 hF6 hn_g6 ⊢
  obtain _ | fu := fu
  · rw [m_impl_patternVars_l1] at hF6; cases hF6
  rw [m_impl_patternVars_l1] at hF6
  refine awp_seq ?_
  refine awp_region ?_
  refine s_lt ?_
  refine k_nil ?_
  refine k_seq ?_
  refine awp_seq ?_
  refine w_cond hF6 (fun hc10 hF7 => ?_) (fun hc10 hF7 => ?_) <;> clear hF6
  refine awp_lenT 34 (fun hb11 => ?_)
  refine awp_skip ?_
  refine k_seq ?_
  refine awp_seq ?_
  refine awp_block ?_
  refine awp_seq ?_
  refine awp_region ?_
  refine s_mv ?_
  replace hF7 := bind_some' hF7
  obtain ⟨v12, hv12, hF8⟩ := hF7
  refine s_ixT Form.row hv12 (Form.row_eq _) yE30 ?_
  refine s_ldN yA32 yS32 ?_
  refine s_alloc yZ32 ?_
  refine s_as ?_
  refine s_stW yS32 ?_
  refine k_nil ?_
  refine k_seq ?_
  refine awp_seq ?_
  refine awp_region ?_
  refine s_mv ?_
  refine s_as ?_
  refine k_nil ?_
  refine k_seq ?_
  refine awp_seq ?_
  refine awp_seq ?_
  refine awp_region ?_
  refine s_mv ?_
  refine s_add (winc2 hc10 hb11 hn_g6) ?_
  refine s_fa yF32_4 ?_
  refine s_ld1 yA30 ?_
  refine s_lenT yU30 ?_
  refine s_lt ?_
  refine s_mv ?_
  refine w_guard _ 48 hF8 (fun hc13 hF9 => ?_) (fun hc13 hF9 => ?_) <;> clear hF8
  refine s_fa yF32_4 ?_
  refine s_ld1 yA30 ?_
  refine s_mv ?_
  refine s_add (winc2 hc10 hb11 hn_g6) ?_
  replace hF9 := bind_some' hF9
  obtain ⟨v14, hv14, hF10⟩ := hF9
  refine s_ixT Form.row hv14 (Form.row_eq _) yE30 ?_
  refine s_ldN yA32 yS32 ?_
  replace hF10 := bind_some' hF10
  obtain ⟨v15, hv15, hF11⟩ := hF10
  refine s_pure [] (m_impl_named_ok fu _ _ _ hv15) ?_
  refine s_pkt ?_
  refine k_nil ?_
  refine k_seq ?_
  refine w_cond hF11 (fun hc16 hF12 => ?_) (fun hc16 hF12 => ?_) <;> clear hF11
  refine awp_region ?_
  refine s_mv ?_
  refine s_add rfl ?_
  refine s_as ?_
  refine k_nil ?_
  refine k_seq ?_
  refine awp_region ?_
  refine s_ldW yA32 yS32 ?_
  refine s_mv ?_
  refine s_mv ?_
  refine s_mv ?_
  refine s_mv ?_
  replace hF12 := bind_some' hF12
  obtain ⟨v17, hv17, hF13⟩ := hF12
  refine s_call [(9000, 9000), (9001, 9001), (9420, 5020), (9440, 5021), (10420, 42064), (10440, 52064)] [] _ _ (ih_m_impl_patternVars fu (by omega) _ _ _ _ _ _ hv17) ?_
  refine k_nil ?_
  refine k_blk ?_
  refine k_seq ?_
  refine awp_region ?_
  refine s_add (winc2 hc10 hb11 hn_g6) ?_
  refine s_mv ?_
  refine k_nil ?_
  exact s_rnd2 (fu, (g6 + 1), v17.1, v17.2) [(5020, 42064), (5021, 52064)] ⟨by first | omega | (dsimp only; omega), hF13, by first | omega | (dsimp only; omega)⟩ (hasR_cons (by conv => lhs; whnf) (by rfl) rfl trivial) (hasQ_cons (by conv => lhs; whnf) (by rfl) rfl (hasQ_cons (by conv => lhs; whnf) (by rfl) rfl (hasQ_cons (by conv => lhs; whnf) (by rfl) rfl (hasQ_cons (by conv => lhs; whnf) (by rfl) rfl trivial))))
  refine awp_skip ?_
  refine k_seq ?_
  refine awp_region ?_
  refine s_ldW yA32 yS32 ?_
  refine s_mv ?_
  refine s_mv ?_
  refine s_mv ?_
  refine s_mv ?_
  replace hF12 := bind_some' hF12
  obtain ⟨v18, hv18, hF13⟩ := hF12
  refine s_call [(9000, 9000), (9001, 9001), (9420, 5020), (9440, 5021), (10420, 42064), (10440, 52064)] [] _ _ (ih_m_impl_patternVars fu (by omega) _ _ _ _ _ _ hv18) ?_
  refine k_nil ?_
  refine k_blk ?_
  refine k_seq ?_
  refine awp_region ?_
  refine s_add (winc2 hc10 hb11 hn_g6) ?_
  refine s_mv ?_
  refine k_nil ?_
  exact s_rnd2 (fu, (g6 + 1), v18.1, v18.2) [(5020, 42064), (5021, 52064)] ⟨by first | omega | (dsimp only; omega), hF13, by first | omega | (dsimp only; omega)⟩ (hasR_cons (by conv => lhs; whnf) (by rfl) rfl trivial) (hasQ_cons (by conv => lhs; whnf) (by rfl) rfl (hasQ_cons (by conv => lhs; whnf) (by rfl) rfl (hasQ_cons (by conv => lhs; whnf) (by rfl) rfl (hasQ_cons (by conv => lhs; whnf) (by rfl) rfl trivial))))
  refine r_no rfl ?_
  refine r_no rfl ?_
  refine r_no rfl ?_
  refine r_no rfl ?_
  refine r_no rfl ?_
  refine r_no rfl ?_
  refine r_no rfl ?_
  refine s_pkf ?_
  refine k_nil ?_
  refine k_seq ?_
  refine awp_false rfl ?_
  refine awp_skip ?_
  refine k_seq ?_
  refine awp_region ?_
  refine s_ldW yA32 yS32 ?_
  refine s_mv ?_
  refine s_mv ?_
  refine s_mv ?_
  refine s_mv ?_
  replace hF9 := bind_some' hF9
  obtain ⟨v19, hv19, hF10⟩ := hF9
  refine s_call [(9000, 9000), (9001, 9001), (9420, 5020), (9440, 5021), (10420, 42064), (10440, 52064)] [] _ _ (ih_m_impl_patternVars fu (by omega) _ _ _ _ _ _ hv19) ?_
  refine k_nil ?_
  refine k_blk ?_
  refine k_seq ?_
  refine awp_region ?_
  refine s_add (winc2 hc10 hb11 hn_g6) ?_
  refine s_mv ?_
  refine k_nil ?_
  exact s_rnd2 (fu, (g6 + 1), v19.1, v19.2) [(5020, 42064), (5021, 52064)] ⟨by first | omega | (dsimp only; omega), hF10, by first | omega | (dsimp only; omega)⟩ (hasR_cons (by conv => lhs; whnf) (by rfl) rfl trivial) (hasQ_cons (by conv => lhs; whnf) (by rfl) rfl (hasQ_cons (by conv => lhs; whnf) (by rfl) rfl (hasQ_cons (by conv => lhs; whnf) (by rfl) rfl (hasQ_cons (by conv => lhs; whnf) (by rfl) rfl trivial))))
  refine awp_mvB 9000 5020 10420 [.ar 10420] ?_
  refine awp_mvB 9001 5021 10440 [.ar 10440] ?_
  refine awp_exit ?_
  refine k_seq_exit ?_
  refine k_rnd_exit2 ?_
  refine k_blk_exit ?_
  refine k_fin_end ?_
  obtain rfl := Option.some.inj hF7
  exact ends_gen _ [] (by rw [Try.results106]; exact res_nil)
  refine awp_skip ?_
  refine k_seq ?_
  refine awp_seq ?_
  refine awp_region ?_
  refine s_fa yF32_4 ?_
  refine s_ld1 yA30 ?_
  refine s_lenT yU30 ?_
  refine s_mv ?_
  refine k_nil ?_
  refine k_seq ?_
  refine awp_block ?_
  refine awp_mvB 9000 9420 5040 [.ar 5040] ?_
  refine awp_mvB 9001 9440 5041 [.ar 5041] ?_
  refine awp_frame2 [10, 11, 12, 36, 37, 38, 39, 40, 41, 42, 43, 44, 45, 46, 47, 48, 49, 50, 51, 52, 53, 54, 55, 56, 57, 58, 59, 60, 61, 62, 63, 64, 65] [5040, 5041, 9000, 9001] [11, 42064, 52064] [5040, 5041] (fun a : Nat × Int × (List Form) × (List Int) => a.1) (fun a : Nat × Int × (List Form) × (List Int) => [(36, .t (.sc (.int .i64 a.2.1)))]) (fun a : Nat × Int × (List Form) × (List Int) => [(5040, .arr (a.2.2.1.map Form.row) 32 true), (5041, .arr (a.2.2.2.map rI) 3 true), (9000, .box [.ar 5040]), (9001, .box [.ar 5041])]) (fun a : Nat × Int × (List Form) × (List Int) => a.1 ≤ fu ∧ m_impl_patternVars_l1 a.1 x1 x2 x3 a.2.1 a.2.2.1 a.2.2.2 = some r ∧ 0 ≤ a.2.1) (fu, 0, o1, o2) ⟨Nat.le_refl _, hF2, by simp⟩ (by rfl) (by rfl) (fun _ => rfl) (hasF_cons (by conv => lhs; whnf) (by rfl) hasF_nil) (hasO_cons (by conv => lhs; whnf) (by rfl) (hasO_cons (by conv => lhs; whnf) (by rfl) (hasO_cons (by conv => lhs; whnf) (by rfl) (hasO_cons (by conv => lhs; whnf) (by rfl) hasO_nil)))) (fresh_C hC rfl) (by repeat (first | exact freshS_args rfl | refine freshS_upd rfl ?_ | refine freshS_frame rfl ?_)) (by repeat (first | exact freshM_no | exact objs_fresh rfl | refine freshM_upd rfl ?_ | refine freshM_frame rfl ?_)) ?_
  clear hF2
  rintro ⟨fu, g20, g21, g22⟩ ⟨hl23, hF3, hn_g20⟩
  dsimp only at hl23 hF3 hn_g20 ⊢
  obtain _ | fu := fu
  · rw [m_impl_patternVars_l1] at hF3; cases hF3
  rw [m_impl_patternVars_l1] at hF3
  refine awp_seq ?_
  refine awp_region ?_
  refine s_lt ?_
  refine k_nil ?_
  refine k_seq ?_
  refine awp_seq ?_
  refine w_cond hF3 (fun hc24 hF4 => ?_) (fun hc24 hF4 => ?_) <;> clear hF3
  refine awp_lenT 34 (fun hb25 => ?_)
  refine awp_skip ?_
  refine k_seq ?_
  refine awp_seq ?_
  refine awp_block ?_
  refine awp_seq ?_
  refine awp_region ?_
  refine s_mv ?_
  replace hF4 := bind_some' hF4
  obtain ⟨v26, hv26, hF5⟩ := hF4
  refine s_ixT Form.row hv26 (Form.row_eq _) yE30 ?_
  refine s_ldN yA32 yS32 ?_
  refine s_alloc yZ32 ?_
  refine s_as ?_
  refine s_stW yS32 ?_
  refine k_nil ?_
  refine k_seq ?_
  refine awp_seq ?_
  refine awp_region ?_
  refine s_mv ?_
  refine s_as ?_
  refine k_nil ?_
  refine k_seq ?_
  refine awp_seq ?_
  refine awp_seq ?_
  refine awp_region ?_
  refine s_mv ?_
  refine s_add (winc2 hc24 hb25 hn_g20) ?_
  refine s_fa yF32_4 ?_
  refine s_ld1 yA30 ?_
  refine s_lenT yU30 ?_
  refine s_lt ?_
  refine s_mv ?_
  refine w_guard _ 48 hF5 (fun hc27 hF6 => ?_) (fun hc27 hF6 => ?_) <;> clear hF5
  refine s_fa yF32_4 ?_
  refine s_ld1 yA30 ?_
  refine s_mv ?_
  refine s_add (winc2 hc24 hb25 hn_g20) ?_
  replace hF6 := bind_some' hF6
  obtain ⟨v28, hv28, hF7⟩ := hF6
  refine s_ixT Form.row hv28 (Form.row_eq _) yE30 ?_
  refine s_ldN yA32 yS32 ?_
  replace hF7 := bind_some' hF7
  obtain ⟨v29, hv29, hF8⟩ := hF7
  refine s_pure [] (m_impl_named_ok fu _ _ _ hv29) ?_
  refine s_pkt ?_
  refine k_nil ?_
  refine k_seq ?_
  refine w_cond hF8 (fun hc30 hF9 => ?_) (fun hc30 hF9 => ?_) <;> clear hF8
  refine awp_region ?_
  refine s_mv ?_
  refine s_add rfl ?_
  refine s_as ?_
  refine k_nil ?_
  refine k_seq ?_
  refine awp_region ?_
  refine s_ldW yA32 yS32 ?_
  refine s_mv ?_
  refine s_mv ?_
  refine s_mv ?_
  refine s_mv ?_
  replace hF9 := bind_some' hF9
  obtain ⟨v31, hv31, hF10⟩ := hF9
  refine s_call [(9000, 9000), (9001, 9001), (9420, 5040), (9440, 5041), (10420, 42064), (10440, 52064)] [] _ _ (ih_m_impl_patternVars fu (by omega) _ _ _ _ _ _ hv31) ?_
  refine k_nil ?_
  refine k_blk ?_
  refine k_seq ?_
  refine awp_region ?_
  refine s_add (winc2 hc24 hb25 hn_g20) ?_
  refine s_mv ?_
  refine k_nil ?_
  exact s_rnd2 (fu, (g20 + 1), v31.1, v31.2) [(5040, 42064), (5041, 52064)] ⟨by first | omega | (dsimp only; omega), hF10, by first | omega | (dsimp only; omega)⟩ (hasR_cons (by conv => lhs; whnf) (by rfl) rfl trivial) (hasQ_cons (by conv => lhs; whnf) (by rfl) rfl (hasQ_cons (by conv => lhs; whnf) (by rfl) rfl (hasQ_cons (by conv => lhs; whnf) (by rfl) rfl (hasQ_cons (by conv => lhs; whnf) (by rfl) rfl trivial))))
  refine awp_skip ?_
  refine k_seq ?_
  refine awp_region ?_
  refine s_ldW yA32 yS32 ?_
  refine s_mv ?_
  refine s_mv ?_
  refine s_mv ?_
  refine s_mv ?_
  replace hF9 := bind_some' hF9
  obtain ⟨v32, hv32, hF10⟩ := hF9
  refine s_call [(9000, 9000), (9001, 9001), (9420, 5040), (9440, 5041), (10420, 42064), (10440, 52064)] [] _ _ (ih_m_impl_patternVars fu (by omega) _ _ _ _ _ _ hv32) ?_
  refine k_nil ?_
  refine k_blk ?_
  refine k_seq ?_
  refine awp_region ?_
  refine s_add (winc2 hc24 hb25 hn_g20) ?_
  refine s_mv ?_
  refine k_nil ?_
  exact s_rnd2 (fu, (g20 + 1), v32.1, v32.2) [(5040, 42064), (5041, 52064)] ⟨by first | omega | (dsimp only; omega), hF10, by first | omega | (dsimp only; omega)⟩ (hasR_cons (by conv => lhs; whnf) (by rfl) rfl trivial) (hasQ_cons (by conv => lhs; whnf) (by rfl) rfl (hasQ_cons (by conv => lhs; whnf) (by rfl) rfl (hasQ_cons (by conv => lhs; whnf) (by rfl) rfl (hasQ_cons (by conv => lhs; whnf) (by rfl) rfl trivial))))
  refine r_no rfl ?_
  refine r_no rfl ?_
  refine r_no rfl ?_
  refine r_no rfl ?_
  refine r_no rfl ?_
  refine r_no rfl ?_
  refine r_no rfl ?_
  refine s_pkf ?_
  refine k_nil ?_
  refine k_seq ?_
  refine awp_false rfl ?_
  refine awp_skip ?_
  refine k_seq ?_
  refine awp_region ?_
  refine s_ldW yA32 yS32 ?_
  refine s_mv ?_
  refine s_mv ?_
  refine s_mv ?_
  refine s_mv ?_
  replace hF6 := bind_some' hF6
  obtain ⟨v33, hv33, hF7⟩ := hF6
  refine s_call [(9000, 9000), (9001, 9001), (9420, 5040), (9440, 5041), (10420, 42064), (10440, 52064)] [] _ _ (ih_m_impl_patternVars fu (by omega) _ _ _ _ _ _ hv33) ?_
  refine k_nil ?_
  refine k_blk ?_
  refine k_seq ?_
  refine awp_region ?_
  refine s_add (winc2 hc24 hb25 hn_g20) ?_
  refine s_mv ?_
  refine k_nil ?_
  exact s_rnd2 (fu, (g20 + 1), v33.1, v33.2) [(5040, 42064), (5041, 52064)] ⟨by first | omega | (dsimp only; omega), hF7, by first | omega | (dsimp only; omega)⟩ (hasR_cons (by conv => lhs; whnf) (by rfl) rfl trivial) (hasQ_cons (by conv => lhs; whnf) (by rfl) rfl (hasQ_cons (by conv => lhs; whnf) (by rfl) rfl (hasQ_cons (by conv => lhs; whnf) (by rfl) rfl (hasQ_cons (by conv => lhs; whnf) (by rfl) rfl trivial))))
  refine awp_mvB 9000 5040 10420 [.ar 10420] ?_
  refine awp_mvB 9001 5041 10440 [.ar 10440] ?_
  refine awp_exit ?_
  refine k_seq_exit ?_
  refine k_rnd_exit2 ?_
  refine k_blk_exit ?_
  refine k_fin_end ?_
  obtain rfl := Option.some.inj hF4
  exact ends_gen _ [] (by rw [Try.results106]; exact res_nil)
theorem m_impl_patternVars_all (fuel : Nat) : m_impl_patternVars_AC fuel := by
  induction fuel using Nat.strongRecOn with
  | _ N ih =>
    cases N with
    | zero => exact (by intro x1 x2 x3 o1 o2 r h; rw [m_impl_patternVars] at h; cases h)
    | succ fu => exact m_impl_patternVars_st fu (fun k hk => (ih k (by omega)))
theorem m_impl_patternVars_ok (fuel : Nat) : m_impl_patternVars_AC fuel := (m_impl_patternVars_all fuel)
def m_impl_varsOf_AC (fuel : Nat) : Prop := ∀ (x1 : Form) (x2 : (List Form)) (r : ((List Form) × (List Int))), m_impl_varsOf fuel x1 x2 = some r → AC Try.prog 64 [.ag [.t (.sc (.int .i64 x1.kind)), .t (.sc (.str x1.name)), .t (.sc (.int .i64 x1.n)), .t (.sl (x1.scopes.map rI)), .t (.sl (x1.kids.map Form.row))], .t (.sl (x2.map Form.row))] (objs []) (.tp [.ar 9200, .t (.sl (r.2.map rI))]) (objs [(9200, .arr (r.1.map Form.row) 32 true)])
theorem m_impl_varsOf_ok (fuel : Nat) : m_impl_varsOf_AC fuel := by
  intro x1 x2 r hF0
  unfold m_impl_varsOf at hF0
  refine AC_intro (rs := [.ar 9200, .t (.sl (r.2.map rI))]) Try.func64 rfl (by kernel_rfl) (by simp [Try.ntmps64]) (keep_all rfl) ?_
  intro C hC
  rw [Try.ntmps64]
  refine awp_seq ?_
  refine awp_region ?_
  refine s_box ?_
  refine s_as ?_
  refine s_as ?_
  refine k_nil ?_
  refine k_seq ?_
  refine awp_seq ?_
  refine awp_region ?_
  refine s_bs Form.row ([] : List Form) yP30 yR32 ?_
  refine s_bs rI ([] : List Int) yP22 yR3 ?_
  refine s_alloc yZ30 ?_
  refine s_alloc yZ22 ?_
  refine s_stW yS30 ?_
  refine s_stW yS22 ?_
  refine k_nil ?_
  refine k_seq ?_
  refine awp_seq ?_
  refine awp_region ?_
  refine s_ldW yA32 yS32 ?_
  refine s_mv ?_
  replace hF0 := bind_some' hF0
  obtain ⟨v1, hv1, hF1⟩ := hF0
  refine s_call [(9000, 6), (9001, 7), (9420, 8), (9440, 9), (10420, 42012), (10440, 52012)] [] _ _ (m_impl_patternVars_ok fuel _ _ _ _ _ _ hv1) ?_
  refine k_nil ?_
  refine k_seq ?_
  refine awp_seq ?_
  refine awp_draw yMix (by kernel_rfl) ?_
  refine s_ld1 yA30 ?_
  refine s_ld1 yA22 ?_
  refine s_as ?_
  refine s_as ?_
  refine k_nilD (by kernel_rfl) ?_
  refine k_seq ?_
  refine awp_mv 4 42012 9200 (by conv => lhs; whnf) (by conv => lhs; whnf) rfl ?_
  refine awp_ret ?_
  refine k_fin ?_
  obtain rfl := Option.some.inj hF1
  exact ends_gen _ [52012] (by rw [Try.results64]; exact (res_tmp (by conv => lhs; whnf) (res_tmp (by conv => lhs; whnf) res_nil)))
def m_impl_PatternValid_AC (fuel : Nat) : Prop := ∀ (x1 : Form) (x2 : (List Form)) (r : Bool), m_impl_PatternValid fuel x1 x2 = some r → AC Try.prog 35 [.ag [.t (.sc (.int .i64 x1.kind)), .t (.sc (.str x1.name)), .t (.sc (.int .i64 x1.n)), .t (.sl (x1.scopes.map rI)), .t (.sl (x1.kids.map Form.row))], .t (.sl (x2.map Form.row))] noOb (.t (.sc (.bool r))) noOb
theorem m_impl_PatternValid_ok (fuel : Nat) : m_impl_PatternValid_AC fuel := by
  intro x1 x2 r hF0
  unfold m_impl_PatternValid at hF0
  refine AC_intro (rs := [.t (.sc (.bool r))]) Try.func35 rfl (by kernel_rfl) (by simp [Try.ntmps35]) (by simp [noOb]) ?_
  intro C hC
  rw [Try.ntmps35]
  refine awp_seq ?_
  refine awp_region ?_
  refine s_box ?_
  refine s_as ?_
  refine k_nil ?_
  refine k_seq ?_
  refine awp_seq ?_
  refine awp_seq ?_
  refine awp_region ?_
  refine s_ldW yA32 yS32 ?_
  replace hF0 := bind_some' hF0
  obtain ⟨v1, hv1, hF1⟩ := hF0
  refine s_pure [] (m_impl_FormValid_ok fuel _ _ hv1) ?_
  refine s_not ?_
  refine s_mv ?_
  refine w_guard _ 12 hF1 (fun hc2 hF2 => ?_) (fun hc2 hF2 => ?_) <;> clear hF1
  refine r_no rfl ?_
  refine r_no rfl ?_
  refine r_no rfl ?_
  refine s_pkt ?_
  refine s_mv ?_
  refine r_no rfl ?_
  refine r_no rfl ?_
  refine s_pkt ?_
  refine s_mv ?_
  refine r_no rfl ?_
  refine r_no rfl ?_
  refine r_no rfl ?_
  refine s_pkt ?_
  refine k_nil ?_
  refine k_seq ?_
  refine awp_true rfl ?_
  refine awp_seq ?_
  refine awp_region ?_
  refine s_as ?_
  refine k_nil ?_
  refine k_seq ?_
  refine awp_ret ?_
  refine k_seq_ret ?_
  refine k_fin ?_
  obtain rfl := Option.some.inj hF2
  exact ends_gen [] [] (by rw [Try.results35]; exact (res_tmp (by conv => lhs; whnf) res_nil))
  refine s_mv ?_
  replace hF2 := bind_some' hF2
  obtain ⟨v3, hv3, hF3⟩ := hF2
  refine s_pure [] (m_impl_literalsOk_ok fuel _ _ hv3) ?_
  refine s_not ?_
  refine s_pkf ?_
  refine s_mv ?_
  refine w_guard _ 17 hF3 (fun hc4 hF4 => ?_) (fun hc4 hF4 => ?_) <;> clear hF3
  refine r_no rfl ?_
  refine r_no rfl ?_
  refine s_pkt ?_
  refine s_mv ?_
  refine r_no rfl ?_
  refine r_no rfl ?_
  refine r_no rfl ?_
  refine s_pkt ?_
  refine k_nil ?_
  refine k_seq ?_
  refine awp_true rfl ?_
  refine awp_seq ?_
  refine awp_region ?_
  refine s_as ?_
  refine k_nil ?_
  refine k_seq ?_
  refine awp_ret ?_
  refine k_seq_ret ?_
  refine k_fin ?_
  obtain rfl := Option.some.inj hF4
  exact ends_gen [] [] (by rw [Try.results35]; exact (res_tmp (by conv => lhs; whnf) res_nil))
  refine s_ldW yA32 yS32 ?_
  replace hF4 := bind_some' hF4
  obtain ⟨v5, hv5, hF5⟩ := hF4
  refine s_pure [] (m_impl_named_ok fuel _ _ _ hv5) ?_
  refine s_pkf ?_
  refine s_mv ?_
  refine w_guard _ 21 hF5 (fun hc6 hF6 => ?_) (fun hc6 hF6 => ?_) <;> clear hF5
  refine r_no rfl ?_
  refine r_no rfl ?_
  refine r_no rfl ?_
  refine s_pkt ?_
  refine k_nil ?_
  refine k_seq ?_
  refine awp_true rfl ?_
  refine awp_seq ?_
  refine awp_region ?_
  refine s_as ?_
  refine k_nil ?_
  refine k_seq ?_
  refine awp_ret ?_
  refine k_seq_ret ?_
  refine k_fin ?_
  obtain rfl := Option.some.inj hF6
  exact ends_gen [] [] (by rw [Try.results35]; exact (res_tmp (by conv => lhs; whnf) res_nil))
  refine s_ldW yA32 yS32 ?_
  replace hF6 := bind_some' hF6
  obtain ⟨v7, hv7, hF7⟩ := hF6
  refine s_pure [] (m_impl_dotsOk_ok fuel _ _ _ hv7) ?_
  refine s_not ?_
  refine s_pkf ?_
  refine k_nil ?_
  refine k_seq ?_
  refine w_cond hF7 (fun hc8 hF8 => ?_) (fun hc8 hF8 => ?_) <;> clear hF7
  refine awp_seq ?_
  refine awp_region ?_
  refine s_as ?_
  refine k_nil ?_
  refine k_seq ?_
  refine awp_ret ?_
  refine k_seq_ret ?_
  refine k_fin ?_
  obtain rfl := Option.some.inj hF8
  exact ends_gen [] [] (by rw [Try.results35]; exact (res_tmp (by conv => lhs; whnf) res_nil))
  refine awp_skip ?_
  refine k_seq ?_
  refine awp_seq ?_
  refine awp_region ?_
  refine s_ldW yA32 yS32 ?_
  refine s_mv ?_
  replace hF8 := bind_some' hF8
  obtain ⟨v9, hv9, hF9⟩ := hF8
  refine s_call [(9200, 2029)] [] _ _ (m_impl_varsOf_ok fuel _ _ _ hv9) ?_
  refine s_mv ?_
  refine s_ext ?_
  refine s_ext ?_
  refine s_as ?_
  refine s_as ?_
  refine k_nil ?_
  refine k_seq ?_
  refine awp_seq ?_
  refine awp_seq ?_
  refine awp_region ?_
  refine s_mv ?_
  refine s_lenA yU30 ?_
  refine s_mv ?_
  refine k_nil ?_
  refine k_seq ?_
  refine awp_block ?_
  refine awp_frz 2029 (by conv => lhs; whnf) ?_
  refine awp_frame2 [4, 7, 8, 34, 35, 36, 37, 38, 39, 40, 41, 42, 43, 44, 45, 46, 47, 48, 49, 50, 51] [2029] [8] [] (fun a : Nat × Int × (List Form) => a.1) (fun a : Nat × Int × (List Form) => [(4, .t (.sc (.bool false))), (34, .t (.sc (.int .i64 a.2.1)))]) (fun a : Nat × Int × (List Form) => [(2029, .arr (a.2.2.map Form.row) 32 false)]) (fun a : Nat × Int × (List Form) => a.1 ≤ fuel ∧ m_impl_PatternValid_l1 a.1 v9 a.2.1 a.2.2 = some r) (fuel, 0, v9.1) ⟨Nat.le_refl _, hF9⟩ (by rfl) (by rfl) (fun _ => rfl) (hasF_cons (by conv => lhs; whnf) (by rfl) (hasF_cons (by conv => lhs; whnf) (by rfl) hasF_nil)) (hasO_cons (by conv => lhs; whnf) (by rfl) hasO_nil) (fun _ h => by cases h) freshS_nil freshM_nil ?_
  clear hF9
  rintro ⟨fu, g10, g11⟩ ⟨hl12, hF10⟩
  dsimp only at hl12 hF10 ⊢
  obtain _ | fu := fu
  · rw [m_impl_PatternValid_l1] at hF10; cases hF10
  rw [m_impl_PatternValid_l1] at hF10
  refine awp_seq ?_
  refine awp_region ?_
  refine s_lt ?_
  refine k_nil ?_
  refine k_seq ?_
  refine awp_seq ?_
  refine w_cond hF10 (fun hc13 hF11 => ?_) (fun hc13 hF11 => ?_) <;> clear hF10
  refine awp_skip ?_
  refine k_seq ?_
  refine awp_seq ?_
  refine awp_block ?_
  refine awp_seq ?_
  refine awp_region ?_
  refine s_mv ?_
  replace hF11 := bind_some' hF11
  obtain ⟨v14, hv14, hF12⟩ := hF11
  refine s_ixA Form.row hv14 yE30 ?_
  refine s_lAN Form.row hv14 (Form.row_eq _) yA32 yS32 ?_
  refine s_alloc yZ32 ?_
  refine s_as ?_
  refine s_stW yS32 ?_
  refine k_nil ?_
  refine k_seq ?_
  refine awp_seq ?_
  refine awp_draw yMix (by kernel_rfl) ?_
  refine s_mv ?_
  refine s_mv ?_
  replace hF12 := bind_some' hF12
  obtain ⟨v15, hv15, hF13⟩ := hF12
  refine s_sl01 Form.row (fun y => Form.row_len y) hv15 yU30 yE30 ?_
  refine s_ldW yA32 yS32 ?_
  replace hF13 := bind_some' hF13
  obtain ⟨v16, hv16, hF14⟩ := hF13
  refine s_pure [] (m_impl_isIn_ok fu _ _ _ hv16) ?_
  refine s_mv ?_
  refine w_guard _ 44 hF14 (fun hc17 hF15 => ?_) (fun hc17 hF15 => ?_) <;> clear hF14
  refine r_no rfl ?_
  refine r_no rfl ?_
  refine r_no rfl ?_
  refine r_no rfl ?_
  refine r_no rfl ?_
  refine s_pkt ?_
  refine k_nilD (by kernel_rfl) ?_
  refine k_seq ?_
  refine awp_true rfl ?_
  refine awp_seq ?_
  refine awp_region ?_
  refine s_as ?_
  refine k_nil ?_
  refine k_seq ?_
  refine awp_ret ?_
  refine k_blk_ret ?_
  refine k_seq_ret ?_
  refine k_rnd_ret2 ?_
  refine k_blk_ret ?_
  refine k_seq_ret ?_
  refine k_fin ?_
  obtain rfl := Option.some.inj hF15
  exact ends_gen [] [] (by rw [Try.results35]; exact (res_tmp (by conv => lhs; whnf) res_nil))
  refine s_mv ?_
  refine s_mv ?_
  replace hF15 := bind_some' hF15
  obtain ⟨v18, hv18, hF16⟩ := hF15
  refine s_ixT rI hv18 rfl yE22 ?_
  refine s_ld1 yA3 ?_
  refine s_gt ?_
  refine s_pkf ?_
  refine k_nilD (by kernel_rfl) ?_
  refine k_seq ?_
  refine w_cond hF16 (fun hc19 hF17 => ?_) (fun hc19 hF17 => ?_) <;> clear hF16
  refine awp_seq ?_
  refine awp_region ?_
  refine s_as ?_
  refine k_nil ?_
  refine k_seq ?_
  refine awp_ret ?_
  refine k_blk_ret ?_
  refine k_seq_ret ?_
  refine k_rnd_ret2 ?_
  refine k_blk_ret ?_
  refine k_seq_ret ?_
  refine k_fin ?_
  obtain rfl := Option.some.inj hF17
  exact ends_gen [] [] (by rw [Try.results35]; exact (res_tmp (by conv => lhs; whnf) res_nil))
  refine awp_skip ?_
  refine k_blk ?_
  refine k_seq ?_
  refine awp_region ?_
  refine s_add rfl ?_
  refine s_mv ?_
  refine k_nil ?_
  exact s_rnd2 (fu, (w64 (g10 + 1)), g11) [] ⟨by first | omega | (dsimp only; omega), hF17⟩ (hasR_cons (by conv => lhs; whnf) (by rfl) rfl (hasR_cons (by conv => lhs; whnf) (by rfl) rfl trivial)) (hasQ_cons (by conv => lhs; whnf) (by rfl) rfl trivial)
  refine awp_exit ?_
  refine k_seq_exit ?_
  refine k_rnd_exit2 ?_
  refine k_blk_exit ?_
  refine k_seq ?_
  refine awp_seq ?_
  refine awp_region ?_
  refine s_mv ?_
  refine s_lenA yU30 ?_
  refine s_le ?_
  refine s_as ?_
  refine k_nil ?_
  refine k_seq ?_
  refine awp_ret ?_
  refine k_fin ?_
  obtain rfl := Option.some.inj hF11
  exact ends_gen [] [] (by rw [Try.results35]; exact (res_tmp (by conv => lhs; whnf) res_nil))
def m_spec_l3Is_AC (fuel : Nat) : Prop := ∀ (x1 : Form) (r : Bool), m_spec_l3Is fuel x1 = some r → AC Try.prog 133 [.ag [.t (.sc (.int .i64 x1.kind)), .t (.sc (.str x1.name)), .t (.sc (.int .i64 x1.n)), .t (.sl (x1.scopes.map rI)), .t (.sl (x1.kids.map Form.row))]] noOb (.t (.sc (.bool r))) noOb
theorem m_spec_l3Is_ok (fuel : Nat) : m_spec_l3Is_AC fuel := by
  intro x1 r hF0
  unfold m_spec_l3Is at hF0
  refine AC_intro (rs := [.t (.sc (.bool r))]) Try.func133 rfl (by kernel_rfl) (by simp [Try.ntmps133]) (by simp [noOb]) ?_
  intro C hC
  rw [Try.ntmps133]
  refine awp_seq ?_
  refine awp_region ?_
  refine s_box ?_
  refine s_as ?_
  refine k_nil ?_
  refine k_seq ?_
  refine awp_seq ?_
  refine awp_region ?_
  refine s_fa yF32_0 ?_
  refine s_ld1 yA3 ?_
  refine s_eq ?_
  refine s_mv ?_
  refine w_guard _ 6 hF0 (fun hc1 hF1 => ?_) (fun hc1 hF1 => ?_) <;> clear hF0
  refine s_ldW yA32 yS32 ?_
  replace hF1 := bind_some' hF1
  obtain ⟨v2, hv2, hF2⟩ := hF1
  refine s_pure [] (m_spec_FormValid_ok fuel _ _ hv2) ?_
  refine s_pkt ?_
  refine s_as ?_
  refine k_nil ?_
  refine k_seq ?_
  refine awp_ret ?_
  refine k_fin ?_
  obtain rfl := Option.some.inj hF2
  exact ends_gen [] [] (by rw [Try.results133]; exact (res_tmp (by conv => lhs; whnf) res_nil))
  refine r_no rfl ?_
  refine r_no rfl ?_
  refine s_pkf ?_
  refine s_as ?_
  refine k_nil ?_
  refine k_seq ?_
  refine awp_ret ?_
  refine k_fin ?_
  obtain rfl := Option.some.inj hF1
  exact ends_gen [] [] (by rw [Try.results133]; exact (res_tmp (by conv => lhs; whnf) res_nil))
def m_spec_l1Ints_AC (fuel : Nat) : Prop := ∀ (x1 : (List Int)) (x2 : (List Int)) (r : Bool), m_spec_l1Ints fuel x1 x2 = some r → AC Try.prog 127 [.t (.sl (x1.map rI)), .t (.sl (x2.map rI))] noOb (.t (.sc (.bool r))) noOb
theorem m_spec_l1Ints_ok (fuel : Nat) : m_spec_l1Ints_AC fuel := by
  intro x1 x2 r hF0
  unfold m_spec_l1Ints at hF0
  refine AC_intro (rs := [.t (.sc (.bool r))]) Try.func127 rfl (by kernel_rfl) (by simp [Try.ntmps127]) (by simp [noOb]) ?_
  intro C hC
  rw [Try.ntmps127]
  refine awp_seq ?_
  refine awp_region ?_
  refine s_as ?_
  refine k_nil ?_
  refine k_seq ?_
  refine awp_seq ?_
  refine awp_seq ?_
  refine awp_region ?_
  refine s_mv ?_
  refine s_lenT yU22 ?_
  refine s_mv ?_
  refine s_lenT yU22 ?_
  refine s_ne ?_
  refine k_nil ?_
  refine k_seq ?_
  refine w_cond hF0 (fun hc1 hF1 => ?_) (fun hc1 hF1 => ?_) <;> clear hF0
  refine awp_seq ?_
  refine awp_region ?_
  refine s_as ?_
  refine k_nil ?_
  refine k_seq ?_
  refine awp_ret ?_
  refine k_seq_ret ?_
  refine k_fin ?_
  obtain rfl := Option.some.inj hF1
  exact ends_gen [] [] (by rw [Try.results127]; exact (res_tmp (by conv => lhs; whnf) res_nil))
  refine awp_skip ?_
  refine k_seq ?_
  refine awp_seq ?_
  refine awp_seq ?_
  refine awp_region ?_
  refine s_as ?_
  refine k_nil ?_
  refine k_seq ?_
  refine awp_block ?_
  refine awp_frame2 [4, 5, 11, 12, 13, 14, 15, 16, 17, 18, 19, 20, 21, 22, 23, 24, 25] [] [] [] (fun a : Nat × Int => a.1) (fun a : Nat × Int => [(4, .t (.sc (.bool false))), (5, .t (.sc (.int .i64 a.2)))]) (fun a : Nat × Int => []) (fun a : Nat × Int => a.1 ≤ fuel ∧ m_spec_l1Ints_l1 a.1 x1 x2 a.2 = some r ∧ 0 ≤ a.2) (fuel, 0) ⟨Nat.le_refl _, hF1, by simp⟩ (by rfl) (by rfl) (fun _ => rfl) (hasF_cons (by conv => lhs; whnf) (by rfl) (hasF_cons (by conv => lhs; whnf) (by rfl) hasF_nil)) hasO_nil (fun _ h => by cases h) freshS_nil freshM_nil ?_
  clear hF1
  rintro ⟨fu, g2⟩ ⟨hl3, hF2, hn_g2⟩
  dsimp only at hl3 hF2 hn_g2 ⊢
  obtain _ | fu := fu
  · rw [m_spec_l1Ints_l1] at hF2; cases hF2
  rw [m_spec_l1Ints_l1] at hF2
  refine awp_seq ?_
  refine awp_seq ?_
  refine awp_region ?_
  refine s_mv ?_
  refine s_mv ?_
  refine s_lenT yU22 ?_
  refine s_lt ?_
  refine k_nil ?_
  refine k_seq ?_
  refine w_cond hF2 (fun hc4 hF3 => ?_) (fun hc4 hF3 => ?_) <;> clear hF2
  refine awp_lenT 0 (fun hb5 => ?_)
  refine awp_skip ?_
  refine k_seq ?_
  refine awp_seq ?_
  refine awp_block ?_
  refine awp_seq ?_
  refine awp_draw yMix (by kernel_rfl) ?_
  refine s_mv ?_
  refine s_mv ?_
  replace hF3 := bind_some' hF3
  obtain ⟨v6, hv6, hF4⟩ := hF3
  refine s_ixT rI hv6 rfl yE22 ?_
  refine s_ld1 yA3 ?_
  refine s_mv ?_
  refine s_mv ?_
  replace hF4 := bind_some' hF4
  obtain ⟨v7, hv7, hF5⟩ := hF4
  refine s_ixT rI hv7 rfl yE22 ?_
  refine s_ld1 yA3 ?_
  refine s_ne ?_
  refine k_nilD (by kernel_rfl) ?_
  refine k_seq ?_
  refine w_cond hF5 (fun hc8 hF6 => ?_) (fun hc8 hF6 => ?_) <;> clear hF5
  refine awp_seq ?_
  refine awp_region ?_
  refine s_as ?_
  refine k_nil ?_
  refine k_seq ?_
  refine awp_ret ?_
  refine k_blk_ret ?_
  refine k_seq_ret ?_
  refine k_rnd_ret2 ?_
  refine k_blk_ret ?_
  refine k_seq_ret ?_
  refine k_fin ?_
  obtain rfl := Option.some.inj hF6
  exact ends_gen [] [] (by rw [Try.results127]; exact (res_tmp (by conv => lhs; whnf) res_nil))
  refine awp_skip ?_
  refine k_blk ?_
  refine k_seq ?_
  refine awp_region ?_
  refine s_mv ?_
  refine s_add (winc2 hc4 hb5 hn_g2) ?_
  refine s_as ?_
  refine k_nil ?_
  exact s_rnd2 (fu, (g2 + 1)) [] ⟨by first | omega | (dsimp only; omega), hF6, by first | omega | (dsimp only; omega)⟩ (hasR_cons (by conv => lhs; whnf) (by rfl) rfl (hasR_cons (by conv => lhs; whnf) (by rfl) rfl trivial)) trivial
  refine awp_exit ?_
  refine k_seq_exit ?_
  refine k_rnd_exit2 ?_
  refine k_blk_exit ?_
  refine k_seq ?_
  refine awp_seq ?_
  refine awp_region ?_
  refine s_as ?_
  refine k_nil ?_
  refine k_seq ?_
  refine awp_ret ?_
  refine k_fin ?_
  obtain rfl := Option.some.inj hF3
  exact ends_gen [] [] (by rw [Try.results127]; exact (res_tmp (by conv => lhs; whnf) res_nil))
def m_spec_FormSame_AC (fuel : Nat) : Prop := ∀ (x1 : Form) (x2 : Form) (r : Bool), m_spec_FormSame fuel x1 x2 = some r → AC Try.prog 89 [.ag [.t (.sc (.int .i64 x1.kind)), .t (.sc (.str x1.name)), .t (.sc (.int .i64 x1.n)), .t (.sl (x1.scopes.map rI)), .t (.sl (x1.kids.map Form.row))], .ag [.t (.sc (.int .i64 x2.kind)), .t (.sc (.str x2.name)), .t (.sc (.int .i64 x2.n)), .t (.sl (x2.scopes.map rI)), .t (.sl (x2.kids.map Form.row))]] noOb (.t (.sc (.bool r))) noOb
theorem m_spec_FormSame_st (fu : Nat) (ih_m_spec_FormSame : ∀ k, k ≤ fu → m_spec_FormSame_AC k) : m_spec_FormSame_AC (fu + 1) := by
  intro x1 x2 r hF0
  rw [m_spec_FormSame] at hF0
  refine AC_intro (rs := [.t (.sc (.bool r))]) Try.func89 rfl (by kernel_rfl) (by simp [Try.ntmps89]) (by simp [noOb]) ?_
  intro C hC
  rw [Try.ntmps89]
  refine awp_seq ?_
  refine awp_region ?_
  refine s_box ?_
  refine s_box ?_
  refine s_as ?_
  refine k_nil ?_
  refine k_seq ?_
  refine awp_seq ?_
  refine awp_seq ?_
  refine awp_region ?_
  refine s_fa yF32_0 ?_
  refine s_ld1 yA3 ?_
  refine s_fa yF32_0 ?_
  refine s_ld1 yA3 ?_
  refine s_ne ?_
  refine s_mv ?_
  refine w_guard _ 11 hF0 (fun hc1 hF1 => ?_) (fun hc1 hF1 => ?_) <;> clear hF0
  refine r_no rfl ?_
  refine r_no rfl ?_
  refine r_no rfl ?_
  refine r_no rfl ?_
  refine r_no rfl ?_
  refine s_pkt ?_
  refine s_mv ?_
  refine r_no rfl ?_
  refine r_no rfl ?_
  refine r_no rfl ?_
  refine r_no rfl ?_
  refine r_no rfl ?_
  refine s_pkt ?_
  refine s_mv ?_
  refine r_no rfl ?_
  refine r_no rfl ?_
  refine r_no rfl ?_
  refine r_no rfl ?_
  refine r_no rfl ?_
  refine r_no rfl ?_
  refine s_pkt ?_
  refine s_mv ?_
  refine r_no rfl ?_
  refine r_no rfl ?_
  refine r_no rfl ?_
  refine r_no rfl ?_
  refine r_no rfl ?_
  refine r_no rfl ?_
  refine r_no rfl ?_
  refine s_pkt ?_
  refine k_nil ?_
  refine k_seq ?_
  refine awp_true rfl ?_
  refine awp_seq ?_
  refine awp_region ?_
  refine s_as ?_
  refine k_nil ?_
  refine k_seq ?_
  refine awp_ret ?_
  refine k_seq_ret ?_
  refine k_fin ?_
  obtain rfl := Option.some.inj hF1
  exact ends_gen [] [] (by rw [Try.results89]; exact (res_tmp (by conv => lhs; whnf) res_nil))
  refine s_fa yF32_1 ?_
  refine s_ld1 yA9 ?_
  refine s_fa yF32_1 ?_
  refine s_ld1 yA9 ?_
  refine s_neS ?_
  refine s_pkf ?_
  refine s_mv ?_
  refine w_guard _ 18 hF1 (fun hc2 hF2 => ?_) (fun hc2 hF2 => ?_) <;> clear hF1
  refine r_no rfl ?_
  refine r_no rfl ?_
  refine r_no rfl ?_
  refine r_no rfl ?_
  refine r_no rfl ?_
  refine s_pkt ?_
  refine s_mv ?_
  refine r_no rfl ?_
  refine r_no rfl ?_
  refine r_no rfl ?_
  refine r_no rfl ?_
  refine r_no rfl ?_
  refine r_no rfl ?_
  refine s_pkt ?_
  refine s_mv ?_
  refine r_no rfl ?_
  refine r_no rfl ?_
  refine r_no rfl ?_
  refine r_no rfl ?_
  refine r_no rfl ?_
  refine r_no rfl ?_
  refine r_no rfl ?_
  refine s_pkt ?_
  refine k_nil ?_
  refine k_seq ?_
  refine awp_true rfl ?_
  refine awp_seq ?_
  refine awp_region ?_
  refine s_as ?_
  refine k_nil ?_
  refine k_seq ?_
  refine awp_ret ?_
  refine k_seq_ret ?_
  refine k_fin ?_
  obtain rfl := Option.some.inj hF2
  exact ends_gen [] [] (by rw [Try.results89]; exact (res_tmp (by conv => lhs; whnf) res_nil))
  refine s_fa yF32_2 ?_
  refine s_ld1 yA3 ?_
  refine s_fa yF32_2 ?_
  refine s_ld1 yA3 ?_
  refine s_ne ?_
  refine s_pkf ?_
  refine s_mv ?_
  refine w_guard _ 25 hF2 (fun hc3 hF3 => ?_) (fun hc3 hF3 => ?_) <;> clear hF2
  refine r_no rfl ?_
  refine r_no rfl ?_
  refine r_no rfl ?_
  refine r_no rfl ?_
  refine r_no rfl ?_
  refine r_no rfl ?_
  refine s_pkt ?_
  refine s_mv ?_
  refine r_no rfl ?_
  refine r_no rfl ?_
  refine r_no rfl ?_
  refine r_no rfl ?_
  refine r_no rfl ?_
  refine r_no rfl ?_
  refine r_no rfl ?_
  refine s_pkt ?_
  refine k_nil ?_
  refine k_seq ?_
  refine awp_true rfl ?_
  refine awp_seq ?_
  refine awp_region ?_
  refine s_as ?_
  refine k_nil ?_
  refine k_seq ?_
  refine awp_ret ?_
  refine k_seq_ret ?_
  refine k_fin ?_
  obtain rfl := Option.some.inj hF3
  exact ends_gen [] [] (by rw [Try.results89]; exact (res_tmp (by conv => lhs; whnf) res_nil))
  refine s_fa yF32_3 ?_
  refine s_ld1 yA22 ?_
  refine s_fa yF32_3 ?_
  refine s_ld1 yA22 ?_
  replace hF3 := bind_some' hF3
  obtain ⟨v4, hv4, hF4⟩ := hF3
  refine s_pure [] (m_spec_l1Ints_ok fu _ _ _ hv4) ?_
  refine s_not ?_
  refine s_pkf ?_
  refine s_mv ?_
  refine w_guard _ 33 hF4 (fun hc5 hF5 => ?_) (fun hc5 hF5 => ?_) <;> clear hF4
  refine r_no rfl ?_
  refine r_no rfl ?_
  refine r_no rfl ?_
  refine r_no rfl ?_
  refine r_no rfl ?_
  refine r_no rfl ?_
  refine r_no rfl ?_
  refine s_pkt ?_
  refine k_nil ?_
  refine k_seq ?_
  refine awp_true rfl ?_
  refine awp_seq ?_
  refine awp_region ?_
  refine s_as ?_
  refine k_nil ?_
  refine k_seq ?_
  refine awp_ret ?_
  refine k_seq_ret ?_
  refine k_fin ?_
  obtain rfl := Option.some.inj hF5
  exact ends_gen [] [] (by rw [Try.results89]; exact (res_tmp (by conv => lhs; whnf) res_nil))
  refine s_fa yF32_4 ?_
  refine s_ld1 yA30 ?_
  refine s_lenT yU30 ?_
  refine s_fa yF32_4 ?_
  refine s_ld1 yA30 ?_
  refine s_lenT yU30 ?_
  refine s_ne ?_
  refine s_pkf ?_
  refine k_nil ?_
  refine k_seq ?_
  refine w_cond hF5 (fun hc6 hF6 => ?_) (fun hc6 hF6 => ?_) <;> clear hF5
  refine awp_seq ?_
  refine awp_region ?_
  refine s_as ?_
  refine k_nil ?_
  refine k_seq ?_
  refine awp_ret ?_
  refine k_seq_ret ?_
  refine k_fin ?_
  obtain rfl := Option.some.inj hF6
  exact ends_gen [] [] (by rw [Try.results89]; exact (res_tmp (by conv => lhs; whnf) res_nil))
  refine awp_skip ?_
  refine k_seq ?_
  refine awp_seq ?_
  refine awp_seq ?_
  refine awp_region ?_
  refine s_as ?_
  refine k_nil ?_
  refine k_seq ?_
  refine awp_block ?_
  refine awp_frame2 [4, 5, 42, 43, 44, 45, 46, 47, 48, 49, 50, 51, 52, 53, 54, 55, 56, 57, 58, 59, 60] [] [] [] (fun a : Nat × Int => a.1) (fun a : Nat × Int => [(4, .t (.sc (.bool false))), (5, .t (.sc (.int .i64 a.2)))]) (fun a : Nat × Int => []) (fun a : Nat × Int => a.1 ≤ fu ∧ m_spec_FormSame_l1 a.1 x1 x2 a.2 = some r ∧ 0 ≤ a.2) (fu, 0) ⟨Nat.le_refl _, hF6, by simp⟩ (by rfl) (by rfl) (fun _ => rfl) (hasF_cons (by conv => lhs; whnf) (by rfl) (hasF_cons (by conv => lhs; whnf) (by rfl) hasF_nil)) hasO_nil (fun _ h => by cases h) freshS_nil freshM_nil ?_
  clear hF6
  rintro ⟨fu, g7⟩ ⟨hl8, hF7, hn_g7⟩
  dsimp only at hl8 hF7 hn_g7 ⊢
  obtain _ | fu := fu
  · rw [m_spec_FormSame_l1] at hF7; cases hF7
  rw [m_spec_FormSame_l1] at hF7
  refine awp_seq ?_
  refine awp_seq ?_
  refine awp_region ?_
  refine s_mv ?_
  refine s_fa yF32_4 ?_
  refine s_ld1 yA30 ?_
  refine s_lenT yU30 ?_
  refine s_lt ?_
  refine k_nil ?_
  refine k_seq ?_
  refine w_cond hF7 (fun hc9 hF8 => ?_) (fun hc9 hF8 => ?_) <;> clear hF7
  refine awp_lenT 35 (fun hb10 => ?_)
  refine awp_skip ?_
  refine k_seq ?_
  refine awp_seq ?_
  refine awp_block ?_
  refine awp_seq ?_
  refine awp_draw yMix (by kernel_rfl) ?_
  refine s_fa yF32_4 ?_
  refine s_ld1 yA30 ?_
  refine s_mv ?_
  replace hF8 := bind_some' hF8
  obtain ⟨v11, hv11, hF9⟩ := hF8
  refine s_ixT Form.row hv11 (Form.row_eq _) yE30 ?_
  refine s_ldN yA32 yS32 ?_
  refine s_fa yF32_4 ?_
  refine s_ld1 yA30 ?_
  refine s_mv ?_
  replace hF9 := bind_some' hF9
  obtain ⟨v12, hv12, hF10⟩ := hF9
  refine s_ixT Form.row hv12 (Form.row_eq _) yE30 ?_
  refine s_ldN yA32 yS32 ?_
  replace hF10 := bind_some' hF10
  obtain ⟨v13, hv13, hF11⟩ := hF10
  refine s_pure [] (ih_m_spec_FormSame fu (by omega) _ _ _ hv13) ?_
  refine s_not ?_
  refine k_nilD (by kernel_rfl) ?_
  refine k_seq ?_
  refine w_cond hF11 (fun hc14 hF12 => ?_) (fun hc14 hF12 => ?_) <;> clear hF11
  refine awp_seq ?_
  refine awp_region ?_
  refine s_as ?_
  refine k_nil ?_
  refine k_seq ?_
  refine awp_ret ?_
  refine k_blk_ret ?_
  refine k_seq_ret ?_
  refine k_rnd_ret2 ?_
  refine k_blk_ret ?_
  refine k_seq_ret ?_
  refine k_fin ?_
  obtain rfl := Option.some.inj hF12
  exact ends_gen [] [] (by rw [Try.results89]; exact (res_tmp (by conv => lhs; whnf) res_nil))
  refine awp_skip ?_
  refine k_blk ?_
  refine k_seq ?_
  refine awp_region ?_
  refine s_mv ?_
  refine s_add (winc2 hc9 hb10 hn_g7) ?_
  refine s_as ?_
  refine k_nil ?_
  exact s_rnd2 (fu, (g7 + 1)) [] ⟨by first | omega | (dsimp only; omega), hF12, by first | omega | (dsimp only; omega)⟩ (hasR_cons (by conv => lhs; whnf) (by rfl) rfl (hasR_cons (by conv => lhs; whnf) (by rfl) rfl trivial)) trivial
  refine awp_exit ?_
  refine k_seq_exit ?_
  refine k_rnd_exit2 ?_
  refine k_blk_exit ?_
  refine k_seq ?_
  refine awp_seq ?_
  refine awp_region ?_
  refine s_as ?_
  refine k_nil ?_
  refine k_seq ?_
  refine awp_ret ?_
  refine k_fin ?_
  obtain rfl := Option.some.inj hF8
  exact ends_gen [] [] (by rw [Try.results89]; exact (res_tmp (by conv => lhs; whnf) res_nil))
theorem m_spec_FormSame_all (fuel : Nat) : m_spec_FormSame_AC fuel := by
  induction fuel using Nat.strongRecOn with
  | _ N ih =>
    cases N with
    | zero => exact (by intro x1 x2 r h; rw [m_spec_FormSame] at h; cases h)
    | succ fu => exact m_spec_FormSame_st fu (fun k hk => (ih k (by omega)))
theorem m_spec_FormSame_ok (fuel : Nat) : m_spec_FormSame_AC fuel := (m_spec_FormSame_all fuel)
def m_spec_l4In_AC (fuel : Nat) : Prop := ∀ (x1 : (List Form)) (x2 : Form) (r : Bool), m_spec_l4In fuel x1 x2 = some r → AC Try.prog 111 [.t (.sl (x1.map Form.row)), .ag [.t (.sc (.int .i64 x2.kind)), .t (.sc (.str x2.name)), .t (.sc (.int .i64 x2.n)), .t (.sl (x2.scopes.map rI)), .t (.sl (x2.kids.map Form.row))]] noOb (.t (.sc (.bool r))) noOb
theorem m_spec_l4In_ok (fuel : Nat) : m_spec_l4In_AC fuel := by
  intro x1 x2 r hF0
  unfold m_spec_l4In at hF0
  refine AC_intro (rs := [.t (.sc (.bool r))]) Try.func111 rfl (by kernel_rfl) (by simp [Try.ntmps111]) (by simp [noOb]) ?_
  intro C hC
  rw [Try.ntmps111]
  refine awp_seq ?_
  refine awp_region ?_
  refine s_box ?_
  refine s_as ?_
  refine k_nil ?_
  refine k_seq ?_
  refine awp_seq ?_
  refine awp_seq ?_
  refine awp_region ?_
  refine s_as ?_
  refine k_nil ?_
  refine k_seq ?_
  refine awp_block ?_
  refine awp_frame2 [4, 5, 6, 7, 8, 9, 10, 11, 12, 13, 14, 15, 16, 17] [] [] [] (fun a : Nat × Int => a.1) (fun a : Nat × Int => [(4, .t (.sc (.bool false))), (5, .t (.sc (.int .i64 a.2)))]) (fun a : Nat × Int => []) (fun a : Nat × Int => a.1 ≤ fuel ∧ m_spec_l4In_l1 a.1 x1 x2 a.2 = some r ∧ 0 ≤ a.2) (fuel, 0) ⟨Nat.le_refl _, hF0, by simp⟩ (by rfl) (by rfl) (fun _ => rfl) (hasF_cons (by conv => lhs; whnf) (by rfl) (hasF_cons (by conv => lhs; whnf) (by rfl) hasF_nil)) hasO_nil (fun _ h => by cases h) freshS_nil freshM_nil ?_
  clear hF0
  rintro ⟨fu, g1⟩ ⟨hl2, hF1, hn_g1⟩
  dsimp only at hl2 hF1 hn_g1 ⊢
  obtain _ | fu := fu
  · rw [m_spec_l4In_l1] at hF1; cases hF1
  rw [m_spec_l4In_l1] at hF1
  refine awp_seq ?_
  refine awp_seq ?_
  refine awp_region ?_
  refine s_mv ?_
  refine s_mv ?_
  refine s_lenT yU30 ?_
  refine s_lt ?_
  refine k_nil ?_
  refine k_seq ?_
  refine w_cond hF1 (fun hc3 hF2 => ?_) (fun hc3 hF2 => ?_) <;> clear hF1
  refine awp_lenT 0 (fun hb4 => ?_)
  refine awp_skip ?_
  refine k_seq ?_
  refine awp_seq ?_
  refine awp_block ?_
  refine awp_seq ?_
  refine awp_draw yMix (by kernel_rfl) ?_
  refine s_mv ?_
  refine s_mv ?_
  replace hF2 := bind_some' hF2
  obtain ⟨v5, hv5, hF3⟩ := hF2
  refine s_ixT Form.row hv5 (Form.row_eq _) yE30 ?_
  refine s_ldN yA32 yS32 ?_
  refine s_ldW yA32 yS32 ?_
  replace hF3 := bind_some' hF3
  obtain ⟨v6, hv6, hF4⟩ := hF3
  refine s_pure [] (m_spec_FormSame_ok fu _ _ _ hv6) ?_
  refine k_nilD (by kernel_rfl) ?_
  refine k_seq ?_
  refine w_cond hF4 (fun hc7 hF5 => ?_) (fun hc7 hF5 => ?_) <;> clear hF4
  refine awp_seq ?_
  refine awp_region ?_
  refine s_as ?_
  refine k_nil ?_
  refine k_seq ?_
  refine awp_ret ?_
  refine k_blk_ret ?_
  refine k_seq_ret ?_
  refine k_rnd_ret2 ?_
  refine k_blk_ret ?_
  refine k_seq_ret ?_
  refine k_fin ?_
  obtain rfl := Option.some.inj hF5
  exact ends_gen [] [] (by rw [Try.results111]; exact (res_tmp (by conv => lhs; whnf) res_nil))
  refine awp_skip ?_
  refine k_blk ?_
  refine k_seq ?_
  refine awp_region ?_
  refine s_mv ?_
  refine s_add (winc2 hc3 hb4 hn_g1) ?_
  refine s_as ?_
  refine k_nil ?_
  exact s_rnd2 (fu, (g1 + 1)) [] ⟨by first | omega | (dsimp only; omega), hF5, by first | omega | (dsimp only; omega)⟩ (hasR_cons (by conv => lhs; whnf) (by rfl) rfl (hasR_cons (by conv => lhs; whnf) (by rfl) rfl trivial)) trivial
  refine awp_exit ?_
  refine k_seq_exit ?_
  refine k_rnd_exit2 ?_
  refine k_blk_exit ?_
  refine k_seq ?_
  refine awp_seq ?_
  refine awp_region ?_
  refine s_as ?_
  refine k_nil ?_
  refine k_seq ?_
  refine awp_ret ?_
  refine k_fin ?_
  obtain rfl := Option.some.inj hF2
  exact ends_gen [] [] (by rw [Try.results111]; exact (res_tmp (by conv => lhs; whnf) res_nil))
end Go.Abs
