/- The functions answer what their mirrors answer. -/
import Derived.Test.YtgicgbokgmmgdaaMirF
import Derived.Test.YtgicgbokgmmgdaaMirE0
import Derived.Test.YtgicgbokgmmgdaaMirE1
import Derived.Test.YtgicgbokgmmgdaaMirE2
set_option linter.unusedSimpArgs false
set_option maxHeartbeats 4000000
set_option linter.unusedVariables false
namespace Go.Abs
open Go.Proofs
def m_impl_rowsOk_AC (fuel : Nat) : Prop := ∀ (x1 : Form) (x2 : (List Form)) (x3 : (List Int)) (x4 : Int) (r : Bool), m_impl_rowsOk fuel x1 x2 x3 x4 = some r → AC Try.prog 104 [.ag [.t (.sc (.int .i64 x1.kind)), .t (.sc (.str x1.name)), .t (.sc (.int .i64 x1.n)), .t (.sl (x1.scopes.map rI)), .t (.sl (x1.kids.map Form.row))], .t (.sl (x2.map Form.row)), .t (.sl (x3.map rI)), .t (.sc (.int .i64 x4))] noOb (.t (.sc (.bool r))) noOb
theorem m_impl_rowsOk_st (fu : Nat) (ih_m_impl_rowsOk : ∀ k, k ≤ fu → m_impl_rowsOk_AC k) : m_impl_rowsOk_AC (fu + 1) := by
  intro x1 x2 x3 x4 r hF0
  rw [m_impl_rowsOk] at hF0
  refine AC_intro (rs := [.t (.sc (.bool r))]) Try.func104 rfl (by kernel_rfl) (by simp [Try.ntmps104]) (by simp [noOb]) ?_
  intro C hC
  rw [Try.ntmps104]
  refine awp_seq ?_
  refine awp_region ?_
  refine s_box ?_
  refine s_box ?_
  refine s_box ?_
  refine s_box ?_
  refine s_as ?_
  refine k_nil ?_
  refine k_seq ?_
  refine awp_seq ?_
  refine awp_seq ?_
  refine awp_draw yMix (by kernel_rfl) ?_
  refine s_ld1 yA30 ?_
  refine s_ld1 yA22 ?_
  refine s_ldW yA32 yS32 ?_
  replace hF0 := bind_some' hF0
  obtain ⟨v1, hv1, hF1⟩ := hF0
  refine s_pure [] (m_impl_depthIn_ok fu _ _ _ _ hv1) ?_
  refine s_ld1 yA3 ?_
  refine s_gt ?_
  refine k_nilD (by kernel_rfl) ?_
  refine k_seq ?_
  refine w_cond hF1 (fun hc2 hF2 => ?_) (fun hc2 hF2 => ?_) <;> clear hF1
  refine awp_seq ?_
  refine awp_region ?_
  refine s_as ?_
  refine k_nil ?_
  refine k_seq ?_
  refine awp_ret ?_
  refine k_seq_ret ?_
  refine k_fin ?_
  obtain rfl := Option.some.inj hF2
  exact ends_gen [] [] (by rw [Try.results104]; exact (res_tmp (by conv => lhs; whnf) res_nil))
  refine awp_skip ?_
  refine k_seq ?_
  refine awp_seq ?_
  refine awp_seq ?_
  refine awp_region ?_
  refine s_fa yF32_4 ?_
  refine s_ld1 yA30 ?_
  refine s_lenT yU30 ?_
  refine s_mv ?_
  refine k_nil ?_
  refine k_seq ?_
  refine awp_block ?_
  refine awp_frame2 [8, 9, 10, 11, 12, 22, 23, 24, 25, 26, 27, 28, 29, 30, 31, 32, 33, 34, 35, 36, 37, 38, 39, 40, 41, 42, 43, 44, 45, 46, 47, 48, 49, 50, 51, 52, 53, 54, 55, 56, 57, 58] [] [10, 12] [] (fun a : Nat × Int => a.1) (fun a : Nat × Int => [(8, .t (.sc (.bool false))), (22, .t (.sc (.int .i64 a.2)))]) (fun a : Nat × Int => []) (fun a : Nat × Int => a.1 ≤ fu ∧ m_impl_rowsOk_l1 a.1 x1 x2 x3 x4 a.2 = some r ∧ 0 ≤ a.2) (fu, 0) ⟨Nat.le_refl _, hF2, by simp⟩ (by rfl) (by rfl) (fun _ => rfl) (hasF_cons (by conv => lhs; whnf) (by rfl) (hasF_cons (by conv => lhs; whnf) (by rfl) hasF_nil)) hasO_nil (fun _ h => by cases h) freshS_nil freshM_nil ?_
  clear hF2
  rintro ⟨fu, g3⟩ ⟨hl4, hF3, hn_g3⟩
  dsimp only at hl4 hF3 hn_g3 ⊢
  obtain _ | fu := fu
  · rw [m_impl_rowsOk_l1] at hF3; cases hF3
  rw [m_impl_rowsOk_l1] at hF3
  refine awp_seq ?_
  refine awp_region ?_
  refine s_lt ?_
  refine k_nil ?_
  refine k_seq ?_
  refine awp_seq ?_
  refine w_cond hF3 (fun hc5 hF4 => ?_) (fun hc5 hF4 => ?_) <;> clear hF3
  refine awp_lenT 20 (fun hb6 => ?_)
  refine awp_skip ?_
  refine k_seq ?_
  refine awp_seq ?_
  refine awp_block ?_
  refine awp_seq ?_
  refine awp_region ?_
  refine s_mv ?_
  replace hF4 := bind_some' hF4
  obtain ⟨v7, hv7, hF5⟩ := hF4
  refine s_ixT Form.row hv7 (Form.row_eq _) yE30 ?_
  refine s_ldN yA32 yS32 ?_
  refine s_alloc yZ32 ?_
  refine s_as ?_
  refine s_stW yS32 ?_
  refine k_nil ?_
  refine k_seq ?_
  refine awp_seq ?_
  refine awp_seq ?_
  refine awp_region ?_
  refine s_ldW yA32 yS32 ?_
  replace hF5 := bind_some' hF5
  obtain ⟨v8, hv8, hF6⟩ := hF5
  refine s_pure [] (m_impl_named_ok fu _ _ _ hv8) ?_
  refine k_nil ?_
  refine k_seq ?_
  refine w_cond hF6 (fun hc9 hF7 => ?_) (fun hc9 hF7 => ?_) <;> clear hF6
  refine awp_exit ?_
  refine k_seq_exit ?_
  refine k_blk_exit ?_
  refine k_seq ?_
  refine awp_region ?_
  refine s_add (winc2 hc5 hb6 hn_g3) ?_
  refine s_mv ?_
  refine k_nil ?_
  exact s_rnd2 (fu, (g3 + 1)) [] ⟨by first | omega | (dsimp only; omega), hF7, by first | omega | (dsimp only; omega)⟩ (hasR_cons (by conv => lhs; whnf) (by rfl) rfl (hasR_cons (by conv => lhs; whnf) (by rfl) rfl trivial)) trivial
  refine awp_skip ?_
  refine k_seq ?_
  refine awp_seq ?_
  refine awp_region ?_
  refine s_ld1 yA3 ?_
  refine s_as ?_
  refine k_nil ?_
  refine k_seq ?_
  refine awp_seq ?_
  refine awp_seq ?_
  refine awp_region ?_
  refine s_mv ?_
  refine s_add (winc2 hc5 hb6 hn_g3) ?_
  refine s_fa yF32_4 ?_
  refine s_ld1 yA30 ?_
  refine s_lenT yU30 ?_
  refine s_lt ?_
  refine s_mv ?_
  refine w_guard _ 36 hF7 (fun hc10 hF8 => ?_) (fun hc10 hF8 => ?_) <;> clear hF7
  refine s_fa yF32_4 ?_
  refine s_ld1 yA30 ?_
  refine s_mv ?_
  refine s_add (winc2 hc5 hb6 hn_g3) ?_
  replace hF8 := bind_some' hF8
  obtain ⟨v11, hv11, hF9⟩ := hF8
  refine s_ixT Form.row hv11 (Form.row_eq _) yE30 ?_
  refine s_ldN yA32 yS32 ?_
  replace hF9 := bind_some' hF9
  obtain ⟨v12, hv12, hF10⟩ := hF9
  refine s_pure [] (m_impl_named_ok fu _ _ _ hv12) ?_
  refine s_pkt ?_
  refine k_nil ?_
  refine k_seq ?_
  refine w_cond hF10 (fun hc13 hF11 => ?_) (fun hc13 hF11 => ?_) <;> clear hF10
  refine awp_seq ?_
  refine awp_region ?_
  refine s_mv ?_
  refine s_add rfl ?_
  refine s_as ?_
  refine k_nil ?_
  refine k_seq ?_
  refine awp_seq ?_
  refine awp_region ?_
  refine s_alloc yZ4 ?_
  refine s_stW yS4 ?_
  refine k_nil ?_
  refine k_seq ?_
  refine awp_seq ?_
  refine awp_region ?_
  refine s_ldW yA32 yS32 ?_
  refine s_fn ?_
  replace hF11 := bind_some' hF11
  obtain ⟨v14, hv14, hF12⟩ := hF11
  refine s_call [(9000, 12), (9001, 5), (9002, 6), (9003, 7)] [] _ _ (m_impl_eachForm_rowsOk_1_ok fu _ _ _ _ _ _ hv14) ?_
  refine k_nil ?_
  refine k_seq ?_
  refine awp_seq ?_
  refine awp_region ?_
  refine s_ld1 yA4 ?_
  refine s_not ?_
  refine k_nil ?_
  refine k_seq ?_
  refine w_cond hF12 (fun hc15 hF13 => ?_) (fun hc15 hF13 => ?_) <;> clear hF12
  refine awp_seq ?_
  refine awp_region ?_
  refine s_as ?_
  refine k_nil ?_
  refine k_seq ?_
  refine awp_ret ?_
  refine k_seq_ret ?_
  refine k_blk_ret ?_
  refine k_seq_ret ?_
  refine k_rnd_ret2 ?_
  refine k_blk_ret ?_
  refine k_seq_ret ?_
  refine k_fin ?_
  obtain rfl := Option.some.inj hF13
  exact ends_gen [] [] (by rw [Try.results104]; exact (res_tmp (by conv => lhs; whnf) res_nil))
  refine awp_skip ?_
  refine k_seq ?_
  refine awp_seq ?_
  refine awp_region ?_
  refine s_ldW yA32 yS32 ?_
  refine s_ld1 yA30 ?_
  refine s_ld1 yA22 ?_
  refine s_mv ?_
  replace hF13 := bind_some' hF13
  obtain ⟨v16, hv16, hF14⟩ := hF13
  refine s_pure [] (ih_m_impl_rowsOk fu (by omega) _ _ _ _ _ hv16) ?_
  refine s_not ?_
  refine k_nil ?_
  refine k_seq ?_
  refine w_cond hF14 (fun hc17 hF15 => ?_) (fun hc17 hF15 => ?_) <;> clear hF14
  refine awp_seq ?_
  refine awp_region ?_
  refine s_as ?_
  refine k_nil ?_
  refine k_seq ?_
  refine awp_ret ?_
  refine k_blk_ret ?_
  refine k_seq_ret ?_
  refine k_rnd_ret2 ?_
  refine k_blk_ret ?_
  refine k_seq_ret ?_
  refine k_fin ?_
  obtain rfl := Option.some.inj hF15
  exact ends_gen [] [] (by rw [Try.results104]; exact (res_tmp (by conv => lhs; whnf) res_nil))
  refine awp_skip ?_
  refine k_blk ?_
  refine k_seq ?_
  refine awp_region ?_
  refine s_add (winc2 hc5 hb6 hn_g3) ?_
  refine s_mv ?_
  refine k_nil ?_
  exact s_rnd2 (fu, (g3 + 1)) [] ⟨by first | omega | (dsimp only; omega), hF15, by first | omega | (dsimp only; omega)⟩ (hasR_cons (by conv => lhs; whnf) (by rfl) rfl (hasR_cons (by conv => lhs; whnf) (by rfl) rfl trivial)) trivial
  refine awp_skip ?_
  refine k_seq ?_
  refine awp_seq ?_
  refine awp_region ?_
  refine s_ldW yA32 yS32 ?_
  refine s_ld1 yA30 ?_
  refine s_ld1 yA22 ?_
  refine s_mv ?_
  replace hF11 := bind_some' hF11
  obtain ⟨v18, hv18, hF12⟩ := hF11
  refine s_pure [] (ih_m_impl_rowsOk fu (by omega) _ _ _ _ _ hv18) ?_
  refine s_not ?_
  refine k_nil ?_
  refine k_seq ?_
  refine w_cond hF12 (fun hc19 hF13 => ?_) (fun hc19 hF13 => ?_) <;> clear hF12
  refine awp_seq ?_
  refine awp_region ?_
  refine s_as ?_
  refine k_nil ?_
  refine k_seq ?_
  refine awp_ret ?_
  refine k_blk_ret ?_
  refine k_seq_ret ?_
  refine k_rnd_ret2 ?_
  refine k_blk_ret ?_
  refine k_seq_ret ?_
  refine k_fin ?_
  obtain rfl := Option.some.inj hF13
  exact ends_gen [] [] (by rw [Try.results104]; exact (res_tmp (by conv => lhs; whnf) res_nil))
  refine awp_skip ?_
  refine k_blk ?_
  refine k_seq ?_
  refine awp_region ?_
  refine s_add (winc2 hc5 hb6 hn_g3) ?_
  refine s_mv ?_
  refine k_nil ?_
  exact s_rnd2 (fu, (g3 + 1)) [] ⟨by first | omega | (dsimp only; omega), hF13, by first | omega | (dsimp only; omega)⟩ (hasR_cons (by conv => lhs; whnf) (by rfl) rfl (hasR_cons (by conv => lhs; whnf) (by rfl) rfl trivial)) trivial
  refine r_no rfl ?_
  refine r_no rfl ?_
  refine r_no rfl ?_
  refine r_no rfl ?_
  refine r_no rfl ?_
  refine r_no rfl ?_
  refine r_no rfl ?_
  refine s_pkf ?_
  refine k_nil ?_
  refine k_seq ?_
  refine awp_false rfl ?_
  refine awp_skip ?_
  refine k_seq ?_
  refine awp_seq ?_
  refine awp_region ?_
  refine s_ldW yA32 yS32 ?_
  refine s_ld1 yA30 ?_
  refine s_ld1 yA22 ?_
  refine s_mv ?_
  replace hF8 := bind_some' hF8
  obtain ⟨v20, hv20, hF9⟩ := hF8
  refine s_pure [] (ih_m_impl_rowsOk fu (by omega) _ _ _ _ _ hv20) ?_
  refine s_not ?_
  refine k_nil ?_
  refine k_seq ?_
  refine w_cond hF9 (fun hc21 hF10 => ?_) (fun hc21 hF10 => ?_) <;> clear hF9
  refine awp_seq ?_
  refine awp_region ?_
  refine s_as ?_
  refine k_nil ?_
  refine k_seq ?_
  refine awp_ret ?_
  refine k_blk_ret ?_
  refine k_seq_ret ?_
  refine k_rnd_ret2 ?_
  refine k_blk_ret ?_
  refine k_seq_ret ?_
  refine k_fin ?_
  obtain rfl := Option.some.inj hF10
  exact ends_gen [] [] (by rw [Try.results104]; exact (res_tmp (by conv => lhs; whnf) res_nil))
  refine awp_skip ?_
  refine k_blk ?_
  refine k_seq ?_
  refine awp_region ?_
  refine s_add (winc2 hc5 hb6 hn_g3) ?_
  refine s_mv ?_
  refine k_nil ?_
  exact s_rnd2 (fu, (g3 + 1)) [] ⟨by first | omega | (dsimp only; omega), hF10, by first | omega | (dsimp only; omega)⟩ (hasR_cons (by conv => lhs; whnf) (by rfl) rfl (hasR_cons (by conv => lhs; whnf) (by rfl) rfl trivial)) trivial
  refine awp_exit ?_
  refine k_seq_exit ?_
  refine k_rnd_exit2 ?_
  refine k_blk_exit ?_
  refine k_seq ?_
  refine awp_seq ?_
  refine awp_region ?_
  refine s_as ?_
  refine k_nil ?_
  refine k_seq ?_
  refine awp_ret ?_
  refine k_fin ?_
  obtain rfl := Option.some.inj hF4
  exact ends_gen [] [] (by rw [Try.results104]; exact (res_tmp (by conv => lhs; whnf) res_nil))
theorem m_impl_rowsOk_all (fuel : Nat) : m_impl_rowsOk_AC fuel := by
  induction fuel using Nat.strongRecOn with
  | _ N ih =>
    cases N with
    | zero => exact (by intro x1 x2 x3 x4 r h; rw [m_impl_rowsOk] at h; cases h)
    | succ fu => exact m_impl_rowsOk_st fu (fun k hk => (ih k (by omega)))
theorem m_impl_rowsOk_ok (fuel : Nat) : m_impl_rowsOk_AC fuel := (m_impl_rowsOk_all fuel)
def m_impl_templateOk_AC (fuel : Nat) : Prop := ∀ (x1 : Form) (x2 : (List Form)) (x3 : (List Int)) (r : Bool), m_impl_templateOk fuel x1 x2 x3 = some r → AC Try.prog 60 [.ag [.t (.sc (.int .i64 x1.kind)), .t (.sc (.str x1.name)), .t (.sc (.int .i64 x1.n)), .t (.sl (x1.scopes.map rI)), .t (.sl (x1.kids.map Form.row))], .t (.sl (x2.map Form.row)), .t (.sl (x3.map rI))] noOb (.t (.sc (.bool r))) noOb
theorem m_impl_templateOk_ok (fuel : Nat) : m_impl_templateOk_AC fuel := by
  intro x1 x2 x3 r hF0
  unfold m_impl_templateOk at hF0
  refine AC_intro (rs := [.t (.sc (.bool r))]) Try.func60 rfl (by kernel_rfl) (by simp [Try.ntmps60]) (by simp [noOb]) ?_
  intro C hC
  rw [Try.ntmps60]
  refine awp_seq ?_
  refine awp_region ?_
  refine s_box ?_
  refine s_as ?_
  refine k_nil ?_
  refine k_seq ?_
  refine awp_seq ?_
  refine awp_region ?_
  refine s_ldW yA32 yS32 ?_
  replace hF0 := bind_some' hF0
  obtain ⟨v1, hv1, hF1⟩ := hF0
  refine s_pure [] (m_impl_FormValid_ok fuel _ _ hv1) ?_
  refine s_mv ?_
  refine w_guard _ 9 hF1 (fun hc2 hF2 => ?_) (fun hc2 hF2 => ?_) <;> clear hF1
  refine s_ldW yA32 yS32 ?_
  replace hF2 := bind_some' hF2
  obtain ⟨v3, hv3, hF3⟩ := hF2
  refine s_pure [] (m_impl_named_ok fuel _ _ _ hv3) ?_
  refine s_not ?_
  refine s_pkt ?_
  refine s_mv ?_
  refine w_guard _ 14 hF3 (fun hc4 hF4 => ?_) (fun hc4 hF4 => ?_) <;> clear hF3
  refine s_ldW yA32 yS32 ?_
  replace hF4 := bind_some' hF4
  obtain ⟨v5, hv5, hF5⟩ := hF4
  refine s_pure [] (m_impl_dotsOk_ok fuel _ _ _ hv5) ?_
  refine s_pkt ?_
  refine s_mv ?_
  refine w_guard _ 18 hF5 (fun hc6 hF6 => ?_) (fun hc6 hF6 => ?_) <;> clear hF5
  refine s_ldW yA32 yS32 ?_
  refine s_mv ?_
  refine s_mv ?_
  replace hF6 := bind_some' hF6
  obtain ⟨v7, hv7, hF7⟩ := hF6
  refine s_pure [] (m_impl_rowsOk_ok fuel _ _ _ _ _ hv7) ?_
  refine s_pkt ?_
  refine s_as ?_
  refine k_nil ?_
  refine k_seq ?_
  refine awp_ret ?_
  refine k_fin ?_
  obtain rfl := Option.some.inj hF7
  exact ends_gen [] [] (by rw [Try.results60]; exact (res_tmp (by conv => lhs; whnf) res_nil))
  refine r_no rfl ?_
  refine r_no rfl ?_
  refine r_no rfl ?_
  refine r_no rfl ?_
  refine s_pkf ?_
  refine s_as ?_
  refine k_nil ?_
  refine k_seq ?_
  refine awp_ret ?_
  refine k_fin ?_
  obtain rfl := Option.some.inj hF6
  exact ends_gen [] [] (by rw [Try.results60]; exact (res_tmp (by conv => lhs; whnf) res_nil))
  refine r_no rfl ?_
  refine r_no rfl ?_
  refine s_pkf ?_
  refine s_mv ?_
  refine r_no rfl ?_
  refine r_no rfl ?_
  refine r_no rfl ?_
  refine r_no rfl ?_
  refine s_pkf ?_
  refine s_as ?_
  refine k_nil ?_
  refine k_seq ?_
  refine awp_ret ?_
  refine k_fin ?_
  obtain rfl := Option.some.inj hF4
  exact ends_gen [] [] (by rw [Try.results60]; exact (res_tmp (by conv => lhs; whnf) res_nil))
  refine r_no rfl ?_
  refine r_no rfl ?_
  refine r_no rfl ?_
  refine s_pkf ?_
  refine s_mv ?_
  refine r_no rfl ?_
  refine r_no rfl ?_
  refine s_pkf ?_
  refine s_mv ?_
  refine r_no rfl ?_
  refine r_no rfl ?_
  refine r_no rfl ?_
  refine r_no rfl ?_
  refine s_pkf ?_
  refine s_as ?_
  refine k_nil ?_
  refine k_seq ?_
  refine awp_ret ?_
  refine k_fin ?_
  obtain rfl := Option.some.inj hF2
  exact ends_gen [] [] (by rw [Try.results60]; exact (res_tmp (by conv => lhs; whnf) res_nil))
def m_impl_hitOk_AC (fuel : Nat) : Prop := ∀ (x1 : Hit) (r : Bool), m_impl_hitOk fuel x1 = some r → AC Try.prog 90 [.ag [.t (.sc (.int .i64 x1.name.kind)), .t (.sc (.str x1.name.name)), .t (.sc (.int .i64 x1.name.n)), .t (.sl (x1.name.scopes.map rI)), .t (.sl (x1.name.kids.map Form.row)), .t (.sc (.int .i64 x1.depth)), .t (.sc (.int .i64 x1.one.kind)), .t (.sc (.str x1.one.name)), .t (.sc (.int .i64 x1.one.n)), .t (.sl (x1.one.scopes.map rI)), .t (.sl (x1.one.kids.map Form.row)), .t (.sl (x1.many.map Hit.row))]] noOb (.t (.sc (.bool r))) noOb
def m_impl_hitOk_1_AC (fuel : Nat) : Prop := ∀ (x1 : Hit) (o1 : Hit) (r : Bool), m_impl_hitOk_1 fuel x1 o1 = some r → AC Try.prog 130 [.ag [.t (.sc (.int .i64 x1.name.kind)), .t (.sc (.str x1.name.name)), .t (.sc (.int .i64 x1.name.n)), .t (.sl (x1.name.scopes.map rI)), .t (.sl (x1.name.kids.map Form.row)), .t (.sc (.int .i64 x1.depth)), .t (.sc (.int .i64 x1.one.kind)), .t (.sc (.str x1.one.name)), .t (.sc (.int .i64 x1.one.n)), .t (.sl (x1.one.scopes.map rI)), .t (.sl (x1.one.kids.map Form.row)), .t (.sl (x1.many.map Hit.row))], .rf 9000 0] (objs [(9000, .box [.t (.sc (.int .i64 o1.name.kind)), .t (.sc (.str o1.name.name)), .t (.sc (.int .i64 o1.name.n)), .t (.sl (o1.name.scopes.map rI)), .t (.sl (o1.name.kids.map Form.row)), .t (.sc (.int .i64 o1.depth)), .t (.sc (.int .i64 o1.one.kind)), .t (.sc (.str o1.one.name)), .t (.sc (.int .i64 o1.one.n)), .t (.sl (o1.one.scopes.map rI)), .t (.sl (o1.one.kids.map Form.row)), .t (.sl (o1.many.map Hit.row))])]) (.t (.sc (.bool r))) (objs [(9000, .box [.t (.sc (.int .i64 o1.name.kind)), .t (.sc (.str o1.name.name)), .t (.sc (.int .i64 o1.name.n)), .t (.sl (o1.name.scopes.map rI)), .t (.sl (o1.name.kids.map Form.row)), .t (.sc (.int .i64 o1.depth)), .t (.sc (.int .i64 o1.one.kind)), .t (.sc (.str o1.one.name)), .t (.sc (.int .i64 o1.one.n)), .t (.sl (o1.one.scopes.map rI)), .t (.sl (o1.one.kids.map Form.row)), .t (.sl (o1.many.map Hit.row))])])
def m_slices_ContainsFunc_Hit_hitOk_1_AC (fuel : Nat) : Prop := ∀ (x1 : (List Hit)) (o1 : Hit) (r : Bool), m_slices_ContainsFunc_Hit_hitOk_1 fuel x1 o1 = some r → AC Try.prog 129 [.t (.sl (x1.map Hit.row)), .fn 130 [.rf 9000 0]] (objs [(9000, .box [.t (.sc (.int .i64 o1.name.kind)), .t (.sc (.str o1.name.name)), .t (.sc (.int .i64 o1.name.n)), .t (.sl (o1.name.scopes.map rI)), .t (.sl (o1.name.kids.map Form.row)), .t (.sc (.int .i64 o1.depth)), .t (.sc (.int .i64 o1.one.kind)), .t (.sc (.str o1.one.name)), .t (.sc (.int .i64 o1.one.n)), .t (.sl (o1.one.scopes.map rI)), .t (.sl (o1.one.kids.map Form.row)), .t (.sl (o1.many.map Hit.row))])]) (.t (.sc (.bool r))) (objs [(9000, .box [.t (.sc (.int .i64 o1.name.kind)), .t (.sc (.str o1.name.name)), .t (.sc (.int .i64 o1.name.n)), .t (.sl (o1.name.scopes.map rI)), .t (.sl (o1.name.kids.map Form.row)), .t (.sc (.int .i64 o1.depth)), .t (.sc (.int .i64 o1.one.kind)), .t (.sc (.str o1.one.name)), .t (.sc (.int .i64 o1.one.n)), .t (.sl (o1.one.scopes.map rI)), .t (.sl (o1.one.kids.map Form.row)), .t (.sl (o1.many.map Hit.row))])])
def m_slices_IndexFunc_Hit_hitOk_1_AC (fuel : Nat) : Prop := ∀ (x1 : (List Hit)) (o1 : Hit) (r : Int), m_slices_IndexFunc_Hit_hitOk_1 fuel x1 o1 = some r → AC Try.prog 131 [.t (.sl (x1.map Hit.row)), .fn 130 [.rf 9000 0]] (objs [(9000, .box [.t (.sc (.int .i64 o1.name.kind)), .t (.sc (.str o1.name.name)), .t (.sc (.int .i64 o1.name.n)), .t (.sl (o1.name.scopes.map rI)), .t (.sl (o1.name.kids.map Form.row)), .t (.sc (.int .i64 o1.depth)), .t (.sc (.int .i64 o1.one.kind)), .t (.sc (.str o1.one.name)), .t (.sc (.int .i64 o1.one.n)), .t (.sl (o1.one.scopes.map rI)), .t (.sl (o1.one.kids.map Form.row)), .t (.sl (o1.many.map Hit.row))])]) (.t (.sc (.int .i64 r))) (objs [(9000, .box [.t (.sc (.int .i64 o1.name.kind)), .t (.sc (.str o1.name.name)), .t (.sc (.int .i64 o1.name.n)), .t (.sl (o1.name.scopes.map rI)), .t (.sl (o1.name.kids.map Form.row)), .t (.sc (.int .i64 o1.depth)), .t (.sc (.int .i64 o1.one.kind)), .t (.sc (.str o1.one.name)), .t (.sc (.int .i64 o1.one.n)), .t (.sl (o1.one.scopes.map rI)), .t (.sl (o1.one.kids.map Form.row)), .t (.sl (o1.many.map Hit.row))])])
theorem m_impl_hitOk_st (fu : Nat) (ih_m_impl_hitOk : ∀ k, k ≤ fu → m_impl_hitOk_AC k) (ih_m_impl_hitOk_1 : ∀ k, k ≤ fu → m_impl_hitOk_1_AC k) (ih_m_slices_ContainsFunc_Hit_hitOk_1 : ∀ k, k ≤ fu → m_slices_ContainsFunc_Hit_hitOk_1_AC k) (ih_m_slices_IndexFunc_Hit_hitOk_1 : ∀ k, k ≤ fu → m_slices_IndexFunc_Hit_hitOk_1_AC k) : m_impl_hitOk_AC (fu + 1) := by
  intro x1 r hF0
  rw [m_impl_hitOk] at hF0
  refine AC_intro (rs := [.t (.sc (.bool r))]) Try.func90 rfl (by kernel_rfl) (by simp [Try.ntmps90]) (by simp [noOb]) ?_
  intro C hC
  rw [Try.ntmps90]
  refine awp_seq ?_
  refine awp_region ?_
  refine s_box ?_
  refine s_as ?_
  refine k_nil ?_
  refine k_seq ?_
  refine awp_seq ?_
  refine awp_seq ?_
  refine awp_region ?_
  refine s_fa yF65_0 ?_
  refine s_ldN yA32 yS32 ?_
  replace hF0 := bind_some' hF0
  obtain ⟨v1, hv1, hF1⟩ := hF0
  refine s_pure [] (m_impl_isName_ok fu _ _ hv1) ?_
  refine s_not ?_
  refine s_mv ?_
  refine w_guard _ 7 hF1 (fun hc2 hF2 => ?_) (fun hc2 hF2 => ?_) <;> clear hF1
  refine r_no rfl ?_
  refine r_no rfl ?_
  refine r_no rfl ?_
  refine r_no rfl ?_
  refine s_pkt ?_
  refine s_mv ?_
  refine r_no rfl ?_
  refine r_no rfl ?_
  refine r_no rfl ?_
  refine r_no rfl ?_
  refine s_pkt ?_
  refine s_mv ?_
  refine r_no rfl ?_
  refine r_no rfl ?_
  refine r_no rfl ?_
  refine r_no rfl ?_
  refine s_pkt ?_
  refine k_nil ?_
  refine k_seq ?_
  refine awp_true rfl ?_
  refine awp_seq ?_
  refine awp_region ?_
  refine s_as ?_
  refine k_nil ?_
  refine k_seq ?_
  refine awp_ret ?_
  refine k_seq_ret ?_
  refine k_fin ?_
  obtain rfl := Option.some.inj hF2
  exact ends_gen [] [] (by rw [Try.results90]; exact (res_tmp (by conv => lhs; whnf) res_nil))
  refine s_fa yF65_0 ?_
  refine s_fa yF32_1 ?_
  refine s_ld1 yA9 ?_
  refine s_eqS ?_
  refine s_pkf ?_
  refine s_mv ?_
  refine w_guard _ 13 hF2 (fun hc3 hF3 => ?_) (fun hc3 hF3 => ?_) <;> clear hF2
  refine r_no rfl ?_
  refine r_no rfl ?_
  refine r_no rfl ?_
  refine r_no rfl ?_
  refine s_pkt ?_
  refine s_mv ?_
  refine r_no rfl ?_
  refine r_no rfl ?_
  refine r_no rfl ?_
  refine r_no rfl ?_
  refine s_pkt ?_
  refine k_nil ?_
  refine k_seq ?_
  refine awp_true rfl ?_
  refine awp_seq ?_
  refine awp_region ?_
  refine s_as ?_
  refine k_nil ?_
  refine k_seq ?_
  refine awp_ret ?_
  refine k_seq_ret ?_
  refine k_fin ?_
  obtain rfl := Option.some.inj hF3
  exact ends_gen [] [] (by rw [Try.results90]; exact (res_tmp (by conv => lhs; whnf) res_nil))
  refine s_fa yF65_0 ?_
  refine s_fa yF32_1 ?_
  refine s_ld1 yA9 ?_
  refine s_eqS ?_
  refine s_pkf ?_
  refine s_mv ?_
  refine w_guard _ 19 hF3 (fun hc4 hF4 => ?_) (fun hc4 hF4 => ?_) <;> clear hF3
  refine r_no rfl ?_
  refine r_no rfl ?_
  refine r_no rfl ?_
  refine r_no rfl ?_
  refine s_pkt ?_
  refine k_nil ?_
  refine k_seq ?_
  refine awp_true rfl ?_
  refine awp_seq ?_
  refine awp_region ?_
  refine s_as ?_
  refine k_nil ?_
  refine k_seq ?_
  refine awp_ret ?_
  refine k_seq_ret ?_
  refine k_fin ?_
  obtain rfl := Option.some.inj hF4
  exact ends_gen [] [] (by rw [Try.results90]; exact (res_tmp (by conv => lhs; whnf) res_nil))
  refine s_fa yF65_1 ?_
  refine s_ld1 yA3 ?_
  replace hF4 := bind_some' hF4
  obtain ⟨v5, hv5, hF5⟩ := hF4
  refine s_pure [] (m_impl_within_ok fu _ _ _ _ hv5) ?_
  refine s_not ?_
  refine s_pkf ?_
  refine k_nil ?_
  refine k_seq ?_
  refine w_cond hF5 (fun hc6 hF6 => ?_) (fun hc6 hF6 => ?_) <;> clear hF5
  refine awp_seq ?_
  refine awp_region ?_
  refine s_as ?_
  refine k_nil ?_
  refine k_seq ?_
  refine awp_ret ?_
  refine k_seq_ret ?_
  refine k_fin ?_
  obtain rfl := Option.some.inj hF6
  exact ends_gen [] [] (by rw [Try.results90]; exact (res_tmp (by conv => lhs; whnf) res_nil))
  refine awp_skip ?_
  refine k_seq ?_
  refine awp_seq ?_
  refine awp_seq ?_
  refine awp_region ?_
  refine s_fa yF65_1 ?_
  refine s_ld1 yA3 ?_
  refine s_eq ?_
  refine k_nil ?_
  refine k_seq ?_
  refine w_cond hF6 (fun hc7 hF7 => ?_) (fun hc7 hF7 => ?_) <;> clear hF6
  refine awp_seq ?_
  refine awp_region ?_
  refine s_fa yF65_2 ?_
  refine s_ldN yA32 yS32 ?_
  replace hF7 := bind_some' hF7
  obtain ⟨v8, hv8, hF8⟩ := hF7
  refine s_pure [] (m_impl_FormValid_ok fu _ _ hv8) ?_
  refine s_mv ?_
  refine w_guard _ 31 hF8 (fun hc9 hF9 => ?_) (fun hc9 hF9 => ?_) <;> clear hF8
  refine s_fa yF65_3 ?_
  refine s_ld1 yA34 ?_
  refine s_lenT yU34 ?_
  refine s_eq ?_
  refine s_pkt ?_
  refine s_as ?_
  refine k_nil ?_
  refine k_seq ?_
  refine awp_ret ?_
  refine k_seq_ret ?_
  refine k_fin ?_
  obtain rfl := Option.some.inj hF9
  exact ends_gen [] [] (by rw [Try.results90]; exact (res_tmp (by conv => lhs; whnf) res_nil))
  refine r_no rfl ?_
  refine r_no rfl ?_
  refine r_no rfl ?_
  refine r_no rfl ?_
  refine s_pkf ?_
  refine s_as ?_
  refine k_nil ?_
  refine k_seq ?_
  refine awp_ret ?_
  refine k_seq_ret ?_
  refine k_fin ?_
  obtain rfl := Option.some.inj hF9
  exact ends_gen [] [] (by rw [Try.results90]; exact (res_tmp (by conv => lhs; whnf) res_nil))
  refine awp_skip ?_
  refine k_seq ?_
  refine awp_seq ?_
  refine awp_region ?_
  refine s_fa yF65_2 ?_
  refine s_ldN yA32 yS32 ?_
  refine s_bld yZ32 yL32 ?_
  replace hF7 := bind_some' hF7
  obtain ⟨v10, hv10, hF8⟩ := hF7
  refine s_pure [] (m_impl_FormSame_ok fu _ _ _ hv10) ?_
  refine s_mv ?_
  refine w_guard _ 41 hF8 (fun hc11 hF9 => ?_) (fun hc11 hF9 => ?_) <;> clear hF8
  refine s_fa yF65_3 ?_
  refine s_ld1 yA34 ?_
  refine s_lenT yU34 ?_
  refine s_le ?_
  refine s_pkt ?_
  refine s_mv ?_
  refine w_guard _ 47 hF9 (fun hc12 hF10 => ?_) (fun hc12 hF10 => ?_) <;> clear hF9
  refine s_fa yF65_3 ?_
  refine s_ld1 yA34 ?_
  refine s_fn ?_
  replace hF10 := bind_some' hF10
  obtain ⟨v13, hv13, hF11⟩ := hF10
  refine s_call [(9000, 1)] [] _ _ (ih_m_slices_ContainsFunc_Hit_hitOk_1 fu (by omega) _ _ _ hv13) ?_
  refine s_not ?_
  refine s_pkt ?_
  refine s_as ?_
  refine k_nil ?_
  refine k_seq ?_
  refine awp_ret ?_
  refine k_fin ?_
  obtain rfl := Option.some.inj hF11
  exact ends_gen [] [] (by rw [Try.results90]; exact (res_tmp (by conv => lhs; whnf) res_nil))
  refine r_no rfl ?_
  refine r_no rfl ?_
  refine r_no rfl ?_
  refine r_no rfl ?_
  refine r_no rfl ?_
  refine s_pkf ?_
  refine s_as ?_
  refine k_nil ?_
  refine k_seq ?_
  refine awp_ret ?_
  refine k_fin ?_
  obtain rfl := Option.some.inj hF10
  exact ends_gen [] [] (by rw [Try.results90]; exact (res_tmp (by conv => lhs; whnf) res_nil))
  refine r_no rfl ?_
  refine r_no rfl ?_
  refine r_no rfl ?_
  refine r_no rfl ?_
  refine s_pkf ?_
  refine s_mv ?_
  refine r_no rfl ?_
  refine r_no rfl ?_
  refine r_no rfl ?_
  refine r_no rfl ?_
  refine r_no rfl ?_
  refine s_pkf ?_
  refine s_as ?_
  refine k_nil ?_
  refine k_seq ?_
  refine awp_ret ?_
  refine k_fin ?_
  obtain rfl := Option.some.inj hF9
  exact ends_gen [] [] (by rw [Try.results90]; exact (res_tmp (by conv => lhs; whnf) res_nil))
theorem m_impl_hitOk_1_st (fu : Nat) (ih_m_impl_hitOk : ∀ k, k ≤ fu → m_impl_hitOk_AC k) (ih_m_impl_hitOk_1 : ∀ k, k ≤ fu → m_impl_hitOk_1_AC k) (ih_m_slices_ContainsFunc_Hit_hitOk_1 : ∀ k, k ≤ fu → m_slices_ContainsFunc_Hit_hitOk_1_AC k) (ih_m_slices_IndexFunc_Hit_hitOk_1 : ∀ k, k ≤ fu → m_slices_IndexFunc_Hit_hitOk_1_AC k) : m_impl_hitOk_1_AC (fu + 1) := by
  intro x1 o1 r hF0
  rw [m_impl_hitOk_1] at hF0
  refine AC_intro (rs := [.t (.sc (.bool r))]) Try.func130 rfl (by kernel_rfl) (by simp [Try.ntmps130]) (keep_all rfl) ?_
  intro C hC
  rw [Try.ntmps130]
  refine awp_seq ?_
  refine awp_region ?_
  refine s_box ?_
  refine s_as ?_
  refine k_nil ?_
  refine k_seq ?_
  refine awp_seq ?_
  refine awp_region ?_
  refine s_fa yF65_0 ?_
  refine s_ldN yA32 yS32 ?_
  refine s_fa yF65_0 ?_
  refine s_ldN yA32 yS32 ?_
  replace hF0 := bind_some' hF0
  obtain ⟨v1, hv1, hF1⟩ := hF0
  refine s_pure [] (m_impl_FormSame_ok fu _ _ _ hv1) ?_
  refine s_not ?_
  refine s_mv ?_
  refine w_guard _ 10 hF1 (fun hc2 hF2 => ?_) (fun hc2 hF2 => ?_) <;> clear hF1
  refine r_no rfl ?_
  refine r_no rfl ?_
  refine r_no rfl ?_
  refine r_no rfl ?_
  refine r_no rfl ?_
  refine r_no rfl ?_
  refine s_pkt ?_
  refine s_mv ?_
  refine r_no rfl ?_
  refine r_no rfl ?_
  refine r_no rfl ?_
  refine s_pkt ?_
  refine s_as ?_
  refine k_nil ?_
  refine k_seq ?_
  refine awp_ret ?_
  refine k_fin ?_
  obtain rfl := Option.some.inj hF2
  exact ends_gen _ [] (by rw [Try.results130]; exact (res_tmp (by conv => lhs; whnf) res_nil))
  refine s_fa yF65_1 ?_
  refine s_ld1 yA3 ?_
  refine s_fa yF65_1 ?_
  refine s_ld1 yA3 ?_
  refine s_sub rfl ?_
  refine s_ne ?_
  refine s_pkf ?_
  refine s_mv ?_
  refine w_guard _ 18 hF2 (fun hc3 hF3 => ?_) (fun hc3 hF3 => ?_) <;> clear hF2
  refine r_no rfl ?_
  refine r_no rfl ?_
  refine r_no rfl ?_
  refine s_pkt ?_
  refine s_as ?_
  refine k_nil ?_
  refine k_seq ?_
  refine awp_ret ?_
  refine k_fin ?_
  obtain rfl := Option.some.inj hF3
  exact ends_gen _ [] (by rw [Try.results130]; exact (res_tmp (by conv => lhs; whnf) res_nil))
  refine s_ldW yA65 yS65 ?_
  replace hF3 := bind_some' hF3
  obtain ⟨v4, hv4, hF4⟩ := hF3
  refine s_pure [] (ih_m_impl_hitOk fu (by omega) _ _ hv4) ?_
  refine s_not ?_
  refine s_pkf ?_
  refine s_as ?_
  refine k_nil ?_
  refine k_seq ?_
  refine awp_ret ?_
  refine k_fin ?_
  obtain rfl := Option.some.inj hF4
  exact ends_gen _ [] (by rw [Try.results130]; exact (res_tmp (by conv => lhs; whnf) res_nil))
theorem m_slices_ContainsFunc_Hit_hitOk_1_st (fu : Nat) (ih_m_impl_hitOk : ∀ k, k ≤ fu → m_impl_hitOk_AC k) (ih_m_impl_hitOk_1 : ∀ k, k ≤ fu → m_impl_hitOk_1_AC k) (ih_m_slices_ContainsFunc_Hit_hitOk_1 : ∀ k, k ≤ fu → m_slices_ContainsFunc_Hit_hitOk_1_AC k) (ih_m_slices_IndexFunc_Hit_hitOk_1 : ∀ k, k ≤ fu → m_slices_IndexFunc_Hit_hitOk_1_AC k) : m_slices_ContainsFunc_Hit_hitOk_1_AC (fu + 1) := by
  intro x1 o1 r hF0
  rw [m_slices_ContainsFunc_Hit_hitOk_1] at hF0
  refine AC_intro (rs := [.t (.sc (.bool r))]) Try.func129 rfl (by kernel_rfl) (by simp [Try.ntmps129]) (keep_all rfl) ?_
  intro C hC
  rw [Try.ntmps129]
  refine awp_seq ?_
  refine awp_region ?_
  refine s_as ?_
  refine k_nil ?_
  refine k_seq ?_
  refine awp_seq ?_
  refine awp_region ?_
  refine s_mv ?_
  refine s_mv ?_
  replace hF0 := bind_some' hF0
  obtain ⟨v1, hv1, hF1⟩ := hF0
  refine s_call [(9000, 9000)] [] _ _ (ih_m_slices_IndexFunc_Hit_hitOk_1 fu (by omega) _ _ _ hv1) ?_
  refine s_ge ?_
  refine s_as ?_
  refine k_nil ?_
  refine k_seq ?_
  refine awp_ret ?_
  refine k_fin ?_
  obtain rfl := Option.some.inj hF1
  exact ends_gen _ [] (by rw [Try.results129]; exact (res_tmp (by conv => lhs; whnf) res_nil))
theorem m_slices_IndexFunc_Hit_hitOk_1_st (fu : Nat) (ih_m_impl_hitOk : ∀ k, k ≤ fu → m_impl_hitOk_AC k) (ih_m_impl_hitOk_1 : ∀ k, k ≤ fu → m_impl_hitOk_1_AC k) (ih_m_slices_ContainsFunc_Hit_hitOk_1 : ∀ k, k ≤ fu → m_slices_ContainsFunc_Hit_hitOk_1_AC k) (ih_m_slices_IndexFunc_Hit_hitOk_1 : ∀ k, k ≤ fu → m_slices_IndexFunc_Hit_hitOk_1_AC k) : m_slices_IndexFunc_Hit_hitOk_1_AC (fu + 1) := by
  intro x1 o1 r hF0
  rw [m_slices_IndexFunc_Hit_hitOk_1] at hF0
  refine AC_intro (rs := [.t (.sc (.int .i64 r))]) Try.func131 rfl (by kernel_rfl) (by simp [Try.ntmps131]) (keep_all rfl) ?_
  intro C hC
  rw [Try.ntmps131]
  refine awp_seq ?_
  refine awp_region ?_
  refine s_as ?_
  refine k_nil ?_
  refine k_seq ?_
  refine awp_seq ?_
  refine awp_seq ?_
  refine awp_region ?_
  refine s_mv ?_
  refine s_lenT yU34 ?_
  refine s_mv ?_
  refine k_nil ?_
  refine k_seq ?_
  refine awp_block ?_
  refine awp_frame2 [4, 5, 8, 9, 10, 11, 12, 13, 14, 15, 16, 17, 18] [] [] [] (fun a : Nat × Int => a.1) (fun a : Nat × Int => [(4, .t (.sc (.int .i64 0))), (8, .t (.sc (.int .i64 a.2)))]) (fun a : Nat × Int => []) (fun a : Nat × Int => a.1 ≤ fu ∧ m_slices_IndexFunc_Hit_hitOk_1_l1 a.1 x1 o1 a.2 = some r ∧ 0 ≤ a.2) (fu, 0) ⟨Nat.le_refl _, hF0, by simp⟩ (by rfl) (by rfl) (fun _ => rfl) (hasF_cons (by conv => lhs; whnf) (by rfl) (hasF_cons (by conv => lhs; whnf) (by rfl) hasF_nil)) hasO_nil (fun _ h => by cases h) freshS_nil freshM_nil ?_
  clear hF0
  rintro ⟨fu, g1⟩ ⟨hl2, hF1, hn_g1⟩
  dsimp only at hl2 hF1 hn_g1 ⊢
  obtain _ | fu := fu
  · rw [m_slices_IndexFunc_Hit_hitOk_1_l1] at hF1; cases hF1
  rw [m_slices_IndexFunc_Hit_hitOk_1_l1] at hF1
  refine awp_seq ?_
  refine awp_region ?_
  refine s_lt ?_
  refine k_nil ?_
  refine k_seq ?_
  refine awp_seq ?_
  refine w_cond hF1 (fun hc3 hF2 => ?_) (fun hc3 hF2 => ?_) <;> clear hF1
  refine awp_lenT 0 (fun hb4 => ?_)
  refine awp_skip ?_
  refine k_seq ?_
  refine awp_seq ?_
  refine awp_block ?_
  refine awp_seq ?_
  refine awp_region ?_
  refine s_mv ?_
  refine s_as ?_
  refine k_nil ?_
  refine k_seq ?_
  refine awp_seq ?_
  refine awp_region ?_
  refine s_mv ?_
  refine s_mv ?_
  refine s_mv ?_
  replace hF2 := bind_some' hF2
  obtain ⟨v5, hv5, hF3⟩ := hF2
  refine s_ixT Hit.row hv5 (Hit.row_eq _) yE34 ?_
  refine s_ldN yA65 yS65 ?_
  replace hF3 := bind_some' hF3
  obtain ⟨v6, hv6, hF4⟩ := hF3
  refine s_call [(9000, 9000)] [] _ _ (ih_m_impl_hitOk_1 fu (by omega) _ _ _ hv6) ?_
  refine k_nil ?_
  refine k_seq ?_
  refine w_cond hF4 (fun hc7 hF5 => ?_) (fun hc7 hF5 => ?_) <;> clear hF4
  refine awp_seq ?_
  refine awp_region ?_
  refine s_mv ?_
  refine s_as ?_
  refine k_nil ?_
  refine k_seq ?_
  refine awp_ret ?_
  refine k_blk_ret ?_
  refine k_seq_ret ?_
  refine k_rnd_ret2 ?_
  refine k_blk_ret ?_
  refine k_seq_ret ?_
  refine k_fin ?_
  obtain rfl := Option.some.inj hF5
  exact ends_gen _ [] (by rw [Try.results131]; exact (res_tmp (by conv => lhs; whnf) res_nil))
  refine awp_skip ?_
  refine k_blk ?_
  refine k_seq ?_
  refine awp_region ?_
  refine s_add (winc2 hc3 hb4 hn_g1) ?_
  refine s_mv ?_
  refine k_nil ?_
  exact s_rnd2 (fu, (g1 + 1)) [] ⟨by first | omega | (dsimp only; omega), hF5, by first | omega | (dsimp only; omega)⟩ (hasR_cons (by conv => lhs; whnf) (by rfl) rfl (hasR_cons (by conv => lhs; whnf) (by rfl) rfl trivial)) trivial
  refine awp_exit ?_
  refine k_seq_exit ?_
  refine k_rnd_exit2 ?_
  refine k_blk_exit ?_
  refine k_seq ?_
  refine awp_seq ?_
  refine awp_region ?_
  refine s_as ?_
  refine k_nil ?_
  refine k_seq ?_
  refine awp_ret ?_
  refine k_fin ?_
  obtain rfl := Option.some.inj hF2
  exact ends_gen _ [] (by rw [Try.results131]; exact (res_tmp (by conv => lhs; whnf) res_nil))
theorem m_impl_hitOk_all (fuel : Nat) : m_impl_hitOk_AC fuel ∧ m_impl_hitOk_1_AC fuel ∧ m_slices_ContainsFunc_Hit_hitOk_1_AC fuel ∧ m_slices_IndexFunc_Hit_hitOk_1_AC fuel := by
  induction fuel using Nat.strongRecOn with
  | _ N ih =>
    cases N with
    | zero => exact ⟨(by intro x1 r h; rw [m_impl_hitOk] at h; cases h), (by intro x1 o1 r h; rw [m_impl_hitOk_1] at h; cases h), (by intro x1 o1 r h; rw [m_slices_ContainsFunc_Hit_hitOk_1] at h; cases h), (by intro x1 o1 r h; rw [m_slices_IndexFunc_Hit_hitOk_1] at h; cases h)⟩
    | succ fu => exact ⟨m_impl_hitOk_st fu (fun k hk => (ih k (by omega)).1) (fun k hk => (ih k (by omega)).2.1) (fun k hk => (ih k (by omega)).2.2.1) (fun k hk => (ih k (by omega)).2.2.2), m_impl_hitOk_1_st fu (fun k hk => (ih k (by omega)).1) (fun k hk => (ih k (by omega)).2.1) (fun k hk => (ih k (by omega)).2.2.1) (fun k hk => (ih k (by omega)).2.2.2), m_slices_ContainsFunc_Hit_hitOk_1_st fu (fun k hk => (ih k (by omega)).1) (fun k hk => (ih k (by omega)).2.1) (fun k hk => (ih k (by omega)).2.2.1) (fun k hk => (ih k (by omega)).2.2.2), m_slices_IndexFunc_Hit_hitOk_1_st fu (fun k hk => (ih k (by omega)).1) (fun k hk => (ih k (by omega)).2.1) (fun k hk => (ih k (by omega)).2.2.1) (fun k hk => (ih k (by omega)).2.2.2)⟩
theorem m_impl_hitOk_ok (fuel : Nat) : m_impl_hitOk_AC fuel := (m_impl_hitOk_all fuel).1
theorem m_impl_hitOk_1_ok (fuel : Nat) : m_impl_hitOk_1_AC fuel := (m_impl_hitOk_all fuel).2.1
theorem m_slices_ContainsFunc_Hit_hitOk_1_ok (fuel : Nat) : m_slices_ContainsFunc_Hit_hitOk_1_AC fuel := (m_impl_hitOk_all fuel).2.2.1
theorem m_slices_IndexFunc_Hit_hitOk_1_ok (fuel : Nat) : m_slices_IndexFunc_Hit_hitOk_1_AC fuel := (m_impl_hitOk_all fuel).2.2.2
def m_impl_hitAt_1_AC (fuel : Nat) : Prop := ∀ (x1 : Hit) (o1 : Form) (r : Bool), m_impl_hitAt_1 fuel x1 o1 = some r → AC Try.prog 132 [.ag [.t (.sc (.int .i64 x1.name.kind)), .t (.sc (.str x1.name.name)), .t (.sc (.int .i64 x1.name.n)), .t (.sl (x1.name.scopes.map rI)), .t (.sl (x1.name.kids.map Form.row)), .t (.sc (.int .i64 x1.depth)), .t (.sc (.int .i64 x1.one.kind)), .t (.sc (.str x1.one.name)), .t (.sc (.int .i64 x1.one.n)), .t (.sl (x1.one.scopes.map rI)), .t (.sl (x1.one.kids.map Form.row)), .t (.sl (x1.many.map Hit.row))], .rf 9000 0] (objs [(9000, .box [.t (.sc (.int .i64 o1.kind)), .t (.sc (.str o1.name)), .t (.sc (.int .i64 o1.n)), .t (.sl (o1.scopes.map rI)), .t (.sl (o1.kids.map Form.row))])]) (.t (.sc (.bool r))) (objs [(9000, .box [.t (.sc (.int .i64 o1.kind)), .t (.sc (.str o1.name)), .t (.sc (.int .i64 o1.n)), .t (.sl (o1.scopes.map rI)), .t (.sl (o1.kids.map Form.row))])])
theorem m_impl_hitAt_1_ok (fuel : Nat) : m_impl_hitAt_1_AC fuel := by
  intro x1 o1 r hF0
  unfold m_impl_hitAt_1 at hF0
  refine AC_intro (rs := [.t (.sc (.bool r))]) Try.func132 rfl (by kernel_rfl) (by simp [Try.ntmps132]) (keep_all rfl) ?_
  intro C hC
  rw [Try.ntmps132]
  refine awp_seq ?_
  refine awp_region ?_
  refine s_box ?_
  refine s_as ?_
  refine k_nil ?_
  refine k_seq ?_
  refine awp_seq ?_
  refine awp_region ?_
  refine s_fa yF65_0 ?_
  refine s_ldN yA32 yS32 ?_
  refine s_ldW yA32 yS32 ?_
  replace hF0 := bind_some' hF0
  obtain ⟨v1, hv1, hF1⟩ := hF0
  refine s_pure [] (m_impl_FormSame_ok fuel _ _ _ hv1) ?_
  refine s_as ?_
  refine k_nil ?_
  refine k_seq ?_
  refine awp_ret ?_
  refine k_fin ?_
  obtain rfl := Option.some.inj hF1
  exact ends_gen _ [] (by rw [Try.results132]; exact (res_tmp (by conv => lhs; whnf) res_nil))
def m_slices_IndexFunc_Hit_hitAt_1_AC (fuel : Nat) : Prop := ∀ (x1 : (List Hit)) (o1 : Form) (r : Int), m_slices_IndexFunc_Hit_hitAt_1 fuel x1 o1 = some r → AC Try.prog 131 [.t (.sl (x1.map Hit.row)), .fn 132 [.rf 9000 0]] (objs [(9000, .box [.t (.sc (.int .i64 o1.kind)), .t (.sc (.str o1.name)), .t (.sc (.int .i64 o1.n)), .t (.sl (o1.scopes.map rI)), .t (.sl (o1.kids.map Form.row))])]) (.t (.sc (.int .i64 r))) (objs [(9000, .box [.t (.sc (.int .i64 o1.kind)), .t (.sc (.str o1.name)), .t (.sc (.int .i64 o1.n)), .t (.sl (o1.scopes.map rI)), .t (.sl (o1.kids.map Form.row))])])
theorem m_slices_IndexFunc_Hit_hitAt_1_ok (fuel : Nat) : m_slices_IndexFunc_Hit_hitAt_1_AC fuel := by
  intro x1 o1 r hF0
  unfold m_slices_IndexFunc_Hit_hitAt_1 at hF0
  refine AC_intro (rs := [.t (.sc (.int .i64 r))]) Try.func131 rfl (by kernel_rfl) (by simp [Try.ntmps131]) (keep_all rfl) ?_
  intro C hC
  rw [Try.ntmps131]
  refine awp_seq ?_
  refine awp_region ?_
  refine s_as ?_
  refine k_nil ?_
  refine k_seq ?_
  refine awp_seq ?_
  refine awp_seq ?_
  refine awp_region ?_
  refine s_mv ?_
  refine s_lenT yU34 ?_
  refine s_mv ?_
  refine k_nil ?_
  refine k_seq ?_
  refine awp_block ?_
  refine awp_frame2 [4, 5, 8, 9, 10, 11, 12, 13, 14, 15, 16, 17, 18] [] [] [] (fun a : Nat × Int => a.1) (fun a : Nat × Int => [(4, .t (.sc (.int .i64 0))), (8, .t (.sc (.int .i64 a.2)))]) (fun a : Nat × Int => []) (fun a : Nat × Int => a.1 ≤ fuel ∧ m_slices_IndexFunc_Hit_hitAt_1_l1 a.1 x1 o1 a.2 = some r ∧ 0 ≤ a.2) (fuel, 0) ⟨Nat.le_refl _, hF0, by simp⟩ (by rfl) (by rfl) (fun _ => rfl) (hasF_cons (by conv => lhs; whnf) (by rfl) (hasF_cons (by conv => lhs; whnf) (by rfl) hasF_nil)) hasO_nil (fun _ h => by cases h) freshS_nil freshM_nil ?_
  clear hF0
  rintro ⟨fu, g1⟩ ⟨hl2, hF1, hn_g1⟩
  dsimp only at hl2 hF1 hn_g1 ⊢
  obtain _ | fu := fu
  · rw [m_slices_IndexFunc_Hit_hitAt_1_l1] at hF1; cases hF1
  rw [m_slices_IndexFunc_Hit_hitAt_1_l1] at hF1
  refine awp_seq ?_
  refine awp_region ?_
  refine s_lt ?_
  refine k_nil ?_
  refine k_seq ?_
  refine awp_seq ?_
  refine w_cond hF1 (fun hc3 hF2 => ?_) (fun hc3 hF2 => ?_) <;> clear hF1
  refine awp_lenT 0 (fun hb4 => ?_)
  refine awp_skip ?_
  refine k_seq ?_
  refine awp_seq ?_
  refine awp_block ?_
  refine awp_seq ?_
  refine awp_region ?_
  refine s_mv ?_
  refine s_as ?_
  refine k_nil ?_
  refine k_seq ?_
  refine awp_seq ?_
  refine awp_region ?_
  refine s_mv ?_
  refine s_mv ?_
  refine s_mv ?_
  replace hF2 := bind_some' hF2
  obtain ⟨v5, hv5, hF3⟩ := hF2
  refine s_ixT Hit.row hv5 (Hit.row_eq _) yE34 ?_
  refine s_ldN yA65 yS65 ?_
  replace hF3 := bind_some' hF3
  obtain ⟨v6, hv6, hF4⟩ := hF3
  refine s_call [(9000, 9000)] [] _ _ (m_impl_hitAt_1_ok fu _ _ _ hv6) ?_
  refine k_nil ?_
  refine k_seq ?_
  refine w_cond hF4 (fun hc7 hF5 => ?_) (fun hc7 hF5 => ?_) <;> clear hF4
  refine awp_seq ?_
  refine awp_region ?_
  refine s_mv ?_
  refine s_as ?_
  refine k_nil ?_
  refine k_seq ?_
  refine awp_ret ?_
  refine k_blk_ret ?_
  refine k_seq_ret ?_
  refine k_rnd_ret2 ?_
  refine k_blk_ret ?_
  refine k_seq_ret ?_
  refine k_fin ?_
  obtain rfl := Option.some.inj hF5
  exact ends_gen _ [] (by rw [Try.results131]; exact (res_tmp (by conv => lhs; whnf) res_nil))
  refine awp_skip ?_
  refine k_blk ?_
  refine k_seq ?_
  refine awp_region ?_
  refine s_add (winc2 hc3 hb4 hn_g1) ?_
  refine s_mv ?_
  refine k_nil ?_
  exact s_rnd2 (fu, (g1 + 1)) [] ⟨by first | omega | (dsimp only; omega), hF5, by first | omega | (dsimp only; omega)⟩ (hasR_cons (by conv => lhs; whnf) (by rfl) rfl (hasR_cons (by conv => lhs; whnf) (by rfl) rfl trivial)) trivial
  refine awp_exit ?_
  refine k_seq_exit ?_
  refine k_rnd_exit2 ?_
  refine k_blk_exit ?_
  refine k_seq ?_
  refine awp_seq ?_
  refine awp_region ?_
  refine s_as ?_
  refine k_nil ?_
  refine k_seq ?_
  refine awp_ret ?_
  refine k_fin ?_
  obtain rfl := Option.some.inj hF2
  exact ends_gen _ [] (by rw [Try.results131]; exact (res_tmp (by conv => lhs; whnf) res_nil))
def m_impl_hitAt_AC (fuel : Nat) : Prop := ∀ (x1 : (List Hit)) (x2 : Form) (r : Int), m_impl_hitAt fuel x1 x2 = some r → AC Try.prog 92 [.t (.sl (x1.map Hit.row)), .ag [.t (.sc (.int .i64 x2.kind)), .t (.sc (.str x2.name)), .t (.sc (.int .i64 x2.n)), .t (.sl (x2.scopes.map rI)), .t (.sl (x2.kids.map Form.row))]] noOb (.t (.sc (.int .i64 r))) noOb
theorem m_impl_hitAt_ok (fuel : Nat) : m_impl_hitAt_AC fuel := by
  intro x1 x2 r hF0
  unfold m_impl_hitAt at hF0
  refine AC_intro (rs := [.t (.sc (.int .i64 r))]) Try.func92 rfl (by kernel_rfl) (by simp [Try.ntmps92]) (by simp [noOb]) ?_
  intro C hC
  rw [Try.ntmps92]
  refine awp_seq ?_
  refine awp_region ?_
  refine s_box ?_
  refine s_as ?_
  refine k_nil ?_
  refine k_seq ?_
  refine awp_seq ?_
  refine awp_region ?_
  refine s_mv ?_
  refine s_fn ?_
  replace hF0 := bind_some' hF0
  obtain ⟨v1, hv1, hF1⟩ := hF0
  refine s_call [(9000, 3)] [] _ _ (m_slices_IndexFunc_Hit_hitAt_1_ok fuel _ _ _ hv1) ?_
  refine s_as ?_
  refine k_nil ?_
  refine k_seq ?_
  refine awp_ret ?_
  refine k_fin ?_
  obtain rfl := Option.some.inj hF1
  exact ends_gen [] [] (by rw [Try.results92]; exact (res_tmp (by conv => lhs; whnf) res_nil))
def m_impl_HitsValid_AC (fuel : Nat) : Prop := ∀ (x1 : (List Hit)) (r : Bool), m_impl_HitsValid fuel x1 = some r → AC Try.prog 46 [.t (.sl (x1.map Hit.row))] noOb (.t (.sc (.bool r))) noOb
theorem m_impl_HitsValid_ok (fuel : Nat) : m_impl_HitsValid_AC fuel := by
  intro x1 r hF0
  unfold m_impl_HitsValid at hF0
  refine AC_intro (rs := [.t (.sc (.bool r))]) Try.func46 rfl (by kernel_rfl) (by simp [Try.ntmps46]) (by simp [noOb]) ?_
  intro C hC
  rw [Try.ntmps46]
  refine awp_seq ?_
  refine awp_region ?_
  refine s_as ?_
  refine k_nil ?_
  refine k_seq ?_
  refine awp_seq ?_
  refine awp_seq ?_
  refine awp_region ?_
  refine s_mv ?_
  refine s_lenT yU34 ?_
  refine s_mv ?_
  refine k_nil ?_
  refine k_seq ?_
  refine awp_block ?_
  refine awp_frame2 [2, 3, 4, 7, 8, 9, 10, 11, 12, 13, 14, 15, 16, 17, 18, 19, 20, 21, 22, 23, 24] [] [4] [] (fun a : Nat × Int => a.1) (fun a : Nat × Int => [(2, .t (.sc (.bool false))), (7, .t (.sc (.int .i64 a.2)))]) (fun a : Nat × Int => []) (fun a : Nat × Int => a.1 ≤ fuel ∧ m_impl_HitsValid_l1 a.1 x1 a.2 = some r ∧ 0 ≤ a.2) (fuel, 0) ⟨Nat.le_refl _, hF0, by simp⟩ (by rfl) (by rfl) (fun _ => rfl) (hasF_cons (by conv => lhs; whnf) (by rfl) (hasF_cons (by conv => lhs; whnf) (by rfl) hasF_nil)) hasO_nil (fun _ h => by cases h) freshS_nil freshM_nil ?_
  clear hF0
  rintro ⟨fu, g1⟩ ⟨hl2, hF1, hn_g1⟩
  dsimp only at hl2 hF1 hn_g1 ⊢
  obtain _ | fu := fu
  · rw [m_impl_HitsValid_l1] at hF1; cases hF1
  rw [m_impl_HitsValid_l1] at hF1
  refine awp_seq ?_
  refine awp_region ?_
  refine s_lt ?_
  refine k_nil ?_
  refine k_seq ?_
  refine awp_seq ?_
  refine w_cond hF1 (fun hc3 hF2 => ?_) (fun hc3 hF2 => ?_) <;> clear hF1
  refine awp_lenT 0 (fun hb4 => ?_)
  refine awp_skip ?_
  refine k_seq ?_
  refine awp_seq ?_
  refine awp_block ?_
  refine awp_seq ?_
  refine awp_region ?_
  refine s_mv ?_
  replace hF2 := bind_some' hF2
  obtain ⟨v5, hv5, hF3⟩ := hF2
  refine s_ixT Hit.row hv5 (Hit.row_eq _) yE34 ?_
  refine s_ldN yA65 yS65 ?_
  refine s_alloc yZ65 ?_
  refine s_as ?_
  refine s_stW yS65 ?_
  refine k_nil ?_
  refine k_seq ?_
  refine awp_seq ?_
  refine awp_draw yMix (by kernel_rfl) ?_
  refine s_ldW yA65 yS65 ?_
  replace hF3 := bind_some' hF3
  obtain ⟨v6, hv6, hF4⟩ := hF3
  refine s_pure [] (m_impl_hitOk_ok fu _ _ hv6) ?_
  refine s_not ?_
  refine s_mv ?_
  refine w_guard _ 15 hF4 (fun hc7 hF5 => ?_) (fun hc7 hF5 => ?_) <;> clear hF4
  refine r_no rfl ?_
  refine r_no rfl ?_
  refine r_no rfl ?_
  refine r_no rfl ?_
  refine r_no rfl ?_
  refine r_no rfl ?_
  refine r_no rfl ?_
  refine s_pkt ?_
  refine k_nilD (by kernel_rfl) ?_
  refine k_seq ?_
  refine awp_true rfl ?_
  refine awp_seq ?_
  refine awp_region ?_
  refine s_as ?_
  refine k_nil ?_
  refine k_seq ?_
  refine awp_ret ?_
  refine k_blk_ret ?_
  refine k_seq_ret ?_
  refine k_rnd_ret2 ?_
  refine k_blk_ret ?_
  refine k_seq_ret ?_
  refine k_fin ?_
  obtain rfl := Option.some.inj hF5
  exact ends_gen [] [] (by rw [Try.results46]; exact (res_tmp (by conv => lhs; whnf) res_nil))
  refine s_mv ?_
  refine s_mv ?_
  replace hF5 := bind_some' hF5
  obtain ⟨v8, hv8, hF6⟩ := hF5
  refine s_sl01 Hit.row (fun y => Hit.row_len y) hv8 yU34 yE34 ?_
  refine s_fa yF65_0 ?_
  refine s_ldN yA32 yS32 ?_
  replace hF6 := bind_some' hF6
  obtain ⟨v9, hv9, hF7⟩ := hF6
  refine s_pure [] (m_impl_hitAt_ok fu _ _ _ hv9) ?_
  refine s_ge ?_
  refine s_pkf ?_
  refine k_nilD (by kernel_rfl) ?_
  refine k_seq ?_
  refine w_cond hF7 (fun hc10 hF8 => ?_) (fun hc10 hF8 => ?_) <;> clear hF7
  refine awp_seq ?_
  refine awp_region ?_
  refine s_as ?_
  refine k_nil ?_
  refine k_seq ?_
  refine awp_ret ?_
  refine k_blk_ret ?_
  refine k_seq_ret ?_
  refine k_rnd_ret2 ?_
  refine k_blk_ret ?_
  refine k_seq_ret ?_
  refine k_fin ?_
  obtain rfl := Option.some.inj hF8
  exact ends_gen [] [] (by rw [Try.results46]; exact (res_tmp (by conv => lhs; whnf) res_nil))
  refine awp_skip ?_
  refine k_blk ?_
  refine k_seq ?_
  refine awp_region ?_
  refine s_add (winc2 hc3 hb4 hn_g1) ?_
  refine s_mv ?_
  refine k_nil ?_
  exact s_rnd2 (fu, (g1 + 1)) [] ⟨by first | omega | (dsimp only; omega), hF8, by first | omega | (dsimp only; omega)⟩ (hasR_cons (by conv => lhs; whnf) (by rfl) rfl (hasR_cons (by conv => lhs; whnf) (by rfl) rfl trivial)) trivial
  refine awp_exit ?_
  refine k_seq_exit ?_
  refine k_rnd_exit2 ?_
  refine k_blk_exit ?_
  refine k_seq ?_
  refine awp_seq ?_
  refine awp_region ?_
  refine s_mv ?_
  refine s_lenT yU34 ?_
  refine s_le ?_
  refine s_as ?_
  refine k_nil ?_
  refine k_seq ?_
  refine awp_ret ?_
  refine k_fin ?_
  obtain rfl := Option.some.inj hF2
  exact ends_gen [] [] (by rw [Try.results46]; exact (res_tmp (by conv => lhs; whnf) res_nil))
def m_spec_l4Hit_AC (fuel : Nat) : Prop := ∀ (x1 : Hit) (x2 : Int) (r : Bool), m_spec_l4Hit fuel x1 x2 = some r → AC Try.prog 93 [.ag [.t (.sc (.int .i64 x1.name.kind)), .t (.sc (.str x1.name.name)), .t (.sc (.int .i64 x1.name.n)), .t (.sl (x1.name.scopes.map rI)), .t (.sl (x1.name.kids.map Form.row)), .t (.sc (.int .i64 x1.depth)), .t (.sc (.int .i64 x1.one.kind)), .t (.sc (.str x1.one.name)), .t (.sc (.int .i64 x1.one.n)), .t (.sl (x1.one.scopes.map rI)), .t (.sl (x1.one.kids.map Form.row)), .t (.sl (x1.many.map Hit.row))], .t (.sc (.int .i64 x2))] noOb (.t (.sc (.bool r))) noOb
theorem m_spec_l4Hit_st (fu : Nat) (ih_m_spec_l4Hit : ∀ k, k ≤ fu → m_spec_l4Hit_AC k) : m_spec_l4Hit_AC (fu + 1) := by
  intro x1 x2 r hF0
  rw [m_spec_l4Hit] at hF0
  refine AC_intro (rs := [.t (.sc (.bool r))]) Try.func93 rfl (by kernel_rfl) (by simp [Try.ntmps93]) (by simp [noOb]) ?_
  intro C hC
  rw [Try.ntmps93]
  refine awp_seq ?_
  refine awp_region ?_
  refine s_box ?_
  refine s_as ?_
  refine k_nil ?_
  refine k_seq ?_
  refine awp_seq ?_
  refine awp_seq ?_
  refine awp_region ?_
  refine s_fa yF65_1 ?_
  refine s_ld1 yA3 ?_
  refine s_mv ?_
  refine s_ne ?_
  refine s_mv ?_
  refine w_guard _ 10 hF0 (fun hc1 hF1 => ?_) (fun hc1 hF1 => ?_) <;> clear hF0
  refine r_no rfl ?_
  refine r_no rfl ?_
  refine s_pkt ?_
  refine s_mv ?_
  refine r_no rfl ?_
  refine r_no rfl ?_
  refine s_pkt ?_
  refine s_mv ?_
  refine r_no rfl ?_
  refine r_no rfl ?_
  refine r_no rfl ?_
  refine r_no rfl ?_
  refine s_pkt ?_
  refine s_mv ?_
  refine r_no rfl ?_
  refine r_no rfl ?_
  refine r_no rfl ?_
  refine r_no rfl ?_
  refine s_pkt ?_
  refine s_mv ?_
  refine r_no rfl ?_
  refine r_no rfl ?_
  refine r_no rfl ?_
  refine r_no rfl ?_
  refine s_pkt ?_
  refine k_nil ?_
  refine k_seq ?_
  refine awp_true rfl ?_
  refine awp_seq ?_
  refine awp_region ?_
  refine s_as ?_
  refine k_nil ?_
  refine k_seq ?_
  refine awp_ret ?_
  refine k_seq_ret ?_
  refine k_fin ?_
  obtain rfl := Option.some.inj hF1
  exact ends_gen [] [] (by rw [Try.results93]; exact (res_tmp (by conv => lhs; whnf) res_nil))
  refine s_mv ?_
  refine s_lt ?_
  refine s_pkf ?_
  refine s_mv ?_
  refine w_guard _ 14 hF1 (fun hc2 hF2 => ?_) (fun hc2 hF2 => ?_) <;> clear hF1
  refine r_no rfl ?_
  refine r_no rfl ?_
  refine s_pkt ?_
  refine s_mv ?_
  refine r_no rfl ?_
  refine r_no rfl ?_
  refine r_no rfl ?_
  refine r_no rfl ?_
  refine s_pkt ?_
  refine s_mv ?_
  refine r_no rfl ?_
  refine r_no rfl ?_
  refine r_no rfl ?_
  refine r_no rfl ?_
  refine s_pkt ?_
  refine s_mv ?_
  refine r_no rfl ?_
  refine r_no rfl ?_
  refine r_no rfl ?_
  refine r_no rfl ?_
  refine s_pkt ?_
  refine k_nil ?_
  refine k_seq ?_
  refine awp_true rfl ?_
  refine awp_seq ?_
  refine awp_region ?_
  refine s_as ?_
  refine k_nil ?_
  refine k_seq ?_
  refine awp_ret ?_
  refine k_seq_ret ?_
  refine k_fin ?_
  obtain rfl := Option.some.inj hF2
  exact ends_gen [] [] (by rw [Try.results93]; exact (res_tmp (by conv => lhs; whnf) res_nil))
  refine s_mv ?_
  refine s_gt ?_
  refine s_pkf ?_
  refine s_mv ?_
  refine w_guard _ 18 hF2 (fun hc3 hF3 => ?_) (fun hc3 hF3 => ?_) <;> clear hF2
  refine r_no rfl ?_
  refine r_no rfl ?_
  refine r_no rfl ?_
  refine r_no rfl ?_
  refine s_pkt ?_
  refine s_mv ?_
  refine r_no rfl ?_
  refine r_no rfl ?_
  refine r_no rfl ?_
  refine r_no rfl ?_
  refine s_pkt ?_
  refine s_mv ?_
  refine r_no rfl ?_
  refine r_no rfl ?_
  refine r_no rfl ?_
  refine r_no rfl ?_
  refine s_pkt ?_
  refine k_nil ?_
  refine k_seq ?_
  refine awp_true rfl ?_
  refine awp_seq ?_
  refine awp_region ?_
  refine s_as ?_
  refine k_nil ?_
  refine k_seq ?_
  refine awp_ret ?_
  refine k_seq_ret ?_
  refine k_fin ?_
  obtain rfl := Option.some.inj hF3
  exact ends_gen [] [] (by rw [Try.results93]; exact (res_tmp (by conv => lhs; whnf) res_nil))
  refine s_fa yF65_0 ?_
  refine s_ldN yA32 yS32 ?_
  replace hF3 := bind_some' hF3
  obtain ⟨v4, hv4, hF4⟩ := hF3
  refine s_pure [] (m_spec_l3Is_ok fu _ _ hv4) ?_
  refine s_not ?_
  refine s_pkf ?_
  refine s_mv ?_
  refine w_guard _ 24 hF4 (fun hc5 hF5 => ?_) (fun hc5 hF5 => ?_) <;> clear hF4
  refine r_no rfl ?_
  refine r_no rfl ?_
  refine r_no rfl ?_
  refine r_no rfl ?_
  refine s_pkt ?_
  refine s_mv ?_
  refine r_no rfl ?_
  refine r_no rfl ?_
  refine r_no rfl ?_
  refine r_no rfl ?_
  refine s_pkt ?_
  refine k_nil ?_
  refine k_seq ?_
  refine awp_true rfl ?_
  refine awp_seq ?_
  refine awp_region ?_
  refine s_as ?_
  refine k_nil ?_
  refine k_seq ?_
  refine awp_ret ?_
  refine k_seq_ret ?_
  refine k_fin ?_
  obtain rfl := Option.some.inj hF5
  exact ends_gen [] [] (by rw [Try.results93]; exact (res_tmp (by conv => lhs; whnf) res_nil))
  refine s_fa yF65_0 ?_
  refine s_fa yF32_1 ?_
  refine s_ld1 yA9 ?_
  refine s_eqS ?_
  refine s_pkf ?_
  refine s_mv ?_
  refine w_guard _ 30 hF5 (fun hc6 hF6 => ?_) (fun hc6 hF6 => ?_) <;> clear hF5
  refine r_no rfl ?_
  refine r_no rfl ?_
  refine r_no rfl ?_
  refine r_no rfl ?_
  refine s_pkt ?_
  refine k_nil ?_
  refine k_seq ?_
  refine awp_true rfl ?_
  refine awp_seq ?_
  refine awp_region ?_
  refine s_as ?_
  refine k_nil ?_
  refine k_seq ?_
  refine awp_ret ?_
  refine k_seq_ret ?_
  refine k_fin ?_
  obtain rfl := Option.some.inj hF6
  exact ends_gen [] [] (by rw [Try.results93]; exact (res_tmp (by conv => lhs; whnf) res_nil))
  refine s_fa yF65_0 ?_
  refine s_fa yF32_1 ?_
  refine s_ld1 yA9 ?_
  refine s_eqS ?_
  refine s_pkf ?_
  refine k_nil ?_
  refine k_seq ?_
  refine w_cond hF6 (fun hc7 hF7 => ?_) (fun hc7 hF7 => ?_) <;> clear hF6
  refine awp_seq ?_
  refine awp_region ?_
  refine s_as ?_
  refine k_nil ?_
  refine k_seq ?_
  refine awp_ret ?_
  refine k_seq_ret ?_
  refine k_fin ?_
  obtain rfl := Option.some.inj hF7
  exact ends_gen [] [] (by rw [Try.results93]; exact (res_tmp (by conv => lhs; whnf) res_nil))
  refine awp_skip ?_
  refine k_seq ?_
  refine awp_seq ?_
  refine awp_seq ?_
  refine awp_region ?_
  refine s_mv ?_
  refine s_eq ?_
  refine k_nil ?_
  refine k_seq ?_
  refine w_cond hF7 (fun hc8 hF8 => ?_) (fun hc8 hF8 => ?_) <;> clear hF7
  refine awp_seq ?_
  refine awp_region ?_
  refine s_fa yF65_2 ?_
  refine s_ldN yA32 yS32 ?_
  replace hF8 := bind_some' hF8
  obtain ⟨v9, hv9, hF9⟩ := hF8
  refine s_pure [] (m_spec_FormValid_ok fu _ _ hv9) ?_
  refine s_mv ?_
  refine w_guard _ 41 hF9 (fun hc10 hF10 => ?_) (fun hc10 hF10 => ?_) <;> clear hF9
  refine s_fa yF65_3 ?_
  refine s_ld1 yA34 ?_
  refine s_lenT yU34 ?_
  refine s_eq ?_
  refine s_pkt ?_
  refine s_as ?_
  refine k_nil ?_
  refine k_seq ?_
  refine awp_ret ?_
  refine k_seq_ret ?_
  refine k_fin ?_
  obtain rfl := Option.some.inj hF10
  exact ends_gen [] [] (by rw [Try.results93]; exact (res_tmp (by conv => lhs; whnf) res_nil))
  refine r_no rfl ?_
  refine r_no rfl ?_
  refine r_no rfl ?_
  refine r_no rfl ?_
  refine s_pkf ?_
  refine s_as ?_
  refine k_nil ?_
  refine k_seq ?_
  refine awp_ret ?_
  refine k_seq_ret ?_
  refine k_fin ?_
  obtain rfl := Option.some.inj hF10
  exact ends_gen [] [] (by rw [Try.results93]; exact (res_tmp (by conv => lhs; whnf) res_nil))
  refine awp_skip ?_
  refine k_seq ?_
  refine awp_seq ?_
  refine awp_seq ?_
  refine awp_region ?_
  refine s_as ?_
  refine k_nil ?_
  refine k_seq ?_
  refine awp_block ?_
  refine awp_frame2 [4, 5, 47, 48, 49, 50, 51, 52, 53, 54, 55, 56, 57, 58, 59, 60, 61, 62, 63, 64, 65, 66, 67, 68, 69, 70, 71, 72, 73, 74] [] [] [] (fun a : Nat × Int => a.1) (fun a : Nat × Int => [(4, .t (.sc (.bool false))), (5, .t (.sc (.int .i64 a.2)))]) (fun a : Nat × Int => []) (fun a : Nat × Int => a.1 ≤ fu ∧ m_spec_l4Hit_l1 a.1 x1 x2 a.2 = some r ∧ 0 ≤ a.2) (fu, 0) ⟨Nat.le_refl _, hF8, by simp⟩ (by rfl) (by rfl) (fun _ => rfl) (hasF_cons (by conv => lhs; whnf) (by rfl) (hasF_cons (by conv => lhs; whnf) (by rfl) hasF_nil)) hasO_nil (fun _ h => by cases h) freshS_nil freshM_nil ?_
  clear hF8
  rintro ⟨fu, g11⟩ ⟨hl12, hF9, hn_g11⟩
  dsimp only at hl12 hF9 hn_g11 ⊢
  obtain _ | fu := fu
  · rw [m_spec_l4Hit_l1] at hF9; cases hF9
  rw [m_spec_l4Hit_l1] at hF9
  refine awp_seq ?_
  refine awp_seq ?_
  refine awp_region ?_
  refine s_mv ?_
  refine s_fa yF65_3 ?_
  refine s_ld1 yA34 ?_
  refine s_lenT yU34 ?_
  refine s_lt ?_
  refine k_nil ?_
  refine k_seq ?_
  refine w_cond hF9 (fun hc13 hF10 => ?_) (fun hc13 hF10 => ?_) <;> clear hF9
  refine awp_lenT 49 (fun hb14 => ?_)
  refine awp_skip ?_
  refine k_seq ?_
  refine awp_seq ?_
  refine awp_block ?_
  refine awp_seq ?_
  refine awp_draw yMix (by kernel_rfl) ?_
  refine s_fa yF65_3 ?_
  refine s_ld1 yA34 ?_
  refine s_mv ?_
  replace hF10 := bind_some' hF10
  obtain ⟨v15, hv15, hF11⟩ := hF10
  refine s_ixT Hit.row hv15 (Hit.row_eq _) yE34 ?_
  refine s_fa yF65_0 ?_
  refine s_ldN yA32 yS32 ?_
  refine s_fa yF65_0 ?_
  refine s_ldN yA32 yS32 ?_
  replace hF11 := bind_some' hF11
  obtain ⟨v16, hv16, hF12⟩ := hF11
  refine s_pure [] (m_spec_FormSame_ok fu _ _ _ hv16) ?_
  refine s_not ?_
  refine s_mv ?_
  refine w_guard _ 64 hF12 (fun hc17 hF13 => ?_) (fun hc17 hF13 => ?_) <;> clear hF12
  refine r_no rfl ?_
  refine r_no rfl ?_
  refine r_no rfl ?_
  refine r_no rfl ?_
  refine r_no rfl ?_
  refine r_no rfl ?_
  refine r_no rfl ?_
  refine r_no rfl ?_
  refine r_no rfl ?_
  refine s_pkt ?_
  refine k_nilD (by kernel_rfl) ?_
  refine k_seq ?_
  refine awp_true rfl ?_
  refine awp_seq ?_
  refine awp_region ?_
  refine s_as ?_
  refine k_nil ?_
  refine k_seq ?_
  refine awp_ret ?_
  refine k_blk_ret ?_
  refine k_seq_ret ?_
  refine k_rnd_ret2 ?_
  refine k_blk_ret ?_
  refine k_seq_ret ?_
  refine k_fin ?_
  obtain rfl := Option.some.inj hF13
  exact ends_gen [] [] (by rw [Try.results93]; exact (res_tmp (by conv => lhs; whnf) res_nil))
  refine s_fa yF65_3 ?_
  refine s_ld1 yA34 ?_
  refine s_mv ?_
  replace hF13 := bind_some' hF13
  obtain ⟨v18, hv18, hF14⟩ := hF13
  refine s_ixT Hit.row hv18 (Hit.row_eq _) yE34 ?_
  refine s_ldN yA65 yS65 ?_
  refine s_mv ?_
  refine s_sub rfl ?_
  replace hF14 := bind_some' hF14
  obtain ⟨v19, hv19, hF15⟩ := hF14
  refine s_pure [] (ih_m_spec_l4Hit fu (by omega) _ _ _ hv19) ?_
  refine s_not ?_
  refine s_pkf ?_
  refine k_nilD (by kernel_rfl) ?_
  refine k_seq ?_
  refine w_cond hF15 (fun hc20 hF16 => ?_) (fun hc20 hF16 => ?_) <;> clear hF15
  refine awp_seq ?_
  refine awp_region ?_
  refine s_as ?_
  refine k_nil ?_
  refine k_seq ?_
  refine awp_ret ?_
  refine k_blk_ret ?_
  refine k_seq_ret ?_
  refine k_rnd_ret2 ?_
  refine k_blk_ret ?_
  refine k_seq_ret ?_
  refine k_fin ?_
  obtain rfl := Option.some.inj hF16
  exact ends_gen [] [] (by rw [Try.results93]; exact (res_tmp (by conv => lhs; whnf) res_nil))
  refine awp_skip ?_
  refine k_blk ?_
  refine k_seq ?_
  refine awp_region ?_
  refine s_mv ?_
  refine s_add (winc2 hc13 hb14 hn_g11) ?_
  refine s_as ?_
  refine k_nil ?_
  exact s_rnd2 (fu, (g11 + 1)) [] ⟨by first | omega | (dsimp only; omega), hF16, by first | omega | (dsimp only; omega)⟩ (hasR_cons (by conv => lhs; whnf) (by rfl) rfl (hasR_cons (by conv => lhs; whnf) (by rfl) rfl trivial)) trivial
  refine awp_exit ?_
  refine k_seq_exit ?_
  refine k_rnd_exit2 ?_
  refine k_blk_exit ?_
  refine k_seq ?_
  refine awp_seq ?_
  refine awp_region ?_
  refine s_fa yF65_2 ?_
  refine s_ldN yA32 yS32 ?_
  refine s_bld yZ32 yL32 ?_
  replace hF10 := bind_some' hF10
  obtain ⟨v21, hv21, hF11⟩ := hF10
  refine s_pure [] (m_spec_FormSame_ok fu _ _ _ hv21) ?_
  refine s_mv ?_
  refine w_guard _ 79 hF11 (fun hc22 hF12 => ?_) (fun hc22 hF12 => ?_) <;> clear hF11
  refine s_fa yF65_3 ?_
  refine s_ld1 yA34 ?_
  refine s_lenT yU34 ?_
  refine s_le ?_
  refine s_pkt ?_
  refine s_as ?_
  refine k_nil ?_
  refine k_seq ?_
  refine awp_ret ?_
  refine k_fin ?_
  obtain rfl := Option.some.inj hF12
  exact ends_gen [] [] (by rw [Try.results93]; exact (res_tmp (by conv => lhs; whnf) res_nil))
  refine r_no rfl ?_
  refine r_no rfl ?_
  refine r_no rfl ?_
  refine r_no rfl ?_
  refine s_pkf ?_
  refine s_as ?_
  refine k_nil ?_
  refine k_seq ?_
  refine awp_ret ?_
  refine k_fin ?_
  obtain rfl := Option.some.inj hF12
  exact ends_gen [] [] (by rw [Try.results93]; exact (res_tmp (by conv => lhs; whnf) res_nil))
theorem m_spec_l4Hit_all (fuel : Nat) : m_spec_l4Hit_AC fuel := by
  induction fuel using Nat.strongRecOn with
  | _ N ih =>
    cases N with
    | zero => exact (by intro x1 x2 r h; rw [m_spec_l4Hit] at h; cases h)
    | succ fu => exact m_spec_l4Hit_st fu (fun k hk => (ih k (by omega)))
theorem m_spec_l4Hit_ok (fuel : Nat) : m_spec_l4Hit_AC fuel := (m_spec_l4Hit_all fuel)
end Go.Abs
