/- A part of the proof: what the functions that the law calls answer, as pure values. -/
import Derived.Test.YtehdhaaopmihaaaGreatDoorK0fde71595f57
import Derived.Test.YtehdhaaopmihaaaGreatDoorK2360b66b3b0e
import Derived.Test.YtehdhaaopmihaaaGreatDoorK4b3876aaa5f7
import Derived.Test.YtehdhaaopmihaaaGreatDoorK6e24ef895a8f
import Derived.Test.YtehdhaaopmihaaaGreatDoorK90ecab317ca0
import Derived.Test.YtehdhaaopmihaaaGreatDoorK98906b43c573
import Derived.Test.YtehdhaaopmihaaaGreatDoorKafd1fd9ff401
set_option linter.unusedSimpArgs false
set_option linter.unusedVariables false
set_option maxRecDepth 100000
set_option maxHeartbeats 4000000
namespace Go.Abs
open Go.Proofs
theorem m_spec_l6Number_all (fuel : Nat) : m_spec_l6Number_AC fuel := by
 induction fuel using Nat.strongRecOn with
 | _ N ih =>
   cases N with
   | zero => exact (by intro x1 x2 x3 x4 r h; rw [m_spec_l6Number] at h; cases h)
   | succ fu => exact m_spec_l6Number_st fu (fun k hk => (ih k (by omega)))
theorem m_spec_l6Number_ok (fuel : Nat) : m_spec_l6Number_AC fuel := (m_spec_l6Number_all fuel)
def m_spec_NumberCore_AC (fuel : Nat) : Prop := ∀ (x1 : Core) (r : (Core × Bool)), m_spec_NumberCore fuel x1 = some r → AC Tryz.prog 81 [.ag [.t (.sc (.int .i64 x1.kind)), .t (.sc (.int .i64 x1.id)), .t (.sc (.str x1.name)), .t (.sc (.int .i64 x1.n)), .t (.sl (x1.ids.map rI)), .t (.sc (.int .i64 x1.data.kind)), .t (.sc (.str x1.data.name)), .t (.sc (.int .i64 x1.data.n)), .t (.sl (x1.data.scopes.map rI)), .t (.sl (x1.data.kids.map Form.row)), .t (.sl (x1.kids.map Core.row))]] noOb (.tp [.ag [.t (.sc (.int .i64 r.1.kind)), .t (.sc (.int .i64 r.1.id)), .t (.sc (.str r.1.name)), .t (.sc (.int .i64 r.1.n)), .t (.sl (r.1.ids.map rI)), .t (.sc (.int .i64 r.1.data.kind)), .t (.sc (.str r.1.data.name)), .t (.sc (.int .i64 r.1.data.n)), .t (.sl (r.1.data.scopes.map rI)), .t (.sl (r.1.data.kids.map Form.row)), .t (.sl (r.1.kids.map Core.row))], .t (.sc (.bool r.2))]) noOb
theorem m_spec_NumberCore_ok (fuel : Nat) : m_spec_NumberCore_AC fuel := by
 intro x1 r hF0
 unfold m_spec_NumberCore at hF0
 refine AC_i [.ag [.t (.sc (.int .i64 r.1.kind)), .t (.sc (.int .i64 r.1.id)), .t (.sc (.str r.1.name)), .t (.sc (.int .i64 r.1.n)), .t (.sl (r.1.ids.map rI)), .t (.sc (.int .i64 r.1.data.kind)), .t (.sc (.str r.1.data.name)), .t (.sc (.int .i64 r.1.data.n)), .t (.sl (r.1.data.scopes.map rI)), .t (.sl (r.1.data.kids.map Form.row)), .t (.sl (r.1.kids.map Core.row))], .t (.sc (.bool r.2))] Tryz.func81 rfl Tryz.ntmps81 ?_
 intro C hC
 refine awp_seq (awp_region ?_)
 refine s_box ?_
 refine s_alloc yZ36 ?_
 refine s_as ?_
 refine k_nil (k_seq (awp_seq (awp_seq (awp_region ?_))))
 refine s_ldW yA36 yS36 ?_
 obtain ⟨v1, hv1, hF1⟩ := bind_some' hF0
 refine s_pure [] (m_spec_CoreValid_ok fuel _ _ hv1) ?_
 refine s_not ?_
 refine k_nil (k_seq ?_)
 refine w_cond hF1 ?_ ?_ <;> intro hc2 hF2
 refine awp_seq (awp_region ?_)
 refine s_bld yZ36 yL36 ?_
 refine s_stW yS36 ?_
 refine s_as ?_
 refine k_nil (k_seq (awp_ret (k_seq_ret (k_fin ?_))))
 cases hF2
 exact ends_gen [] [] (by rw [Tryz.results81]; exact (res_agg (by conv => lhs; whnf) (by conv => lhs; whnf) yA36 yS36 rfl (res_tmp (by conv => lhs; whnf) res_nil)))
 refine awp_skip (k_seq (awp_seq (awp_region ?_)))
 refine s_ldW yA36 yS36 ?_
 refine s_bs rI ([] : List Int) yP22 yR3 ?_
 refine s_bs rI ([] : List Int) yP22 yR3 ?_
 obtain ⟨v3, hv3, hF3⟩ := bind_some' hF2
 refine s_pure [12, 13] (m_spec_l6Number_ok fuel _ _ _ _ _ hv3) ?_
 refine s_mv ?_
 refine s_ext ?_
 refine s_ext ?_
 refine s_alloc yZ36 ?_
 refine s_stW yS36 ?_
 refine s_as ?_
 refine k_nil (k_seq (awp_seq (awp_seq (awp_region ?_))))
 refine s_mv ?_
 refine s_gt ?_
 refine k_nil (k_seq ?_)
 refine w_cond hF3 ?_ ?_ <;> intro hc4 hF4
 refine awp_seq (awp_region ?_)
 refine s_bld yZ36 yL36 ?_
 refine s_stW yS36 ?_
 refine s_as ?_
 refine k_nil (k_seq (awp_ret (k_seq_ret (k_fin ?_))))
 cases hF4
 exact ends_gen [] [] (by rw [Tryz.results81]; exact (res_agg (by conv => lhs; whnf) (by conv => lhs; whnf) yA36 yS36 rfl (res_tmp (by conv => lhs; whnf) res_nil)))
 refine awp_skip (k_seq (awp_seq (awp_region ?_)))
 refine s_ldW yA36 yS36 ?_
 refine s_stW yS36 ?_
 refine s_as ?_
 refine k_nil (k_seq (awp_ret (k_fin ?_)))
 cases hF4
 exact ends_gen [] [] (by rw [Tryz.results81]; exact (res_agg (by conv => lhs; whnf) (by conv => lhs; whnf) yA36 yS36 rfl (res_tmp (by conv => lhs; whnf) res_nil)))
def m_spec_l6Two_AC (fuel : Nat) : Prop := ∀ (x1 : (List Int)) (r : (Core × Core)), m_spec_l6Two fuel x1 = some r → AC Tryz.prog 47 [.t (.sl (x1.map rB))] noOb (.tp [.ag [.t (.sc (.int .i64 r.1.kind)), .t (.sc (.int .i64 r.1.id)), .t (.sc (.str r.1.name)), .t (.sc (.int .i64 r.1.n)), .t (.sl (r.1.ids.map rI)), .t (.sc (.int .i64 r.1.data.kind)), .t (.sc (.str r.1.data.name)), .t (.sc (.int .i64 r.1.data.n)), .t (.sl (r.1.data.scopes.map rI)), .t (.sl (r.1.data.kids.map Form.row)), .t (.sl (r.1.kids.map Core.row))], .ag [.t (.sc (.int .i64 r.2.kind)), .t (.sc (.int .i64 r.2.id)), .t (.sc (.str r.2.name)), .t (.sc (.int .i64 r.2.n)), .t (.sl (r.2.ids.map rI)), .t (.sc (.int .i64 r.2.data.kind)), .t (.sc (.str r.2.data.name)), .t (.sc (.int .i64 r.2.data.n)), .t (.sl (r.2.data.scopes.map rI)), .t (.sl (r.2.data.kids.map Form.row)), .t (.sl (r.2.kids.map Core.row))]]) noOb
theorem m_spec_l6Two_ok (fuel : Nat) : m_spec_l6Two_AC fuel := by
 intro x1 r hF0
 unfold m_spec_l6Two at hF0
 refine AC_i [.ag [.t (.sc (.int .i64 r.1.kind)), .t (.sc (.int .i64 r.1.id)), .t (.sc (.str r.1.name)), .t (.sc (.int .i64 r.1.n)), .t (.sl (r.1.ids.map rI)), .t (.sc (.int .i64 r.1.data.kind)), .t (.sc (.str r.1.data.name)), .t (.sc (.int .i64 r.1.data.n)), .t (.sl (r.1.data.scopes.map rI)), .t (.sl (r.1.data.kids.map Form.row)), .t (.sl (r.1.kids.map Core.row))], .ag [.t (.sc (.int .i64 r.2.kind)), .t (.sc (.int .i64 r.2.id)), .t (.sc (.str r.2.name)), .t (.sc (.int .i64 r.2.n)), .t (.sl (r.2.ids.map rI)), .t (.sc (.int .i64 r.2.data.kind)), .t (.sc (.str r.2.data.name)), .t (.sc (.int .i64 r.2.data.n)), .t (.sl (r.2.data.scopes.map rI)), .t (.sl (r.2.data.kids.map Form.row)), .t (.sl (r.2.kids.map Core.row))]] Tryz.func47 rfl Tryz.ntmps47 ?_
 intro C hC
 refine awp_seq (awp_region ?_)
 refine s_alloc yZ36 ?_
 refine s_alloc yZ36 ?_
 refine k_nil (k_seq (awp_seq (awp_region ?_)))
 refine s_mv ?_
 obtain ⟨v1, hv1, hF1⟩ := bind_some' hF0
 refine s_pure [] (m_spec_l6Draw_ok fuel _ _ hv1) ?_
 refine s_alloc yZ36 ?_
 refine s_stW yS36 ?_
 refine k_nil (k_seq (awp_seq (awp_region ?_)))
 refine s_mv ?_
 obtain ⟨v2, hv2, hF2⟩ := bind_some' hF1
 refine s_call [(10, 11)] [] _ _ (m_spec_l15Open_ok fuel _ _ hv2) ?_
 refine s_as ?_
 refine k_nil (k_seq (awp_seq (awp_region ?_)))
 refine s_ldW yA36 yS36 ?_
 obtain ⟨v3, hv3, hF3⟩ := bind_some' hF2
 refine s_pure [] (m_spec_NumberCore_ok fuel _ _ hv3) ?_
 refine s_mv ?_
 refine s_ext ?_
 refine s_ext ?_
 refine s_alloc yZ36 ?_
 refine s_stW yS36 ?_
 refine s_as ?_
 refine k_nil (k_seq (awp_seq ?_))
 refine awp_jn (α := Nat × Bool × (List Int) × Int) [17, 18, 19, 20, 21, 22] [11] [] (fun a => [(22, .t (.sc (.bool a.2.1)))]) (fun a => [(11, .box [.t (.sl (a.2.2.1.map rB)), .t (.sc (.int .i64 a.2.2.2))])]) (fun a => a.1 ≤ fuel ∧ m_spec_l6Two_j1 a.1 v1 v3 a.2.1 a.2.2.1 a.2.2.2 = some r) ?_ ?_
 refine awp_region ?_
 refine s_mv ?_
 refine s_mv ?_
 refine w_guard _ 18 hF3 ?_ ?_ <;> intro hc4 hF4
 refine s_mv ?_
 obtain ⟨v5, hv5, hF5⟩ := bind_some' hF4
 refine s_call [(9000, 11)] [] _ _ (m_spec_l15Rd_pick_ok fuel _ _ _ hv5) ?_
 refine s_gt ?_
 refine s_pkt ?_
 refine k_nil ?_
 exact s_jn (fuel, (decide (0 < v5.1)), v5.2.b, v5.2.p) ⟨by first | omega | (dsimp only; omega), hF5⟩
 iterate 3 refine r_no rfl ?_
 refine s_pkf ?_
 refine k_nil ?_
 exact s_jn (fuel, false, v2.b, v2.p) ⟨by first | omega | (dsimp only; omega), hF4⟩
 clear hF3
 rintro ⟨fu, g6, g7, g8⟩ ⟨hl9, hF4⟩
 dsimp only at hl9 hF4 ⊢
 obtain _ | fu := fu
 · rw [m_spec_l6Two_j1] at hF4; cases hF4
 rw [m_spec_l6Two_j1] at hF4
 refine w_cond hF4 ?_ ?_ <;> intro hc10 hF5
 refine awp_seq ?_
 refine awp_draw yMix (by kernel_rfl) ?_
 refine s_ldW yA36 yS36 ?_
 refine s_ldW yA36 yS36 ?_
 refine s_stW yS36 ?_
 refine s_stW yS36 ?_
 refine k_nilD (by kernel_rfl) ?_
 refine k_seq (awp_ret (k_seq_ret (k_fin ?_)))
 cases hF5
 exact ends_gen [] [] (by rw [Tryz.results47]; exact (res_agg (by conv => lhs; whnf) (by conv => lhs; whnf) yA36 yS36 rfl (res_agg (by conv => lhs; whnf) (by conv => lhs; whnf) yA36 yS36 rfl res_nil)))
 refine awp_skip (k_seq (awp_seq ?_))
 refine awp_draw yMix (by kernel_rfl) ?_
 refine s_ldW yA36 yS36 ?_
 refine s_mv0 ?_
 refine s_mv0 ?_
 refine s_ldW yA36 yS36 ?_
 obtain ⟨v11, hv11, hF6⟩ := bind_some' hF5
 refine s_call [(9000, 11)] [] _ _ (m_spec_l6Mutate_ok fu _ _ _ hv11) ?_
 obtain ⟨v12, hv12, hF7⟩ := bind_some' hF6
 refine s_call [(9000, 11)] [] _ _ (m_spec_l6Mutate_ok fu _ _ _ hv12) ?_
 refine s_stW yS36 ?_
 refine s_stW yS36 ?_
 refine k_nilD (by kernel_rfl) ?_
 refine k_seq (awp_ret (k_fin ?_))
 cases hF7
 exact ends_gen [] [] (by rw [Tryz.results47]; exact (res_agg (by conv => lhs; whnf) (by conv => lhs; whnf) yA36 yS36 rfl (res_agg (by conv => lhs; whnf) (by conv => lhs; whnf) yA36 yS36 rfl res_nil)))
def m_spec_DrawCoreAlike_AC (fuel : Nat) : Prop := ∀ (x1 : (List Int)) (r : (Core × Core)), m_spec_DrawCoreAlike fuel x1 = some r → AC Tryz.prog 19 [.t (.sl (x1.map rB))] noOb (.tp [.ag [.t (.sc (.int .i64 r.1.kind)), .t (.sc (.int .i64 r.1.id)), .t (.sc (.str r.1.name)), .t (.sc (.int .i64 r.1.n)), .t (.sl (r.1.ids.map rI)), .t (.sc (.int .i64 r.1.data.kind)), .t (.sc (.str r.1.data.name)), .t (.sc (.int .i64 r.1.data.n)), .t (.sl (r.1.data.scopes.map rI)), .t (.sl (r.1.data.kids.map Form.row)), .t (.sl (r.1.kids.map Core.row))], .ag [.t (.sc (.int .i64 r.2.kind)), .t (.sc (.int .i64 r.2.id)), .t (.sc (.str r.2.name)), .t (.sc (.int .i64 r.2.n)), .t (.sl (r.2.ids.map rI)), .t (.sc (.int .i64 r.2.data.kind)), .t (.sc (.str r.2.data.name)), .t (.sc (.int .i64 r.2.data.n)), .t (.sl (r.2.data.scopes.map rI)), .t (.sl (r.2.data.kids.map Form.row)), .t (.sl (r.2.kids.map Core.row))]]) noOb
theorem m_spec_DrawCoreAlike_ok (fuel : Nat) : m_spec_DrawCoreAlike_AC fuel := by
 intro x1 r hF0
 unfold m_spec_DrawCoreAlike at hF0
 refine AC_i [.ag [.t (.sc (.int .i64 r.1.kind)), .t (.sc (.int .i64 r.1.id)), .t (.sc (.str r.1.name)), .t (.sc (.int .i64 r.1.n)), .t (.sl (r.1.ids.map rI)), .t (.sc (.int .i64 r.1.data.kind)), .t (.sc (.str r.1.data.name)), .t (.sc (.int .i64 r.1.data.n)), .t (.sl (r.1.data.scopes.map rI)), .t (.sl (r.1.data.kids.map Form.row)), .t (.sl (r.1.kids.map Core.row))], .ag [.t (.sc (.int .i64 r.2.kind)), .t (.sc (.int .i64 r.2.id)), .t (.sc (.str r.2.name)), .t (.sc (.int .i64 r.2.n)), .t (.sl (r.2.ids.map rI)), .t (.sc (.int .i64 r.2.data.kind)), .t (.sc (.str r.2.data.name)), .t (.sc (.int .i64 r.2.data.n)), .t (.sl (r.2.data.scopes.map rI)), .t (.sl (r.2.data.kids.map Form.row)), .t (.sl (r.2.kids.map Core.row))]] Tryz.func19 rfl Tryz.ntmps19 ?_
 intro C hC
 refine awp_seq (awp_region ?_)
 refine s_alloc yZ36 ?_
 refine s_alloc yZ36 ?_
 refine k_nil (k_seq (awp_seq (awp_region ?_)))
 refine s_mv ?_
 obtain ⟨v1, hv1, hF1⟩ := bind_some' hF0
 refine s_pure [] (m_spec_l6Two_ok fuel _ _ hv1) ?_
 refine s_ext ?_
 refine s_ext ?_
 refine s_stW yS36 ?_
 refine s_stW yS36 ?_
 refine k_nil (k_seq (awp_ret (k_fin ?_)))
 cases hF1
 exact ends_gen [] [] (by rw [Tryz.results19]; exact (res_agg (by conv => lhs; whnf) (by conv => lhs; whnf) yA36 yS36 rfl (res_agg (by conv => lhs; whnf) (by conv => lhs; whnf) yA36 yS36 rfl res_nil)))
def m_impl_alike_AC (fuel : Nat) : Prop := ∀ (x1 : Core) (x2 : Core) (x3 : (Int → Option Int)) (r : Bool), m_impl_alike fuel x1 x2 x3 = some r → AC Tryz.prog 53 [.ag [.t (.sc (.int .i64 x1.kind)), .t (.sc (.int .i64 x1.id)), .t (.sc (.str x1.name)), .t (.sc (.int .i64 x1.n)), .t (.sl (x1.ids.map rI)), .t (.sc (.int .i64 x1.data.kind)), .t (.sc (.str x1.data.name)), .t (.sc (.int .i64 x1.data.n)), .t (.sl (x1.data.scopes.map rI)), .t (.sl (x1.data.kids.map Form.row)), .t (.sl (x1.kids.map Core.row))], .ag [.t (.sc (.int .i64 x2.kind)), .t (.sc (.int .i64 x2.id)), .t (.sc (.str x2.name)), .t (.sc (.int .i64 x2.n)), .t (.sl (x2.ids.map rI)), .t (.sc (.int .i64 x2.data.kind)), .t (.sc (.str x2.data.name)), .t (.sc (.int .i64 x2.data.n)), .t (.sl (x2.data.scopes.map rI)), .t (.sl (x2.data.kids.map Form.row)), .t (.sl (x2.kids.map Core.row))], .ar 9302] (objs [(9302, .mp x3)]) (.t (.sc (.bool r))) (objs [(9302, .mp x3)])
theorem m_impl_alike_st (fu : Nat) (ih_m_impl_alike : ∀ k, k ≤ fu → m_impl_alike_AC k) : m_impl_alike_AC (fu + 1) := by
 intro x1 x2 x3 r hF0
 rw [m_impl_alike] at hF0
 refine AC_i [.t (.sc (.bool r))] Tryz.func53 rfl Tryz.ntmps53 ?_
 intro C hC
 refine awp_seq (awp_region ?_)
 refine s_box ?_
 refine s_box ?_
 refine s_as ?_
 refine k_nil (k_seq (awp_seq ?_))
 refine awp_jn (α := Nat × Bool) [13, 14, 15, 16, 17, 18, 19, 20, 21, 22, 23, 24, 25, 26, 27, 28, 29, 30, 31, 32, 33, 34, 35] [] [] (fun a => [(35, .t (.sc (.bool a.2)))]) (fun a => []) (fun a => a.1 ≤ fu ∧ m_impl_alike_j1 a.1 x1 x2 x3 a.2 = some r) ?_ ?_
 refine awp_region ?_
 refine s_fa yF36_0 ?_
 refine s_ld1 yA3 ?_
 refine s_fa yF36_0 ?_
 refine s_ld1 yA3 ?_
 refine s_ne ?_
 refine s_mv ?_
 refine w_guard _ 18 hF0 ?_ ?_ <;> intro hc1 hF1
 iterate 7 refine r_no rfl ?_
 refine s_pkt ?_
 refine s_mv ?_
 iterate 7 refine r_no rfl ?_
 refine s_pkt ?_
 refine k_nil ?_
 exact s_jn (fu, true) ⟨by first | omega | (dsimp only; omega), hF1⟩
 refine s_fa yF36_6 ?_
 refine s_ld1 yA34 ?_
 refine s_lenT yU34 ?_
 refine s_fa yF36_6 ?_
 refine s_ld1 yA34 ?_
 refine s_lenT yU34 ?_
 refine s_ne ?_
 refine s_pkf ?_
 refine s_mv ?_
 refine w_guard _ 27 hF1 ?_ ?_ <;> intro hc2 hF2
 iterate 7 refine r_no rfl ?_
 refine s_pkt ?_
 refine k_nil ?_
 exact s_jn (fu, true) ⟨by first | omega | (dsimp only; omega), hF2⟩
 refine s_fa yF36_4 ?_
 refine s_ld1 yA22 ?_
 refine s_lenT yU22 ?_
 refine s_fa yF36_4 ?_
 refine s_ld1 yA22 ?_
 refine s_lenT yU22 ?_
 refine s_ne ?_
 refine s_pkf ?_
 refine k_nil ?_
 exact s_jn (fu, (decide ((x1.ids.length : Int) ≠ (x2.ids.length : Int)))) ⟨by first | omega | (dsimp only; omega), hF2⟩
 clear hF0
 rintro ⟨fu, g3⟩ ⟨hl4, hF1⟩
 dsimp only at hl4 hF1 ⊢
 obtain _ | fu := fu
 · rw [m_impl_alike_j1] at hF1; cases hF1
 rw [m_impl_alike_j1] at hF1
 refine w_cond hF1 ?_ ?_ <;> intro hc5 hF2
 refine awp_seq (awp_region ?_)
 refine s_as ?_
 refine k_nil (k_seq (awp_ret (k_seq_ret (k_fin ?_))))
 cases hF2
 exact ends_a _ [] Tryz.results53
 refine awp_skip (k_seq (awp_seq (awp_seq (awp_region ?_))))
 refine s_fa yF36_0 ?_
 refine s_ld1 yA3 ?_
 refine k_nil (k_seq (awp_block (awp_seq (awp_region ?_))))
 refine s_eq ?_
 refine s_as ?_
 refine k_nil (k_seq ?_)
 refine w_cond hF2 ?_ ?_ <;> intro hc6 hF3
 refine awp_seq (awp_region ?_)
 refine s_mv ?_
 refine s_fa yF36_1 ?_
 refine s_ld1 yA3 ?_
 refine s_look yM107 ?_
 refine s_fa yF36_1 ?_
 refine s_ld1 yA3 ?_
 refine s_eq ?_
 refine s_as ?_
 refine k_nil (k_seq (awp_ret (k_blk_ret (k_seq_ret (k_fin ?_)))))
 cases hF3
 exact ends_a _ [] Tryz.results53
 refine awp_seq (awp_region ?_)
 refine s_eq ?_
 refine s_as ?_
 refine k_nil (k_seq ?_)
 refine w_cond hF3 ?_ ?_ <;> intro hc7 hF4
 refine awp_seq (awp_region ?_)
 refine s_mkm ?_
 refine s_as ?_
 refine k_nil (k_seq (awp_seq (awp_seq ?_)))
 refine awp_mpx 9302 (by conv => lhs; whnf) (fun bmhE8 eshE8 clockhE8 hE8 => ?_)
 refine awp_region ?_
 refine s_mv ?_
 refine s_range yM107 ?_
 refine k_nil (k_seq (awp_block ?_))
 refine awp_fr (β := Array Nat × (Int → Option Int)) [8, 9, 52, 53, 54, 55, 56, 57, 58, 59] [49, 51] [] (fun a => []) (fun a => [(49, .mp a.2.2), (51, .it (some bmhE8) clockhE8 a.2.1 clockhE8)]) (fun a => a.1 = (leftL eshE8 a.2.1).length + 1 ∧ WalkI eshE8 a.2.1 x3 a.2.2) ((leftL eshE8 #[]).length + 1, #[], map0) ⟨rfl, walk_start⟩ ?_
 rintro ⟨_, seen, g⟩ ⟨hN, hW⟩
 dsimp only at hN hW ⊢
 subst hN
 refine awp_seq ?_
 refine awp_nextS 9302 hE8 (fun x0 hx0 => ?_) (fun hl => ?_)
 obtain ⟨hm0, k0, v0, hk0, hv0, hf0⟩ := walk_at hE8 hx0
 have hlt0 := walk_less hx0
 refine k_seq (awp_seq (awp_true rfl (awp_skip (k_seq (awp_block (awp_seq (awp_region ?_)))))))
 refine s_entry hE8 hm0 hk0 hv0 (q := 9302) ?_
 refine s_ext ?_
 refine s_ext ?_
 refine s_as ?_
 refine s_as ?_
 refine k_nil (k_seq (awp_region ?_))
 iterate 3 refine s_mv ?_
 refine s_mupd yM107 ?_
 refine k_nil (k_blk ?_)
 exact s_rn ((leftL eshE8 (seen.push x0.born)).length + 1, seen.push x0.born, mapSet g k0 v0) ⟨rfl, walk_step hE8 hx0 hk0 hf0 hW⟩
 have hfg := walk_end hE8 hl hW
 subst hfg
 refine k_seq (awp_seq (awp_false rfl ?_))
 refine awp_exit (k_seq_exit (k_rnd_exit2 (k_blk_exit ?_)))
 refine k_seq ?_
 refine awp_mpo 9302 hE8 (by conv => lhs; whnf) ?_
 refine awp_kill 51 rfl ?_
 refine awp_jn (α := Nat × (Int → Option Int)) [10, 11, 60, 61, 62, 63, 64, 65, 66, 67, 68, 69, 70, 71, 72, 73, 74, 75] [49] [] (fun a => []) (fun a => [(49, .mp a.2)]) (fun a => a.1 ≤ fu ∧ m_impl_alike_j2 a.1 x1 x2 a.2 = some r) ?_ ?_
 refine awp_seq (awp_region ?_)
 refine s_fa yF36_4 ?_
 refine s_ld1 yA22 ?_
 refine s_lenT yU22 ?_
 refine s_mv ?_
 refine k_nil (k_seq (awp_block ?_))
 refine awp_fr (β := Int × (Int → Option Int)) [10, 11, 63, 64, 65, 66, 67, 68, 69, 70, 71, 72, 73, 74, 75] [49] [] (fun a => [(63, .t (.sc (.int .i64 a.2.1)))]) (fun a => [(49, .mp a.2.2)]) (fun a => a.1 ≤ fu ∧ m_impl_alike_l3 a.1 x1 x2 a.2.1 a.2.2 = some r ∧ 0 ≤ a.2.1) (fu, 0, x3) ⟨Nat.le_refl _, hF4, by simp⟩ ?_
 clear hF4
 rintro ⟨fu, g9, g10⟩ ⟨hl11, hF5, hn_g9⟩
 dsimp only at hl11 hF5 hn_g9 ⊢
 obtain _ | fu := fu
 · rw [m_impl_alike_l3] at hF5; cases hF5
 rw [m_impl_alike_l3] at hF5
 refine awp_seq (awp_region ?_)
 refine s_lt ?_
 refine k_nil (k_seq (awp_seq ?_))
 refine w_cond hF5 ?_ ?_ <;> intro hc12 hF6
 refine awp_lenT 61 (fun hb13 => ?_)
 refine awp_skip (k_seq (awp_seq (awp_block (awp_seq (awp_region ?_)))))
 refine s_mv ?_
 obtain ⟨v14, hv14, hF7⟩ := bind_some' hF6
 refine s_ixT rI hv14 rfl yE22 ?_
 refine s_ld1 yA3 ?_
 refine s_as ?_
 refine s_as ?_
 refine k_nil (k_seq (awp_region ?_))
 refine s_mv ?_
 refine s_mv ?_
 refine s_fa yF36_4 ?_
 refine s_ld1 yA22 ?_
 refine s_mv ?_
 obtain ⟨v15, hv15, hF8⟩ := bind_some' hF7
 refine s_ixT rI hv15 rfl yE22 ?_
 refine s_ld1 yA3 ?_
 refine s_mupd yM107 ?_
 refine k_nil (k_blk (k_seq (awp_region ?_)))
 refine s_add (winc2 hc12 hb13 hn_g9) ?_
 refine s_mv ?_
 refine k_nil ?_
 exact s_rn (fu, (g9 + 1), (mapSet g10 v14 v15)) ⟨by first | omega | (dsimp only; omega), hF8, by first | omega | (dsimp only; omega)⟩
 refine awp_exit (k_seq_exit (k_rnd_exit2 (k_blk_exit ?_)))
 exact s_jn (fu, g10) ⟨by first | omega | (dsimp only; omega), hF6⟩
 clear hF4
 rintro ⟨fu, g16⟩ ⟨hl17, hF5⟩
 dsimp only at hl17 hF5 ⊢
 obtain _ | fu := fu
 · rw [m_impl_alike_j2] at hF5; cases hF5
 rw [m_impl_alike_j2] at hF5
 refine awp_seq ?_
 refine awp_draw yMix (by kernel_rfl) ?_
 refine s_fa yF36_6 ?_
 refine s_ld1 yA34 ?_
 obtain ⟨v18, hv18, hF6⟩ := bind_some' hF5
 refine s_ixT Core.row hv18 (Core.row_eq _) yE34 ?_
 refine s_ldN yA36 yS36 ?_
 refine s_fa yF36_6 ?_
 refine s_ld1 yA34 ?_
 obtain ⟨v19, hv19, hF7⟩ := bind_some' hF6
 refine s_ixT Core.row hv19 (Core.row_eq _) yE34 ?_
 refine s_ldN yA36 yS36 ?_
 refine s_mv0 ?_
 obtain ⟨v20, hv20, hF8⟩ := bind_some' hF7
 refine s_call [(9302, 49)] [] _ _ (ih_m_impl_alike fu (by omega) _ _ _ _ hv20) ?_
 refine s_as ?_
 refine k_nilD (by kernel_rfl) ?_
 refine k_seq (awp_ret (k_blk_ret (k_seq_ret (k_fin ?_))))
 cases hF8
 exact ends_a _ [] Tryz.results53
 refine awp_skip (k_blk (k_seq (awp_seq ?_)))
 refine awp_jn (α := Nat × Bool) [86, 87, 88, 89, 90, 91, 92, 93, 94, 95, 96, 97, 98, 99, 100, 101, 102, 103, 104, 105] [] [] (fun a => [(105, .t (.sc (.bool a.2)))]) (fun a => []) (fun a => a.1 ≤ fu ∧ m_impl_alike_j4 a.1 x1 x2 x3 a.2 = some r) ?_ ?_
 refine awp_region ?_
 refine s_fa yF36_2 ?_
 refine s_ld1 yA9 ?_
 refine s_fa yF36_2 ?_
 refine s_ld1 yA9 ?_
 refine s_neS ?_
 refine s_mv ?_
 refine w_guard _ 91 hF4 ?_ ?_ <;> intro hc21 hF5
 iterate 5 refine r_no rfl ?_
 refine s_pkt ?_
 refine s_mv ?_
 iterate 6 refine r_no rfl ?_
 refine s_pkt ?_
 refine k_nil ?_
 exact s_jn (fu, true) ⟨by first | omega | (dsimp only; omega), hF5⟩
 refine s_fa yF36_3 ?_
 refine s_ld1 yA3 ?_
 refine s_fa yF36_3 ?_
 refine s_ld1 yA3 ?_
 refine s_ne ?_
 refine s_pkf ?_
 refine s_mv ?_
 refine w_guard _ 98 hF5 ?_ ?_ <;> intro hc22 hF6
 iterate 6 refine r_no rfl ?_
 refine s_pkt ?_
 refine k_nil ?_
 exact s_jn (fu, true) ⟨by first | omega | (dsimp only; omega), hF6⟩
 refine s_fa yF36_5 ?_
 refine s_ldN yA33 yS33 ?_
 refine s_fa yF36_5 ?_
 refine s_ldN yA33 yS33 ?_
 obtain ⟨v23, hv23, hF7⟩ := bind_some' hF6
 refine s_pure [] (m_impl_FormSame_ok fu _ _ _ hv23) ?_
 refine s_not ?_
 refine s_pkf ?_
 refine k_nil ?_
 exact s_jn (fu, (!v23)) ⟨by first | omega | (dsimp only; omega), hF7⟩
 clear hF4
 rintro ⟨fu, g24⟩ ⟨hl25, hF5⟩
 dsimp only at hl25 hF5 ⊢
 obtain _ | fu := fu
 · rw [m_impl_alike_j4] at hF5; cases hF5
 rw [m_impl_alike_j4] at hF5
 refine w_cond hF5 ?_ ?_ <;> intro hc26 hF6
 refine awp_seq (awp_region ?_)
 refine s_as ?_
 refine k_nil (k_seq (awp_ret (k_seq_ret (k_fin ?_))))
 cases hF6
 exact ends_a _ [] Tryz.results53
 refine awp_skip (k_seq (awp_seq (awp_seq (awp_region ?_))))
 refine s_fa yF36_6 ?_
 refine s_ld1 yA34 ?_
 refine s_lenT yU34 ?_
 refine s_mv ?_
 refine k_nil (k_seq (awp_block ?_))
 refine awp_fr (β := Int) [6, 12, 109, 110, 111, 112, 113, 114, 115, 116, 117, 118, 119, 120, 121, 122, 123, 124, 125] [] [] (fun a => [(109, .t (.sc (.int .i64 a.2)))]) (fun a => []) (fun a => a.1 ≤ fu ∧ m_impl_alike_l5 a.1 x1 x2 x3 a.2 = some r ∧ 0 ≤ a.2) (fu, 0) ⟨Nat.le_refl _, hF6, by simp⟩ ?_
 clear hF6
 rintro ⟨fu, g27⟩ ⟨hl28, hF7, hn_g27⟩
 dsimp only at hl28 hF7 hn_g27 ⊢
 obtain _ | fu := fu
 · rw [m_impl_alike_l5] at hF7; cases hF7
 rw [m_impl_alike_l5] at hF7
 refine awp_seq (awp_region ?_)
 refine s_lt ?_
 refine k_nil (k_seq (awp_seq ?_))
 refine w_cond hF7 ?_ ?_ <;> intro hc29 hF8
 refine awp_lenT 107 (fun hb30 => ?_)
 refine awp_skip (k_seq (awp_seq (awp_block (awp_seq (awp_region ?_)))))
 refine s_mv ?_
 refine s_as ?_
 refine k_nil (k_seq (awp_seq ?_))
 refine awp_draw yMix (by kernel_rfl) ?_
 refine s_fa yF36_6 ?_
 refine s_ld1 yA34 ?_
 refine s_mv ?_
 obtain ⟨v31, hv31, hF9⟩ := bind_some' hF8
 refine s_ixT Core.row hv31 (Core.row_eq _) yE34 ?_
 refine s_ldN yA36 yS36 ?_
 refine s_fa yF36_6 ?_
 refine s_ld1 yA34 ?_
 refine s_mv ?_
 obtain ⟨v32, hv32, hF10⟩ := bind_some' hF9
 refine s_ixT Core.row hv32 (Core.row_eq _) yE34 ?_
 refine s_ldN yA36 yS36 ?_
 refine s_mv0 ?_
 obtain ⟨v33, hv33, hF11⟩ := bind_some' hF10
 refine s_call [(9302, 9302)] [] _ _ (ih_m_impl_alike fu (by omega) _ _ _ _ hv33) ?_
 refine s_not ?_
 refine k_nilD (by kernel_rfl) ?_
 refine k_seq ?_
 refine w_cond hF11 ?_ ?_ <;> intro hc34 hF12
 refine awp_seq (awp_region ?_)
 refine s_as ?_
 refine k_nil (k_seq (awp_ret (k_blk_ret (k_seq_ret (k_rnd_ret2 (k_blk_ret (k_seq_ret (k_fin ?_))))))))
 cases hF12
 exact ends_a _ [] Tryz.results53
 refine awp_skip (k_blk (k_seq (awp_region ?_)))
 refine s_add (winc2 hc29 hb30 hn_g27) ?_
 refine s_mv ?_
 refine k_nil ?_
 exact s_rn (fu, (g27 + 1)) ⟨by first | omega | (dsimp only; omega), hF12, by first | omega | (dsimp only; omega)⟩
 refine awp_exit (k_seq_exit (k_rnd_exit2 (k_blk_exit (k_seq (awp_seq (awp_region ?_))))))
 refine s_as ?_
 refine k_nil (k_seq (awp_ret (k_fin ?_)))
 cases hF8
 exact ends_a _ [] Tryz.results53
theorem m_impl_alike_all (fuel : Nat) : m_impl_alike_AC fuel := by
 induction fuel using Nat.strongRecOn with
 | _ N ih =>
   cases N with
   | zero => exact (by intro x1 x2 x3 r h; rw [m_impl_alike] at h; cases h)
   | succ fu => exact m_impl_alike_st fu (fun k hk => (ih k (by omega)))
theorem m_impl_alike_ok (fuel : Nat) : m_impl_alike_AC fuel := (m_impl_alike_all fuel)
def m_impl_alike_n_AC (fuel : Nat) : Prop := ∀ (x1 : Core) (x2 : Core) (r : Bool), m_impl_alike_n fuel x1 x2 = some r → AC Tryz.prog 53 [.ag [.t (.sc (.int .i64 x1.kind)), .t (.sc (.int .i64 x1.id)), .t (.sc (.str x1.name)), .t (.sc (.int .i64 x1.n)), .t (.sl (x1.ids.map rI)), .t (.sc (.int .i64 x1.data.kind)), .t (.sc (.str x1.data.name)), .t (.sc (.int .i64 x1.data.n)), .t (.sl (x1.data.scopes.map rI)), .t (.sl (x1.data.kids.map Form.row)), .t (.sl (x1.kids.map Core.row))], .ag [.t (.sc (.int .i64 x2.kind)), .t (.sc (.int .i64 x2.id)), .t (.sc (.str x2.name)), .t (.sc (.int .i64 x2.n)), .t (.sl (x2.ids.map rI)), .t (.sc (.int .i64 x2.data.kind)), .t (.sc (.str x2.data.name)), .t (.sc (.int .i64 x2.data.n)), .t (.sl (x2.data.scopes.map rI)), .t (.sl (x2.data.kids.map Form.row)), .t (.sl (x2.kids.map Core.row))], .t (.sc .nim)] noOb (.t (.sc (.bool r))) noOb
theorem m_impl_alike_n_st (fu : Nat) (ih_m_impl_alike_n : ∀ k, k ≤ fu → m_impl_alike_n_AC k) : m_impl_alike_n_AC (fu + 1) := by
 intro x1 x2 r hF0
 rw [m_impl_alike_n] at hF0
 refine AC_i [.t (.sc (.bool r))] Tryz.func53 rfl Tryz.ntmps53 ?_
 intro C hC
 refine awp_seq (awp_region ?_)
 refine s_box ?_
 refine s_box ?_
 refine s_as ?_
 refine k_nil (k_seq (awp_seq ?_))
 refine awp_jn (α := Nat × Bool) [13, 14, 15, 16, 17, 18, 19, 20, 21, 22, 23, 24, 25, 26, 27, 28, 29, 30, 31, 32, 33, 34, 35] [] [] (fun a => [(35, .t (.sc (.bool a.2)))]) (fun a => []) (fun a => a.1 ≤ fu ∧ m_impl_alike_n_j1 a.1 x1 x2 a.2 = some r) ?_ ?_
 refine awp_region ?_
 refine s_fa yF36_0 ?_
 refine s_ld1 yA3 ?_
 refine s_fa yF36_0 ?_
 refine s_ld1 yA3 ?_
 refine s_ne ?_
 refine s_mv ?_
 refine w_guard _ 18 hF0 ?_ ?_ <;> intro hc1 hF1
 iterate 7 refine r_no rfl ?_
 refine s_pkt ?_
 refine s_mv ?_
 iterate 7 refine r_no rfl ?_
 refine s_pkt ?_
 refine k_nil ?_
 exact s_jn (fu, true) ⟨by first | omega | (dsimp only; omega), hF1⟩
 refine s_fa yF36_6 ?_
 refine s_ld1 yA34 ?_
 refine s_lenT yU34 ?_
 refine s_fa yF36_6 ?_
 refine s_ld1 yA34 ?_
 refine s_lenT yU34 ?_
 refine s_ne ?_
 refine s_pkf ?_
 refine s_mv ?_
 refine w_guard _ 27 hF1 ?_ ?_ <;> intro hc2 hF2
 iterate 7 refine r_no rfl ?_
 refine s_pkt ?_
 refine k_nil ?_
 exact s_jn (fu, true) ⟨by first | omega | (dsimp only; omega), hF2⟩
 refine s_fa yF36_4 ?_
 refine s_ld1 yA22 ?_
 refine s_lenT yU22 ?_
 refine s_fa yF36_4 ?_
 refine s_ld1 yA22 ?_
 refine s_lenT yU22 ?_
 refine s_ne ?_
 refine s_pkf ?_
 refine k_nil ?_
 exact s_jn (fu, (decide ((x1.ids.length : Int) ≠ (x2.ids.length : Int)))) ⟨by first | omega | (dsimp only; omega), hF2⟩
 clear hF0
 rintro ⟨fu, g3⟩ ⟨hl4, hF1⟩
 dsimp only at hl4 hF1 ⊢
 obtain _ | fu := fu
 · rw [m_impl_alike_n_j1] at hF1; cases hF1
 rw [m_impl_alike_n_j1] at hF1
 refine w_cond hF1 ?_ ?_ <;> intro hc5 hF2
 refine awp_seq (awp_region ?_)
 refine s_as ?_
 refine k_nil (k_seq (awp_ret (k_seq_ret (k_fin ?_))))
 cases hF2
 exact ends_a [] [] Tryz.results53
 refine awp_skip (k_seq (awp_seq (awp_seq (awp_region ?_))))
 refine s_fa yF36_0 ?_
 refine s_ld1 yA3 ?_
 refine k_nil (k_seq (awp_block (awp_seq (awp_region ?_))))
 refine s_eq ?_
 refine s_as ?_
 refine k_nil (k_seq ?_)
 refine w_cond hF2 ?_ ?_ <;> intro hc6 hF3
 refine awp_seq (awp_region ?_)
 refine s_mv ?_
 refine s_fa yF36_1 ?_
 refine s_ld1 yA3 ?_
 refine s_lookN yM107 ?_
 refine s_fa yF36_1 ?_
 refine s_ld1 yA3 ?_
 refine s_eq ?_
 refine s_as ?_
 refine k_nil (k_seq (awp_ret (k_blk_ret (k_seq_ret (k_fin ?_)))))
 cases hF3
 exact ends_a [] [] Tryz.results53
 refine awp_seq (awp_region ?_)
 refine s_eq ?_
 refine s_as ?_
 refine k_nil (k_seq ?_)
 refine w_cond hF3 ?_ ?_ <;> intro hc7 hF4
 refine awp_seq (awp_region ?_)
 refine s_mkm ?_
 refine s_as ?_
 refine k_nil (k_seq (awp_seq (awp_seq (awp_region ?_))))
 refine s_mv ?_
 refine s_rangeN yM107 ?_
 refine k_nil (k_seq (awp_block ?_))
 refine awp_fr (β := Unit) [8, 9, 52, 53, 54, 55, 56, 57, 58, 59] [] [] (fun a => []) (fun a => []) (fun a => True) (0, ()) trivial ?_
 rintro ⟨_, _⟩ _
 refine awp_seq (awp_region ?_)
 refine s_nextN ?_
 refine s_ext ?_
 refine k_nil (k_seq (awp_seq (awp_false rfl ?_)))
 refine awp_exit (k_seq_exit (k_rnd_exit2 (k_blk_exit ?_)))
 refine k_seq ?_
 refine awp_kill 51 rfl ?_
 refine awp_jn (α := Nat × (Int → Option Int)) [10, 11, 60, 61, 62, 63, 64, 65, 66, 67, 68, 69, 70, 71, 72, 73, 74, 75] [49] [] (fun a => []) (fun a => [(49, .mp a.2)]) (fun a => a.1 ≤ fu ∧ m_impl_alike_j2 a.1 x1 x2 a.2 = some r) ?_ ?_
 refine awp_seq (awp_region ?_)
 refine s_fa yF36_4 ?_
 refine s_ld1 yA22 ?_
 refine s_lenT yU22 ?_
 refine s_mv ?_
 refine k_nil (k_seq (awp_block ?_))
 refine awp_fr (β := Int × (Int → Option Int)) [10, 11, 63, 64, 65, 66, 67, 68, 69, 70, 71, 72, 73, 74, 75] [49] [] (fun a => [(63, .t (.sc (.int .i64 a.2.1)))]) (fun a => [(49, .mp a.2.2)]) (fun a => a.1 ≤ fu ∧ m_impl_alike_l3 a.1 x1 x2 a.2.1 a.2.2 = some r ∧ 0 ≤ a.2.1) (fu, 0, map0) ⟨Nat.le_refl _, hF4, by simp⟩ ?_
 clear hF4
 rintro ⟨fu, g8, g9⟩ ⟨hl10, hF5, hn_g8⟩
 dsimp only at hl10 hF5 hn_g8 ⊢
 obtain _ | fu := fu
 · rw [m_impl_alike_l3] at hF5; cases hF5
 rw [m_impl_alike_l3] at hF5
 refine awp_seq (awp_region ?_)
 refine s_lt ?_
 refine k_nil (k_seq (awp_seq ?_))
 refine w_cond hF5 ?_ ?_ <;> intro hc11 hF6
 refine awp_lenT 61 (fun hb12 => ?_)
 refine awp_skip (k_seq (awp_seq (awp_block (awp_seq (awp_region ?_)))))
 refine s_mv ?_
 obtain ⟨v13, hv13, hF7⟩ := bind_some' hF6
 refine s_ixT rI hv13 rfl yE22 ?_
 refine s_ld1 yA3 ?_
 refine s_as ?_
 refine s_as ?_
 refine k_nil (k_seq (awp_region ?_))
 refine s_mv ?_
 refine s_mv ?_
 refine s_fa yF36_4 ?_
 refine s_ld1 yA22 ?_
 refine s_mv ?_
 obtain ⟨v14, hv14, hF8⟩ := bind_some' hF7
 refine s_ixT rI hv14 rfl yE22 ?_
 refine s_ld1 yA3 ?_
 refine s_mupd yM107 ?_
 refine k_nil (k_blk (k_seq (awp_region ?_)))
 refine s_add (winc2 hc11 hb12 hn_g8) ?_
 refine s_mv ?_
 refine k_nil ?_
 exact s_rn (fu, (g8 + 1), (mapSet g9 v13 v14)) ⟨by first | omega | (dsimp only; omega), hF8, by first | omega | (dsimp only; omega)⟩
 refine awp_exit (k_seq_exit (k_rnd_exit2 (k_blk_exit ?_)))
 exact s_jn (fu, g9) ⟨by first | omega | (dsimp only; omega), hF6⟩
 clear hF4
 rintro ⟨fu, g15⟩ ⟨hl16, hF5⟩
 dsimp only at hl16 hF5 ⊢
 obtain _ | fu := fu
 · rw [m_impl_alike_j2] at hF5; cases hF5
 rw [m_impl_alike_j2] at hF5
 refine awp_seq ?_
 refine awp_draw yMix (by kernel_rfl) ?_
 refine s_fa yF36_6 ?_
 refine s_ld1 yA34 ?_
 obtain ⟨v17, hv17, hF6⟩ := bind_some' hF5
 refine s_ixT Core.row hv17 (Core.row_eq _) yE34 ?_
 refine s_ldN yA36 yS36 ?_
 refine s_fa yF36_6 ?_
 refine s_ld1 yA34 ?_
 obtain ⟨v18, hv18, hF7⟩ := bind_some' hF6
 refine s_ixT Core.row hv18 (Core.row_eq _) yE34 ?_
 refine s_ldN yA36 yS36 ?_
 refine s_mv0 ?_
 obtain ⟨v19, hv19, hF8⟩ := bind_some' hF7
 refine s_call [(9302, 49)] [] _ _ (m_impl_alike_ok fu _ _ _ _ hv19) ?_
 refine s_as ?_
 refine k_nilD (by kernel_rfl) ?_
 refine k_seq (awp_ret (k_blk_ret (k_seq_ret (k_fin ?_))))
 cases hF8
 exact ends_a [] [] Tryz.results53
 refine awp_skip (k_blk (k_seq (awp_seq ?_)))
 refine awp_jn (α := Nat × Bool) [86, 87, 88, 89, 90, 91, 92, 93, 94, 95, 96, 97, 98, 99, 100, 101, 102, 103, 104, 105] [] [] (fun a => [(105, .t (.sc (.bool a.2)))]) (fun a => []) (fun a => a.1 ≤ fu ∧ m_impl_alike_n_j4 a.1 x1 x2 a.2 = some r) ?_ ?_
 refine awp_region ?_
 refine s_fa yF36_2 ?_
 refine s_ld1 yA9 ?_
 refine s_fa yF36_2 ?_
 refine s_ld1 yA9 ?_
 refine s_neS ?_
 refine s_mv ?_
 refine w_guard _ 91 hF4 ?_ ?_ <;> intro hc20 hF5
 iterate 5 refine r_no rfl ?_
 refine s_pkt ?_
 refine s_mv ?_
 iterate 6 refine r_no rfl ?_
 refine s_pkt ?_
 refine k_nil ?_
 exact s_jn (fu, true) ⟨by first | omega | (dsimp only; omega), hF5⟩
 refine s_fa yF36_3 ?_
 refine s_ld1 yA3 ?_
 refine s_fa yF36_3 ?_
 refine s_ld1 yA3 ?_
 refine s_ne ?_
 refine s_pkf ?_
 refine s_mv ?_
 refine w_guard _ 98 hF5 ?_ ?_ <;> intro hc21 hF6
 iterate 6 refine r_no rfl ?_
 refine s_pkt ?_
 refine k_nil ?_
 exact s_jn (fu, true) ⟨by first | omega | (dsimp only; omega), hF6⟩
 refine s_fa yF36_5 ?_
 refine s_ldN yA33 yS33 ?_
 refine s_fa yF36_5 ?_
 refine s_ldN yA33 yS33 ?_
 obtain ⟨v22, hv22, hF7⟩ := bind_some' hF6
 refine s_pure [] (m_impl_FormSame_ok fu _ _ _ hv22) ?_
 refine s_not ?_
 refine s_pkf ?_
 refine k_nil ?_
 exact s_jn (fu, (!v22)) ⟨by first | omega | (dsimp only; omega), hF7⟩
 clear hF4
 rintro ⟨fu, g23⟩ ⟨hl24, hF5⟩
 dsimp only at hl24 hF5 ⊢
 obtain _ | fu := fu
 · rw [m_impl_alike_n_j4] at hF5; cases hF5
 rw [m_impl_alike_n_j4] at hF5
 refine w_cond hF5 ?_ ?_ <;> intro hc25 hF6
 refine awp_seq (awp_region ?_)
 refine s_as ?_
 refine k_nil (k_seq (awp_ret (k_seq_ret (k_fin ?_))))
 cases hF6
 exact ends_a [] [] Tryz.results53
 refine awp_skip (k_seq (awp_seq (awp_seq (awp_region ?_))))
 refine s_fa yF36_6 ?_
 refine s_ld1 yA34 ?_
 refine s_lenT yU34 ?_
 refine s_mv ?_
 refine k_nil (k_seq (awp_block ?_))
 refine awp_fr (β := Int) [6, 12, 109, 110, 111, 112, 113, 114, 115, 116, 117, 118, 119, 120, 121, 122, 123, 124, 125] [] [] (fun a => [(109, .t (.sc (.int .i64 a.2)))]) (fun a => []) (fun a => a.1 ≤ fu ∧ m_impl_alike_n_l5 a.1 x1 x2 a.2 = some r ∧ 0 ≤ a.2) (fu, 0) ⟨Nat.le_refl _, hF6, by simp⟩ ?_
 clear hF6
 rintro ⟨fu, g26⟩ ⟨hl27, hF7, hn_g26⟩
 dsimp only at hl27 hF7 hn_g26 ⊢
 obtain _ | fu := fu
 · rw [m_impl_alike_n_l5] at hF7; cases hF7
 rw [m_impl_alike_n_l5] at hF7
 refine awp_seq (awp_region ?_)
 refine s_lt ?_
 refine k_nil (k_seq (awp_seq ?_))
 refine w_cond hF7 ?_ ?_ <;> intro hc28 hF8
 refine awp_lenT 107 (fun hb29 => ?_)
 refine awp_skip (k_seq (awp_seq (awp_block (awp_seq (awp_region ?_)))))
 refine s_mv ?_
 refine s_as ?_
 refine k_nil (k_seq (awp_seq ?_))
 refine awp_draw yMix (by kernel_rfl) ?_
 refine s_fa yF36_6 ?_
 refine s_ld1 yA34 ?_
 refine s_mv ?_
 obtain ⟨v30, hv30, hF9⟩ := bind_some' hF8
 refine s_ixT Core.row hv30 (Core.row_eq _) yE34 ?_
 refine s_ldN yA36 yS36 ?_
 refine s_fa yF36_6 ?_
 refine s_ld1 yA34 ?_
 refine s_mv ?_
 obtain ⟨v31, hv31, hF10⟩ := bind_some' hF9
 refine s_ixT Core.row hv31 (Core.row_eq _) yE34 ?_
 refine s_ldN yA36 yS36 ?_
 refine s_mv ?_
 obtain ⟨v32, hv32, hF11⟩ := bind_some' hF10
 refine s_pure [] (ih_m_impl_alike_n fu (by omega) _ _ _ hv32) ?_
 refine s_not ?_
 refine k_nilD (by kernel_rfl) ?_
 refine k_seq ?_
 refine w_cond hF11 ?_ ?_ <;> intro hc33 hF12
 refine awp_seq (awp_region ?_)
 refine s_as ?_
 refine k_nil (k_seq (awp_ret (k_blk_ret (k_seq_ret (k_rnd_ret2 (k_blk_ret (k_seq_ret (k_fin ?_))))))))
 cases hF12
 exact ends_a [] [] Tryz.results53
 refine awp_skip (k_blk (k_seq (awp_region ?_)))
 refine s_add (winc2 hc28 hb29 hn_g26) ?_
 refine s_mv ?_
 refine k_nil ?_
 exact s_rn (fu, (g26 + 1)) ⟨by first | omega | (dsimp only; omega), hF12, by first | omega | (dsimp only; omega)⟩
 refine awp_exit (k_seq_exit (k_rnd_exit2 (k_blk_exit (k_seq (awp_seq (awp_region ?_))))))
 refine s_as ?_
 refine k_nil (k_seq (awp_ret (k_fin ?_)))
 cases hF8
 exact ends_a [] [] Tryz.results53
theorem m_impl_alike_n_all (fuel : Nat) : m_impl_alike_n_AC fuel := by
 induction fuel using Nat.strongRecOn with
 | _ N ih =>
   cases N with
   | zero => exact (by intro x1 x2 r h; rw [m_impl_alike_n] at h; cases h)
   | succ fu => exact m_impl_alike_n_st fu (fun k hk => (ih k (by omega)))
theorem m_impl_alike_n_ok (fuel : Nat) : m_impl_alike_n_AC fuel := (m_impl_alike_n_all fuel)
def m_impl_CoreAlike_AC (fuel : Nat) : Prop := ∀ (x1 : Core) (x2 : Core) (r : Bool), m_impl_CoreAlike fuel x1 x2 = some r → AC Tryz.prog 20 [.ag [.t (.sc (.int .i64 x1.kind)), .t (.sc (.int .i64 x1.id)), .t (.sc (.str x1.name)), .t (.sc (.int .i64 x1.n)), .t (.sl (x1.ids.map rI)), .t (.sc (.int .i64 x1.data.kind)), .t (.sc (.str x1.data.name)), .t (.sc (.int .i64 x1.data.n)), .t (.sl (x1.data.scopes.map rI)), .t (.sl (x1.data.kids.map Form.row)), .t (.sl (x1.kids.map Core.row))], .ag [.t (.sc (.int .i64 x2.kind)), .t (.sc (.int .i64 x2.id)), .t (.sc (.str x2.name)), .t (.sc (.int .i64 x2.n)), .t (.sl (x2.ids.map rI)), .t (.sc (.int .i64 x2.data.kind)), .t (.sc (.str x2.data.name)), .t (.sc (.int .i64 x2.data.n)), .t (.sl (x2.data.scopes.map rI)), .t (.sl (x2.data.kids.map Form.row)), .t (.sl (x2.kids.map Core.row))]] noOb (.t (.sc (.bool r))) noOb
theorem m_impl_CoreAlike_ok (fuel : Nat) : m_impl_CoreAlike_AC fuel := by
 intro x1 x2 r hF0
 unfold m_impl_CoreAlike at hF0
 refine AC_i [.t (.sc (.bool r))] Tryz.func20 rfl Tryz.ntmps20 ?_
 intro C hC
 refine awp_seq (awp_region ?_)
 refine s_box ?_
 refine s_box ?_
 refine s_as ?_
 refine k_nil (k_seq (awp_seq (awp_region ?_)))
 refine s_ldW yA36 yS36 ?_
 obtain ⟨v1, hv1, hF1⟩ := bind_some' hF0
 refine s_pure [] (m_impl_CoreValid_ok fuel _ _ hv1) ?_
 refine s_mv ?_
 refine w_guard _ 7 hF1 ?_ ?_ <;> intro hc2 hF2
 refine s_ldW yA36 yS36 ?_
 obtain ⟨v3, hv3, hF3⟩ := bind_some' hF2
 refine s_pure [] (m_impl_CoreValid_ok fuel _ _ hv3) ?_
 refine s_pkt ?_
 refine s_mv ?_
 refine w_guard _ 11 hF3 ?_ ?_ <;> intro hc4 hF4
 refine s_ldW yA36 yS36 ?_
 refine s_ldW yA36 yS36 ?_
 obtain ⟨v5, hv5, hF5⟩ := bind_some' hF4
 refine s_pure [] (m_impl_alike_n_ok fuel _ _ _ hv5) ?_
 refine s_pkt ?_
 refine s_as ?_
 refine k_nil (k_seq (awp_ret (k_fin ?_)))
 cases hF5
 exact ends_a [] [] Tryz.results20
 iterate 3 refine r_no rfl ?_
 refine s_pkf ?_
 refine s_as ?_
 refine k_nil (k_seq (awp_ret (k_fin ?_)))
 cases hF4
 exact ends_a [] [] Tryz.results20
 refine r_no rfl (r_no rfl ?_)
 refine s_pkf ?_
 refine s_mv ?_
 iterate 3 refine r_no rfl ?_
 refine s_pkf ?_
 refine s_as ?_
 refine k_nil (k_seq (awp_ret (k_fin ?_)))
 cases hF2
 exact ends_a [] [] Tryz.results20
def m_spec_l6Alike_AC (fuel : Nat) : Prop := ∀ (x1 : Core) (x2 : Core) (x3 : (List Int)) (x4 : (List Int)) (r : Bool), m_spec_l6Alike fuel x1 x2 x3 x4 = some r → AC Tryz.prog 54 [.ag [.t (.sc (.int .i64 x1.kind)), .t (.sc (.int .i64 x1.id)), .t (.sc (.str x1.name)), .t (.sc (.int .i64 x1.n)), .t (.sl (x1.ids.map rI)), .t (.sc (.int .i64 x1.data.kind)), .t (.sc (.str x1.data.name)), .t (.sc (.int .i64 x1.data.n)), .t (.sl (x1.data.scopes.map rI)), .t (.sl (x1.data.kids.map Form.row)), .t (.sl (x1.kids.map Core.row))], .ag [.t (.sc (.int .i64 x2.kind)), .t (.sc (.int .i64 x2.id)), .t (.sc (.str x2.name)), .t (.sc (.int .i64 x2.n)), .t (.sl (x2.ids.map rI)), .t (.sc (.int .i64 x2.data.kind)), .t (.sc (.str x2.data.name)), .t (.sc (.int .i64 x2.data.n)), .t (.sl (x2.data.scopes.map rI)), .t (.sl (x2.data.kids.map Form.row)), .t (.sl (x2.kids.map Core.row))], .t (.sl (x3.map rI)), .t (.sl (x4.map rI))] noOb (.t (.sc (.bool r))) noOb
theorem m_spec_l6Alike_st (fu : Nat) (ih_m_spec_l6Alike : ∀ k, k ≤ fu → m_spec_l6Alike_AC k) : m_spec_l6Alike_AC (fu + 1) := by
 intro x1 x2 x3 x4 r hF0
 rw [m_spec_l6Alike] at hF0
 refine AC_i [.t (.sc (.bool r))] Tryz.func54 rfl Tryz.ntmps54 ?_
 intro C hC
 refine awp_seq (awp_region ?_)
 refine s_box ?_
 refine s_box ?_
 refine s_as ?_
 refine k_nil (k_seq (awp_seq ?_))
 refine awp_jn (α := Nat × Bool) [12, 13, 14, 15, 16, 17, 18, 19, 20, 21, 22, 23, 24, 25, 26, 27, 28, 29, 30, 31, 32, 33, 34, 35, 36, 37, 38, 39, 40, 41, 42, 43, 44, 45, 46, 47, 48, 49, 50, 51, 52, 53, 54, 55, 56] [] [] (fun a => [(56, .t (.sc (.bool a.2)))]) (fun a => []) (fun a => a.1 ≤ fu ∧ m_spec_l6Alike_j1 a.1 x1 x2 x3 x4 a.2 = some r) ?_ ?_
 refine awp_region ?_
 refine s_fa yF36_0 ?_
 refine s_ld1 yA3 ?_
 refine s_fa yF36_0 ?_
 refine s_ld1 yA3 ?_
 refine s_ne ?_
 refine s_mv ?_
 refine w_guard _ 17 hF0 ?_ ?_ <;> intro hc1 hF1
 iterate 5 refine r_no rfl ?_
 refine s_pkt ?_
 refine s_mv ?_
 iterate 5 refine r_no rfl ?_
 refine s_pkt ?_
 refine s_mv ?_
 iterate 7 refine r_no rfl ?_
 refine s_pkt ?_
 refine s_mv ?_
 iterate 6 refine r_no rfl ?_
 refine s_pkt ?_
 refine s_mv ?_
 iterate 7 refine r_no rfl ?_
 refine s_pkt ?_
 refine k_nil ?_
 exact s_jn (fu, true) ⟨by first | omega | (dsimp only; omega), hF1⟩
 refine s_fa yF36_2 ?_
 refine s_ld1 yA9 ?_
 refine s_fa yF36_2 ?_
 refine s_ld1 yA9 ?_
 refine s_neS ?_
 refine s_pkf ?_
 refine s_mv ?_
 refine w_guard _ 24 hF1 ?_ ?_ <;> intro hc2 hF2
 iterate 5 refine r_no rfl ?_
 refine s_pkt ?_
 refine s_mv ?_
 iterate 7 refine r_no rfl ?_
 refine s_pkt ?_
 refine s_mv ?_
 iterate 6 refine r_no rfl ?_
 refine s_pkt ?_
 refine s_mv ?_
 iterate 7 refine r_no rfl ?_
 refine s_pkt ?_
 refine k_nil ?_
 exact s_jn (fu, true) ⟨by first | omega | (dsimp only; omega), hF2⟩
 refine s_fa yF36_3 ?_
 refine s_ld1 yA3 ?_
 refine s_fa yF36_3 ?_
 refine s_ld1 yA3 ?_
 refine s_ne ?_
 refine s_pkf ?_
 refine s_mv ?_
 refine w_guard _ 31 hF2 ?_ ?_ <;> intro hc3 hF3
 iterate 7 refine r_no rfl ?_
 refine s_pkt ?_
 refine s_mv ?_
 iterate 6 refine r_no rfl ?_
 refine s_pkt ?_
 refine s_mv ?_
 iterate 7 refine r_no rfl ?_
 refine s_pkt ?_
 refine k_nil ?_
 exact s_jn (fu, true) ⟨by first | omega | (dsimp only; omega), hF3⟩
 refine s_fa yF36_4 ?_
 refine s_ld1 yA22 ?_
 refine s_lenT yU22 ?_
 refine s_fa yF36_4 ?_
 refine s_ld1 yA22 ?_
 refine s_lenT yU22 ?_
 refine s_ne ?_
 refine s_pkf ?_
 refine s_mv ?_
 refine w_guard _ 40 hF3 ?_ ?_ <;> intro hc4 hF4
 iterate 6 refine r_no rfl ?_
 refine s_pkt ?_
 refine s_mv ?_
 iterate 7 refine r_no rfl ?_
 refine s_pkt ?_
 refine k_nil ?_
 exact s_jn (fu, true) ⟨by first | omega | (dsimp only; omega), hF4⟩
 refine s_fa yF36_5 ?_
 refine s_ldN yA33 yS33 ?_
 refine s_fa yF36_5 ?_
 refine s_ldN yA33 yS33 ?_
 obtain ⟨v5, hv5, hF5⟩ := bind_some' hF4
 refine s_pure [] (m_spec_FormSame_ok fu _ _ _ hv5) ?_
 refine s_not ?_
 refine s_pkf ?_
 refine s_mv ?_
 refine w_guard _ 48 hF5 ?_ ?_ <;> intro hc6 hF6
 iterate 7 refine r_no rfl ?_
 refine s_pkt ?_
 refine k_nil ?_
 exact s_jn (fu, true) ⟨by first | omega | (dsimp only; omega), hF6⟩
 refine s_fa yF36_6 ?_
 refine s_ld1 yA34 ?_
 refine s_lenT yU34 ?_
 refine s_fa yF36_6 ?_
 refine s_ld1 yA34 ?_
 refine s_lenT yU34 ?_
 refine s_ne ?_
 refine s_pkf ?_
 refine k_nil ?_
 exact s_jn (fu, (decide ((x1.kids.length : Int) ≠ (x2.kids.length : Int)))) ⟨by first | omega | (dsimp only; omega), hF6⟩
 clear hF0
 rintro ⟨fu, g7⟩ ⟨hl8, hF1⟩
 dsimp only at hl8 hF1 ⊢
 obtain _ | fu := fu
 · rw [m_spec_l6Alike_j1] at hF1; cases hF1
 rw [m_spec_l6Alike_j1] at hF1
 refine w_cond hF1 ?_ ?_ <;> intro hc9 hF2
 refine awp_seq (awp_region ?_)
 refine s_as ?_
 refine k_nil (k_seq (awp_ret (k_seq_ret (k_fin ?_))))
 cases hF2
 exact ends_a [] [] Tryz.results54
 refine awp_skip (k_seq ?_)
 refine awp_jn (α := Nat) [8, 57, 58, 59, 60, 61, 62, 63, 64, 65, 66, 67, 68, 69, 70] [] [] (fun a => []) (fun a => []) (fun a => a ≤ fu ∧ m_spec_l6Alike_j2 a x1 x2 x3 x4  = some r) ?_ ?_
 refine awp_seq ?_
 refine awp_draw yMix (by kernel_rfl) ?_
 refine s_fa yF36_0 ?_
 refine s_ld1 yA3 ?_
 refine s_eq ?_
 refine s_mv ?_
 refine w_guard _ 60 hF2 ?_ ?_ <;> intro hc10 hF3
 refine s_mv ?_
 refine s_fa yF36_1 ?_
 refine s_ld1 yA3 ?_
 obtain ⟨v11, hv11, hF4⟩ := bind_some' hF3
 refine s_pure [] (m_spec_l6Last_ok fu _ _ _ hv11) ?_
 refine s_mv ?_
 refine s_fa yF36_1 ?_
 refine s_ld1 yA3 ?_
 obtain ⟨v12, hv12, hF5⟩ := bind_some' hF4
 refine s_pure [] (m_spec_l6Last_ok fu _ _ _ hv12) ?_
 refine s_ne ?_
 refine s_pkt ?_
 refine k_nilD (by kernel_rfl) ?_
 refine k_seq ?_
 refine w_cond hF5 ?_ ?_ <;> intro hc13 hF6
 refine awp_seq (awp_region ?_)
 refine s_as ?_
 refine k_nil (k_seq (awp_ret (k_jn_ret (k_fin ?_))))
 cases hF6
 exact ends_a [] [] Tryz.results54
 refine awp_skip ?_
 exact s_jn (fu) ⟨by first | omega | (dsimp only; omega), hF6⟩
 iterate 9 refine r_no rfl ?_
 refine s_pkf ?_
 refine k_nilD (by kernel_rfl) ?_
 refine k_seq (awp_false rfl (awp_skip ?_))
 exact s_jn (fu) ⟨by first | omega | (dsimp only; omega), hF3⟩
 clear hF2
 rintro fu ⟨hl14, hF3⟩
 obtain _ | fu := fu
 · rw [m_spec_l6Alike_j2] at hF3; cases hF3
 rw [m_spec_l6Alike_j2] at hF3
 refine awp_seq ?_
 refine awp_draw yMix (by kernel_rfl) ?_
 refine s_bs rI ([] : List Int) yP22 yR3 ?_
 refine s_mv ?_
 obtain ⟨hk15, hF4⟩ := chk_some hF3
 refine s_apT rI (fun _ => rfl) hk15 yP22 ?_
 refine s_fa yF36_4 ?_
 refine s_ld1 yA22 ?_
 obtain ⟨hk16, hF5⟩ := chk_some hF4
 refine s_apT rI (fun _ => rfl) hk16 yP22 ?_
 refine s_as ?_
 refine k_nilD (by kernel_rfl) ?_
 refine k_seq (awp_seq ?_)
 refine awp_draw yMix (by kernel_rfl) ?_
 refine s_bs rI ([] : List Int) yP22 yR3 ?_
 refine s_mv ?_
 obtain ⟨hk17, hF6⟩ := chk_some hF5
 refine s_apT rI (fun _ => rfl) hk17 yP22 ?_
 refine s_fa yF36_4 ?_
 refine s_ld1 yA22 ?_
 obtain ⟨hk18, hF7⟩ := chk_some hF6
 refine s_apT rI (fun _ => rfl) hk18 yP22 ?_
 refine s_as ?_
 refine k_nilD (by kernel_rfl) ?_
 refine k_seq (awp_seq (awp_seq (awp_region ?_)))
 refine s_as ?_
 refine k_nil (k_seq (awp_block ?_))
 refine awp_frz 76 (by conv => lhs; whnf) ?_
 refine awp_frz 82 (by conv => lhs; whnf) ?_
 refine awp_fr (β := Int × (List Int) × (List Int)) [8, 11, 83, 84, 85, 86, 87, 88, 89, 90, 91, 92, 93, 94, 95, 96, 97, 98, 99, 100, 101, 102, 103] [76, 82] [] (fun a => [(11, .t (.sc (.int .i64 a.2.1)))]) (fun a => [(76, .arr (a.2.2.1.map rI) 3 false), (82, .arr (a.2.2.2.map rI) 3 false)]) (fun a => a.1 ≤ fu ∧ m_spec_l6Alike_l3 a.1 x1 x2 a.2.1 a.2.2.1 a.2.2.2 = some r ∧ 0 ≤ a.2.1) (fu, 0, ((([] : List Int) ++ x3) ++ x1.ids), ((([] : List Int) ++ x4) ++ x2.ids)) ⟨Nat.le_refl _, hF7, by simp⟩ ?_
 clear hF7
 rintro ⟨fu, g19, g20, g21⟩ ⟨hl22, hF8, hn_g19⟩
 dsimp only at hl22 hF8 hn_g19 ⊢
 obtain _ | fu := fu
 · rw [m_spec_l6Alike_l3] at hF8; cases hF8
 rw [m_spec_l6Alike_l3] at hF8
 refine awp_seq (awp_seq (awp_region ?_))
 refine s_mv ?_
 refine s_fa yF36_6 ?_
 refine s_ld1 yA34 ?_
 refine s_lenT yU34 ?_
 refine s_lt ?_
 refine k_nil (k_seq ?_)
 refine w_cond hF8 ?_ ?_ <;> intro hc23 hF9
 refine awp_lenT 85 (fun hb24 => ?_)
 refine awp_skip (k_seq (awp_seq (awp_block (awp_seq ?_))))
 refine awp_draw yMix (by kernel_rfl) ?_
 refine s_fa yF36_6 ?_
 refine s_ld1 yA34 ?_
 refine s_mv ?_
 obtain ⟨v25, hv25, hF10⟩ := bind_some' hF9
 refine s_ixT Core.row hv25 (Core.row_eq _) yE34 ?_
 refine s_ldN yA36 yS36 ?_
 refine s_fa yF36_6 ?_
 refine s_ld1 yA34 ?_
 refine s_mv ?_
 obtain ⟨v26, hv26, hF11⟩ := bind_some' hF10
 refine s_ixT Core.row hv26 (Core.row_eq _) yE34 ?_
 refine s_ldN yA36 yS36 ?_
 refine s_mv0 ?_
 refine s_mv0 ?_
 obtain ⟨v27, hv27, hF12⟩ := bind_some' hF11
 refine s_pure [76, 82] (ih_m_spec_l6Alike fu (by omega) _ _ _ _ _ hv27) ?_
 refine s_not ?_
 refine k_nilD (by kernel_rfl) ?_
 refine k_seq ?_
 refine w_cond hF12 ?_ ?_ <;> intro hc28 hF13
 refine awp_seq (awp_region ?_)
 refine s_as ?_
 refine k_nil (k_seq (awp_ret (k_blk_ret (k_seq_ret (k_rnd_ret2 (k_blk_ret (k_seq_ret (k_fin ?_))))))))
 cases hF13
 exact ends_a [] [] Tryz.results54
 refine awp_skip (k_blk (k_seq (awp_region ?_)))
 refine s_mv ?_
 refine s_add (winc2 hc23 hb24 hn_g19) ?_
 refine s_as ?_
 refine k_nil ?_
 exact s_rn (fu, (g19 + 1), g20, g21) ⟨by first | omega | (dsimp only; omega), hF13, by first | omega | (dsimp only; omega)⟩
 refine awp_exit (k_seq_exit (k_rnd_exit2 (k_blk_exit (k_seq (awp_seq (awp_region ?_))))))
 refine s_as ?_
 refine k_nil (k_seq (awp_ret (k_fin ?_)))
 cases hF9
 exact ends_a [] [] Tryz.results54
end Go.Abs
