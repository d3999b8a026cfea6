/- A part of the proof: what the functions that the law calls answer, as pure values. -/
import Derived.Test.YtehdhaaopmihaaaGreatDoorK0a82d769b634
import Derived.Test.YtehdhaaopmihaaaGreatDoorK0fde71595f57
import Derived.Test.YtehdhaaopmihaaaGreatDoorK516d46fe8b6f
import Derived.Test.YtehdhaaopmihaaaGreatDoorK6f32e3135696
import Derived.Test.YtehdhaaopmihaaaGreatDoorK7e5db05eb88a
set_option linter.unusedSimpArgs false
set_option linter.unusedVariables false
set_option maxRecDepth 100000
set_option maxHeartbeats 4000000
namespace Go.Abs
open Go.Proofs
theorem m_spec_l6Copy_all (fuel : Nat) : m_spec_l6Copy_AC fuel := by
 induction fuel using Nat.strongRecOn with
 | _ N ih =>
   cases N with
   | zero => exact (by intro x1 r h; rw [m_spec_l6Copy] at h; cases h)
   | succ fu => exact m_spec_l6Copy_st fu (fun k hk => (ih k (by omega)))
theorem m_spec_l6Copy_ok (fuel : Nat) : m_spec_l6Copy_AC fuel := (m_spec_l6Copy_all fuel)
def m_spec_l6Mutate_AC (fuel : Nat) : Prop := ∀ (o1 : l15Rd) (x2 : Core) (r : (Core × l15Rd)), m_spec_l6Mutate fuel o1 x2 = some r → AC Tryz.prog 83 [.rf 9000 0, .ag [.t (.sc (.int .i64 x2.kind)), .t (.sc (.int .i64 x2.id)), .t (.sc (.str x2.name)), .t (.sc (.int .i64 x2.n)), .t (.sl (x2.ids.map rI)), .t (.sc (.int .i64 x2.data.kind)), .t (.sc (.str x2.data.name)), .t (.sc (.int .i64 x2.data.n)), .t (.sl (x2.data.scopes.map rI)), .t (.sl (x2.data.kids.map Form.row)), .t (.sl (x2.kids.map Core.row))]] (objs [(9000, .box [.t (.sl (o1.b.map rB)), .t (.sc (.int .i64 o1.p))])]) (.ag [.t (.sc (.int .i64 r.1.kind)), .t (.sc (.int .i64 r.1.id)), .t (.sc (.str r.1.name)), .t (.sc (.int .i64 r.1.n)), .t (.sl (r.1.ids.map rI)), .t (.sc (.int .i64 r.1.data.kind)), .t (.sc (.str r.1.data.name)), .t (.sc (.int .i64 r.1.data.n)), .t (.sl (r.1.data.scopes.map rI)), .t (.sl (r.1.data.kids.map Form.row)), .t (.sl (r.1.kids.map Core.row))]) (objs [(9000, .box [.t (.sl (r.2.b.map rB)), .t (.sc (.int .i64 r.2.p))])])
theorem m_spec_l6Mutate_st (fu : Nat) (ih_m_spec_l6Mutate : ∀ k, k ≤ fu → m_spec_l6Mutate_AC k) : m_spec_l6Mutate_AC (fu + 1) := by
 intro o1 x2 r hF0
 rw [m_spec_l6Mutate] at hF0
 refine AC_i [.ag [.t (.sc (.int .i64 r.1.kind)), .t (.sc (.int .i64 r.1.id)), .t (.sc (.str r.1.name)), .t (.sc (.int .i64 r.1.n)), .t (.sl (r.1.ids.map rI)), .t (.sc (.int .i64 r.1.data.kind)), .t (.sc (.str r.1.data.name)), .t (.sc (.int .i64 r.1.data.n)), .t (.sl (r.1.data.scopes.map rI)), .t (.sl (r.1.data.kids.map Form.row)), .t (.sl (r.1.kids.map Core.row))]] Tryz.func83 rfl Tryz.ntmps83 ?_
 intro C hC
 refine awp_seq (awp_region ?_)
 refine s_box ?_
 refine s_alloc yZ36 ?_
 refine k_nil (k_seq (awp_seq (awp_region ?_)))
 refine s_ldW yA36 yS36 ?_
 obtain ⟨v1, hv1, hF1⟩ := bind_some' hF0
 refine s_call [(9204, 2008), (9210, 12008)] [] _ _ (m_spec_l6Copy_ok fu _ _ hv1) ?_
 refine s_alloc yZ36 ?_
 refine s_stW yS36 ?_
 refine k_nil (k_seq (awp_seq (awp_seq (awp_region ?_))))
 refine s_fa yF36_6 ?_
 refine s_ld1 yA34 ?_
 refine s_lenA yU34 ?_
 refine s_gt ?_
 refine s_mv ?_
 refine w_guard _ 13 hF1 ?_ ?_ <;> intro hc2 hF2
 refine s_mv ?_
 obtain ⟨v3, hv3, hF3⟩ := bind_some' hF2
 refine s_call [(9000, 9000)] [] _ _ (m_spec_l15Rd_pick_ok fu _ _ _ hv3) ?_
 refine s_gt ?_
 refine s_pkt ?_
 refine k_nil (k_seq ?_)
 refine w_cond hF3 ?_ ?_ <;> intro hc4 hF4
 refine awp_seq (awp_region ?_)
 refine s_mv ?_
 refine s_fa yF36_6 ?_
 refine s_ld1 yA34 ?_
 refine s_lenA yU34 ?_
 obtain ⟨v5, hv5, hF5⟩ := bind_some' hF4
 refine s_call [(9000, 9000)] [] _ _ (m_spec_l15Rd_pick_ok fu _ _ _ hv5) ?_
 refine s_as ?_
 refine k_nil (k_seq (awp_seq ?_))
 refine awp_draw yMix (by kernel_rfl) ?_
 refine s_fa yF36_6 ?_
 refine s_ld1 yA34 ?_
 refine s_mv ?_
 refine s_mv0 ?_
 refine s_fa yF36_6 ?_
 refine s_ld1 yA34 ?_
 refine s_mv ?_
 obtain ⟨v6, hv6, hF6⟩ := bind_some' hF5
 refine s_ixA Core.row hv6 yE34 ?_
 refine s_lAN Core.row hv6 (Core.row_eq _) yA36 yS36 ?_
 obtain ⟨v7, hv7, hF7⟩ := bind_some' hF6
 refine s_call [(9000, 9000)] [] _ _ (ih_m_spec_l6Mutate fu (by omega) _ _ _ hv7) ?_
 obtain ⟨v8, hv8, hF8⟩ := bind_some' hF7
 refine s_ixA Core.row hv8 yE34 ?_
 refine s_stA Core.row v7.1 hv8 (Core.row_eq _) (Core.row_eq _) yS36 yS36 ?_
 refine k_nilD (by kernel_rfl) ?_
 refine k_seq (awp_seq (awp_region ?_))
 refine s_ldW yA36 yS36 ?_
 refine s_stW yS36 ?_
 refine k_nil (k_seq (awp_ret (k_seq_ret (k_fin ?_))))
 cases hF8
 exact ends_gen _ [2008, 12008] (by rw [Tryz.results83]; exact (res_agg (by conv => lhs; whnf) (by conv => lhs; whnf) yA36 yS36 rfl res_nil))
 refine awp_skip (k_seq (awp_seq (awp_seq (awp_region ?_))))
 refine s_mv ?_
 obtain ⟨v9, hv9, hF5⟩ := bind_some' hF4
 refine s_call [(9000, 9000)] [] _ _ (m_spec_l15Rd_pick_ok fu _ _ _ hv9) ?_
 refine k_nil (k_seq (awp_block (awp_seq (awp_region ?_))))
 refine s_eq ?_
 refine s_as ?_
 refine k_nil (k_seq ?_)
 refine w_cond hF5 ?_ ?_ <;> intro hc10 hF6
 refine awp_region ?_
 refine s_mv ?_
 refine s_bs rI [0, 8, 3, 6] yP22 yR3 ?_
 obtain ⟨v11, hv11, hF7⟩ := bind_some' hF6
 refine s_call [(9000, 9000)] [40] _ _ (m_spec_l15Rd_num_ok fu _ _ _ hv11) ?_
 refine s_fa yF36_0 ?_
 refine s_stP yS3 ?_
 refine k_nil (k_blk (k_seq (awp_seq (awp_region ?_))))
 refine s_ldW yA36 yS36 ?_
 refine s_stW yS36 ?_
 refine k_nil (k_seq (awp_ret (k_fin ?_)))
 cases hF7
 exact ends_gen _ [2008, 12008] (by rw [Tryz.results83]; exact (res_agg (by conv => lhs; whnf) (by conv => lhs; whnf) yA36 yS36 rfl res_nil))
 refine awp_seq (awp_region ?_)
 refine s_eq ?_
 refine s_as ?_
 refine k_nil (k_seq ?_)
 refine w_cond hF6 ?_ ?_ <;> intro hc12 hF7
 refine awp_region ?_
 refine s_mv ?_
 refine s_bs rI [0, 1, 1000, 2] yP22 yR3 ?_
 obtain ⟨v13, hv13, hF8⟩ := bind_some' hF7
 refine s_call [(9000, 9000)] [46] _ _ (m_spec_l15Rd_num_ok fu _ _ _ hv13) ?_
 refine s_fa yF36_1 ?_
 refine s_stP yS3 ?_
 refine k_nil (k_blk (k_seq (awp_seq (awp_region ?_))))
 refine s_ldW yA36 yS36 ?_
 refine s_stW yS36 ?_
 refine k_nil (k_seq (awp_ret (k_fin ?_)))
 cases hF8
 exact ends_gen _ [2008, 12008] (by rw [Tryz.results83]; exact (res_agg (by conv => lhs; whnf) (by conv => lhs; whnf) yA36 yS36 rfl res_nil))
 refine awp_seq (awp_region ?_)
 refine s_eq ?_
 refine s_as ?_
 refine k_nil (k_seq ?_)
 refine w_cond hF7 ?_ ?_ <;> intro hc14 hF8
 refine awp_draw yMix (by kernel_rfl) ?_
 refine s_fa yF36_4 ?_
 refine s_ld1 yA22 ?_
 refine s_mv0 ?_
 refine s_bs rI [1, 900, 0] yP22 yR3 ?_
 obtain ⟨v15, hv15, hF9⟩ := bind_some' hF8
 refine s_call [(9000, 9000)] [54] _ _ (m_spec_l15Rd_num_ok fu _ _ _ hv15) ?_
 refine s_bs rI [v15.1] yP22 yR3 ?_
 obtain ⟨hk16, hF10⟩ := chk_some hF9
 refine s_apT rI (fun _ => rfl) hk16 yP22 ?_
 refine s_fa yF36_4 ?_
 refine s_stP yS22 ?_
 refine k_nilD (by kernel_rfl) ?_
 refine k_blk (k_seq (awp_seq (awp_region ?_)))
 refine s_ldW yA36 yS36 ?_
 refine s_stW yS36 ?_
 refine k_nil (k_seq (awp_ret (k_fin ?_)))
 cases hF10
 exact ends_gen _ [57, 12008] (by rw [Tryz.results83]; exact (res_agg (by conv => lhs; whnf) (by conv => lhs; whnf) yA36 yS36 rfl res_nil))
 refine awp_seq (awp_region ?_)
 refine s_eq ?_
 refine s_as ?_
 refine k_nil (k_seq ?_)
 refine w_cond hF8 ?_ ?_ <;> intro hc17 hF9
 refine awp_region ?_
 refine s_mv ?_
 refine s_bs rS [(⟨#[]⟩ : ByteArray), (⟨#[103]⟩ : ByteArray), (⟨#[65]⟩ : ByteArray)] yP50 yR9 ?_
 obtain ⟨v18, hv18, hF10⟩ := bind_some' hF9
 refine s_call [(9000, 9000)] [62] _ _ (m_spec_l15Rd_of_ok fu _ _ _ hv18) ?_
 refine s_fa yF36_2 ?_
 refine s_stP yS9 ?_
 refine k_nil (k_blk (k_seq (awp_seq (awp_region ?_))))
 refine s_ldW yA36 yS36 ?_
 refine s_stW yS36 ?_
 refine k_nil (k_seq (awp_ret (k_fin ?_)))
 cases hF10
 exact ends_gen _ [2008, 12008] (by rw [Tryz.results83]; exact (res_agg (by conv => lhs; whnf) (by conv => lhs; whnf) yA36 yS36 rfl res_nil))
 refine awp_skip (k_blk (k_seq (awp_seq (awp_region ?_))))
 refine s_ldW yA36 yS36 ?_
 refine s_stW yS36 ?_
 refine k_nil (k_seq (awp_ret (k_fin ?_)))
 cases hF9
 exact ends_gen _ [2008, 12008] (by rw [Tryz.results83]; exact (res_agg (by conv => lhs; whnf) (by conv => lhs; whnf) yA36 yS36 rfl res_nil))
 iterate 3 refine r_no rfl ?_
 refine s_pkf ?_
 refine k_nil (k_seq (awp_false rfl (awp_skip (k_seq (awp_seq (awp_seq (awp_region ?_)))))))
 refine s_mv ?_
 obtain ⟨v19, hv19, hF3⟩ := bind_some' hF2
 refine s_call [(9000, 9000)] [] _ _ (m_spec_l15Rd_pick_ok fu _ _ _ hv19) ?_
 refine k_nil (k_seq (awp_block (awp_seq (awp_region ?_))))
 refine s_eq ?_
 refine s_as ?_
 refine k_nil (k_seq ?_)
 refine w_cond hF3 ?_ ?_ <;> intro hc20 hF4
 refine awp_region ?_
 refine s_mv ?_
 refine s_bs rI [0, 8, 3, 6] yP22 yR3 ?_
 obtain ⟨v21, hv21, hF5⟩ := bind_some' hF4
 refine s_call [(9000, 9000)] [40] _ _ (m_spec_l15Rd_num_ok fu _ _ _ hv21) ?_
 refine s_fa yF36_0 ?_
 refine s_stP yS3 ?_
 refine k_nil (k_blk (k_seq (awp_seq (awp_region ?_))))
 refine s_ldW yA36 yS36 ?_
 refine s_stW yS36 ?_
 refine k_nil (k_seq (awp_ret (k_fin ?_)))
 cases hF5
 exact ends_gen _ [2008, 12008] (by rw [Tryz.results83]; exact (res_agg (by conv => lhs; whnf) (by conv => lhs; whnf) yA36 yS36 rfl res_nil))
 refine awp_seq (awp_region ?_)
 refine s_eq ?_
 refine s_as ?_
 refine k_nil (k_seq ?_)
 refine w_cond hF4 ?_ ?_ <;> intro hc22 hF5
 refine awp_region ?_
 refine s_mv ?_
 refine s_bs rI [0, 1, 1000, 2] yP22 yR3 ?_
 obtain ⟨v23, hv23, hF6⟩ := bind_some' hF5
 refine s_call [(9000, 9000)] [46] _ _ (m_spec_l15Rd_num_ok fu _ _ _ hv23) ?_
 refine s_fa yF36_1 ?_
 refine s_stP yS3 ?_
 refine k_nil (k_blk (k_seq (awp_seq (awp_region ?_))))
 refine s_ldW yA36 yS36 ?_
 refine s_stW yS36 ?_
 refine k_nil (k_seq (awp_ret (k_fin ?_)))
 cases hF6
 exact ends_gen _ [2008, 12008] (by rw [Tryz.results83]; exact (res_agg (by conv => lhs; whnf) (by conv => lhs; whnf) yA36 yS36 rfl res_nil))
 refine awp_seq (awp_region ?_)
 refine s_eq ?_
 refine s_as ?_
 refine k_nil (k_seq ?_)
 refine w_cond hF5 ?_ ?_ <;> intro hc24 hF6
 refine awp_draw yMix (by kernel_rfl) ?_
 refine s_fa yF36_4 ?_
 refine s_ld1 yA22 ?_
 refine s_mv0 ?_
 refine s_bs rI [1, 900, 0] yP22 yR3 ?_
 obtain ⟨v25, hv25, hF7⟩ := bind_some' hF6
 refine s_call [(9000, 9000)] [54] _ _ (m_spec_l15Rd_num_ok fu _ _ _ hv25) ?_
 refine s_bs rI [v25.1] yP22 yR3 ?_
 obtain ⟨hk26, hF8⟩ := chk_some hF7
 refine s_apT rI (fun _ => rfl) hk26 yP22 ?_
 refine s_fa yF36_4 ?_
 refine s_stP yS22 ?_
 refine k_nilD (by kernel_rfl) ?_
 refine k_blk (k_seq (awp_seq (awp_region ?_)))
 refine s_ldW yA36 yS36 ?_
 refine s_stW yS36 ?_
 refine k_nil (k_seq (awp_ret (k_fin ?_)))
 cases hF8
 exact ends_gen _ [57, 12008] (by rw [Tryz.results83]; exact (res_agg (by conv => lhs; whnf) (by conv => lhs; whnf) yA36 yS36 rfl res_nil))
 refine awp_seq (awp_region ?_)
 refine s_eq ?_
 refine s_as ?_
 refine k_nil (k_seq ?_)
 refine w_cond hF6 ?_ ?_ <;> intro hc27 hF7
 refine awp_region ?_
 refine s_mv ?_
 refine s_bs rS [(⟨#[]⟩ : ByteArray), (⟨#[103]⟩ : ByteArray), (⟨#[65]⟩ : ByteArray)] yP50 yR9 ?_
 obtain ⟨v28, hv28, hF8⟩ := bind_some' hF7
 refine s_call [(9000, 9000)] [62] _ _ (m_spec_l15Rd_of_ok fu _ _ _ hv28) ?_
 refine s_fa yF36_2 ?_
 refine s_stP yS9 ?_
 refine k_nil (k_blk (k_seq (awp_seq (awp_region ?_))))
 refine s_ldW yA36 yS36 ?_
 refine s_stW yS36 ?_
 refine k_nil (k_seq (awp_ret (k_fin ?_)))
 cases hF8
 exact ends_gen _ [2008, 12008] (by rw [Tryz.results83]; exact (res_agg (by conv => lhs; whnf) (by conv => lhs; whnf) yA36 yS36 rfl res_nil))
 refine awp_skip (k_blk (k_seq (awp_seq (awp_region ?_))))
 refine s_ldW yA36 yS36 ?_
 refine s_stW yS36 ?_
 refine k_nil (k_seq (awp_ret (k_fin ?_)))
 cases hF7
 exact ends_gen _ [2008, 12008] (by rw [Tryz.results83]; exact (res_agg (by conv => lhs; whnf) (by conv => lhs; whnf) yA36 yS36 rfl res_nil))
theorem m_spec_l6Mutate_all (fuel : Nat) : m_spec_l6Mutate_AC fuel := by
 induction fuel using Nat.strongRecOn with
 | _ N ih =>
   cases N with
   | zero => exact (by intro o1 x2 r h; rw [m_spec_l6Mutate] at h; cases h)
   | succ fu => exact m_spec_l6Mutate_st fu (fun k hk => (ih k (by omega)))
theorem m_spec_l6Mutate_ok (fuel : Nat) : m_spec_l6Mutate_AC fuel := (m_spec_l6Mutate_all fuel)
def m_spec_l6Draw_AC (fuel : Nat) : Prop := ∀ (x1 : (List Int)) (r : Core), m_spec_l6Draw fuel x1 = some r → AC Tryz.prog 51 [.t (.sl (x1.map rB))] noOb (.ag [.t (.sc (.int .i64 r.kind)), .t (.sc (.int .i64 r.id)), .t (.sc (.str r.name)), .t (.sc (.int .i64 r.n)), .t (.sl (r.ids.map rI)), .t (.sc (.int .i64 r.data.kind)), .t (.sc (.str r.data.name)), .t (.sc (.int .i64 r.data.n)), .t (.sl (r.data.scopes.map rI)), .t (.sl (r.data.kids.map Form.row)), .t (.sl (r.kids.map Core.row))]) noOb
theorem m_spec_l6Draw_ok (fuel : Nat) : m_spec_l6Draw_AC fuel := by
 intro x1 r hF0
 unfold m_spec_l6Draw at hF0
 refine AC_i [.ag [.t (.sc (.int .i64 r.kind)), .t (.sc (.int .i64 r.id)), .t (.sc (.str r.name)), .t (.sc (.int .i64 r.n)), .t (.sl (r.ids.map rI)), .t (.sc (.int .i64 r.data.kind)), .t (.sc (.str r.data.name)), .t (.sc (.int .i64 r.data.n)), .t (.sl (r.data.scopes.map rI)), .t (.sl (r.data.kids.map Form.row)), .t (.sl (r.kids.map Core.row))]] Tryz.func51 rfl Tryz.ntmps51 ?_
 intro C hC
 refine awp_seq (awp_region ?_)
 refine s_alloc yZ36 ?_
 refine k_nil (k_seq (awp_seq (awp_region ?_)))
 refine s_mv ?_
 obtain ⟨v1, hv1, hF1⟩ := bind_some' hF0
 refine s_call [(10, 7)] [] _ _ (m_spec_l15Open_ok fuel _ _ hv1) ?_
 refine s_as ?_
 refine k_nil (k_seq (awp_seq (awp_region ?_)))
 refine s_mv ?_
 refine s_bs rI ([] : List Int) yP22 yR3 ?_
 refine s_mv ?_
 refine s_bs rI [3, 4, 2] yP22 yR3 ?_
 obtain ⟨v2, hv2, hF2⟩ := bind_some' hF1
 refine s_call [(9000, 7)] [12] _ _ (m_spec_l15Rd_num_ok fuel _ _ _ hv2) ?_
 obtain ⟨v3, hv3, hF3⟩ := bind_some' hF2
 refine s_call [(9000, 7)] [10] _ _ (m_spec_l6Some_ok fuel _ _ _ _ _ hv3) ?_
 refine s_mv ?_
 refine s_ext ?_
 refine s_ext ?_
 refine s_alloc yZ36 ?_
 refine s_stW yS36 ?_
 refine s_as ?_
 refine k_nil (k_seq (awp_seq (awp_seq (awp_region ?_))))
 refine s_mv ?_
 obtain ⟨v4, hv4, hF4⟩ := bind_some' hF3
 refine s_call [(9000, 7)] [] _ _ (m_spec_l15Rd_pick_ok fuel _ _ _ hv4) ?_
 refine s_eq ?_
 refine k_nil (k_seq ?_)
 refine w_cond hF4 ?_ ?_ <;> intro hc5 hF5
 refine awp_seq (awp_region ?_)
 refine s_mv ?_
 refine s_mv ?_
 refine s_ldW yA36 yS36 ?_
 obtain ⟨v6, hv6, hF6⟩ := bind_some' hF5
 refine s_call [(9000, 7)] [] _ _ (m_spec_l6Mutate_ok fuel _ _ _ hv6) ?_
 obtain ⟨v7, hv7, hF7⟩ := bind_some' hF6
 refine s_call [(9000, 7)] [] _ _ (m_spec_l6Mutate_ok fuel _ _ _ hv7) ?_
 refine s_stW yS36 ?_
 refine k_nil (k_seq (awp_ret (k_seq_ret (k_fin ?_))))
 cases hF7
 exact ends_gen [] [] (by rw [Tryz.results51]; exact (res_agg (by conv => lhs; whnf) (by conv => lhs; whnf) yA36 yS36 rfl res_nil))
 refine awp_skip (k_seq (awp_seq (awp_region ?_)))
 refine s_ldW yA36 yS36 ?_
 refine s_stW yS36 ?_
 refine k_nil (k_seq (awp_ret (k_fin ?_)))
 cases hF5
 exact ends_gen [] [] (by rw [Tryz.results51]; exact (res_agg (by conv => lhs; whnf) (by conv => lhs; whnf) yA36 yS36 rfl res_nil))
def m_spec_DrawFormatCore_AC (fuel : Nat) : Prop := ∀ (x1 : (List Int)) (r : Core), m_spec_DrawFormatCore fuel x1 = some r → AC Tryz.prog 17 [.t (.sl (x1.map rB))] noOb (.ag [.t (.sc (.int .i64 r.kind)), .t (.sc (.int .i64 r.id)), .t (.sc (.str r.name)), .t (.sc (.int .i64 r.n)), .t (.sl (r.ids.map rI)), .t (.sc (.int .i64 r.data.kind)), .t (.sc (.str r.data.name)), .t (.sc (.int .i64 r.data.n)), .t (.sl (r.data.scopes.map rI)), .t (.sl (r.data.kids.map Form.row)), .t (.sl (r.kids.map Core.row))]) noOb
theorem m_spec_DrawFormatCore_ok (fuel : Nat) : m_spec_DrawFormatCore_AC fuel := by
 intro x1 r hF0
 unfold m_spec_DrawFormatCore at hF0
 refine AC_i [.ag [.t (.sc (.int .i64 r.kind)), .t (.sc (.int .i64 r.id)), .t (.sc (.str r.name)), .t (.sc (.int .i64 r.n)), .t (.sl (r.ids.map rI)), .t (.sc (.int .i64 r.data.kind)), .t (.sc (.str r.data.name)), .t (.sc (.int .i64 r.data.n)), .t (.sl (r.data.scopes.map rI)), .t (.sl (r.data.kids.map Form.row)), .t (.sl (r.kids.map Core.row))]] Tryz.func17 rfl Tryz.ntmps17 ?_
 intro C hC
 refine awp_seq (awp_region ?_)
 refine s_alloc yZ36 ?_
 refine k_nil (k_seq (awp_seq (awp_region ?_)))
 refine s_mv ?_
 obtain ⟨v1, hv1, hF1⟩ := bind_some' hF0
 refine s_pure [] (m_spec_l6Draw_ok fuel _ _ hv1) ?_
 refine s_stW yS36 ?_
 refine k_nil (k_seq (awp_ret (k_fin ?_)))
 cases hF1
 exact ends_gen [] [] (by rw [Tryz.results17]; exact (res_agg (by conv => lhs; whnf) (by conv => lhs; whnf) yA36 yS36 rfl res_nil))
def m_laws_FnCoreBrackets_AC (fuel : Nat) : Prop := ∀ (x1 : (List Int)) (r : Bool), m_laws_FnCoreBrackets fuel x1 = some r → AC Tryz.prog 5 [.t (.sl (x1.map rB))] noOb (.t (.sc (.bool r))) noOb
theorem m_laws_FnCoreBrackets_ok (fuel : Nat) : m_laws_FnCoreBrackets_AC fuel := by
 intro x1 r hF0
 unfold m_laws_FnCoreBrackets at hF0
 refine AC_i [.t (.sc (.bool r))] Tryz.func5 rfl Tryz.ntmps5 ?_
 intro C hC
 refine awp_seq (awp_region ?_)
 refine s_as ?_
 refine k_nil (k_seq (awp_seq (awp_seq (awp_region ?_))))
 refine s_mv ?_
 refine s_lenT yU40 ?_
 refine s_gt ?_
 refine k_nil (k_seq ?_)
 refine w_cond hF0 ?_ ?_ <;> intro hc1 hF1
 refine awp_lenT 0 (fun hb2 => ?_)
 refine awp_seq (awp_region ?_)
 refine s_as ?_
 refine k_nil (k_seq (awp_ret (k_seq_ret (k_fin ?_))))
 cases hF1
 exact ends_a [] [] Tryz.results5
 refine awp_skip (k_seq (awp_seq (awp_region ?_)))
 refine s_mv ?_
 obtain ⟨v3, hv3, hF2⟩ := bind_some' hF1
 refine s_pure [] (m_spec_DrawFormatCore_ok fuel _ _ hv3) ?_
 refine s_alloc yZ36 ?_
 refine s_stW yS36 ?_
 refine k_nil (k_seq (awp_seq (awp_region ?_)))
 refine s_ldW yA36 yS36 ?_
 obtain ⟨v4, hv4, hF3⟩ := bind_some' hF2
 refine s_pure [] (m_impl_FormatCore_ok fuel _ _ hv4) ?_
 refine s_as ?_
 refine k_nil (k_seq (awp_seq ?_))
 refine awp_jn (α := Nat × Bool) [14, 15, 16, 17, 18, 19, 20, 21, 22, 23, 24] [] [] (fun a => [(24, .t (.sc (.bool a.2)))]) (fun a => []) (fun a => a.1 ≤ fuel ∧ m_laws_FnCoreBrackets_j1 a.1 v4 a.2 = some r) ?_ ?_
 refine awp_region ?_
 refine s_mv ?_
 refine s_ldW yA36 yS36 ?_
 obtain ⟨v5, hv5, hF4⟩ := bind_some' hF3
 refine s_pure [] (m_spec_FormatCore_ok fuel _ _ hv5) ?_
 refine s_neS ?_
 refine s_mv ?_
 refine w_guard _ 18 hF4 ?_ ?_ <;> intro hc6 hF5
 iterate 5 refine r_no rfl ?_
 refine s_pkt ?_
 refine k_nil ?_
 exact s_jn (fuel, true) ⟨by first | omega | (dsimp only; omega), hF5⟩
 refine s_mv ?_
 refine s_neS ?_
 refine s_ldW yA36 yS36 ?_
 obtain ⟨v7, hv7, hF6⟩ := bind_some' hF5
 refine s_pure [] (m_impl_CoreValid_ok fuel _ _ hv7) ?_
 refine s_neB yU4 ?_
 refine s_pkf ?_
 refine k_nil ?_
 exact s_jn (fuel, (decide ((decide (v4 ≠ (⟨#[]⟩ : ByteArray))) ≠ v7))) ⟨by first | omega | (dsimp only; omega), hF6⟩
 clear hF3
 rintro ⟨fu, g8⟩ ⟨hl9, hF4⟩
 dsimp only at hl9 hF4 ⊢
 obtain _ | fu := fu
 · rw [m_laws_FnCoreBrackets_j1] at hF4; cases hF4
 rw [m_laws_FnCoreBrackets_j1] at hF4
 refine w_cond hF4 ?_ ?_ <;> intro hc10 hF5
 refine awp_seq (awp_region ?_)
 refine s_as ?_
 refine k_nil (k_seq (awp_ret (k_seq_ret (k_fin ?_))))
 cases hF5
 exact ends_a [] [] Tryz.results5
 refine awp_skip (k_seq (awp_seq (awp_region ?_)))
 refine s_as ?_
 refine k_nil (k_seq (awp_seq (awp_seq (awp_region ?_))))
 refine s_as ?_
 refine k_nil (k_seq (awp_block ?_))
 refine awp_fr (β := Int × Int) [2, 5, 6, 25, 26, 27, 28, 29, 30, 31, 32, 33, 34, 35, 36, 37, 38, 39, 40, 41, 42, 43, 44] [] [] (fun a => [(5, .t (.sc (.int .i64 a.2.1))), (6, .t (.sc (.int .i64 a.2.2)))]) (fun a => []) (fun a => a.1 ≤ fu ∧ m_laws_FnCoreBrackets_l2 a.1 v4 a.2.1 a.2.2 = some r) (fu, 0, 0) ⟨Nat.le_refl _, hF5⟩ ?_
 clear hF5
 rintro ⟨fu, g11, g12⟩ ⟨hl13, hF6⟩
 dsimp only at hl13 hF6 ⊢
 obtain _ | fu := fu
 · rw [m_laws_FnCoreBrackets_l2] at hF6; cases hF6
 rw [m_laws_FnCoreBrackets_l2] at hF6
 refine awp_seq (awp_seq (awp_region ?_))
 refine s_mv ?_
 refine s_mv ?_
 refine s_lenS yU9 ?_
 refine s_lt ?_
 refine k_nil (k_seq ?_)
 refine w_cond hF6 ?_ ?_ <;> intro hc14 hF7
 refine awp_skip (k_seq (awp_seq (awp_block ?_)))
 refine awp_jn (α := Nat × Int) [5, 31, 32, 33, 34, 35, 36] [] [] (fun a => [(5, .t (.sc (.int .i64 a.2)))]) (fun a => []) (fun a => a.1 ≤ fu ∧ m_laws_FnCoreBrackets_j3 a.1 v4 g12 a.2 = some r) ?_ ?_
 refine awp_seq (awp_region ?_)
 refine s_mv ?_
 refine s_mv ?_
 obtain ⟨v15, hv15, hF8⟩ := bind_some' hF7
 refine s_ixS hv15 yU9 ?_
 refine s_eq ?_
 refine k_nil (k_seq ?_)
 refine w_cond hF8 ?_ ?_ <;> intro hc16 hF9
 refine awp_region ?_
 refine s_mv ?_
 refine s_add rfl ?_
 refine s_as ?_
 refine k_nil ?_
 exact s_jn (fu, (w64 (g11 + 1))) ⟨by first | omega | (dsimp only; omega), hF9⟩
 refine awp_skip ?_
 exact s_jn (fu, g11) ⟨by first | omega | (dsimp only; omega), hF9⟩
 clear hF7
 rintro ⟨fu, g17⟩ ⟨hl18, hF8⟩
 dsimp only at hl18 hF8 ⊢
 obtain _ | fu := fu
 · rw [m_laws_FnCoreBrackets_j3] at hF8; cases hF8
 rw [m_laws_FnCoreBrackets_j3] at hF8
 refine awp_jn (α := Nat × Int) [5, 37, 38, 39, 40, 41, 42] [] [] (fun a => [(5, .t (.sc (.int .i64 a.2)))]) (fun a => []) (fun a => a.1 ≤ fu ∧ m_laws_FnCoreBrackets_j4 a.1 v4 g12 a.2 = some r) ?_ ?_
 refine awp_seq (awp_region ?_)
 refine s_mv ?_
 refine s_mv ?_
 obtain ⟨v19, hv19, hF9⟩ := bind_some' hF8
 refine s_ixS hv19 yU9 ?_
 refine s_eq ?_
 refine k_nil (k_seq ?_)
 refine w_cond hF9 ?_ ?_ <;> intro hc20 hF10
 refine awp_region ?_
 refine s_mv ?_
 refine s_sub rfl ?_
 refine s_as ?_
 refine k_nil ?_
 exact s_jn (fu, (w64 (g17 - 1))) ⟨by first | omega | (dsimp only; omega), hF10⟩
 refine awp_skip ?_
 exact s_jn (fu, g17) ⟨by first | omega | (dsimp only; omega), hF10⟩
 clear hF8
 rintro ⟨fu, g21⟩ ⟨hl22, hF9⟩
 dsimp only at hl22 hF9 ⊢
 obtain _ | fu := fu
 · rw [m_laws_FnCoreBrackets_j4] at hF9; cases hF9
 rw [m_laws_FnCoreBrackets_j4] at hF9
 refine awp_seq (awp_region ?_)
 refine s_mv ?_
 refine s_lt ?_
 refine k_nil (k_seq ?_)
 refine w_cond hF9 ?_ ?_ <;> intro hc23 hF10
 refine awp_seq (awp_region ?_)
 refine s_as ?_
 refine k_nil (k_seq (awp_ret (k_blk_ret (k_seq_ret (k_rnd_ret2 (k_blk_ret (k_seq_ret (k_fin ?_))))))))
 cases hF10
 exact ends_a [] [] Tryz.results5
 refine awp_skip (k_blk (k_seq (awp_region ?_)))
 refine s_mv ?_
 refine s_add rfl ?_
 refine s_as ?_
 refine k_nil ?_
 exact s_rn (fu, g21, (w64 (g12 + 1))) ⟨by first | omega | (dsimp only; omega), hF10⟩
 refine awp_exit (k_seq_exit (k_rnd_exit2 (k_blk_exit (k_seq (awp_seq (awp_region ?_))))))
 refine s_mv ?_
 refine s_eq ?_
 refine s_as ?_
 refine k_nil (k_seq (awp_ret (k_fin ?_)))
 cases hF7
 exact ends_a [] [] Tryz.results5
end Go.Abs
