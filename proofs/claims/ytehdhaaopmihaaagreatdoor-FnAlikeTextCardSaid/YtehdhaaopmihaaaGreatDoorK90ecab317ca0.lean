/- A part of the proof: what the functions that the law calls answer, as pure values. -/
import Derived.Test.YtehdhaaopmihaaaGreatDoorK0fde71595f57
import Derived.Test.YtehdhaaopmihaaaGreatDoorK2360b66b3b0e
import Derived.Test.YtehdhaaopmihaaaGreatDoorK98906b43c573
import Derived.Test.YtehdhaaopmihaaaGreatDoorKd19899f98c41
set_option linter.unusedSimpArgs false
set_option linter.unusedVariables false
set_option maxRecDepth 100000
set_option maxHeartbeats 4000000
namespace Go.Abs
open Go.Proofs
theorem m_impl_coreText_all (fuel : Nat) : m_impl_coreText_AC fuel := by
 induction fuel using Nat.strongRecOn with
 | _ N ih =>
   cases N with
   | zero => exact (by intro x1 r h; rw [m_impl_coreText] at h; cases h)
   | succ fu => exact m_impl_coreText_st fu (fun k hk => (ih k (by omega)))
theorem m_impl_coreText_ok (fuel : Nat) : m_impl_coreText_AC fuel := (m_impl_coreText_all fuel)
def m_impl_FormatCore_AC (fuel : Nat) : Prop := ∀ (x1 : Core) (r : ByteArray), m_impl_FormatCore fuel x1 = some r → AC Tryz.prog 12 [.ag [.t (.sc (.int .i64 x1.kind)), .t (.sc (.int .i64 x1.id)), .t (.sc (.str x1.name)), .t (.sc (.int .i64 x1.n)), .t (.sl (x1.ids.map rI)), .t (.sc (.int .i64 x1.data.kind)), .t (.sc (.str x1.data.name)), .t (.sc (.int .i64 x1.data.n)), .t (.sl (x1.data.scopes.map rI)), .t (.sl (x1.data.kids.map Form.row)), .t (.sl (x1.kids.map Core.row))]] noOb (.t (.sc (.str r))) noOb
theorem m_impl_FormatCore_ok (fuel : Nat) : m_impl_FormatCore_AC fuel := by
 intro x1 r hF0
 unfold m_impl_FormatCore at hF0
 refine AC_i [.t (.sc (.str r))] Tryz.func12 rfl Tryz.ntmps12 ?_
 intro C hC
 refine awp_seq (awp_region ?_)
 refine s_box ?_
 refine s_as ?_
 refine k_nil (k_seq (awp_seq (awp_seq (awp_region ?_))))
 refine s_ldW yA36 yS36 ?_
 obtain ⟨v1, hv1, hF1⟩ := bind_some' hF0
 refine s_pure [] (m_impl_CoreValid_ok fuel _ _ hv1) ?_
 refine s_not ?_
 refine k_nil (k_seq ?_)
 refine w_cond hF1 ?_ ?_ <;> intro hc2 hF2
 refine awp_seq (awp_region ?_)
 refine s_as ?_
 refine k_nil (k_seq (awp_ret (k_seq_ret (k_fin ?_))))
 cases hF2
 exact ends_a [] [] Tryz.results12
 refine awp_skip (k_seq (awp_seq (awp_region ?_)))
 refine s_ldW yA36 yS36 ?_
 obtain ⟨v3, hv3, hF3⟩ := bind_some' hF2
 refine s_pure [] (m_impl_coreText_ok fuel _ _ hv3) ?_
 refine s_as ?_
 refine k_nil (k_seq (awp_ret (k_fin ?_)))
 cases hF3
 exact ends_a [] [] Tryz.results12
def m_spec_l15Open_AC (fuel : Nat) : Prop := ∀ (x1 : (List Int)) (r : l15Rd), m_spec_l15Open fuel x1 = some r → AC Tryz.prog 67 [.t (.sl (x1.map rB))] (objs []) (.rf 10 0) (objs [(10, .box [.t (.sl (r.b.map rB)), .t (.sc (.int .i64 r.p))])])
theorem m_spec_l15Open_ok (fuel : Nat) : m_spec_l15Open_AC fuel := by
 intro x1 r hF0
 unfold m_spec_l15Open at hF0
 refine AC_i [.rf 10 0] Tryz.func67 rfl Tryz.ntmps67 ?_
 intro C hC
 refine awp_seq (awp_region ?_)
 refine s_as ?_
 refine k_nil (k_seq (awp_seq (awp_seq (awp_region ?_))))
 refine s_mv ?_
 refine s_lenT yU40 ?_
 refine s_gt ?_
 refine k_nil (k_seq ?_)
 refine w_cond hF0 ?_ ?_ <;> intro hc1 hF1
 refine awp_lenT 0 (fun hb2 => ?_)
 refine awp_region ?_
 refine s_mv ?_
 obtain ⟨v3, hv3, hF2⟩ := bind_some' hF1
 refine s_sl01 rB (fun _ => rfl) hv3 yU40 yE40 ?_
 refine s_as ?_
 refine k_nil (k_seq (awp_seq (awp_region ?_)))
 refine s_mv ?_
 refine s_bld yZ121 yL121 ?_
 refine s_box ?_
 refine s_as ?_
 refine k_nil (k_seq (awp_ret (k_fin ?_)))
 cases hF2
 exact ends_a _ [] Tryz.results67
 refine awp_skip (k_seq (awp_seq (awp_region ?_)))
 refine s_mv ?_
 refine s_bld yZ121 yL121 ?_
 refine s_box ?_
 refine s_as ?_
 refine k_nil (k_seq (awp_ret (k_fin ?_)))
 cases hF1
 exact ends_a _ [] Tryz.results67
def m_spec_l15Rd_pick_AC (fuel : Nat) : Prop := ∀ (o1 : l15Rd) (x2 : Int) (r : (Int × l15Rd)), m_spec_l15Rd_pick fuel o1 x2 = some r → AC Tryz.prog 82 [.rf 9000 0, .t (.sc (.int .i64 x2))] (objs [(9000, .box [.t (.sl (o1.b.map rB)), .t (.sc (.int .i64 o1.p))])]) (.t (.sc (.int .i64 r.1))) (objs [(9000, .box [.t (.sl (r.2.b.map rB)), .t (.sc (.int .i64 r.2.p))])])
theorem m_spec_l15Rd_pick_ok (fuel : Nat) : m_spec_l15Rd_pick_AC fuel := by
 intro o1 x2 r hF0
 unfold m_spec_l15Rd_pick at hF0
 refine AC_i [.t (.sc (.int .i64 r.1))] Tryz.func82 rfl Tryz.ntmps82 ?_
 intro C hC
 refine awp_seq (awp_region ?_)
 refine s_as ?_
 refine k_nil (k_seq (awp_seq (awp_region ?_)))
 refine s_mv ?_
 refine s_mv ?_
 refine s_nc ?_
 refine s_fa yF121_1 ?_
 refine s_ld1 yA3 ?_
 refine s_add rfl ?_
 refine s_nc ?_
 refine s_fa yF121_1 ?_
 refine s_stP yS3 ?_
 refine k_nil (k_seq (awp_seq (awp_seq (awp_region ?_))))
 refine s_mv ?_
 refine s_lt ?_
 refine s_mv ?_
 refine w_guard _ 17 hF0 ?_ ?_ <;> intro hc1 hF1
 iterate 6 refine r_no rfl ?_
 refine s_pkt ?_
 refine k_nil (k_seq (awp_true rfl (awp_seq (awp_region ?_))))
 refine s_as ?_
 refine k_nil (k_seq (awp_ret (k_seq_ret (k_fin ?_))))
 cases hF1
 exact ends_a _ [] Tryz.results82
 refine s_mv ?_
 refine s_nc ?_
 refine s_fa yF121_0 ?_
 refine s_ld1 yA40 ?_
 refine s_lenT yU40 ?_
 refine s_eq ?_
 refine s_pkf ?_
 refine k_nil (k_seq ?_)
 refine w_cond hF1 ?_ ?_ <;> intro hc2 hF2
 refine awp_seq (awp_region ?_)
 refine s_as ?_
 refine k_nil (k_seq (awp_ret (k_seq_ret (k_fin ?_))))
 cases hF2
 exact ends_a _ [] Tryz.results82
 refine awp_skip (k_seq (awp_seq (awp_region ?_)))
 refine s_mv ?_
 refine s_nc ?_
 refine s_fa yF121_1 ?_
 refine s_ld1 yA3 ?_
 refine s_sub rfl ?_
 refine s_as ?_
 refine k_nil (k_seq (awp_seq (awp_seq (awp_region ?_))))
 refine s_mv ?_
 refine s_mv ?_
 refine s_nc ?_
 refine s_fa yF121_0 ?_
 refine s_ld1 yA40 ?_
 refine s_lenT yU40 ?_
 refine s_lt ?_
 refine k_nil (k_seq ?_)
 refine w_cond hF2 ?_ ?_ <;> intro hc3 hF3
 refine awp_seq (awp_region ?_)
 refine s_mv ?_
 refine s_nc ?_
 refine s_fa yF121_0 ?_
 refine s_ld1 yA40 ?_
 refine s_mv ?_
 obtain ⟨v4, hv4, hF4⟩ := bind_some' hF3
 refine s_ixT rB hv4 rfl yE40 ?_
 refine s_ld1 yA5 ?_
 refine s_int yU5 yU3 rfl ?_
 refine s_mv ?_
 obtain ⟨hk5, hF5⟩ := chk_some hF4
 refine s_rem (h0 := not_zero hk5) ?_
 refine s_as ?_
 refine k_nil (k_seq (awp_ret (k_seq_ret (k_fin ?_))))
 cases hF5
 exact ends_a _ [] Tryz.results82
 refine awp_skip (k_seq (awp_seq ?_))
 refine awp_draw yMix (by kernel_rfl) ?_
 refine s_mv0 ?_
 refine s_nc ?_
 refine s_fa yF121_0 ?_
 refine s_ld1 yA40 ?_
 refine s_mv ?_
 refine s_mv0 ?_
 refine s_nc ?_
 refine s_fa yF121_0 ?_
 refine s_ld1 yA40 ?_
 refine s_lenT yU40 ?_
 obtain ⟨hk6, hF4⟩ := chk_some hF3
 refine s_rem (h0 := not_zero hk6) ?_
 obtain ⟨v7, hv7, hF5⟩ := bind_some' hF4
 refine s_ixT rB hv7 rfl yE40 ?_
 refine s_ld1 yA5 ?_
 refine s_int yU5 yU3 rfl ?_
 refine s_mul rfl ?_
 refine s_mv0 ?_
 refine s_nc ?_
 refine s_fa yF121_0 ?_
 refine s_ld1 yA40 ?_
 refine s_mv ?_
 refine s_mul rfl ?_
 refine s_add rfl ?_
 refine s_mv0 ?_
 refine s_nc ?_
 refine s_fa yF121_0 ?_
 refine s_ld1 yA40 ?_
 refine s_lenT yU40 ?_
 obtain ⟨hk8, hF6⟩ := chk_some hF5
 refine s_rem (h0 := not_zero hk8) ?_
 obtain ⟨v9, hv9, hF7⟩ := bind_some' hF6
 refine s_ixT rB hv9 rfl yE40 ?_
 refine s_ld1 yA5 ?_
 refine s_int yU5 yU3 rfl ?_
 refine s_mul rfl ?_
 refine s_add rfl ?_
 refine s_mv ?_
 refine s_mul rfl ?_
 refine s_add rfl ?_
 refine s_mv ?_
 refine s_mv0 ?_
 refine s_nc ?_
 refine s_fa yF121_0 ?_
 refine s_ld1 yA40 ?_
 refine s_lenT yU40 ?_
 obtain ⟨hk10, hF8⟩ := chk_some hF7
 refine s_quo (h0 := not_zero hk10) rfl ?_
 refine s_mul rfl ?_
 refine s_add rfl ?_
 refine s_as ?_
 refine k_nilD (by kernel_rfl) ?_
 refine k_seq (awp_seq (awp_region ?_))
 refine s_mv ?_
 refine s_mv ?_
 refine s_quo rfl ?_
 refine s_xor rfl ?_
 refine s_as ?_
 refine k_nil (k_seq (awp_seq (awp_region ?_)))
 refine s_mv ?_
 refine s_mv ?_
 obtain ⟨hk11, hF9⟩ := chk_some hF8
 refine s_rem (h0 := not_zero hk11) ?_
 refine s_as ?_
 refine k_nil (k_seq (awp_ret (k_fin ?_)))
 cases hF9
 exact ends_a _ [] Tryz.results82
def m_spec_l15Rd_num_AC (fuel : Nat) : Prop := ∀ (o1 : l15Rd) (x2 : (List Int)) (r : (Int × l15Rd)), m_spec_l15Rd_num fuel o1 x2 = some r → AC Tryz.prog 86 [.rf 9000 0, .t (.sl (x2.map rI))] (objs [(9000, .box [.t (.sl (o1.b.map rB)), .t (.sc (.int .i64 o1.p))])]) (.t (.sc (.int .i64 r.1))) (objs [(9000, .box [.t (.sl (r.2.b.map rB)), .t (.sc (.int .i64 r.2.p))])])
theorem m_spec_l15Rd_num_ok (fuel : Nat) : m_spec_l15Rd_num_AC fuel := by
 intro o1 x2 r hF0
 unfold m_spec_l15Rd_num at hF0
 refine AC_i [.t (.sc (.int .i64 r.1))] Tryz.func86 rfl Tryz.ntmps86 ?_
 intro C hC
 refine awp_seq (awp_region ?_)
 refine s_as ?_
 refine k_nil (k_seq (awp_seq (awp_region ?_)))
 iterate 3 refine s_mv ?_
 refine s_lenT yU22 ?_
 obtain ⟨v1, hv1, hF1⟩ := bind_some' hF0
 refine s_call [(9000, 9000)] [] _ _ (m_spec_l15Rd_pick_ok fuel _ _ _ hv1) ?_
 obtain ⟨v2, hv2, hF2⟩ := bind_some' hF1
 refine s_ixT rI hv2 rfl yE22 ?_
 refine s_ld1 yA3 ?_
 refine s_as ?_
 refine k_nil (k_seq (awp_ret (k_fin ?_)))
 cases hF2
 exact ends_a _ [] Tryz.results86
def m_spec_l15Rd_of_AC (fuel : Nat) : Prop := ∀ (o1 : l15Rd) (x2 : (List ByteArray)) (r : (ByteArray × l15Rd)), m_spec_l15Rd_of fuel o1 x2 = some r → AC Tryz.prog 105 [.rf 9000 0, .t (.sl (x2.map rS))] (objs [(9000, .box [.t (.sl (o1.b.map rB)), .t (.sc (.int .i64 o1.p))])]) (.t (.sc (.str r.1))) (objs [(9000, .box [.t (.sl (r.2.b.map rB)), .t (.sc (.int .i64 r.2.p))])])
theorem m_spec_l15Rd_of_ok (fuel : Nat) : m_spec_l15Rd_of_AC fuel := by
 intro o1 x2 r hF0
 unfold m_spec_l15Rd_of at hF0
 refine AC_i [.t (.sc (.str r.1))] Tryz.func105 rfl Tryz.ntmps105 ?_
 intro C hC
 refine awp_seq (awp_region ?_)
 refine s_as ?_
 refine k_nil (k_seq (awp_seq (awp_region ?_)))
 iterate 3 refine s_mv ?_
 refine s_lenT yU50 ?_
 obtain ⟨v1, hv1, hF1⟩ := bind_some' hF0
 refine s_call [(9000, 9000)] [] _ _ (m_spec_l15Rd_pick_ok fuel _ _ _ hv1) ?_
 obtain ⟨v2, hv2, hF2⟩ := bind_some' hF1
 refine s_ixT rS hv2 rfl yE50 ?_
 refine s_ld1 yA9 ?_
 refine s_as ?_
 refine k_nil (k_seq (awp_ret (k_fin ?_)))
 cases hF2
 exact ends_a _ [] Tryz.results105
def m_spec_l1Name_AC (fuel : Nat) : Prop := ∀ (x1 : ByteArray) (r : Form), m_spec_l1Name fuel x1 = some r → AC Tryz.prog 107 [.t (.sc (.str x1))] noOb (.ag [.t (.sc (.int .i64 r.kind)), .t (.sc (.str r.name)), .t (.sc (.int .i64 r.n)), .t (.sl (r.scopes.map rI)), .t (.sl (r.kids.map Form.row))]) noOb
theorem m_spec_l1Name_ok (fuel : Nat) : m_spec_l1Name_AC fuel := by
 intro x1 r hF0
 unfold m_spec_l1Name at hF0
 refine AC_i [.ag [.t (.sc (.int .i64 r.kind)), .t (.sc (.str r.name)), .t (.sc (.int .i64 r.n)), .t (.sl (r.scopes.map rI)), .t (.sl (r.kids.map Form.row))]] Tryz.func107 rfl Tryz.ntmps107 ?_
 intro C hC
 refine awp_seq (awp_region ?_)
 refine s_alloc yZ33 ?_
 refine k_nil (k_seq (awp_seq (awp_region ?_)))
 refine s_mv ?_
 refine s_bld yZ33 yL33 ?_
 refine s_stW yS33 ?_
 refine k_nil (k_seq (awp_ret (k_fin ?_)))
 cases hF0
 exact ends_gen [] [] (by rw [Tryz.results107]; exact (res_agg (by conv => lhs; whnf) (by conv => lhs; whnf) yA33 yS33 rfl res_nil))
def m_spec_l1Some_AC (fuel : Nat) : Prop := ∀ (o1 : l15Rd) (x2 : Int) (r : (Form × l15Rd)), m_spec_l1Some fuel o1 x2 = some r → AC Tryz.prog 70 [.rf 9000 0, .t (.sc (.int .i64 x2))] (objs [(9000, .box [.t (.sl (o1.b.map rB)), .t (.sc (.int .i64 o1.p))])]) (.ag [.t (.sc (.int .i64 r.1.kind)), .t (.sc (.str r.1.name)), .t (.sc (.int .i64 r.1.n)), .t (.sl (r.1.scopes.map rI)), .t (.sl (r.1.kids.map Form.row))]) (objs [(9000, .box [.t (.sl (r.2.b.map rB)), .t (.sc (.int .i64 r.2.p))])])
theorem m_spec_l1Some_st (fu : Nat) (ih_m_spec_l1Some : ∀ k, k ≤ fu → m_spec_l1Some_AC k) : m_spec_l1Some_AC (fu + 1) := by
 intro o1 x2 r hF0
 rw [m_spec_l1Some] at hF0
 refine AC_i [.ag [.t (.sc (.int .i64 r.1.kind)), .t (.sc (.str r.1.name)), .t (.sc (.int .i64 r.1.n)), .t (.sl (r.1.scopes.map rI)), .t (.sl (r.1.kids.map Form.row))]] Tryz.func70 rfl Tryz.ntmps70 ?_
 intro C hC
 refine awp_seq (awp_region ?_)
 refine s_alloc yZ33 ?_
 refine k_nil (k_seq (awp_seq (awp_seq (awp_region ?_))))
 refine s_mv ?_
 refine s_eq ?_
 refine s_mv ?_
 refine w_guard _ 9 hF0 ?_ ?_ <;> intro hc1 hF1
 iterate 3 refine r_no rfl ?_
 refine s_pkt ?_
 refine k_nil (k_seq (awp_true rfl (awp_seq (awp_seq (awp_region ?_)))))
 refine s_mv ?_
 obtain ⟨v2, hv2, hF2⟩ := bind_some' hF1
 refine s_call [(9000, 9000)] [] _ _ (m_spec_l15Rd_pick_ok fu _ _ _ hv2) ?_
 refine s_eq ?_
 refine k_nil (k_seq ?_)
 refine w_cond hF2 ?_ ?_ <;> intro hc3 hF3
 refine awp_seq (awp_region ?_)
 refine s_mv ?_
 refine s_bs rI [0, 1, 2, 7, 42, 999] yP22 yR3 ?_
 obtain ⟨v4, hv4, hF4⟩ := bind_some' hF3
 refine s_call [(9000, 9000)] [18] _ _ (m_spec_l15Rd_num_ok fu _ _ _ hv4) ?_
 refine s_bld yZ33 yL33 ?_
 refine s_stW yS33 ?_
 refine k_nil (k_seq (awp_ret (k_seq_ret (k_seq_ret (k_fin ?_)))))
 cases hF4
 exact ends_gen _ [] (by rw [Tryz.results70]; exact (res_agg (by conv => lhs; whnf) (by conv => lhs; whnf) yA33 yS33 rfl res_nil))
 refine awp_skip (k_seq (awp_seq (awp_region ?_)))
 refine s_mv ?_
 refine s_bs rS [(⟨#[97]⟩ : ByteArray), (⟨#[98]⟩ : ByteArray), (⟨#[120]⟩ : ByteArray), (⟨#[121]⟩ : ByteArray), (⟨#[102]⟩ : ByteArray), (⟨#[105, 102]⟩ : ByteArray), (⟨#[108, 101, 116]⟩ : ByteArray), (⟨#[43]⟩ : ByteArray)] yP50 yR9 ?_
 obtain ⟨v5, hv5, hF4⟩ := bind_some' hF3
 refine s_call [(9000, 9000)] [22] _ _ (m_spec_l15Rd_of_ok fu _ _ _ hv5) ?_
 obtain ⟨v6, hv6, hF5⟩ := bind_some' hF4
 refine s_pure [] (m_spec_l1Name_ok fu _ _ hv6) ?_
 refine s_stW yS33 ?_
 refine k_nil (k_seq (awp_ret (k_seq_ret (k_fin ?_))))
 cases hF5
 exact ends_gen _ [] (by rw [Tryz.results70]; exact (res_agg (by conv => lhs; whnf) (by conv => lhs; whnf) yA33 yS33 rfl res_nil))
 refine s_mv ?_
 obtain ⟨v7, hv7, hF2⟩ := bind_some' hF1
 refine s_call [(9000, 9000)] [] _ _ (m_spec_l15Rd_pick_ok fu _ _ _ hv7) ?_
 refine s_eq ?_
 refine s_pkf ?_
 refine k_nil (k_seq ?_)
 refine w_cond hF2 ?_ ?_ <;> intro hc8 hF3
 refine awp_seq (awp_seq (awp_region ?_))
 refine s_mv ?_
 obtain ⟨v9, hv9, hF4⟩ := bind_some' hF3
 refine s_call [(9000, 9000)] [] _ _ (m_spec_l15Rd_pick_ok fu _ _ _ hv9) ?_
 refine s_eq ?_
 refine k_nil (k_seq ?_)
 refine w_cond hF4 ?_ ?_ <;> intro hc10 hF5
 refine awp_seq (awp_region ?_)
 refine s_mv ?_
 refine s_bs rI [0, 1, 2, 7, 42, 999] yP22 yR3 ?_
 obtain ⟨v11, hv11, hF6⟩ := bind_some' hF5
 refine s_call [(9000, 9000)] [18] _ _ (m_spec_l15Rd_num_ok fu _ _ _ hv11) ?_
 refine s_bld yZ33 yL33 ?_
 refine s_stW yS33 ?_
 refine k_nil (k_seq (awp_ret (k_seq_ret (k_seq_ret (k_fin ?_)))))
 cases hF6
 exact ends_gen _ [] (by rw [Tryz.results70]; exact (res_agg (by conv => lhs; whnf) (by conv => lhs; whnf) yA33 yS33 rfl res_nil))
 refine awp_skip (k_seq (awp_seq (awp_region ?_)))
 refine s_mv ?_
 refine s_bs rS [(⟨#[97]⟩ : ByteArray), (⟨#[98]⟩ : ByteArray), (⟨#[120]⟩ : ByteArray), (⟨#[121]⟩ : ByteArray), (⟨#[102]⟩ : ByteArray), (⟨#[105, 102]⟩ : ByteArray), (⟨#[108, 101, 116]⟩ : ByteArray), (⟨#[43]⟩ : ByteArray)] yP50 yR9 ?_
 obtain ⟨v12, hv12, hF6⟩ := bind_some' hF5
 refine s_call [(9000, 9000)] [22] _ _ (m_spec_l15Rd_of_ok fu _ _ _ hv12) ?_
 obtain ⟨v13, hv13, hF7⟩ := bind_some' hF6
 refine s_pure [] (m_spec_l1Name_ok fu _ _ hv13) ?_
 refine s_stW yS33 ?_
 refine k_nil (k_seq (awp_ret (k_seq_ret (k_fin ?_))))
 cases hF7
 exact ends_gen _ [] (by rw [Tryz.results70]; exact (res_agg (by conv => lhs; whnf) (by conv => lhs; whnf) yA33 yS33 rfl res_nil))
 refine awp_skip (k_seq (awp_seq (awp_region ?_)))
 refine s_bld yZ33 yL33 ?_
 refine s_alloc yZ33 ?_
 refine s_stW yS33 ?_
 refine k_nil (k_seq (awp_seq (awp_seq (awp_region ?_))))
 refine s_mv ?_
 obtain ⟨v14, hv14, hF4⟩ := bind_some' hF3
 refine s_call [(9000, 9000)] [] _ _ (m_spec_l15Rd_pick_ok fu _ _ _ hv14) ?_
 refine s_as ?_
 refine k_nil (k_seq (awp_block ?_))
 refine awp_ownB 5 5020 33 [.t (.sc (.int .i64 3)), .t (.sc (.str (⟨#[]⟩ : ByteArray))), .t (.sc (.int .i64 0)), .nl, .ar 5020] yI33.choose_spec ?_
 refine awp_frame2 [6, 28, 29, 30, 31, 32, 33, 34, 35, 36, 37, 38, 39, 40] [5, 5020, 9000] [38, 39] [5020] (fun a : Nat × Int × (List Int) × Int × (List Form) => a.1) (fun a : Nat × Int × (List Int) × Int × (List Form) => [(6, .t (.sc (.int .i64 a.2.1)))]) (fun a : Nat × Int × (List Int) × Int × (List Form) => [(5, .box [.t (.sc (.int .i64 3)), .t (.sc (.str (⟨#[]⟩ : ByteArray))), .t (.sc (.int .i64 0)), .nl, .ar 5020]), (5020, .arr (a.2.2.2.2.map Form.row) 33 true), (9000, .box [.t (.sl (a.2.2.1.map rB)), .t (.sc (.int .i64 a.2.2.2.1))])]) (fun a : Nat × Int × (List Int) × Int × (List Form) => a.1 ≤ fu ∧ m_spec_l1Some_l1 a.1 x2 a.2.1 a.2.2.1 a.2.2.2.1 a.2.2.2.2 = some r) (fu, v14.1, v14.2.b, v14.2.p, ([] : List Form)) ⟨Nat.le_refl _, hF4⟩ (by rfl) (by rfl) (fun _ => rfl) (hasF_cons (by conv => lhs; whnf) (by rfl) hasF_nil) (hasO_cons (by conv => lhs; whnf) (by rfl) (hasO_cons (by conv => lhs; whnf) (by rfl) (hasO_cons (by conv => lhs; whnf) (by rfl) hasO_nil))) (fresh_C hC rfl) (by repeat (first | exact freshS_args rfl | refine freshS_upd rfl ?_ | refine freshS_frame rfl ?_)) (by repeat (first | exact freshM_no | exact objs_fresh rfl | refine freshM_upd rfl ?_ | refine freshM_frame rfl ?_)) ?_
 clear hF4
 rintro ⟨fu, g15, g16, g17, g18⟩ ⟨hl19, hF5⟩
 dsimp only at hl19 hF5 ⊢
 obtain _ | fu := fu
 · rw [m_spec_l1Some_l1] at hF5; cases hF5
 rw [m_spec_l1Some_l1] at hF5
 refine awp_seq (awp_seq (awp_region ?_))
 refine s_mv ?_
 refine s_gt ?_
 refine k_nil (k_seq ?_)
 refine w_cond hF5 ?_ ?_ <;> intro hc20 hF6
 refine awp_skip (k_seq (awp_seq (awp_block ?_)))
 refine awp_draw yMix (by kernel_rfl) ?_
 refine s_fa yF33_4 ?_
 refine s_ld1 yA31 ?_
 refine s_mv0 ?_
 refine s_mv ?_
 refine s_sub rfl ?_
 obtain ⟨v21, hv21, hF7⟩ := bind_some' hF6
 refine s_call [(9000, 9000)] [] _ _ (ih_m_spec_l1Some fu (by omega) _ _ _ hv21) ?_
 refine s_bs Form.row [v21.1] yP31 yR33 ?_
 obtain ⟨hk22, hF8⟩ := chk_some hF7
 refine s_apT Form.row (fun y => Form.row_len y) hk22 yP31 ?_
 refine s_fa yF33_4 ?_
 refine s_stP yS31 ?_
 refine k_nilD (by kernel_rfl) ?_
 refine k_blk (k_seq (awp_region ?_))
 refine s_mv ?_
 refine s_sub rfl ?_
 refine s_as ?_
 refine k_nil ?_
 exact s_rn (fu, (w64 (g15 - 1)), v21.2.b, v21.2.p, (g18 ++ [v21.1])) ⟨by first | omega | (dsimp only; omega), hF8⟩ [(5020, 39)]
 refine awp_exit (k_seq_exit (k_rnd_exit2 (k_blk_exit (k_seq (awp_seq (awp_region ?_))))))
 refine s_ldW yA33 yS33 ?_
 refine s_stW yS33 ?_
 refine k_nil (k_seq (awp_ret (k_fin ?_)))
 cases hF6
 exact ends_gen _ [5020] (by rw [Tryz.results70]; exact (res_agg (by conv => lhs; whnf) (by conv => lhs; whnf) yA33 yS33 rfl res_nil))
theorem m_spec_l1Some_all (fuel : Nat) : m_spec_l1Some_AC fuel := by
 induction fuel using Nat.strongRecOn with
 | _ N ih =>
   cases N with
   | zero => exact (by intro o1 x2 r h; rw [m_spec_l1Some] at h; cases h)
   | succ fu => exact m_spec_l1Some_st fu (fun k hk => (ih k (by omega)))
theorem m_spec_l1Some_ok (fuel : Nat) : m_spec_l1Some_AC fuel := (m_spec_l1Some_all fuel)
def m_spec_l6Some_AC (fuel : Nat) : Prop := ∀ (o1 : l15Rd) (x2 : (List Int)) (x3 : Int) (x4 : Int) (r : (Core × Int × l15Rd)), m_spec_l6Some fuel o1 x2 x3 x4 = some r → AC Tryz.prog 85 [.rf 9000 0, .t (.sl (x2.map rI)), .t (.sc (.int .i64 x3)), .t (.sc (.int .i64 x4))] (objs [(9000, .box [.t (.sl (o1.b.map rB)), .t (.sc (.int .i64 o1.p))])]) (.tp [.ag [.t (.sc (.int .i64 r.1.kind)), .t (.sc (.int .i64 r.1.id)), .t (.sc (.str r.1.name)), .t (.sc (.int .i64 r.1.n)), .t (.sl (r.1.ids.map rI)), .t (.sc (.int .i64 r.1.data.kind)), .t (.sc (.str r.1.data.name)), .t (.sc (.int .i64 r.1.data.n)), .t (.sl (r.1.data.scopes.map rI)), .t (.sl (r.1.data.kids.map Form.row)), .t (.sl (r.1.kids.map Core.row))], .t (.sc (.int .i64 r.2.1))]) (objs [(9000, .box [.t (.sl (r.2.2.b.map rB)), .t (.sc (.int .i64 r.2.2.p))])])
theorem m_spec_l6Some_st (fu : Nat) (ih_m_spec_l6Some : ∀ k, k ≤ fu → m_spec_l6Some_AC k) : m_spec_l6Some_AC (fu + 1) := by
 intro o1 x2 x3 x4 r hF0
 rw [m_spec_l6Some] at hF0
 refine AC_i [.ag [.t (.sc (.int .i64 r.1.kind)), .t (.sc (.int .i64 r.1.id)), .t (.sc (.str r.1.name)), .t (.sc (.int .i64 r.1.n)), .t (.sl (r.1.ids.map rI)), .t (.sc (.int .i64 r.1.data.kind)), .t (.sc (.str r.1.data.name)), .t (.sc (.int .i64 r.1.data.n)), .t (.sl (r.1.data.scopes.map rI)), .t (.sl (r.1.data.kids.map Form.row)), .t (.sl (r.1.kids.map Core.row))], .t (.sc (.int .i64 r.2.1))] Tryz.func85 rfl Tryz.ntmps85 ?_
 intro C hC
 refine awp_seq (awp_region ?_)
 refine s_alloc yZ36 ?_
 refine s_as ?_
 refine k_nil (k_seq (awp_seq (awp_seq (awp_region ?_))))
 refine s_mv ?_
 refine s_eq ?_
 refine s_mv ?_
 refine w_guard _ 18 hF0 ?_ ?_ <;> intro hc1 hF1
 iterate 3 refine r_no rfl ?_
 refine s_pkt ?_
 refine k_nil (k_seq (awp_true rfl (awp_seq (awp_seq (awp_region ?_)))))
 refine s_mv ?_
 refine s_lenT yU22 ?_
 refine s_gt ?_
 refine s_mv ?_
 refine w_guard _ 26 hF1 ?_ ?_ <;> intro hc2 hF2
 refine s_mv ?_
 obtain ⟨v3, hv3, hF3⟩ := bind_some' hF2
 refine s_call [(9000, 9000)] [] _ _ (m_spec_l15Rd_pick_ok fu _ _ _ hv3) ?_
 refine s_gt ?_
 refine s_pkt ?_
 refine k_nil (k_seq ?_)
 refine w_cond hF3 ?_ ?_ <;> intro hc4 hF4
 refine awp_seq (awp_region ?_)
 iterate 3 refine s_mv ?_
 refine s_lenT yU22 ?_
 obtain ⟨v5, hv5, hF5⟩ := bind_some' hF4
 refine s_call [(9000, 9000)] [] _ _ (m_spec_l15Rd_pick_ok fu _ _ _ hv5) ?_
 obtain ⟨v6, hv6, hF6⟩ := bind_some' hF5
 refine s_ixT rI hv6 rfl yE22 ?_
 refine s_ld1 yA3 ?_
 refine s_bld yZ36 yL36 ?_
 refine s_mv ?_
 refine s_stW yS36 ?_
 refine s_as ?_
 refine k_nil (k_seq (awp_ret (k_seq_ret (k_seq_ret (k_fin ?_)))))
 cases hF6
 exact ends_gen _ [] (by rw [Tryz.results85]; exact (res_agg (by conv => lhs; whnf) (by conv => lhs; whnf) yA36 yS36 rfl (res_tmp (by conv => lhs; whnf) res_nil)))
 refine awp_skip (k_seq (awp_seq (awp_seq (awp_region ?_))))
 refine s_mv ?_
 obtain ⟨v7, hv7, hF5⟩ := bind_some' hF4
 refine s_call [(9000, 9000)] [] _ _ (m_spec_l15Rd_pick_ok fu _ _ _ hv7) ?_
 refine k_nil (k_seq (awp_block (awp_seq (awp_region ?_))))
 refine s_eq ?_
 refine s_as ?_
 refine k_nil (k_seq ?_)
 refine w_cond hF5 ?_ ?_ <;> intro hc8 hF6
 refine awp_seq (awp_region ?_)
 refine s_mv ?_
 obtain ⟨v9, hv9, hF7⟩ := bind_some' hF6
 refine s_call [(9000, 9000)] [] _ _ (m_spec_l1Some_ok fu _ _ _ hv9) ?_
 refine s_bld yZ36 yL36 ?_
 refine s_mv ?_
 refine s_stW yS36 ?_
 refine s_as ?_
 refine k_nil (k_seq (awp_ret (k_blk_ret (k_seq_ret (k_seq_ret (k_fin ?_))))))
 cases hF7
 exact ends_gen _ [] (by rw [Tryz.results85]; exact (res_agg (by conv => lhs; whnf) (by conv => lhs; whnf) yA36 yS36 rfl (res_tmp (by conv => lhs; whnf) res_nil)))
 refine awp_seq (awp_region ?_)
 refine s_eq ?_
 refine s_as ?_
 refine k_nil (k_seq ?_)
 refine w_cond hF6 ?_ ?_ <;> intro hc10 hF7
 refine awp_seq (awp_region ?_)
 refine s_mv ?_
 refine s_bs rS [(⟨#[102]⟩ : ByteArray), (⟨#[43]⟩ : ByteArray), (⟨#[108, 105, 115, 116]⟩ : ByteArray)] yP50 yR9 ?_
 obtain ⟨v11, hv11, hF8⟩ := bind_some' hF7
 refine s_call [(9000, 9000)] [51] _ _ (m_spec_l15Rd_of_ok fu _ _ _ hv11) ?_
 refine s_bld yZ36 yL36 ?_
 refine s_mv ?_
 refine s_stW yS36 ?_
 refine s_as ?_
 refine k_nil (k_seq (awp_ret (k_blk_ret (k_seq_ret (k_seq_ret (k_fin ?_))))))
 cases hF8
 exact ends_gen _ [] (by rw [Tryz.results85]; exact (res_agg (by conv => lhs; whnf) (by conv => lhs; whnf) yA36 yS36 rfl (res_tmp (by conv => lhs; whnf) res_nil)))
 refine awp_skip (k_blk (k_seq (awp_seq (awp_region ?_))))
 refine s_mv ?_
 refine s_bs rI [0, 1, 5, 42] yP22 yR3 ?_
 obtain ⟨v12, hv12, hF8⟩ := bind_some' hF7
 refine s_call [(9000, 9000)] [56] _ _ (m_spec_l15Rd_num_ok fu _ _ _ hv12) ?_
 refine s_bld yZ36 yL36 ?_
 refine s_mv ?_
 refine s_stW yS36 ?_
 refine s_as ?_
 refine k_nil (k_seq (awp_ret (k_seq_ret (k_fin ?_))))
 cases hF8
 exact ends_gen _ [] (by rw [Tryz.results85]; exact (res_agg (by conv => lhs; whnf) (by conv => lhs; whnf) yA36 yS36 rfl (res_tmp (by conv => lhs; whnf) res_nil)))
 iterate 3 refine r_no rfl ?_
 refine s_pkf ?_
 refine k_nil (k_seq (awp_false rfl (awp_skip (k_seq (awp_seq (awp_seq (awp_region ?_)))))))
 refine s_mv ?_
 obtain ⟨v13, hv13, hF3⟩ := bind_some' hF2
 refine s_call [(9000, 9000)] [] _ _ (m_spec_l15Rd_pick_ok fu _ _ _ hv13) ?_
 refine k_nil (k_seq (awp_block (awp_seq (awp_region ?_))))
 refine s_eq ?_
 refine s_as ?_
 refine k_nil (k_seq ?_)
 refine w_cond hF3 ?_ ?_ <;> intro hc14 hF4
 refine awp_seq (awp_region ?_)
 refine s_mv ?_
 obtain ⟨v15, hv15, hF5⟩ := bind_some' hF4
 refine s_call [(9000, 9000)] [] _ _ (m_spec_l1Some_ok fu _ _ _ hv15) ?_
 refine s_bld yZ36 yL36 ?_
 refine s_mv ?_
 refine s_stW yS36 ?_
 refine s_as ?_
 refine k_nil (k_seq (awp_ret (k_blk_ret (k_seq_ret (k_seq_ret (k_fin ?_))))))
 cases hF5
 exact ends_gen _ [] (by rw [Tryz.results85]; exact (res_agg (by conv => lhs; whnf) (by conv => lhs; whnf) yA36 yS36 rfl (res_tmp (by conv => lhs; whnf) res_nil)))
 refine awp_seq (awp_region ?_)
 refine s_eq ?_
 refine s_as ?_
 refine k_nil (k_seq ?_)
 refine w_cond hF4 ?_ ?_ <;> intro hc16 hF5
 refine awp_seq (awp_region ?_)
 refine s_mv ?_
 refine s_bs rS [(⟨#[102]⟩ : ByteArray), (⟨#[43]⟩ : ByteArray), (⟨#[108, 105, 115, 116]⟩ : ByteArray)] yP50 yR9 ?_
 obtain ⟨v17, hv17, hF6⟩ := bind_some' hF5
 refine s_call [(9000, 9000)] [51] _ _ (m_spec_l15Rd_of_ok fu _ _ _ hv17) ?_
 refine s_bld yZ36 yL36 ?_
 refine s_mv ?_
 refine s_stW yS36 ?_
 refine s_as ?_
 refine k_nil (k_seq (awp_ret (k_blk_ret (k_seq_ret (k_seq_ret (k_fin ?_))))))
 cases hF6
 exact ends_gen _ [] (by rw [Tryz.results85]; exact (res_agg (by conv => lhs; whnf) (by conv => lhs; whnf) yA36 yS36 rfl (res_tmp (by conv => lhs; whnf) res_nil)))
 refine awp_skip (k_blk (k_seq (awp_seq (awp_region ?_))))
 refine s_mv ?_
 refine s_bs rI [0, 1, 5, 42] yP22 yR3 ?_
 obtain ⟨v18, hv18, hF6⟩ := bind_some' hF5
 refine s_call [(9000, 9000)] [56] _ _ (m_spec_l15Rd_num_ok fu _ _ _ hv18) ?_
 refine s_bld yZ36 yL36 ?_
 refine s_mv ?_
 refine s_stW yS36 ?_
 refine s_as ?_
 refine k_nil (k_seq (awp_ret (k_seq_ret (k_fin ?_))))
 cases hF6
 exact ends_gen _ [] (by rw [Tryz.results85]; exact (res_agg (by conv => lhs; whnf) (by conv => lhs; whnf) yA36 yS36 rfl (res_tmp (by conv => lhs; whnf) res_nil)))
 refine s_mv ?_
 obtain ⟨v19, hv19, hF2⟩ := bind_some' hF1
 refine s_call [(9000, 9000)] [] _ _ (m_spec_l15Rd_pick_ok fu _ _ _ hv19) ?_
 refine s_eq ?_
 refine s_pkf ?_
 refine k_nil (k_seq ?_)
 refine w_cond hF2 ?_ ?_ <;> intro hc20 hF3
 refine awp_seq (awp_seq (awp_region ?_))
 refine s_mv ?_
 refine s_lenT yU22 ?_
 refine s_gt ?_
 refine s_mv ?_
 refine w_guard _ 26 hF3 ?_ ?_ <;> intro hc21 hF4
 refine s_mv ?_
 obtain ⟨v22, hv22, hF5⟩ := bind_some' hF4
 refine s_call [(9000, 9000)] [] _ _ (m_spec_l15Rd_pick_ok fu _ _ _ hv22) ?_
 refine s_gt ?_
 refine s_pkt ?_
 refine k_nil (k_seq ?_)
 refine w_cond hF5 ?_ ?_ <;> intro hc23 hF6
 refine awp_seq (awp_region ?_)
 iterate 3 refine s_mv ?_
 refine s_lenT yU22 ?_
 obtain ⟨v24, hv24, hF7⟩ := bind_some' hF6
 refine s_call [(9000, 9000)] [] _ _ (m_spec_l15Rd_pick_ok fu _ _ _ hv24) ?_
 obtain ⟨v25, hv25, hF8⟩ := bind_some' hF7
 refine s_ixT rI hv25 rfl yE22 ?_
 refine s_ld1 yA3 ?_
 refine s_bld yZ36 yL36 ?_
 refine s_mv ?_
 refine s_stW yS36 ?_
 refine s_as ?_
 refine k_nil (k_seq (awp_ret (k_seq_ret (k_seq_ret (k_fin ?_)))))
 cases hF8
 exact ends_gen _ [] (by rw [Tryz.results85]; exact (res_agg (by conv => lhs; whnf) (by conv => lhs; whnf) yA36 yS36 rfl (res_tmp (by conv => lhs; whnf) res_nil)))
 refine awp_skip (k_seq (awp_seq (awp_seq (awp_region ?_))))
 refine s_mv ?_
 obtain ⟨v26, hv26, hF7⟩ := bind_some' hF6
 refine s_call [(9000, 9000)] [] _ _ (m_spec_l15Rd_pick_ok fu _ _ _ hv26) ?_
 refine k_nil (k_seq (awp_block (awp_seq (awp_region ?_))))
 refine s_eq ?_
 refine s_as ?_
 refine k_nil (k_seq ?_)
 refine w_cond hF7 ?_ ?_ <;> intro hc27 hF8
 refine awp_seq (awp_region ?_)
 refine s_mv ?_
 obtain ⟨v28, hv28, hF9⟩ := bind_some' hF8
 refine s_call [(9000, 9000)] [] _ _ (m_spec_l1Some_ok fu _ _ _ hv28) ?_
 refine s_bld yZ36 yL36 ?_
 refine s_mv ?_
 refine s_stW yS36 ?_
 refine s_as ?_
 refine k_nil (k_seq (awp_ret (k_blk_ret (k_seq_ret (k_seq_ret (k_fin ?_))))))
 cases hF9
 exact ends_gen _ [] (by rw [Tryz.results85]; exact (res_agg (by conv => lhs; whnf) (by conv => lhs; whnf) yA36 yS36 rfl (res_tmp (by conv => lhs; whnf) res_nil)))
 refine awp_seq (awp_region ?_)
 refine s_eq ?_
 refine s_as ?_
 refine k_nil (k_seq ?_)
 refine w_cond hF8 ?_ ?_ <;> intro hc29 hF9
 refine awp_seq (awp_region ?_)
 refine s_mv ?_
 refine s_bs rS [(⟨#[102]⟩ : ByteArray), (⟨#[43]⟩ : ByteArray), (⟨#[108, 105, 115, 116]⟩ : ByteArray)] yP50 yR9 ?_
 obtain ⟨v30, hv30, hF10⟩ := bind_some' hF9
 refine s_call [(9000, 9000)] [51] _ _ (m_spec_l15Rd_of_ok fu _ _ _ hv30) ?_
 refine s_bld yZ36 yL36 ?_
 refine s_mv ?_
 refine s_stW yS36 ?_
 refine s_as ?_
 refine k_nil (k_seq (awp_ret (k_blk_ret (k_seq_ret (k_seq_ret (k_fin ?_))))))
 cases hF10
 exact ends_gen _ [] (by rw [Tryz.results85]; exact (res_agg (by conv => lhs; whnf) (by conv => lhs; whnf) yA36 yS36 rfl (res_tmp (by conv => lhs; whnf) res_nil)))
 refine awp_skip (k_blk (k_seq (awp_seq (awp_region ?_))))
 refine s_mv ?_
 refine s_bs rI [0, 1, 5, 42] yP22 yR3 ?_
 obtain ⟨v31, hv31, hF10⟩ := bind_some' hF9
 refine s_call [(9000, 9000)] [56] _ _ (m_spec_l15Rd_num_ok fu _ _ _ hv31) ?_
 refine s_bld yZ36 yL36 ?_
 refine s_mv ?_
 refine s_stW yS36 ?_
 refine s_as ?_
 refine k_nil (k_seq (awp_ret (k_seq_ret (k_fin ?_))))
 cases hF10
 exact ends_gen _ [] (by rw [Tryz.results85]; exact (res_agg (by conv => lhs; whnf) (by conv => lhs; whnf) yA36 yS36 rfl (res_tmp (by conv => lhs; whnf) res_nil)))
 iterate 3 refine r_no rfl ?_
 refine s_pkf ?_
 refine k_nil (k_seq (awp_false rfl (awp_skip (k_seq (awp_seq (awp_seq (awp_region ?_)))))))
 refine s_mv ?_
 obtain ⟨v32, hv32, hF5⟩ := bind_some' hF4
 refine s_call [(9000, 9000)] [] _ _ (m_spec_l15Rd_pick_ok fu _ _ _ hv32) ?_
 refine k_nil (k_seq (awp_block (awp_seq (awp_region ?_))))
 refine s_eq ?_
 refine s_as ?_
 refine k_nil (k_seq ?_)
 refine w_cond hF5 ?_ ?_ <;> intro hc33 hF6
 refine awp_seq (awp_region ?_)
 refine s_mv ?_
 obtain ⟨v34, hv34, hF7⟩ := bind_some' hF6
 refine s_call [(9000, 9000)] [] _ _ (m_spec_l1Some_ok fu _ _ _ hv34) ?_
 refine s_bld yZ36 yL36 ?_
 refine s_mv ?_
 refine s_stW yS36 ?_
 refine s_as ?_
 refine k_nil (k_seq (awp_ret (k_blk_ret (k_seq_ret (k_seq_ret (k_fin ?_))))))
 cases hF7
 exact ends_gen _ [] (by rw [Tryz.results85]; exact (res_agg (by conv => lhs; whnf) (by conv => lhs; whnf) yA36 yS36 rfl (res_tmp (by conv => lhs; whnf) res_nil)))
 refine awp_seq (awp_region ?_)
 refine s_eq ?_
 refine s_as ?_
 refine k_nil (k_seq ?_)
 refine w_cond hF6 ?_ ?_ <;> intro hc35 hF7
 refine awp_seq (awp_region ?_)
 refine s_mv ?_
 refine s_bs rS [(⟨#[102]⟩ : ByteArray), (⟨#[43]⟩ : ByteArray), (⟨#[108, 105, 115, 116]⟩ : ByteArray)] yP50 yR9 ?_
 obtain ⟨v36, hv36, hF8⟩ := bind_some' hF7
 refine s_call [(9000, 9000)] [51] _ _ (m_spec_l15Rd_of_ok fu _ _ _ hv36) ?_
 refine s_bld yZ36 yL36 ?_
 refine s_mv ?_
 refine s_stW yS36 ?_
 refine s_as ?_
 refine k_nil (k_seq (awp_ret (k_blk_ret (k_seq_ret (k_seq_ret (k_fin ?_))))))
 cases hF8
 exact ends_gen _ [] (by rw [Tryz.results85]; exact (res_agg (by conv => lhs; whnf) (by conv => lhs; whnf) yA36 yS36 rfl (res_tmp (by conv => lhs; whnf) res_nil)))
 refine awp_skip (k_blk (k_seq (awp_seq (awp_region ?_))))
 refine s_mv ?_
 refine s_bs rI [0, 1, 5, 42] yP22 yR3 ?_
 obtain ⟨v37, hv37, hF8⟩ := bind_some' hF7
 refine s_call [(9000, 9000)] [56] _ _ (m_spec_l15Rd_num_ok fu _ _ _ hv37) ?_
 refine s_bld yZ36 yL36 ?_
 refine s_mv ?_
 refine s_stW yS36 ?_
 refine s_as ?_
 refine k_nil (k_seq (awp_ret (k_seq_ret (k_fin ?_))))
 cases hF8
 exact ends_gen _ [] (by rw [Tryz.results85]; exact (res_agg (by conv => lhs; whnf) (by conv => lhs; whnf) yA36 yS36 rfl (res_tmp (by conv => lhs; whnf) res_nil)))
 refine awp_skip (k_seq (awp_seq (awp_region ?_)))
 refine s_mv ?_
 refine s_bs rI [6, 5, 7, 5] yP22 yR3 ?_
 obtain ⟨v38, hv38, hF4⟩ := bind_some' hF3
 refine s_call [(9000, 9000)] [61] _ _ (m_spec_l15Rd_num_ok fu _ _ _ hv38) ?_
 refine s_bld yZ36 yL36 ?_
 refine s_alloc yZ36 ?_
 refine s_stW yS36 ?_
 refine k_nil (k_seq (awp_seq (awp_region ?_)))
 refine s_as ?_
 refine k_nil (k_seq (awp_seq (awp_seq (awp_region ?_))))
 refine s_fa yF36_0 ?_
 refine s_ld1 yA3 ?_
 refine k_nil (k_seq (awp_block (awp_seq (awp_region ?_))))
 refine s_eq ?_
 refine s_as ?_
 refine k_nil (k_seq ?_)
 refine w_cond hF4 ?_ ?_ <;> intro hc39 hF5
 refine awp_seq (awp_region ?_)
 refine s_as ?_
 refine k_nil (k_seq (awp_seq (awp_region ?_)))
 refine s_mv ?_
 refine s_bs rI [1, 2, 0] yP22 yR3 ?_
 obtain ⟨v40, hv40, hF6⟩ := bind_some' hF5
 refine s_call [(9000, 9000)] [69] _ _ (m_spec_l15Rd_num_ok fu _ _ _ hv40) ?_
 refine s_as ?_
 refine k_nil (k_seq (awp_block ?_))
 refine awp_ownB 10 5020 3 [.t (.sc (.int .i64 v38.1)), .t (.sc (.int .i64 0)), .t (.sc (.str (⟨#[]⟩ : ByteArray))), .t (.sc (.int .i64 0)), .ar 5020, .t (.sc (.int .i64 0)), .t (.sc (.str (⟨#[]⟩ : ByteArray))), .t (.sc (.int .i64 0)), .nl, .nl, .nl] yI3.choose_spec ?_
 refine awp_frame2 [1, 3, 12, 71, 72, 73, 74, 75, 76, 77, 78, 79, 80, 81, 82, 83, 84, 85, 86, 87, 88, 89, 90, 91] [10, 5020, 9000] [77, 83, 84, 86, 88, 90, 91] [5020] (fun a : Nat × (List Int) × Int × Int × (List Int) × Int × (List Int) => a.1) (fun a : Nat × (List Int) × Int × Int × (List Int) × Int × (List Int) => [(1, .t (.sl (a.2.1.map rI))), (3, .t (.sc (.int .i64 a.2.2.1))), (12, .t (.sc (.int .i64 a.2.2.2.1)))]) (fun a : Nat × (List Int) × Int × Int × (List Int) × Int × (List Int) => [(10, .box [.t (.sc (.int .i64 v38.1)), .t (.sc (.int .i64 0)), .t (.sc (.str (⟨#[]⟩ : ByteArray))), .t (.sc (.int .i64 0)), .ar 5020, .t (.sc (.int .i64 0)), .t (.sc (.str (⟨#[]⟩ : ByteArray))), .t (.sc (.int .i64 0)), .nl, .nl, .nl]), (5020, .arr (a.2.2.2.2.2.2.map rI) 3 true), (9000, .box [.t (.sl (a.2.2.2.2.1.map rB)), .t (.sc (.int .i64 a.2.2.2.2.2.1))])]) (fun a : Nat × (List Int) × Int × Int × (List Int) × Int × (List Int) => a.1 ≤ fu ∧ m_spec_l6Some_l1 a.1 x3 v38 a.2.1 a.2.2.1 a.2.2.2.1 a.2.2.2.2.1 a.2.2.2.2.2.1 a.2.2.2.2.2.2 = some r) (fu, x2, x4, v40.1, v40.2.b, v40.2.p, ([] : List Int)) ⟨Nat.le_refl _, hF6⟩ (by rfl) (by rfl) (fun _ => rfl) (hasF_cons (by conv => lhs; whnf) (by rfl) (hasF_cons (by conv => lhs; whnf) (by rfl) (hasF_cons (by conv => lhs; whnf) (by rfl) hasF_nil))) (hasO_cons (by conv => lhs; whnf) (by rfl) (hasO_cons (by conv => lhs; whnf) (by rfl) (hasO_cons (by conv => lhs; whnf) (by rfl) hasO_nil))) (fresh_C hC rfl) (by repeat (first | exact freshS_args rfl | refine freshS_upd rfl ?_ | refine freshS_frame rfl ?_)) (by repeat (first | exact freshM_no | exact objs_fresh rfl | refine freshM_upd rfl ?_ | refine freshM_frame rfl ?_)) ?_
 clear hF6
 rintro ⟨fu, g41, g42, g43, g44, g45, g46⟩ ⟨hl47, hF7⟩
 dsimp only at hl47 hF7 ⊢
 obtain _ | fu := fu
 · rw [m_spec_l6Some_l1] at hF7; cases hF7
 rw [m_spec_l6Some_l1] at hF7
 refine awp_seq (awp_seq (awp_region ?_))
 refine s_mv ?_
 refine s_gt ?_
 refine k_nil (k_seq ?_)
 refine w_cond hF7 ?_ ?_ <;> intro hc48 hF8
 refine awp_skip (k_seq (awp_seq (awp_block (awp_seq (awp_region ?_)))))
 refine s_mv ?_
 refine s_mv ?_
 refine s_bs rI [1, 2, 5] yP22 yR3 ?_
 obtain ⟨v49, hv49, hF9⟩ := bind_some' hF8
 refine s_call [(9000, 9000)] [77] _ _ (m_spec_l15Rd_num_ok fu _ _ _ hv49) ?_
 refine s_add rfl ?_
 refine s_as ?_
 refine k_nil (k_seq (awp_seq (awp_region ?_)))
 refine s_fa yF36_4 ?_
 refine s_ld1 yA22 ?_
 refine s_mv ?_
 refine s_bs rI [(w64 (g42 + v49.1))] yP22 yR3 ?_
 obtain ⟨hk50, hF10⟩ := chk_some hF9
 refine s_apT rI (fun _ => rfl) hk50 yP22 ?_
 refine s_fa yF36_4 ?_
 refine s_stP yS22 ?_
 refine k_nil (k_seq (awp_region ?_))
 refine s_bs rI ([] : List Int) yP22 yR3 ?_
 refine s_mv ?_
 obtain ⟨hk51, hF11⟩ := chk_some hF10
 refine s_apT rI (fun _ => rfl) hk51 yP22 ?_
 refine s_mv ?_
 refine s_bs rI [(w64 (g42 + v49.1))] yP22 yR3 ?_
 obtain ⟨hk52, hF12⟩ := chk_some hF11
 refine s_apT rI (fun _ => rfl) hk52 yP22 ?_
 refine s_as ?_
 refine k_nil (k_blk (k_seq ?_))
 refine awp_pz 1 ?_
 refine awp_region ?_
 refine s_mv ?_
 refine s_sub rfl ?_
 refine s_as ?_
 refine k_nil ?_
 exact s_rn (fu, ((([] : List Int) ++ g41) ++ [(w64 (g42 + v49.1))]), (w64 (g42 + v49.1)), (w64 (g43 - 1)), v49.2.b, v49.2.p, (g46 ++ [(w64 (g42 + v49.1))])) ⟨by first | omega | (dsimp only; omega), hF12⟩ [(5020, 84)]
 refine awp_exit (k_seq_exit (k_rnd_exit2 (k_blk_exit (k_blk (k_seq (awp_seq (awp_seq (awp_region ?_))))))))
 refine s_as ?_
 refine k_nil (k_seq (awp_block ?_))
 refine awp_ownB 10 5040 36 [.t (.sc (.int .i64 v38.1)), .t (.sc (.int .i64 0)), .t (.sc (.str (⟨#[]⟩ : ByteArray))), .t (.sc (.int .i64 0)), .ar 5020, .t (.sc (.int .i64 0)), .t (.sc (.str (⟨#[]⟩ : ByteArray))), .t (.sc (.int .i64 0)), .nl, .nl, .ar 5040] yI36.choose_spec ?_
 refine awp_frame2 [3, 13, 14, 15, 97, 98, 99, 100, 101, 102, 103, 104, 105, 106, 107, 108, 109, 110, 111, 112, 113, 114, 115, 116, 117] [10, 5040, 9000] [14, 115, 116] [5040] (fun a : Nat × Int × Int × (List Int) × Int × (List Core) => a.1) (fun a : Nat × Int × Int × (List Int) × Int × (List Core) => [(3, .t (.sc (.int .i64 a.2.1))), (13, .t (.sc (.int .i64 a.2.2.1)))]) (fun a : Nat × Int × Int × (List Int) × Int × (List Core) => [(10, .box [.t (.sc (.int .i64 v38.1)), .t (.sc (.int .i64 0)), .t (.sc (.str (⟨#[]⟩ : ByteArray))), .t (.sc (.int .i64 0)), .ar 5020, .t (.sc (.int .i64 0)), .t (.sc (.str (⟨#[]⟩ : ByteArray))), .t (.sc (.int .i64 0)), .nl, .nl, .ar 5040]), (5040, .arr (a.2.2.2.2.2.map Core.row) 36 true), (9000, .box [.t (.sl (a.2.2.2.1.map rB)), .t (.sc (.int .i64 a.2.2.2.2.1))])]) (fun a : Nat × Int × Int × (List Int) × Int × (List Core) => a.1 ≤ fu ∧ m_spec_l6Some_l2 a.1 x3 v38 g41 g46 a.2.1 a.2.2.1 a.2.2.2.1 a.2.2.2.2.1 a.2.2.2.2.2 = some r) (fu, g42, 0, g44, g45, ([] : List Core)) ⟨Nat.le_refl _, hF8⟩ (by rfl) (by rfl) (fun _ => rfl) (hasF_cons (by conv => lhs; whnf) (by rfl) (hasF_cons (by conv => lhs; whnf) (by rfl) hasF_nil)) (hasO_cons (by conv => lhs; whnf) (by rfl) (hasO_cons (by conv => lhs; whnf) (by rfl) (hasO_cons (by conv => lhs; whnf) (by rfl) hasO_nil))) (fresh_C hC rfl) (by repeat (first | exact freshS_args rfl | refine freshS_upd rfl ?_ | refine freshS_frame rfl ?_)) (by repeat (first | exact freshM_no | exact objs_fresh rfl | refine freshM_upd rfl ?_ | refine freshM_frame rfl ?_)) ?_
 clear hF8
 rintro ⟨fu, g53, g54, g55, g56, g57⟩ ⟨hl58, hF9⟩
 dsimp only at hl58 hF9 ⊢
 obtain _ | fu := fu
 · rw [m_spec_l6Some_l2] at hF9; cases hF9
 rw [m_spec_l6Some_l2] at hF9
 refine awp_seq (awp_seq (awp_region ?_))
 refine s_mv ?_
 refine s_mv ?_
 refine s_lt ?_
 refine k_nil (k_seq ?_)
 refine w_cond hF9 ?_ ?_ <;> intro hc59 hF10
 refine awp_skip (k_seq (awp_seq (awp_block (awp_seq (awp_region ?_)))))
 iterate 3 refine s_mv ?_
 refine s_sub rfl ?_
 refine s_mv ?_
 obtain ⟨v60, hv60, hF11⟩ := bind_some' hF10
 refine s_call [(9000, 9000)] [] _ _ (ih_m_spec_l6Some fu (by omega) _ _ _ _ _ hv60) ?_
 refine s_mv ?_
 refine s_ext ?_
 refine s_ext ?_
 refine s_alloc yZ36 ?_
 refine s_stW yS36 ?_
 refine s_as ?_
 refine k_nil (k_seq (awp_seq (awp_region ?_)))
 refine s_mv ?_
 refine s_as ?_
 refine k_nil (k_seq (awp_region ?_))
 refine s_fa yF36_6 ?_
 refine s_ld1 yA34 ?_
 refine s_ldW yA36 yS36 ?_
 refine s_bs Core.row [v60.1] yP34 yR36 ?_
 obtain ⟨hk61, hF12⟩ := chk_some hF11
 refine s_apT Core.row (fun y => Core.row_len y) hk61 yP34 ?_
 refine s_fa yF36_6 ?_
 refine s_stP yS34 ?_
 refine k_nil (k_blk (k_seq (awp_region ?_)))
 refine s_mv ?_
 refine s_add rfl ?_
 refine s_as ?_
 refine k_nil ?_
 exact s_rn (fu, v60.2.1, (w64 (g54 + 1)), v60.2.2.b, v60.2.2.p, (g57 ++ [v60.1])) ⟨by first | omega | (dsimp only; omega), hF12⟩ [(5040, 116)]
 refine awp_exit (k_seq_exit (k_rnd_exit2 (k_blk_exit (k_seq (awp_seq (awp_region ?_))))))
 refine s_ldW yA36 yS36 ?_
 refine s_mv ?_
 refine s_stW yS36 ?_
 refine s_as ?_
 refine k_nil (k_seq (awp_ret (k_fin ?_)))
 cases hF10
 exact ends_gen _ [5020, 5040] (by rw [Tryz.results85]; exact (res_agg (by conv => lhs; whnf) (by conv => lhs; whnf) yA36 yS36 rfl (res_tmp (by conv => lhs; whnf) res_nil)))
 refine awp_seq (awp_region ?_)
 refine s_eq ?_
 refine s_as ?_
 refine k_nil (k_seq ?_)
 refine w_cond hF5 ?_ ?_ <;> intro hc62 hF6
 refine awp_region ?_
 refine s_mv ?_
 refine s_bs rI [2, 1, 3] yP22 yR3 ?_
 obtain ⟨v63, hv63, hF7⟩ := bind_some' hF6
 refine s_call [(9000, 9000)] [95] _ _ (m_spec_l15Rd_num_ok fu _ _ _ hv63) ?_
 refine s_as ?_
 refine k_nil (k_blk (k_seq (awp_seq (awp_seq (awp_region ?_)))))
 refine s_as ?_
 refine k_nil (k_seq (awp_block ?_))
 refine awp_ownB 10 5060 36 [.t (.sc (.int .i64 v38.1)), .t (.sc (.int .i64 0)), .t (.sc (.str (⟨#[]⟩ : ByteArray))), .t (.sc (.int .i64 0)), .nl, .t (.sc (.int .i64 0)), .t (.sc (.str (⟨#[]⟩ : ByteArray))), .t (.sc (.int .i64 0)), .nl, .nl, .ar 5060] yI36.choose_spec ?_
 refine awp_frame2 [3, 13, 14, 15, 97, 98, 99, 100, 101, 102, 103, 104, 105, 106, 107, 108, 109, 110, 111, 112, 113, 114, 115, 116, 117] [10, 5060, 9000] [14, 115, 116] [5060] (fun a : Nat × Int × Int × (List Int) × Int × (List Core) => a.1) (fun a : Nat × Int × Int × (List Int) × Int × (List Core) => [(3, .t (.sc (.int .i64 a.2.1))), (13, .t (.sc (.int .i64 a.2.2.1)))]) (fun a : Nat × Int × Int × (List Int) × Int × (List Core) => [(10, .box [.t (.sc (.int .i64 v38.1)), .t (.sc (.int .i64 0)), .t (.sc (.str (⟨#[]⟩ : ByteArray))), .t (.sc (.int .i64 0)), .nl, .t (.sc (.int .i64 0)), .t (.sc (.str (⟨#[]⟩ : ByteArray))), .t (.sc (.int .i64 0)), .nl, .nl, .ar 5060]), (5060, .arr (a.2.2.2.2.2.map Core.row) 36 true), (9000, .box [.t (.sl (a.2.2.2.1.map rB)), .t (.sc (.int .i64 a.2.2.2.2.1))])]) (fun a : Nat × Int × Int × (List Int) × Int × (List Core) => a.1 ≤ fu ∧ m_spec_l6Some_l3 a.1 x2 x3 v38 v63 a.2.1 a.2.2.1 a.2.2.2.1 a.2.2.2.2.1 a.2.2.2.2.2 = some r) (fu, x4, 0, v63.2.b, v63.2.p, ([] : List Core)) ⟨Nat.le_refl _, hF7⟩ (by rfl) (by rfl) (fun _ => rfl) (hasF_cons (by conv => lhs; whnf) (by rfl) (hasF_cons (by conv => lhs; whnf) (by rfl) hasF_nil)) (hasO_cons (by conv => lhs; whnf) (by rfl) (hasO_cons (by conv => lhs; whnf) (by rfl) (hasO_cons (by conv => lhs; whnf) (by rfl) hasO_nil))) (fresh_C hC rfl) (by repeat (first | exact freshS_args rfl | refine freshS_upd rfl ?_ | refine freshS_frame rfl ?_)) (by repeat (first | exact freshM_no | exact objs_fresh rfl | refine freshM_upd rfl ?_ | refine freshM_frame rfl ?_)) ?_
 clear hF7
 rintro ⟨fu, g64, g65, g66, g67, g68⟩ ⟨hl69, hF8⟩
 dsimp only at hl69 hF8 ⊢
 obtain _ | fu := fu
 · rw [m_spec_l6Some_l3] at hF8; cases hF8
 rw [m_spec_l6Some_l3] at hF8
 refine awp_seq (awp_seq (awp_region ?_))
 refine s_mv ?_
 refine s_mv ?_
 refine s_lt ?_
 refine k_nil (k_seq ?_)
 refine w_cond hF8 ?_ ?_ <;> intro hc70 hF9
 refine awp_skip (k_seq (awp_seq (awp_block (awp_seq (awp_region ?_)))))
 iterate 3 refine s_mv ?_
 refine s_sub rfl ?_
 refine s_mv ?_
 obtain ⟨v71, hv71, hF10⟩ := bind_some' hF9
 refine s_call [(9000, 9000)] [] _ _ (ih_m_spec_l6Some fu (by omega) _ _ _ _ _ hv71) ?_
 refine s_mv ?_
 refine s_ext ?_
 refine s_ext ?_
 refine s_alloc yZ36 ?_
 refine s_stW yS36 ?_
 refine s_as ?_
 refine k_nil (k_seq (awp_seq (awp_region ?_)))
 refine s_mv ?_
 refine s_as ?_
 refine k_nil (k_seq (awp_region ?_))
 refine s_fa yF36_6 ?_
 refine s_ld1 yA34 ?_
 refine s_ldW yA36 yS36 ?_
 refine s_bs Core.row [v71.1] yP34 yR36 ?_
 obtain ⟨hk72, hF11⟩ := chk_some hF10
 refine s_apT Core.row (fun y => Core.row_len y) hk72 yP34 ?_
 refine s_fa yF36_6 ?_
 refine s_stP yS34 ?_
 refine k_nil (k_blk (k_seq (awp_region ?_)))
 refine s_mv ?_
 refine s_add rfl ?_
 refine s_as ?_
 refine k_nil ?_
 exact s_rn (fu, v71.2.1, (w64 (g65 + 1)), v71.2.2.b, v71.2.2.p, (g68 ++ [v71.1])) ⟨by first | omega | (dsimp only; omega), hF11⟩ [(5060, 116)]
 refine awp_exit (k_seq_exit (k_rnd_exit2 (k_blk_exit (k_seq (awp_seq (awp_region ?_))))))
 refine s_ldW yA36 yS36 ?_
 refine s_mv ?_
 refine s_stW yS36 ?_
 refine s_as ?_
 refine k_nil (k_seq (awp_ret (k_fin ?_)))
 cases hF9
 exact ends_gen _ [5060] (by rw [Tryz.results85]; exact (res_agg (by conv => lhs; whnf) (by conv => lhs; whnf) yA36 yS36 rfl (res_tmp (by conv => lhs; whnf) res_nil)))
 refine awp_skip (k_blk (k_seq (awp_seq (awp_seq (awp_region ?_)))))
 refine s_as ?_
 refine k_nil (k_seq (awp_block ?_))
 refine awp_ownB 10 5080 36 [.t (.sc (.int .i64 v38.1)), .t (.sc (.int .i64 0)), .t (.sc (.str (⟨#[]⟩ : ByteArray))), .t (.sc (.int .i64 0)), .nl, .t (.sc (.int .i64 0)), .t (.sc (.str (⟨#[]⟩ : ByteArray))), .t (.sc (.int .i64 0)), .nl, .nl, .ar 5080] yI36.choose_spec ?_
 refine awp_frame2 [3, 13, 14, 15, 97, 98, 99, 100, 101, 102, 103, 104, 105, 106, 107, 108, 109, 110, 111, 112, 113, 114, 115, 116, 117] [10, 5080, 9000] [14, 115, 116] [5080] (fun a : Nat × Int × Int × (List Int) × Int × (List Core) => a.1) (fun a : Nat × Int × Int × (List Int) × Int × (List Core) => [(3, .t (.sc (.int .i64 a.2.1))), (13, .t (.sc (.int .i64 a.2.2.1)))]) (fun a : Nat × Int × Int × (List Int) × Int × (List Core) => [(10, .box [.t (.sc (.int .i64 v38.1)), .t (.sc (.int .i64 0)), .t (.sc (.str (⟨#[]⟩ : ByteArray))), .t (.sc (.int .i64 0)), .nl, .t (.sc (.int .i64 0)), .t (.sc (.str (⟨#[]⟩ : ByteArray))), .t (.sc (.int .i64 0)), .nl, .nl, .ar 5080]), (5080, .arr (a.2.2.2.2.2.map Core.row) 36 true), (9000, .box [.t (.sl (a.2.2.2.1.map rB)), .t (.sc (.int .i64 a.2.2.2.2.1))])]) (fun a : Nat × Int × Int × (List Int) × Int × (List Core) => a.1 ≤ fu ∧ m_spec_l6Some_l4 a.1 x2 x3 v38 a.2.1 a.2.2.1 a.2.2.2.1 a.2.2.2.2.1 a.2.2.2.2.2 = some r) (fu, x4, 0, v38.2.b, v38.2.p, ([] : List Core)) ⟨Nat.le_refl _, hF6⟩ (by rfl) (by rfl) (fun _ => rfl) (hasF_cons (by conv => lhs; whnf) (by rfl) (hasF_cons (by conv => lhs; whnf) (by rfl) hasF_nil)) (hasO_cons (by conv => lhs; whnf) (by rfl) (hasO_cons (by conv => lhs; whnf) (by rfl) (hasO_cons (by conv => lhs; whnf) (by rfl) hasO_nil))) (fresh_C hC rfl) (by repeat (first | exact freshS_args rfl | refine freshS_upd rfl ?_ | refine freshS_frame rfl ?_)) (by repeat (first | exact freshM_no | exact objs_fresh rfl | refine freshM_upd rfl ?_ | refine freshM_frame rfl ?_)) ?_
 clear hF6
 rintro ⟨fu, g73, g74, g75, g76, g77⟩ ⟨hl78, hF7⟩
 dsimp only at hl78 hF7 ⊢
 obtain _ | fu := fu
 · rw [m_spec_l6Some_l4] at hF7; cases hF7
 rw [m_spec_l6Some_l4] at hF7
 refine awp_seq (awp_seq (awp_region ?_))
 refine s_mv ?_
 refine s_mv ?_
 refine s_lt ?_
 refine k_nil (k_seq ?_)
 refine w_cond hF7 ?_ ?_ <;> intro hc79 hF8
 refine awp_skip (k_seq (awp_seq (awp_block (awp_seq (awp_region ?_)))))
 iterate 3 refine s_mv ?_
 refine s_sub rfl ?_
 refine s_mv ?_
 obtain ⟨v80, hv80, hF9⟩ := bind_some' hF8
 refine s_call [(9000, 9000)] [] _ _ (ih_m_spec_l6Some fu (by omega) _ _ _ _ _ hv80) ?_
 refine s_mv ?_
 refine s_ext ?_
 refine s_ext ?_
 refine s_alloc yZ36 ?_
 refine s_stW yS36 ?_
 refine s_as ?_
 refine k_nil (k_seq (awp_seq (awp_region ?_)))
 refine s_mv ?_
 refine s_as ?_
 refine k_nil (k_seq (awp_region ?_))
 refine s_fa yF36_6 ?_
 refine s_ld1 yA34 ?_
 refine s_ldW yA36 yS36 ?_
 refine s_bs Core.row [v80.1] yP34 yR36 ?_
 obtain ⟨hk81, hF10⟩ := chk_some hF9
 refine s_apT Core.row (fun y => Core.row_len y) hk81 yP34 ?_
 refine s_fa yF36_6 ?_
 refine s_stP yS34 ?_
 refine k_nil (k_blk (k_seq (awp_region ?_)))
 refine s_mv ?_
 refine s_add rfl ?_
 refine s_as ?_
 refine k_nil ?_
 exact s_rn (fu, v80.2.1, (w64 (g74 + 1)), v80.2.2.b, v80.2.2.p, (g77 ++ [v80.1])) ⟨by first | omega | (dsimp only; omega), hF10⟩ [(5080, 116)]
 refine awp_exit (k_seq_exit (k_rnd_exit2 (k_blk_exit (k_seq (awp_seq (awp_region ?_))))))
 refine s_ldW yA36 yS36 ?_
 refine s_mv ?_
 refine s_stW yS36 ?_
 refine s_as ?_
 refine k_nil (k_seq (awp_ret (k_fin ?_)))
 cases hF8
 exact ends_gen _ [5080] (by rw [Tryz.results85]; exact (res_agg (by conv => lhs; whnf) (by conv => lhs; whnf) yA36 yS36 rfl (res_tmp (by conv => lhs; whnf) res_nil)))
end Go.Abs
