/- A part of the proof: what the functions that the law calls answer, as pure values. -/
import Derived.Test.YtidbdmpbcpanjaaGreatDoorK10a31c29eeb6
import Derived.Test.YtidbdmpbcpanjaaGreatDoorK3aa03bdccf4b
set_option linter.unusedSimpArgs false
set_option linter.unusedVariables false
set_option maxRecDepth 100000
set_option maxHeartbeats 4000000
namespace Go.Abs
open Go.Proofs
def m_spec_l15Open_AC (fuel : Nat) : Prop := ∀ (x1 : (List Int)) (r : l15Rd), m_spec_l15Open fuel x1 = some r → AC Tryz.prog 24 [.t (.sl (x1.map rB))] (objs []) (.rf 10 0) (objs [(10, .box [.t (.sl (r.b.map rB)), .t (.sc (.int .i64 r.p))])])
theorem m_spec_l15Open_ok (fuel : Nat) : m_spec_l15Open_AC fuel := by
 intro x1 r hF0
 unfold m_spec_l15Open at hF0
 refine AC_i [.rf 10 0] Tryz.func24 rfl Tryz.ntmps24 ?_
 intro C hC
 refine awp_seq (awp_region ?_)
 refine s_as ?_
 refine k_nil (k_seq (awp_seq (awp_seq (awp_region ?_))))
 refine s_mv ?_
 refine s_lenT yU22 ?_
 refine s_gt ?_
 refine k_nil (k_seq ?_)
 refine w_cond hF0 ?_ ?_ <;> intro hc1 hF1
 refine awp_lenT 0 (fun hb2 => ?_)
 refine awp_region ?_
 refine s_mv ?_
 obtain ⟨v3, hv3, hF2⟩ := bind_some' hF1
 refine s_sl01 rB (fun _ => rfl) hv3 yU22 yE22 ?_
 refine s_as ?_
 refine k_nil (k_seq (awp_seq (awp_region ?_)))
 refine s_mv ?_
 refine s_bld yZ72 yL72 ?_
 refine s_box ?_
 refine s_as ?_
 refine k_nil (k_seq (awp_ret (k_fin ?_)))
 cases hF2
 exact ends_a _ [] Tryz.results24
 refine awp_skip (k_seq (awp_seq (awp_region ?_)))
 refine s_mv ?_
 refine s_bld yZ72 yL72 ?_
 refine s_box ?_
 refine s_as ?_
 refine k_nil (k_seq (awp_ret (k_fin ?_)))
 cases hF1
 exact ends_a _ [] Tryz.results24
def m_spec_l15Rd_pick_AC (fuel : Nat) : Prop := ∀ (o1 : l15Rd) (x2 : Int) (r : (Int × l15Rd)), m_spec_l15Rd_pick fuel o1 x2 = some r → AC Tryz.prog 46 [.rf 9000 0, .t (.sc (.int .i64 x2))] (objs [(9000, .box [.t (.sl (o1.b.map rB)), .t (.sc (.int .i64 o1.p))])]) (.t (.sc (.int .i64 r.1))) (objs [(9000, .box [.t (.sl (r.2.b.map rB)), .t (.sc (.int .i64 r.2.p))])])
theorem m_spec_l15Rd_pick_ok (fuel : Nat) : m_spec_l15Rd_pick_AC fuel := by
 intro o1 x2 r hF0
 unfold m_spec_l15Rd_pick at hF0
 refine AC_i [.t (.sc (.int .i64 r.1))] Tryz.func46 rfl Tryz.ntmps46 ?_
 intro C hC
 refine awp_seq (awp_region ?_)
 refine s_as ?_
 refine k_nil (k_seq (awp_seq (awp_region ?_)))
 refine s_mv ?_
 refine s_mv ?_
 refine s_nc ?_
 refine s_fa yF72_1 ?_
 refine s_ld1 yA3 ?_
 refine s_add rfl ?_
 refine s_nc ?_
 refine s_fa yF72_1 ?_
 refine s_stP yS3 ?_
 refine k_nil (k_seq (awp_seq (awp_seq (awp_region ?_))))
 refine s_mv ?_
 refine s_lt ?_
 refine s_mv ?_
 refine w_guard _ 17 hF0 ?_ ?_ <;> intro hc1 hF1
 iterate 6 refine r_no rfl ?_
 refine s_pkt ?_
 refine k_nil (k_seq (awp_true rfl (awp_seq (awp_region ?_))))
 refine s_as ?_
 refine k_nil (k_seq (awp_ret (k_seq_ret (k_fin ?_))))
 cases hF1
 exact ends_a _ [] Tryz.results46
 refine s_mv ?_
 refine s_nc ?_
 refine s_fa yF72_0 ?_
 refine s_ld1 yA22 ?_
 refine s_lenT yU22 ?_
 refine s_eq ?_
 refine s_pkf ?_
 refine k_nil (k_seq ?_)
 refine w_cond hF1 ?_ ?_ <;> intro hc2 hF2
 refine awp_seq (awp_region ?_)
 refine s_as ?_
 refine k_nil (k_seq (awp_ret (k_seq_ret (k_fin ?_))))
 cases hF2
 exact ends_a _ [] Tryz.results46
 refine awp_skip (k_seq (awp_seq (awp_region ?_)))
 refine s_mv ?_
 refine s_nc ?_
 refine s_fa yF72_1 ?_
 refine s_ld1 yA3 ?_
 refine s_sub rfl ?_
 refine s_as ?_
 refine k_nil (k_seq (awp_seq (awp_seq (awp_region ?_))))
 refine s_mv ?_
 refine s_mv ?_
 refine s_nc ?_
 refine s_fa yF72_0 ?_
 refine s_ld1 yA22 ?_
 refine s_lenT yU22 ?_
 refine s_lt ?_
 refine k_nil (k_seq ?_)
 refine w_cond hF2 ?_ ?_ <;> intro hc3 hF3
 refine awp_seq (awp_region ?_)
 refine s_mv ?_
 refine s_nc ?_
 refine s_fa yF72_0 ?_
 refine s_ld1 yA22 ?_
 refine s_mv ?_
 obtain ⟨v4, hv4, hF4⟩ := bind_some' hF3
 refine s_ixT rB hv4 rfl yE22 ?_
 refine s_ld1 yA5 ?_
 refine s_int yU5 yU3 rfl ?_
 refine s_mv ?_
 obtain ⟨hk5, hF5⟩ := chk_some hF4
 refine s_rem (h0 := not_zero hk5) ?_
 refine s_as ?_
 refine k_nil (k_seq (awp_ret (k_seq_ret (k_fin ?_))))
 cases hF5
 exact ends_a _ [] Tryz.results46
 refine awp_skip (k_seq (awp_seq ?_))
 refine awp_draw yMix (by kernel_rfl) ?_
 refine s_mv0 ?_
 refine s_nc ?_
 refine s_fa yF72_0 ?_
 refine s_ld1 yA22 ?_
 refine s_mv ?_
 refine s_mv0 ?_
 refine s_nc ?_
 refine s_fa yF72_0 ?_
 refine s_ld1 yA22 ?_
 refine s_lenT yU22 ?_
 obtain ⟨hk6, hF4⟩ := chk_some hF3
 refine s_rem (h0 := not_zero hk6) ?_
 obtain ⟨v7, hv7, hF5⟩ := bind_some' hF4
 refine s_ixT rB hv7 rfl yE22 ?_
 refine s_ld1 yA5 ?_
 refine s_int yU5 yU3 rfl ?_
 refine s_mul rfl ?_
 refine s_mv0 ?_
 refine s_nc ?_
 refine s_fa yF72_0 ?_
 refine s_ld1 yA22 ?_
 refine s_mv ?_
 refine s_mul rfl ?_
 refine s_add rfl ?_
 refine s_mv0 ?_
 refine s_nc ?_
 refine s_fa yF72_0 ?_
 refine s_ld1 yA22 ?_
 refine s_lenT yU22 ?_
 obtain ⟨hk8, hF6⟩ := chk_some hF5
 refine s_rem (h0 := not_zero hk8) ?_
 obtain ⟨v9, hv9, hF7⟩ := bind_some' hF6
 refine s_ixT rB hv9 rfl yE22 ?_
 refine s_ld1 yA5 ?_
 refine s_int yU5 yU3 rfl ?_
 refine s_mul rfl ?_
 refine s_add rfl ?_
 refine s_mv ?_
 refine s_mul rfl ?_
 refine s_add rfl ?_
 refine s_mv ?_
 refine s_mv0 ?_
 refine s_nc ?_
 refine s_fa yF72_0 ?_
 refine s_ld1 yA22 ?_
 refine s_lenT yU22 ?_
 obtain ⟨hk10, hF8⟩ := chk_some hF7
 refine s_quo (h0 := not_zero hk10) rfl ?_
 refine s_mul rfl ?_
 refine s_add rfl ?_
 refine s_as ?_
 refine k_nilD (by kernel_rfl) ?_
 refine k_seq (awp_seq (awp_region ?_))
 refine s_mv ?_
 refine s_mv ?_
 refine s_quo rfl ?_
 refine s_xor rfl ?_
 refine s_as ?_
 refine k_nil (k_seq (awp_seq (awp_region ?_)))
 refine s_mv ?_
 refine s_mv ?_
 obtain ⟨hk11, hF9⟩ := chk_some hF8
 refine s_rem (h0 := not_zero hk11) ?_
 refine s_as ?_
 refine k_nil (k_seq (awp_ret (k_fin ?_)))
 cases hF9
 exact ends_a _ [] Tryz.results46
def m_spec_l15Rd_num_AC (fuel : Nat) : Prop := ∀ (o1 : l15Rd) (x2 : (List Int)) (r : (Int × l15Rd)), m_spec_l15Rd_num fuel o1 x2 = some r → AC Tryz.prog 31 [.rf 9000 0, .t (.sl (x2.map rI))] (objs [(9000, .box [.t (.sl (o1.b.map rB)), .t (.sc (.int .i64 o1.p))])]) (.t (.sc (.int .i64 r.1))) (objs [(9000, .box [.t (.sl (r.2.b.map rB)), .t (.sc (.int .i64 r.2.p))])])
theorem m_spec_l15Rd_num_ok (fuel : Nat) : m_spec_l15Rd_num_AC fuel := by
 intro o1 x2 r hF0
 unfold m_spec_l15Rd_num at hF0
 refine AC_i [.t (.sc (.int .i64 r.1))] Tryz.func31 rfl Tryz.ntmps31 ?_
 intro C hC
 refine awp_seq (awp_region ?_)
 refine s_as ?_
 refine k_nil (k_seq (awp_seq (awp_region ?_)))
 iterate 3 refine s_mv ?_
 refine s_lenT yU23 ?_
 obtain ⟨v1, hv1, hF1⟩ := bind_some' hF0
 refine s_call [(9000, 9000)] [] _ _ (m_spec_l15Rd_pick_ok fuel _ _ _ hv1) ?_
 obtain ⟨v2, hv2, hF2⟩ := bind_some' hF1
 refine s_ixT rI hv2 rfl yE23 ?_
 refine s_ld1 yA3 ?_
 refine s_as ?_
 refine k_nil (k_seq (awp_ret (k_fin ?_)))
 cases hF2
 exact ends_a _ [] Tryz.results31
def m_spec_l15Rd_of_AC (fuel : Nat) : Prop := ∀ (o1 : l15Rd) (x2 : (List ByteArray)) (r : (ByteArray × l15Rd)), m_spec_l15Rd_of fuel o1 x2 = some r → AC Tryz.prog 47 [.rf 9000 0, .t (.sl (x2.map rS))] (objs [(9000, .box [.t (.sl (o1.b.map rB)), .t (.sc (.int .i64 o1.p))])]) (.t (.sc (.str r.1))) (objs [(9000, .box [.t (.sl (r.2.b.map rB)), .t (.sc (.int .i64 r.2.p))])])
theorem m_spec_l15Rd_of_ok (fuel : Nat) : m_spec_l15Rd_of_AC fuel := by
 intro o1 x2 r hF0
 unfold m_spec_l15Rd_of at hF0
 refine AC_i [.t (.sc (.str r.1))] Tryz.func47 rfl Tryz.ntmps47 ?_
 intro C hC
 refine awp_seq (awp_region ?_)
 refine s_as ?_
 refine k_nil (k_seq (awp_seq (awp_region ?_)))
 iterate 3 refine s_mv ?_
 refine s_lenT yU52 ?_
 obtain ⟨v1, hv1, hF1⟩ := bind_some' hF0
 refine s_call [(9000, 9000)] [] _ _ (m_spec_l15Rd_pick_ok fuel _ _ _ hv1) ?_
 obtain ⟨v2, hv2, hF2⟩ := bind_some' hF1
 refine s_ixT rS hv2 rfl yE52 ?_
 refine s_ld1 yA9 ?_
 refine s_as ?_
 refine k_nil (k_seq (awp_ret (k_fin ?_)))
 cases hF2
 exact ends_a _ [] Tryz.results47
def m_spec_l1Name_AC (fuel : Nat) : Prop := ∀ (x1 : ByteArray) (r : Form), m_spec_l1Name fuel x1 = some r → AC Tryz.prog 49 [.t (.sc (.str x1))] noOb (.ag [.t (.sc (.int .i64 r.kind)), .t (.sc (.str r.name)), .t (.sc (.int .i64 r.n)), .t (.sl (r.scopes.map rI)), .t (.sl (r.kids.map Form.row))]) noOb
theorem m_spec_l1Name_ok (fuel : Nat) : m_spec_l1Name_AC fuel := by
 intro x1 r hF0
 unfold m_spec_l1Name at hF0
 refine AC_i [.ag [.t (.sc (.int .i64 r.kind)), .t (.sc (.str r.name)), .t (.sc (.int .i64 r.n)), .t (.sl (r.scopes.map rI)), .t (.sl (r.kids.map Form.row))]] Tryz.func49 rfl Tryz.ntmps49 ?_
 intro C hC
 refine awp_seq (awp_region ?_)
 refine s_alloc yZ26 ?_
 refine k_nil (k_seq (awp_seq (awp_region ?_)))
 refine s_mv ?_
 refine s_bld yZ26 yL26 ?_
 refine s_stW yS26 ?_
 refine k_nil (k_seq (awp_ret (k_fin ?_)))
 cases hF0
 exact ends_gen [] [] (by rw [Tryz.results49]; exact (res_agg (by conv => lhs; whnf) (by conv => lhs; whnf) yA26 yS26 rfl res_nil))
def m_spec_l1Some_AC (fuel : Nat) : Prop := ∀ (o1 : l15Rd) (x2 : Int) (r : (Form × l15Rd)), m_spec_l1Some fuel o1 x2 = some r → AC Tryz.prog 27 [.rf 9000 0, .t (.sc (.int .i64 x2))] (objs [(9000, .box [.t (.sl (o1.b.map rB)), .t (.sc (.int .i64 o1.p))])]) (.ag [.t (.sc (.int .i64 r.1.kind)), .t (.sc (.str r.1.name)), .t (.sc (.int .i64 r.1.n)), .t (.sl (r.1.scopes.map rI)), .t (.sl (r.1.kids.map Form.row))]) (objs [(9000, .box [.t (.sl (r.2.b.map rB)), .t (.sc (.int .i64 r.2.p))])])
theorem m_spec_l1Some_st (fu : Nat) (ih_m_spec_l1Some : ∀ k, k ≤ fu → m_spec_l1Some_AC k) : m_spec_l1Some_AC (fu + 1) := by
 intro o1 x2 r hF0
 rw [m_spec_l1Some] at hF0
 refine AC_i [.ag [.t (.sc (.int .i64 r.1.kind)), .t (.sc (.str r.1.name)), .t (.sc (.int .i64 r.1.n)), .t (.sl (r.1.scopes.map rI)), .t (.sl (r.1.kids.map Form.row))]] Tryz.func27 rfl Tryz.ntmps27 ?_
 intro C hC
 refine awp_seq (awp_region ?_)
 refine s_alloc yZ26 ?_
 refine k_nil (k_seq (awp_seq (awp_seq (awp_region ?_))))
 refine s_mv ?_
 refine s_eq ?_
 refine s_mv ?_
 refine w_guard _ 9 hF0 ?_ ?_ <;> intro hc1 hF1
 iterate 3 refine r_no rfl ?_
 refine s_pkt ?_
 refine k_nil (k_seq (awp_true rfl (awp_seq (awp_seq (awp_region ?_)))))
 refine s_mv ?_
 obtain ⟨v2, hv2, hF2⟩ := bind_some' hF1
 refine s_call [(9000, 9000)] [] _ _ (m_spec_l15Rd_pick_ok fu _ _ _ hv2) ?_
 refine s_eq ?_
 refine k_nil (k_seq ?_)
 refine w_cond hF2 ?_ ?_ <;> intro hc3 hF3
 refine awp_seq (awp_region ?_)
 refine s_mv ?_
 refine s_bs rI [0, 1, 2, 7, 42, 999] yP23 yR3 ?_
 obtain ⟨v4, hv4, hF4⟩ := bind_some' hF3
 refine s_call [(9000, 9000)] [18] _ _ (m_spec_l15Rd_num_ok fu _ _ _ hv4) ?_
 refine s_bld yZ26 yL26 ?_
 refine s_stW yS26 ?_
 refine k_nil (k_seq (awp_ret (k_seq_ret (k_seq_ret (k_fin ?_)))))
 cases hF4
 exact ends_gen _ [] (by rw [Tryz.results27]; exact (res_agg (by conv => lhs; whnf) (by conv => lhs; whnf) yA26 yS26 rfl res_nil))
 refine awp_skip (k_seq (awp_seq (awp_region ?_)))
 refine s_mv ?_
 refine s_bs rS [(⟨#[97]⟩ : ByteArray), (⟨#[98]⟩ : ByteArray), (⟨#[120]⟩ : ByteArray), (⟨#[121]⟩ : ByteArray), (⟨#[102]⟩ : ByteArray), (⟨#[105, 102]⟩ : ByteArray), (⟨#[108, 101, 116]⟩ : ByteArray), (⟨#[43]⟩ : ByteArray)] yP52 yR9 ?_
 obtain ⟨v5, hv5, hF4⟩ := bind_some' hF3
 refine s_call [(9000, 9000)] [22] _ _ (m_spec_l15Rd_of_ok fu _ _ _ hv5) ?_
 obtain ⟨v6, hv6, hF5⟩ := bind_some' hF4
 refine s_pure [] (m_spec_l1Name_ok fu _ _ hv6) ?_
 refine s_stW yS26 ?_
 refine k_nil (k_seq (awp_ret (k_seq_ret (k_fin ?_))))
 cases hF5
 exact ends_gen _ [] (by rw [Tryz.results27]; exact (res_agg (by conv => lhs; whnf) (by conv => lhs; whnf) yA26 yS26 rfl res_nil))
 refine s_mv ?_
 obtain ⟨v7, hv7, hF2⟩ := bind_some' hF1
 refine s_call [(9000, 9000)] [] _ _ (m_spec_l15Rd_pick_ok fu _ _ _ hv7) ?_
 refine s_eq ?_
 refine s_pkf ?_
 refine k_nil (k_seq ?_)
 refine w_cond hF2 ?_ ?_ <;> intro hc8 hF3
 refine awp_seq (awp_seq (awp_region ?_))
 refine s_mv ?_
 obtain ⟨v9, hv9, hF4⟩ := bind_some' hF3
 refine s_call [(9000, 9000)] [] _ _ (m_spec_l15Rd_pick_ok fu _ _ _ hv9) ?_
 refine s_eq ?_
 refine k_nil (k_seq ?_)
 refine w_cond hF4 ?_ ?_ <;> intro hc10 hF5
 refine awp_seq (awp_region ?_)
 refine s_mv ?_
 refine s_bs rI [0, 1, 2, 7, 42, 999] yP23 yR3 ?_
 obtain ⟨v11, hv11, hF6⟩ := bind_some' hF5
 refine s_call [(9000, 9000)] [18] _ _ (m_spec_l15Rd_num_ok fu _ _ _ hv11) ?_
 refine s_bld yZ26 yL26 ?_
 refine s_stW yS26 ?_
 refine k_nil (k_seq (awp_ret (k_seq_ret (k_seq_ret (k_fin ?_)))))
 cases hF6
 exact ends_gen _ [] (by rw [Tryz.results27]; exact (res_agg (by conv => lhs; whnf) (by conv => lhs; whnf) yA26 yS26 rfl res_nil))
 refine awp_skip (k_seq (awp_seq (awp_region ?_)))
 refine s_mv ?_
 refine s_bs rS [(⟨#[97]⟩ : ByteArray), (⟨#[98]⟩ : ByteArray), (⟨#[120]⟩ : ByteArray), (⟨#[121]⟩ : ByteArray), (⟨#[102]⟩ : ByteArray), (⟨#[105, 102]⟩ : ByteArray), (⟨#[108, 101, 116]⟩ : ByteArray), (⟨#[43]⟩ : ByteArray)] yP52 yR9 ?_
 obtain ⟨v12, hv12, hF6⟩ := bind_some' hF5
 refine s_call [(9000, 9000)] [22] _ _ (m_spec_l15Rd_of_ok fu _ _ _ hv12) ?_
 obtain ⟨v13, hv13, hF7⟩ := bind_some' hF6
 refine s_pure [] (m_spec_l1Name_ok fu _ _ hv13) ?_
 refine s_stW yS26 ?_
 refine k_nil (k_seq (awp_ret (k_seq_ret (k_fin ?_))))
 cases hF7
 exact ends_gen _ [] (by rw [Tryz.results27]; exact (res_agg (by conv => lhs; whnf) (by conv => lhs; whnf) yA26 yS26 rfl res_nil))
 refine awp_skip (k_seq (awp_seq (awp_region ?_)))
 refine s_bld yZ26 yL26 ?_
 refine s_alloc yZ26 ?_
 refine s_stW yS26 ?_
 refine k_nil (k_seq (awp_seq (awp_seq (awp_region ?_))))
 refine s_mv ?_
 obtain ⟨v14, hv14, hF4⟩ := bind_some' hF3
 refine s_call [(9000, 9000)] [] _ _ (m_spec_l15Rd_pick_ok fu _ _ _ hv14) ?_
 refine s_as ?_
 refine k_nil (k_seq (awp_block ?_))
 refine awp_ownB 5 5020 26 [.t (.sc (.int .i64 3)), .t (.sc (.str (⟨#[]⟩ : ByteArray))), .t (.sc (.int .i64 0)), .nl, .ar 5020] yI26.choose_spec ?_
 refine awp_frame2 [6, 28, 29, 30, 31, 32, 33, 34, 35, 36, 37, 38, 39, 40] [5, 5020, 9000] [38, 39] [5020] (fun a : Nat × Int × (List Int) × Int × (List Form) => a.1) (fun a : Nat × Int × (List Int) × Int × (List Form) => [(6, .t (.sc (.int .i64 a.2.1)))]) (fun a : Nat × Int × (List Int) × Int × (List Form) => [(5, .box [.t (.sc (.int .i64 3)), .t (.sc (.str (⟨#[]⟩ : ByteArray))), .t (.sc (.int .i64 0)), .nl, .ar 5020]), (5020, .arr (a.2.2.2.2.map Form.row) 26 true), (9000, .box [.t (.sl (a.2.2.1.map rB)), .t (.sc (.int .i64 a.2.2.2.1))])]) (fun a : Nat × Int × (List Int) × Int × (List Form) => a.1 ≤ fu ∧ m_spec_l1Some_l1 a.1 x2 a.2.1 a.2.2.1 a.2.2.2.1 a.2.2.2.2 = some r) (fu, v14.1, v14.2.b, v14.2.p, ([] : List Form)) ⟨Nat.le_refl _, hF4⟩ (by rfl) (by rfl) (fun _ => rfl) (hasF_cons (by conv => lhs; whnf) (by rfl) hasF_nil) (hasO_cons (by conv => lhs; whnf) (by rfl) (hasO_cons (by conv => lhs; whnf) (by rfl) (hasO_cons (by conv => lhs; whnf) (by rfl) hasO_nil))) (fresh_C hC rfl) (by repeat (first | exact freshS_args rfl | refine freshS_upd rfl ?_ | refine freshS_frame rfl ?_)) (by repeat (first | exact freshM_no | exact objs_fresh rfl | refine freshM_upd rfl ?_ | refine freshM_frame rfl ?_)) ?_
 clear hF4
 rintro ⟨fu, g15, g16, g17, g18⟩ ⟨hl19, hF5⟩
 dsimp only at hl19 hF5 ⊢
 obtain _ | fu := fu
 · rw [m_spec_l1Some_l1] at hF5; cases hF5
 rw [m_spec_l1Some_l1] at hF5
 refine awp_seq (awp_seq (awp_region ?_))
 refine s_mv ?_
 refine s_gt ?_
 refine k_nil (k_seq ?_)
 refine w_cond hF5 ?_ ?_ <;> intro hc20 hF6
 refine awp_skip (k_seq (awp_seq (awp_block ?_)))
 refine awp_draw yMix (by kernel_rfl) ?_
 refine s_fa yF26_4 ?_
 refine s_ld1 yA24 ?_
 refine s_mv0 ?_
 refine s_mv ?_
 refine s_sub rfl ?_
 obtain ⟨v21, hv21, hF7⟩ := bind_some' hF6
 refine s_call [(9000, 9000)] [] _ _ (ih_m_spec_l1Some fu (by omega) _ _ _ hv21) ?_
 refine s_bs Form.row [v21.1] yP24 yR26 ?_
 obtain ⟨hk22, hF8⟩ := chk_some hF7
 refine s_apT Form.row (fun y => Form.row_len y) hk22 yP24 ?_
 refine s_fa yF26_4 ?_
 refine s_stP yS24 ?_
 refine k_nilD (by kernel_rfl) ?_
 refine k_blk (k_seq (awp_region ?_))
 refine s_mv ?_
 refine s_sub rfl ?_
 refine s_as ?_
 refine k_nil ?_
 exact s_rn (fu, (w64 (g15 - 1)), v21.2.b, v21.2.p, (g18 ++ [v21.1])) ⟨by first | omega | (dsimp only; omega), hF8⟩ [(5020, 39)]
 refine awp_exit (k_seq_exit (k_rnd_exit2 (k_blk_exit (k_seq (awp_seq (awp_region ?_))))))
 refine s_ldW yA26 yS26 ?_
 refine s_stW yS26 ?_
 refine k_nil (k_seq (awp_ret (k_fin ?_)))
 cases hF6
 exact ends_gen _ [5020] (by rw [Tryz.results27]; exact (res_agg (by conv => lhs; whnf) (by conv => lhs; whnf) yA26 yS26 rfl res_nil))
theorem m_spec_l1Some_all (fuel : Nat) : m_spec_l1Some_AC fuel := by
 induction fuel using Nat.strongRecOn with
 | _ N ih =>
   cases N with
   | zero => exact (by intro o1 x2 r h; rw [m_spec_l1Some] at h; cases h)
   | succ fu => exact m_spec_l1Some_st fu (fun k hk => (ih k (by omega)))
theorem m_spec_l1Some_ok (fuel : Nat) : m_spec_l1Some_AC fuel := (m_spec_l1Some_all fuel)
def m_spec_l1Copy_AC (fuel : Nat) : Prop := ∀ (x1 : Form) (r : Form), m_spec_l1Copy fuel x1 = some r → AC Tryz.prog 48 [.ag [.t (.sc (.int .i64 x1.kind)), .t (.sc (.str x1.name)), .t (.sc (.int .i64 x1.n)), .t (.sl (x1.scopes.map rI)), .t (.sl (x1.kids.map Form.row))]] (objs []) (.ag [.t (.sc (.int .i64 r.kind)), .t (.sc (.str r.name)), .t (.sc (.int .i64 r.n)), .ar 9203, .ar 9204]) (objs [(9203, .arr (r.scopes.map rI) 3 true), (9204, .arr (r.kids.map Form.row) 26 true)])
theorem m_spec_l1Copy_st (fu : Nat) (ih_m_spec_l1Copy : ∀ k, k ≤ fu → m_spec_l1Copy_AC k) : m_spec_l1Copy_AC (fu + 1) := by
 intro x1 r hF0
 rw [m_spec_l1Copy] at hF0
 refine AC_i [.ag [.t (.sc (.int .i64 r.kind)), .t (.sc (.str r.name)), .t (.sc (.int .i64 r.n)), .ar 9203, .ar 9204]] Tryz.func48 rfl Tryz.ntmps48 ?_
 intro C hC
 refine awp_seq (awp_region ?_)
 refine s_box ?_
 refine s_alloc yZ26 ?_
 refine k_nil (k_seq (awp_seq ?_))
 refine awp_draw yMix (by kernel_rfl) ?_
 refine s_fa yF26_0 ?_
 refine s_ld1 yA3 ?_
 refine s_fa yF26_1 ?_
 refine s_ld1 yA9 ?_
 refine s_fa yF26_2 ?_
 refine s_ld1 yA3 ?_
 refine s_bs rI ([] : List Int) yP23 yR3 ?_
 refine s_fa yF26_3 ?_
 refine s_ld1 yA23 ?_
 obtain ⟨hk1, hF1⟩ := chk_some hF0
 refine s_apT rI (fun _ => rfl) hk1 yP23 ?_
 refine s_bld yZ26 yL26 ?_
 refine s_alloc yZ26 ?_
 refine s_stW yS26 ?_
 refine k_nilD (by kernel_rfl) ?_
 refine k_seq (awp_seq (awp_seq (awp_region ?_)))
 refine s_as ?_
 refine k_nil (k_seq (awp_block ?_))
 refine awp_ownB 3 5020 26 [.t (.sc (.int .i64 x1.kind)), .t (.sc (.str x1.name)), .t (.sc (.int .i64 x1.n)), .ar 14, .ar 5020] yI26.choose_spec ?_
 refine awp_frame2 [4, 16, 17, 18, 19, 20, 21, 22, 23, 24, 25, 26, 27, 28, 29, 30, 31, 32, 33] [3, 5020] [31, 32, 2030, 12030] [5020] (fun a : Nat × Int × (List Form) => a.1) (fun a : Nat × Int × (List Form) => [(4, .t (.sc (.int .i64 a.2.1)))]) (fun a : Nat × Int × (List Form) => [(3, .box [.t (.sc (.int .i64 x1.kind)), .t (.sc (.str x1.name)), .t (.sc (.int .i64 x1.n)), .ar 14, .ar 5020]), (5020, .arr (a.2.2.map Form.row) 26 true)]) (fun a : Nat × Int × (List Form) => a.1 ≤ fu ∧ m_spec_l1Copy_l1 a.1 x1 a.2.1 a.2.2 = some r ∧ 0 ≤ a.2.1) (fu, 0, ([] : List Form)) ⟨Nat.le_refl _, hF1, by simp⟩ (by rfl) (by rfl) (fun _ => rfl) (hasF_cons (by conv => lhs; whnf) (by rfl) hasF_nil) (hasO_cons (by conv => lhs; whnf) (by rfl) (hasO_cons (by conv => lhs; whnf) (by rfl) hasO_nil)) (fresh_C hC rfl) (by repeat (first | exact freshS_args rfl | refine freshS_upd rfl ?_ | refine freshS_frame rfl ?_)) (by repeat (first | exact freshM_no | exact objs_fresh rfl | refine freshM_upd rfl ?_ | refine freshM_frame rfl ?_)) ?_
 clear hF1
 rintro ⟨fu, g2, g3⟩ ⟨hl4, hF2, hn_g2⟩
 dsimp only at hl4 hF2 hn_g2 ⊢
 obtain _ | fu := fu
 · rw [m_spec_l1Copy_l1] at hF2; cases hF2
 rw [m_spec_l1Copy_l1] at hF2
 refine awp_seq (awp_seq (awp_region ?_))
 refine s_mv ?_
 refine s_fa yF26_4 ?_
 refine s_ld1 yA24 ?_
 refine s_lenT yU24 ?_
 refine s_lt ?_
 refine k_nil (k_seq ?_)
 refine w_cond hF2 ?_ ?_ <;> intro hc5 hF3
 refine awp_lenT 18 (fun hb6 => ?_)
 refine awp_skip (k_seq (awp_seq (awp_block ?_)))
 refine awp_draw yMix (by kernel_rfl) ?_
 refine s_fa yF26_4 ?_
 refine s_ld1 yA24 ?_
 refine s_fa yF26_4 ?_
 refine s_ld1 yA24 ?_
 refine s_mv ?_
 obtain ⟨v7, hv7, hF4⟩ := bind_some' hF3
 refine s_ixT Form.row hv7 (Form.row_eq _) yE24 ?_
 refine s_ldN yA26 yS26 ?_
 obtain ⟨v8, hv8, hF5⟩ := bind_some' hF4
 refine s_call [(9203, 2030), (9204, 12030)] [] _ _ (ih_m_spec_l1Copy fu (by omega) _ _ hv8) ?_
 refine s_bs Form.row [v8] yP24 yR26 ?_
 obtain ⟨hk9, hF6⟩ := chk_some hF5
 refine s_apT Form.row (fun y => Form.row_len y) hk9 yP24 ?_
 refine s_fa yF26_4 ?_
 refine s_stP yS24 ?_
 refine k_nilD (by kernel_rfl) ?_
 refine k_blk (k_seq (awp_region ?_))
 refine s_mv ?_
 refine s_add (winc2 hc5 hb6 hn_g2) ?_
 refine s_as ?_
 refine k_nil ?_
 exact s_rn (fu, (g2 + 1), (g3 ++ [v8])) ⟨by first | omega | (dsimp only; omega), hF6, by first | omega | (dsimp only; omega)⟩ [(5020, 32)]
 refine awp_exit (k_seq_exit (k_rnd_exit2 (k_blk_exit (k_seq (awp_seq (awp_region ?_))))))
 refine s_ldW yA26 yS26 ?_
 refine s_stW yS26 ?_
 refine k_nil (k_seq ?_)
 refine awp_mvB 2 14 9203 [.t (.sc (.int .i64 x1.kind)), .t (.sc (.str x1.name)), .t (.sc (.int .i64 x1.n)), .ar 9203, .ar 5020] ?_
 refine awp_mvB 2 5020 9204 [.t (.sc (.int .i64 x1.kind)), .t (.sc (.str x1.name)), .t (.sc (.int .i64 x1.n)), .ar 9203, .ar 9204] ?_
 refine awp_ret (k_fin ?_)
 cases hF3
 exact ends_gen _ [] (by rw [Tryz.results48]; exact (res_agg (by conv => lhs; whnf) (by conv => lhs; whnf) yA26 yS26 rfl res_nil))
theorem m_spec_l1Copy_all (fuel : Nat) : m_spec_l1Copy_AC fuel := by
 induction fuel using Nat.strongRecOn with
 | _ N ih =>
   cases N with
   | zero => exact (by intro x1 r h; rw [m_spec_l1Copy] at h; cases h)
   | succ fu => exact m_spec_l1Copy_st fu (fun k hk => (ih k (by omega)))
theorem m_spec_l1Copy_ok (fuel : Nat) : m_spec_l1Copy_AC fuel := (m_spec_l1Copy_all fuel)
def m_spec_l1Dress_AC (fuel : Nat) : Prop := ∀ (o1 : l15Rd) (x2 : Form) (r : (Form × l15Rd)), m_spec_l1Dress fuel o1 x2 = some r → AC Tryz.prog 26 [.rf 9000 0, .ag [.t (.sc (.int .i64 x2.kind)), .t (.sc (.str x2.name)), .t (.sc (.int .i64 x2.n)), .t (.sl (x2.scopes.map rI)), .t (.sl (x2.kids.map Form.row))]] (objs [(9000, .box [.t (.sl (o1.b.map rB)), .t (.sc (.int .i64 o1.p))])]) (.ag [.t (.sc (.int .i64 r.1.kind)), .t (.sc (.str r.1.name)), .t (.sc (.int .i64 r.1.n)), .t (.sl (r.1.scopes.map rI)), .t (.sl (r.1.kids.map Form.row))]) (objs [(9000, .box [.t (.sl (r.2.b.map rB)), .t (.sc (.int .i64 r.2.p))])])
theorem m_spec_l1Dress_st (fu : Nat) (ih_m_spec_l1Dress : ∀ k, k ≤ fu → m_spec_l1Dress_AC k) : m_spec_l1Dress_AC (fu + 1) := by
 intro o1 x2 r hF0
 rw [m_spec_l1Dress] at hF0
 refine AC_i [.ag [.t (.sc (.int .i64 r.1.kind)), .t (.sc (.str r.1.name)), .t (.sc (.int .i64 r.1.n)), .t (.sl (r.1.scopes.map rI)), .t (.sl (r.1.kids.map Form.row))]] Tryz.func26 rfl Tryz.ntmps26 ?_
 intro C hC
 refine awp_seq (awp_region ?_)
 refine s_box ?_
 refine s_alloc yZ26 ?_
 refine k_nil (k_seq (awp_seq (awp_region ?_)))
 refine s_ldW yA26 yS26 ?_
 obtain ⟨v1, hv1, hF1⟩ := bind_some' hF0
 refine s_call [(9203, 2009), (9204, 12009)] [] _ _ (m_spec_l1Copy_ok fu _ _ hv1) ?_
 refine s_alloc yZ26 ?_
 refine s_stW yS26 ?_
 refine k_nil (k_seq (awp_seq (awp_seq (awp_region ?_))))
 refine s_fa yF26_0 ?_
 refine s_ld1 yA3 ?_
 refine s_eq ?_
 refine k_nil (k_seq ?_)
 refine w_cond hF1 ?_ ?_ <;> intro hc2 hF2
 refine awp_seq (awp_region ?_)
 refine s_bs rI ([] : List Int) yP23 yR3 ?_
 refine s_bs rI [1] yP23 yR3 ?_
 refine s_bs rI [2] yP23 yR3 ?_
 refine s_bs rI [1, 2] yP23 yR3 ?_
 refine s_bs rI [1, 3] yP23 yR3 ?_
 refine s_bs rI [1, 2, 3] yP23 yR3 ?_
 refine s_bs rI [99] yP23 yR3 ?_
 refine s_bs (rL rI) [([] : List Int), [1], [2], [1, 2], [1, 3], [1, 2, 3], [99]] yP76 yR23 ?_
 refine s_as ?_
 refine k_nil (k_seq (awp_region ?_))
 refine s_bs rI ([] : List Int) yP23 yR3 ?_
 iterate 3 refine s_mv ?_
 refine s_lenA yU76 ?_
 obtain ⟨v3, hv3, hF3⟩ := bind_some' hF2
 refine s_call [(9000, 9000)] [] _ _ (m_spec_l15Rd_pick_ok fu _ _ _ hv3) ?_
 obtain ⟨v4, hv4, hF4⟩ := bind_some' hF3
 refine s_ixA (rL rI) hv4 yE76 ?_
 refine s_lA1 (rL rI) hv4 rfl yA23 ?_
 obtain ⟨hk5, hF5⟩ := chk_some hF4
 refine s_apT rI (fun _ => rfl) hk5 yP23 ?_
 refine s_fa yF26_3 ?_
 refine s_stP yS23 ?_
 refine k_nil (k_seq (awp_seq (awp_seq (awp_region ?_))))
 refine s_as ?_
 refine k_nil (k_seq (awp_block ?_))
 refine awp_fr (β := Int × (List Int) × Int × (List Form)) [7, 31, 32, 33, 34, 35, 36, 37, 38, 39, 40, 41, 42, 43, 44, 45, 46, 47, 48] [9000, 12009] [] (fun a => [(7, .t (.sc (.int .i64 a.2.1)))]) (fun a => [(9000, .box [.t (.sl (a.2.2.1.map rB)), .t (.sc (.int .i64 a.2.2.2.1))]), (12009, .arr (a.2.2.2.2.map Form.row) 26 true)]) (fun a => a.1 ≤ fu ∧ m_spec_l1Dress_l1 a.1 v1 v4 a.2.1 a.2.2.1 a.2.2.2.1 a.2.2.2.2 = some r ∧ 0 ≤ a.2.1) (fu, 0, v3.2.b, v3.2.p, v1.kids) ⟨Nat.le_refl _, hF5, by simp⟩ ?_
 clear hF5
 rintro ⟨fu, g6, g7, g8, g9⟩ ⟨hl10, hF6, hn_g6⟩
 dsimp only at hl10 hF6 hn_g6 ⊢
 obtain _ | fu := fu
 · rw [m_spec_l1Dress_l1] at hF6; cases hF6
 rw [m_spec_l1Dress_l1] at hF6
 refine awp_seq (awp_seq (awp_region ?_))
 refine s_mv ?_
 refine s_fa yF26_4 ?_
 refine s_ld1 yA24 ?_
 refine s_lenA yU24 ?_
 refine s_lt ?_
 refine k_nil (k_seq ?_)
 refine w_cond hF6 ?_ ?_ <;> intro hc11 hF7
 refine awp_lenA 33 12009 (fun hb12 => ?_)
 refine awp_skip (k_seq (awp_seq (awp_block ?_)))
 refine awp_draw yMix (by kernel_rfl) ?_
 refine s_fa yF26_4 ?_
 refine s_ld1 yA24 ?_
 refine s_mv ?_
 refine s_mv0 ?_
 refine s_fa yF26_4 ?_
 refine s_ld1 yA24 ?_
 refine s_mv ?_
 obtain ⟨v13, hv13, hF8⟩ := bind_some' hF7
 refine s_ixA Form.row hv13 yE24 ?_
 refine s_lAN Form.row hv13 (Form.row_eq _) yA26 yS26 ?_
 obtain ⟨v14, hv14, hF9⟩ := bind_some' hF8
 refine s_call [(9000, 9000)] [] _ _ (ih_m_spec_l1Dress fu (by omega) _ _ _ hv14) ?_
 obtain ⟨v15, hv15, hF10⟩ := bind_some' hF9
 refine s_ixA Form.row hv15 yE24 ?_
 refine s_stA Form.row v14.1 hv15 (Form.row_eq _) (Form.row_eq _) yS26 yS26 ?_
 refine k_nilD (by kernel_rfl) ?_
 refine k_blk (k_seq (awp_region ?_))
 refine s_mv ?_
 refine s_add (winc2 hc11 hb12 hn_g6) ?_
 refine s_as ?_
 refine k_nil ?_
 exact s_rn (fu, (g6 + 1), v14.2.b, v14.2.p, (g9.set g6.toNat v14.1)) ⟨by first | omega | (dsimp only; omega), hF10, by first | omega | (dsimp only; omega)⟩
 refine awp_exit (k_seq_exit (k_rnd_exit2 (k_blk_exit (k_seq (awp_seq (awp_region ?_))))))
 refine s_ldW yA26 yS26 ?_
 refine s_stW yS26 ?_
 refine k_nil (k_seq (awp_ret (k_fin ?_)))
 cases hF7
 exact ends_gen _ [29, 12009] (by rw [Tryz.results26]; exact (res_agg (by conv => lhs; whnf) (by conv => lhs; whnf) yA26 yS26 rfl res_nil))
 refine awp_skip (k_seq (awp_seq (awp_seq (awp_region ?_))))
 refine s_as ?_
 refine k_nil (k_seq (awp_block ?_))
 refine awp_fr (β := Int × (List Int) × Int × (List Form)) [7, 31, 32, 33, 34, 35, 36, 37, 38, 39, 40, 41, 42, 43, 44, 45, 46, 47, 48] [9000, 12009] [] (fun a => [(7, .t (.sc (.int .i64 a.2.1)))]) (fun a => [(9000, .box [.t (.sl (a.2.2.1.map rB)), .t (.sc (.int .i64 a.2.2.2.1))]), (12009, .arr (a.2.2.2.2.map Form.row) 26 true)]) (fun a => a.1 ≤ fu ∧ m_spec_l1Dress_l2 a.1 v1 a.2.1 a.2.2.1 a.2.2.2.1 a.2.2.2.2 = some r ∧ 0 ≤ a.2.1) (fu, 0, o1.b, o1.p, v1.kids) ⟨Nat.le_refl _, hF2, by simp⟩ ?_
 clear hF2
 rintro ⟨fu, g16, g17, g18, g19⟩ ⟨hl20, hF3, hn_g16⟩
 dsimp only at hl20 hF3 hn_g16 ⊢
 obtain _ | fu := fu
 · rw [m_spec_l1Dress_l2] at hF3; cases hF3
 rw [m_spec_l1Dress_l2] at hF3
 refine awp_seq (awp_seq (awp_region ?_))
 refine s_mv ?_
 refine s_fa yF26_4 ?_
 refine s_ld1 yA24 ?_
 refine s_lenA yU24 ?_
 refine s_lt ?_
 refine k_nil (k_seq ?_)
 refine w_cond hF3 ?_ ?_ <;> intro hc21 hF4
 refine awp_lenA 33 12009 (fun hb22 => ?_)
 refine awp_skip (k_seq (awp_seq (awp_block ?_)))
 refine awp_draw yMix (by kernel_rfl) ?_
 refine s_fa yF26_4 ?_
 refine s_ld1 yA24 ?_
 refine s_mv ?_
 refine s_mv0 ?_
 refine s_fa yF26_4 ?_
 refine s_ld1 yA24 ?_
 refine s_mv ?_
 obtain ⟨v23, hv23, hF5⟩ := bind_some' hF4
 refine s_ixA Form.row hv23 yE24 ?_
 refine s_lAN Form.row hv23 (Form.row_eq _) yA26 yS26 ?_
 obtain ⟨v24, hv24, hF6⟩ := bind_some' hF5
 refine s_call [(9000, 9000)] [] _ _ (ih_m_spec_l1Dress fu (by omega) _ _ _ hv24) ?_
 obtain ⟨v25, hv25, hF7⟩ := bind_some' hF6
 refine s_ixA Form.row hv25 yE24 ?_
 refine s_stA Form.row v24.1 hv25 (Form.row_eq _) (Form.row_eq _) yS26 yS26 ?_
 refine k_nilD (by kernel_rfl) ?_
 refine k_blk (k_seq (awp_region ?_))
 refine s_mv ?_
 refine s_add (winc2 hc21 hb22 hn_g16) ?_
 refine s_as ?_
 refine k_nil ?_
 exact s_rn (fu, (g16 + 1), v24.2.b, v24.2.p, (g19.set g16.toNat v24.1)) ⟨by first | omega | (dsimp only; omega), hF7, by first | omega | (dsimp only; omega)⟩
 refine awp_exit (k_seq_exit (k_rnd_exit2 (k_blk_exit (k_seq (awp_seq (awp_region ?_))))))
 refine s_ldW yA26 yS26 ?_
 refine s_stW yS26 ?_
 refine k_nil (k_seq (awp_ret (k_fin ?_)))
 cases hF4
 exact ends_gen _ [2009, 12009] (by rw [Tryz.results26]; exact (res_agg (by conv => lhs; whnf) (by conv => lhs; whnf) yA26 yS26 rfl res_nil))
theorem m_spec_l1Dress_all (fuel : Nat) : m_spec_l1Dress_AC fuel := by
 induction fuel using Nat.strongRecOn with
 | _ N ih =>
   cases N with
   | zero => exact (by intro o1 x2 r h; rw [m_spec_l1Dress] at h; cases h)
   | succ fu => exact m_spec_l1Dress_st fu (fun k hk => (ih k (by omega)))
theorem m_spec_l1Dress_ok (fuel : Nat) : m_spec_l1Dress_AC fuel := (m_spec_l1Dress_all fuel)
def m_spec_l1Mutate_AC (fuel : Nat) : Prop := ∀ (o1 : l15Rd) (x2 : Form) (r : (Form × l15Rd)), m_spec_l1Mutate fuel o1 x2 = some r → AC Tryz.prog 30 [.rf 9000 0, .ag [.t (.sc (.int .i64 x2.kind)), .t (.sc (.str x2.name)), .t (.sc (.int .i64 x2.n)), .t (.sl (x2.scopes.map rI)), .t (.sl (x2.kids.map Form.row))]] (objs [(9000, .box [.t (.sl (o1.b.map rB)), .t (.sc (.int .i64 o1.p))])]) (.ag [.t (.sc (.int .i64 r.1.kind)), .t (.sc (.str r.1.name)), .t (.sc (.int .i64 r.1.n)), .t (.sl (r.1.scopes.map rI)), .t (.sl (r.1.kids.map Form.row))]) (objs [(9000, .box [.t (.sl (r.2.b.map rB)), .t (.sc (.int .i64 r.2.p))])])
theorem m_spec_l1Mutate_st (fu : Nat) (ih_m_spec_l1Mutate : ∀ k, k ≤ fu → m_spec_l1Mutate_AC k) : m_spec_l1Mutate_AC (fu + 1) := by
 intro o1 x2 r hF0
 rw [m_spec_l1Mutate] at hF0
 refine AC_i [.ag [.t (.sc (.int .i64 r.1.kind)), .t (.sc (.str r.1.name)), .t (.sc (.int .i64 r.1.n)), .t (.sl (r.1.scopes.map rI)), .t (.sl (r.1.kids.map Form.row))]] Tryz.func30 rfl Tryz.ntmps30 ?_
 intro C hC
 refine awp_seq (awp_region ?_)
 refine s_box ?_
 refine s_alloc yZ26 ?_
 refine k_nil (k_seq (awp_seq (awp_region ?_)))
 refine s_ldW yA26 yS26 ?_
 obtain ⟨v1, hv1, hF1⟩ := bind_some' hF0
 refine s_call [(9203, 2008), (9204, 12008)] [] _ _ (m_spec_l1Copy_ok fu _ _ hv1) ?_
 refine s_alloc yZ26 ?_
 refine s_stW yS26 ?_
 refine k_nil (k_seq (awp_seq (awp_seq (awp_region ?_))))
 refine s_fa yF26_4 ?_
 refine s_ld1 yA24 ?_
 refine s_lenA yU24 ?_
 refine s_gt ?_
 refine s_mv ?_
 refine w_guard _ 13 hF1 ?_ ?_ <;> intro hc2 hF2
 refine s_mv ?_
 obtain ⟨v3, hv3, hF3⟩ := bind_some' hF2
 refine s_call [(9000, 9000)] [] _ _ (m_spec_l15Rd_pick_ok fu _ _ _ hv3) ?_
 refine s_gt ?_
 refine s_pkt ?_
 refine k_nil (k_seq ?_)
 refine w_cond hF3 ?_ ?_ <;> intro hc4 hF4
 refine awp_seq (awp_region ?_)
 refine s_mv ?_
 refine s_fa yF26_4 ?_
 refine s_ld1 yA24 ?_
 refine s_lenA yU24 ?_
 obtain ⟨v5, hv5, hF5⟩ := bind_some' hF4
 refine s_call [(9000, 9000)] [] _ _ (m_spec_l15Rd_pick_ok fu _ _ _ hv5) ?_
 refine s_as ?_
 refine k_nil (k_seq (awp_seq ?_))
 refine awp_draw yMix (by kernel_rfl) ?_
 refine s_fa yF26_4 ?_
 refine s_ld1 yA24 ?_
 refine s_mv ?_
 refine s_mv0 ?_
 refine s_fa yF26_4 ?_
 refine s_ld1 yA24 ?_
 refine s_mv ?_
 obtain ⟨v6, hv6, hF6⟩ := bind_some' hF5
 refine s_ixA Form.row hv6 yE24 ?_
 refine s_lAN Form.row hv6 (Form.row_eq _) yA26 yS26 ?_
 obtain ⟨v7, hv7, hF7⟩ := bind_some' hF6
 refine s_call [(9000, 9000)] [] _ _ (ih_m_spec_l1Mutate fu (by omega) _ _ _ hv7) ?_
 obtain ⟨v8, hv8, hF8⟩ := bind_some' hF7
 refine s_ixA Form.row hv8 yE24 ?_
 refine s_stA Form.row v7.1 hv8 (Form.row_eq _) (Form.row_eq _) yS26 yS26 ?_
 refine k_nilD (by kernel_rfl) ?_
 refine k_seq (awp_seq (awp_region ?_))
 refine s_ldW yA26 yS26 ?_
 refine s_stW yS26 ?_
 refine k_nil (k_seq (awp_ret (k_seq_ret (k_fin ?_))))
 cases hF8
 exact ends_gen _ [2008, 12008] (by rw [Tryz.results30]; exact (res_agg (by conv => lhs; whnf) (by conv => lhs; whnf) yA26 yS26 rfl res_nil))
 refine awp_skip (k_seq (awp_seq (awp_seq (awp_region ?_))))
 refine s_mv ?_
 obtain ⟨v9, hv9, hF5⟩ := bind_some' hF4
 refine s_call [(9000, 9000)] [] _ _ (m_spec_l15Rd_pick_ok fu _ _ _ hv9) ?_
 refine k_nil (k_seq (awp_block (awp_seq (awp_region ?_))))
 refine s_eq ?_
 refine s_as ?_
 refine k_nil (k_seq ?_)
 refine w_cond hF5 ?_ ?_ <;> intro hc10 hF6
 refine awp_region ?_
 refine s_mv ?_
 refine s_bs rI [0, 4, 1, 3] yP23 yR3 ?_
 obtain ⟨v11, hv11, hF7⟩ := bind_some' hF6
 refine s_call [(9000, 9000)] [40] _ _ (m_spec_l15Rd_num_ok fu _ _ _ hv11) ?_
 refine s_fa yF26_0 ?_
 refine s_stP yS3 ?_
 refine k_nil (k_blk (k_seq (awp_seq (awp_region ?_))))
 refine s_ldW yA26 yS26 ?_
 refine s_stW yS26 ?_
 refine k_nil (k_seq (awp_ret (k_fin ?_)))
 cases hF7
 exact ends_gen _ [2008, 12008] (by rw [Tryz.results30]; exact (res_agg (by conv => lhs; whnf) (by conv => lhs; whnf) yA26 yS26 rfl res_nil))
 refine awp_seq (awp_region ?_)
 refine s_eq ?_
 refine s_as ?_
 refine k_nil (k_seq ?_)
 refine w_cond hF6 ?_ ?_ <;> intro hc12 hF7
 refine awp_region ?_
 refine s_mv ?_
 refine s_bs rS [(⟨#[]⟩ : ByteArray), (⟨#[65]⟩ : ByteArray), (⟨#[116, 111, 111, 108, 111, 110, 103, 97, 110, 97, 109, 101, 49]⟩ : ByteArray), (⟨#[122]⟩ : ByteArray), (⟨#[120, 32, 121]⟩ : ByteArray)] yP52 yR9 ?_
 obtain ⟨v13, hv13, hF8⟩ := bind_some' hF7
 refine s_call [(9000, 9000)] [46] _ _ (m_spec_l15Rd_of_ok fu _ _ _ hv13) ?_
 refine s_fa yF26_1 ?_
 refine s_stP yS9 ?_
 refine k_nil (k_blk (k_seq (awp_seq (awp_region ?_))))
 refine s_ldW yA26 yS26 ?_
 refine s_stW yS26 ?_
 refine k_nil (k_seq (awp_ret (k_fin ?_)))
 cases hF8
 exact ends_gen _ [2008, 12008] (by rw [Tryz.results30]; exact (res_agg (by conv => lhs; whnf) (by conv => lhs; whnf) yA26 yS26 rfl res_nil))
 refine awp_seq (awp_region ?_)
 refine s_eq ?_
 refine s_as ?_
 refine k_nil (k_seq ?_)
 refine w_cond hF7 ?_ ?_ <;> intro hc14 hF8
 refine awp_region ?_
 refine s_mv ?_
 refine s_bs rI [1000, (-1), 5] yP23 yR3 ?_
 obtain ⟨v15, hv15, hF9⟩ := bind_some' hF8
 refine s_call [(9000, 9000)] [52] _ _ (m_spec_l15Rd_num_ok fu _ _ _ hv15) ?_
 refine s_fa yF26_2 ?_
 refine s_stP yS3 ?_
 refine k_nil (k_blk (k_seq (awp_seq (awp_region ?_))))
 refine s_ldW yA26 yS26 ?_
 refine s_stW yS26 ?_
 refine k_nil (k_seq (awp_ret (k_fin ?_)))
 cases hF9
 exact ends_gen _ [2008, 12008] (by rw [Tryz.results30]; exact (res_agg (by conv => lhs; whnf) (by conv => lhs; whnf) yA26 yS26 rfl res_nil))
 refine awp_seq (awp_region ?_)
 refine s_eq ?_
 refine s_as ?_
 refine k_nil (k_seq ?_)
 refine w_cond hF8 ?_ ?_ <;> intro hc16 hF9
 refine awp_draw yMix (by kernel_rfl) ?_
 refine s_fa yF26_3 ?_
 refine s_ld1 yA23 ?_
 refine s_mv0 ?_
 refine s_bs rI [0, 100, 1, 50] yP23 yR3 ?_
 obtain ⟨v17, hv17, hF10⟩ := bind_some' hF9
 refine s_call [(9000, 9000)] [60] _ _ (m_spec_l15Rd_num_ok fu _ _ _ hv17) ?_
 refine s_bs rI [v17.1] yP23 yR3 ?_
 obtain ⟨hk18, hF11⟩ := chk_some hF10
 refine s_apT rI (fun _ => rfl) hk18 yP23 ?_
 refine s_fa yF26_3 ?_
 refine s_stP yS23 ?_
 refine k_nilD (by kernel_rfl) ?_
 refine k_blk (k_seq (awp_seq (awp_region ?_)))
 refine s_ldW yA26 yS26 ?_
 refine s_stW yS26 ?_
 refine k_nil (k_seq (awp_ret (k_fin ?_)))
 cases hF11
 exact ends_gen _ [63, 12008] (by rw [Tryz.results30]; exact (res_agg (by conv => lhs; whnf) (by conv => lhs; whnf) yA26 yS26 rfl res_nil))
 refine awp_skip (k_blk (k_seq (awp_seq (awp_region ?_))))
 refine s_ldW yA26 yS26 ?_
 refine s_stW yS26 ?_
 refine k_nil (k_seq (awp_ret (k_fin ?_)))
 cases hF9
 exact ends_gen _ [2008, 12008] (by rw [Tryz.results30]; exact (res_agg (by conv => lhs; whnf) (by conv => lhs; whnf) yA26 yS26 rfl res_nil))
 iterate 3 refine r_no rfl ?_
 refine s_pkf ?_
 refine k_nil (k_seq (awp_false rfl (awp_skip (k_seq (awp_seq (awp_seq (awp_region ?_)))))))
 refine s_mv ?_
 obtain ⟨v19, hv19, hF3⟩ := bind_some' hF2
 refine s_call [(9000, 9000)] [] _ _ (m_spec_l15Rd_pick_ok fu _ _ _ hv19) ?_
 refine k_nil (k_seq (awp_block (awp_seq (awp_region ?_))))
 refine s_eq ?_
 refine s_as ?_
 refine k_nil (k_seq ?_)
 refine w_cond hF3 ?_ ?_ <;> intro hc20 hF4
 refine awp_region ?_
 refine s_mv ?_
 refine s_bs rI [0, 4, 1, 3] yP23 yR3 ?_
 obtain ⟨v21, hv21, hF5⟩ := bind_some' hF4
 refine s_call [(9000, 9000)] [40] _ _ (m_spec_l15Rd_num_ok fu _ _ _ hv21) ?_
 refine s_fa yF26_0 ?_
 refine s_stP yS3 ?_
 refine k_nil (k_blk (k_seq (awp_seq (awp_region ?_))))
 refine s_ldW yA26 yS26 ?_
 refine s_stW yS26 ?_
 refine k_nil (k_seq (awp_ret (k_fin ?_)))
 cases hF5
 exact ends_gen _ [2008, 12008] (by rw [Tryz.results30]; exact (res_agg (by conv => lhs; whnf) (by conv => lhs; whnf) yA26 yS26 rfl res_nil))
 refine awp_seq (awp_region ?_)
 refine s_eq ?_
 refine s_as ?_
 refine k_nil (k_seq ?_)
 refine w_cond hF4 ?_ ?_ <;> intro hc22 hF5
 refine awp_region ?_
 refine s_mv ?_
 refine s_bs rS [(⟨#[]⟩ : ByteArray), (⟨#[65]⟩ : ByteArray), (⟨#[116, 111, 111, 108, 111, 110, 103, 97, 110, 97, 109, 101, 49]⟩ : ByteArray), (⟨#[122]⟩ : ByteArray), (⟨#[120, 32, 121]⟩ : ByteArray)] yP52 yR9 ?_
 obtain ⟨v23, hv23, hF6⟩ := bind_some' hF5
 refine s_call [(9000, 9000)] [46] _ _ (m_spec_l15Rd_of_ok fu _ _ _ hv23) ?_
 refine s_fa yF26_1 ?_
 refine s_stP yS9 ?_
 refine k_nil (k_blk (k_seq (awp_seq (awp_region ?_))))
 refine s_ldW yA26 yS26 ?_
 refine s_stW yS26 ?_
 refine k_nil (k_seq (awp_ret (k_fin ?_)))
 cases hF6
 exact ends_gen _ [2008, 12008] (by rw [Tryz.results30]; exact (res_agg (by conv => lhs; whnf) (by conv => lhs; whnf) yA26 yS26 rfl res_nil))
 refine awp_seq (awp_region ?_)
 refine s_eq ?_
 refine s_as ?_
 refine k_nil (k_seq ?_)
 refine w_cond hF5 ?_ ?_ <;> intro hc24 hF6
 refine awp_region ?_
 refine s_mv ?_
 refine s_bs rI [1000, (-1), 5] yP23 yR3 ?_
 obtain ⟨v25, hv25, hF7⟩ := bind_some' hF6
 refine s_call [(9000, 9000)] [52] _ _ (m_spec_l15Rd_num_ok fu _ _ _ hv25) ?_
 refine s_fa yF26_2 ?_
 refine s_stP yS3 ?_
 refine k_nil (k_blk (k_seq (awp_seq (awp_region ?_))))
 refine s_ldW yA26 yS26 ?_
 refine s_stW yS26 ?_
 refine k_nil (k_seq (awp_ret (k_fin ?_)))
 cases hF7
 exact ends_gen _ [2008, 12008] (by rw [Tryz.results30]; exact (res_agg (by conv => lhs; whnf) (by conv => lhs; whnf) yA26 yS26 rfl res_nil))
 refine awp_seq (awp_region ?_)
 refine s_eq ?_
 refine s_as ?_
 refine k_nil (k_seq ?_)
 refine w_cond hF6 ?_ ?_ <;> intro hc26 hF7
 refine awp_draw yMix (by kernel_rfl) ?_
 refine s_fa yF26_3 ?_
 refine s_ld1 yA23 ?_
 refine s_mv0 ?_
 refine s_bs rI [0, 100, 1, 50] yP23 yR3 ?_
 obtain ⟨v27, hv27, hF8⟩ := bind_some' hF7
 refine s_call [(9000, 9000)] [60] _ _ (m_spec_l15Rd_num_ok fu _ _ _ hv27) ?_
 refine s_bs rI [v27.1] yP23 yR3 ?_
 obtain ⟨hk28, hF9⟩ := chk_some hF8
 refine s_apT rI (fun _ => rfl) hk28 yP23 ?_
 refine s_fa yF26_3 ?_
 refine s_stP yS23 ?_
 refine k_nilD (by kernel_rfl) ?_
 refine k_blk (k_seq (awp_seq (awp_region ?_)))
 refine s_ldW yA26 yS26 ?_
 refine s_stW yS26 ?_
 refine k_nil (k_seq (awp_ret (k_fin ?_)))
 cases hF9
 exact ends_gen _ [63, 12008] (by rw [Tryz.results30]; exact (res_agg (by conv => lhs; whnf) (by conv => lhs; whnf) yA26 yS26 rfl res_nil))
 refine awp_skip (k_blk (k_seq (awp_seq (awp_region ?_))))
 refine s_ldW yA26 yS26 ?_
 refine s_stW yS26 ?_
 refine k_nil (k_seq (awp_ret (k_fin ?_)))
 cases hF7
 exact ends_gen _ [2008, 12008] (by rw [Tryz.results30]; exact (res_agg (by conv => lhs; whnf) (by conv => lhs; whnf) yA26 yS26 rfl res_nil))
theorem m_spec_l1Mutate_all (fuel : Nat) : m_spec_l1Mutate_AC fuel := by
 induction fuel using Nat.strongRecOn with
 | _ N ih =>
   cases N with
   | zero => exact (by intro o1 x2 r h; rw [m_spec_l1Mutate] at h; cases h)
   | succ fu => exact m_spec_l1Mutate_st fu (fun k hk => (ih k (by omega)))
theorem m_spec_l1Mutate_ok (fuel : Nat) : m_spec_l1Mutate_AC fuel := (m_spec_l1Mutate_all fuel)
def m_spec_DrawFormValid_AC (fuel : Nat) : Prop := ∀ (x1 : (List Int)) (r : Form), m_spec_DrawFormValid fuel x1 = some r → AC Tryz.prog 14 [.t (.sl (x1.map rB))] noOb (.ag [.t (.sc (.int .i64 r.kind)), .t (.sc (.str r.name)), .t (.sc (.int .i64 r.n)), .t (.sl (r.scopes.map rI)), .t (.sl (r.kids.map Form.row))]) noOb
theorem m_spec_DrawFormValid_ok (fuel : Nat) : m_spec_DrawFormValid_AC fuel := by
 intro x1 r hF0
 unfold m_spec_DrawFormValid at hF0
 refine AC_i [.ag [.t (.sc (.int .i64 r.kind)), .t (.sc (.str r.name)), .t (.sc (.int .i64 r.n)), .t (.sl (r.scopes.map rI)), .t (.sl (r.kids.map Form.row))]] Tryz.func14 rfl Tryz.ntmps14 ?_
 intro C hC
 refine awp_seq (awp_region ?_)
 refine s_alloc yZ26 ?_
 refine k_nil (k_seq (awp_seq (awp_region ?_)))
 refine s_mv ?_
 obtain ⟨v1, hv1, hF1⟩ := bind_some' hF0
 refine s_call [(10, 5)] [] _ _ (m_spec_l15Open_ok fuel _ _ hv1) ?_
 refine s_as ?_
 refine k_nil (k_seq (awp_seq (awp_region ?_)))
 iterate 5 refine s_mv ?_
 refine s_bs rI [3, 2, 4] yP23 yR3 ?_
 obtain ⟨v2, hv2, hF2⟩ := bind_some' hF1
 refine s_call [(9000, 5)] [11] _ _ (m_spec_l15Rd_num_ok fuel _ _ _ hv2) ?_
 obtain ⟨v3, hv3, hF3⟩ := bind_some' hF2
 refine s_call [(9000, 5)] [] _ _ (m_spec_l1Some_ok fuel _ _ _ hv3) ?_
 obtain ⟨v4, hv4, hF4⟩ := bind_some' hF3
 refine s_call [(9000, 5)] [] _ _ (m_spec_l1Dress_ok fuel _ _ _ hv4) ?_
 obtain ⟨v5, hv5, hF5⟩ := bind_some' hF4
 refine s_call [(9000, 5)] [] _ _ (m_spec_l1Mutate_ok fuel _ _ _ hv5) ?_
 obtain ⟨v6, hv6, hF6⟩ := bind_some' hF5
 refine s_call [(9000, 5)] [] _ _ (m_spec_l1Mutate_ok fuel _ _ _ hv6) ?_
 refine s_stW yS26 ?_
 refine k_nil (k_seq (awp_ret (k_fin ?_)))
 cases hF6
 exact ends_gen [] [] (by rw [Tryz.results14]; exact (res_agg (by conv => lhs; whnf) (by conv => lhs; whnf) yA26 yS26 rfl res_nil))
end Go.Abs
