/- A part of the proof: what the functions that the law calls answer, as pure values. -/
import Derived.Test.YtjjjnhpghhamkaaK0fb1e74e142c
import Derived.Test.YtjjjnhpghhamkaaK5072f0f9e6b5
import Derived.Test.YtjjjnhpghhamkaaK5424f2ade949
import Derived.Test.YtjjjnhpghhamkaaK98cf125b73d6
import Derived.Test.YtjjjnhpghhamkaaKb1b839bc88de
import Derived.Test.YtjjjnhpghhamkaaKc5b35558f828
set_option linter.unusedSimpArgs false
set_option linter.unusedVariables false
set_option maxRecDepth 100000
set_option maxHeartbeats 4000000
namespace Go.Abs
open Go.Proofs
def m_spec_l15Rd_of_AC (fuel : Nat) : Prop := ∀ (o1 : l15Rd) (x2 : (List ByteArray)) (r : (ByteArray × l15Rd)), m_spec_l15Rd_of fuel o1 x2 = some r → AC Try.prog 77 [.rf 9000 0, .t (.sl (x2.map rS))] (objs [(9000, .box [.t (.sl (o1.b.map rB)), .t (.sc (.int .i64 o1.p))])]) (.t (.sc (.str r.1))) (objs [(9000, .box [.t (.sl (r.2.b.map rB)), .t (.sc (.int .i64 r.2.p))])])
theorem m_spec_l15Rd_of_ok (fuel : Nat) : m_spec_l15Rd_of_AC fuel := by
 intro o1 x2 r hF0
 unfold m_spec_l15Rd_of at hF0
 refine AC_i [.t (.sc (.str r.1))] Try.func77 rfl Try.ntmps77 ?_
 intro C hC
 refine awp_seq (awp_region ?_)
 refine s_as ?_
 refine k_nil (k_seq (awp_seq (awp_region ?_)))
 iterate 3 refine s_mv ?_
 refine s_lenT yU72 ?_
 obtain ⟨v1, hv1, hF1⟩ := bind_some' hF0
 refine s_call [(9000, 9000)] [] _ _ (m_spec_l15Rd_pick_ok fuel _ _ _ hv1) ?_
 obtain ⟨v2, hv2, hF2⟩ := bind_some' hF1
 refine s_ixT rS hv2 rfl yE72 ?_
 refine s_ld1 yA9 ?_
 refine s_as ?_
 refine k_nil (k_seq (awp_ret (k_fin ?_)))
 cases hF2
 exact ends_a _ [] Try.results77
def m_spec_l1Mutate_AC (fuel : Nat) : Prop := ∀ (o1 : l15Rd) (x2 : Form) (r : (Form × l15Rd)), m_spec_l1Mutate fuel o1 x2 = some r → AC Try.prog 42 [.rf 9000 0, .ag [.t (.sc (.int .i64 x2.kind)), .t (.sc (.str x2.name)), .t (.sc (.int .i64 x2.n)), .t (.sl (x2.scopes.map rI)), .t (.sl (x2.kids.map Form.row))]] (objs [(9000, .box [.t (.sl (o1.b.map rB)), .t (.sc (.int .i64 o1.p))])]) (.ag [.t (.sc (.int .i64 r.1.kind)), .t (.sc (.str r.1.name)), .t (.sc (.int .i64 r.1.n)), .t (.sl (r.1.scopes.map rI)), .t (.sl (r.1.kids.map Form.row))]) (objs [(9000, .box [.t (.sl (r.2.b.map rB)), .t (.sc (.int .i64 r.2.p))])])
theorem m_spec_l1Mutate_st (fu : Nat) (ih_m_spec_l1Mutate : ∀ k, k ≤ fu → m_spec_l1Mutate_AC k) : m_spec_l1Mutate_AC (fu + 1) := by
 intro o1 x2 r hF0
 rw [m_spec_l1Mutate] at hF0
 refine AC_i [.ag [.t (.sc (.int .i64 r.1.kind)), .t (.sc (.str r.1.name)), .t (.sc (.int .i64 r.1.n)), .t (.sl (r.1.scopes.map rI)), .t (.sl (r.1.kids.map Form.row))]] Try.func42 rfl Try.ntmps42 ?_
 intro C hC
 refine awp_seq (awp_region ?_)
 refine s_box ?_
 refine s_alloc yZ27 ?_
 refine k_nil (k_seq (awp_seq (awp_region ?_)))
 refine s_ldW yA27 yS27 ?_
 obtain ⟨v1, hv1, hF1⟩ := bind_some' hF0
 refine s_call [(9203, 2008), (9204, 12008)] [] _ _ (m_spec_l1Copy_ok fu _ _ hv1) ?_
 refine s_alloc yZ27 ?_
 refine s_stW yS27 ?_
 refine k_nil (k_seq (awp_seq (awp_seq (awp_region ?_))))
 refine s_fa yF27_4 ?_
 refine s_ld1 yA25 ?_
 refine s_lenA yU25 ?_
 refine s_gt ?_
 refine s_mv ?_
 refine w_guard _ 13 hF1 ?_ ?_ <;> intro hc2 hF2
 refine s_mv ?_
 obtain ⟨v3, hv3, hF3⟩ := bind_some' hF2
 refine s_call [(9000, 9000)] [] _ _ (m_spec_l15Rd_pick_ok fu _ _ _ hv3) ?_
 refine s_gt ?_
 refine s_pkt ?_
 refine k_nil (k_seq ?_)
 refine w_cond hF3 ?_ ?_ <;> intro hc4 hF4
 refine awp_seq (awp_region ?_)
 refine s_mv ?_
 refine s_fa yF27_4 ?_
 refine s_ld1 yA25 ?_
 refine s_lenA yU25 ?_
 obtain ⟨v5, hv5, hF5⟩ := bind_some' hF4
 refine s_call [(9000, 9000)] [] _ _ (m_spec_l15Rd_pick_ok fu _ _ _ hv5) ?_
 refine s_as ?_
 refine k_nil (k_seq (awp_seq ?_))
 refine awp_draw yMix (by kernel_rfl) ?_
 refine s_fa yF27_4 ?_
 refine s_ld1 yA25 ?_
 refine s_mv ?_
 refine s_mv ?_
 refine s_fa yF27_4 ?_
 refine s_ld1 yA25 ?_
 refine s_mv ?_
 obtain ⟨v6, hv6, hF6⟩ := bind_some' hF5
 refine s_ixA Form.row hv6 yE25 ?_
 refine s_lAN Form.row hv6 (Form.row_eq _) yA27 yS27 ?_
 obtain ⟨v7, hv7, hF7⟩ := bind_some' hF6
 refine s_call [(9000, 9000)] [] _ _ (ih_m_spec_l1Mutate fu (by omega) _ _ _ hv7) ?_
 obtain ⟨v8, hv8, hF8⟩ := bind_some' hF7
 refine s_ixA Form.row hv8 yE25 ?_
 refine s_stA Form.row v7.1 hv8 (Form.row_eq _) (Form.row_eq _) yS27 yS27 ?_
 refine k_nilD (by kernel_rfl) ?_
 refine k_seq (awp_seq (awp_region ?_))
 refine s_ldW yA27 yS27 ?_
 refine s_stW yS27 ?_
 refine k_nil (k_seq (awp_ret (k_seq_ret (k_fin ?_))))
 cases hF8
 exact ends_gen _ [2008, 12008] (by rw [Try.results42]; exact (res_agg (by conv => lhs; whnf) (by conv => lhs; whnf) yA27 yS27 rfl res_nil))
 refine awp_skip (k_seq (awp_seq (awp_seq (awp_region ?_))))
 refine s_mv ?_
 obtain ⟨v9, hv9, hF5⟩ := bind_some' hF4
 refine s_call [(9000, 9000)] [] _ _ (m_spec_l15Rd_pick_ok fu _ _ _ hv9) ?_
 refine k_nil (k_seq (awp_block (awp_seq (awp_region ?_))))
 refine s_eq ?_
 refine s_as ?_
 refine k_nil (k_seq ?_)
 refine w_cond hF5 ?_ ?_ <;> intro hc10 hF6
 refine awp_region ?_
 refine s_mv ?_
 refine s_bs rI [0, 4, 1, 3] yP24 yR3 ?_
 obtain ⟨v11, hv11, hF7⟩ := bind_some' hF6
 refine s_call [(9000, 9000)] [40] _ _ (m_spec_l15Rd_num_ok fu _ _ _ hv11) ?_
 refine s_fa yF27_0 ?_
 refine s_stP yS3 ?_
 refine k_nil (k_blk (k_seq (awp_seq (awp_region ?_))))
 refine s_ldW yA27 yS27 ?_
 refine s_stW yS27 ?_
 refine k_nil (k_seq (awp_ret (k_fin ?_)))
 cases hF7
 exact ends_gen _ [2008, 12008] (by rw [Try.results42]; exact (res_agg (by conv => lhs; whnf) (by conv => lhs; whnf) yA27 yS27 rfl res_nil))
 refine awp_seq (awp_region ?_)
 refine s_eq ?_
 refine s_as ?_
 refine k_nil (k_seq ?_)
 refine w_cond hF6 ?_ ?_ <;> intro hc12 hF7
 refine awp_region ?_
 refine s_mv ?_
 refine s_bs rS [(⟨#[]⟩ : ByteArray), (⟨#[65]⟩ : ByteArray), (⟨#[116, 111, 111, 108, 111, 110, 103, 97, 110, 97, 109, 101, 49]⟩ : ByteArray), (⟨#[122]⟩ : ByteArray), (⟨#[120, 32, 121]⟩ : ByteArray)] yP72 yR9 ?_
 obtain ⟨v13, hv13, hF8⟩ := bind_some' hF7
 refine s_call [(9000, 9000)] [46] _ _ (m_spec_l15Rd_of_ok fu _ _ _ hv13) ?_
 refine s_fa yF27_1 ?_
 refine s_stP yS9 ?_
 refine k_nil (k_blk (k_seq (awp_seq (awp_region ?_))))
 refine s_ldW yA27 yS27 ?_
 refine s_stW yS27 ?_
 refine k_nil (k_seq (awp_ret (k_fin ?_)))
 cases hF8
 exact ends_gen _ [2008, 12008] (by rw [Try.results42]; exact (res_agg (by conv => lhs; whnf) (by conv => lhs; whnf) yA27 yS27 rfl res_nil))
 refine awp_seq (awp_region ?_)
 refine s_eq ?_
 refine s_as ?_
 refine k_nil (k_seq ?_)
 refine w_cond hF7 ?_ ?_ <;> intro hc14 hF8
 refine awp_region ?_
 refine s_mv ?_
 refine s_bs rI [1000, (-1), 5] yP24 yR3 ?_
 obtain ⟨v15, hv15, hF9⟩ := bind_some' hF8
 refine s_call [(9000, 9000)] [52] _ _ (m_spec_l15Rd_num_ok fu _ _ _ hv15) ?_
 refine s_fa yF27_2 ?_
 refine s_stP yS3 ?_
 refine k_nil (k_blk (k_seq (awp_seq (awp_region ?_))))
 refine s_ldW yA27 yS27 ?_
 refine s_stW yS27 ?_
 refine k_nil (k_seq (awp_ret (k_fin ?_)))
 cases hF9
 exact ends_gen _ [2008, 12008] (by rw [Try.results42]; exact (res_agg (by conv => lhs; whnf) (by conv => lhs; whnf) yA27 yS27 rfl res_nil))
 refine awp_seq (awp_region ?_)
 refine s_eq ?_
 refine s_as ?_
 refine k_nil (k_seq ?_)
 refine w_cond hF8 ?_ ?_ <;> intro hc16 hF9
 refine awp_draw yMix (by kernel_rfl) ?_
 refine s_fa yF27_3 ?_
 refine s_ld1 yA24 ?_
 refine s_mv ?_
 refine s_bs rI [0, 100, 1, 50] yP24 yR3 ?_
 obtain ⟨v17, hv17, hF10⟩ := bind_some' hF9
 refine s_call [(9000, 9000)] [60] _ _ (m_spec_l15Rd_num_ok fu _ _ _ hv17) ?_
 refine s_bs rI [v17.1] yP24 yR3 ?_
 obtain ⟨hk18, hF11⟩ := chk_some hF10
 refine s_apT rI (fun _ => rfl) hk18 yP24 ?_
 refine s_fa yF27_3 ?_
 refine s_stP yS24 ?_
 refine k_nilD (by kernel_rfl) ?_
 refine k_blk (k_seq (awp_seq (awp_region ?_)))
 refine s_ldW yA27 yS27 ?_
 refine s_stW yS27 ?_
 refine k_nil (k_seq (awp_ret (k_fin ?_)))
 cases hF11
 exact ends_gen _ [63, 12008] (by rw [Try.results42]; exact (res_agg (by conv => lhs; whnf) (by conv => lhs; whnf) yA27 yS27 rfl res_nil))
 refine awp_skip (k_blk (k_seq (awp_seq (awp_region ?_))))
 refine s_ldW yA27 yS27 ?_
 refine s_stW yS27 ?_
 refine k_nil (k_seq (awp_ret (k_fin ?_)))
 cases hF9
 exact ends_gen _ [2008, 12008] (by rw [Try.results42]; exact (res_agg (by conv => lhs; whnf) (by conv => lhs; whnf) yA27 yS27 rfl res_nil))
 iterate 3 refine r_no rfl ?_
 refine s_pkf ?_
 refine k_nil (k_seq (awp_false rfl (awp_skip (k_seq (awp_seq (awp_seq (awp_region ?_)))))))
 refine s_mv ?_
 obtain ⟨v19, hv19, hF3⟩ := bind_some' hF2
 refine s_call [(9000, 9000)] [] _ _ (m_spec_l15Rd_pick_ok fu _ _ _ hv19) ?_
 refine k_nil (k_seq (awp_block (awp_seq (awp_region ?_))))
 refine s_eq ?_
 refine s_as ?_
 refine k_nil (k_seq ?_)
 refine w_cond hF3 ?_ ?_ <;> intro hc20 hF4
 refine awp_region ?_
 refine s_mv ?_
 refine s_bs rI [0, 4, 1, 3] yP24 yR3 ?_
 obtain ⟨v21, hv21, hF5⟩ := bind_some' hF4
 refine s_call [(9000, 9000)] [40] _ _ (m_spec_l15Rd_num_ok fu _ _ _ hv21) ?_
 refine s_fa yF27_0 ?_
 refine s_stP yS3 ?_
 refine k_nil (k_blk (k_seq (awp_seq (awp_region ?_))))
 refine s_ldW yA27 yS27 ?_
 refine s_stW yS27 ?_
 refine k_nil (k_seq (awp_ret (k_fin ?_)))
 cases hF5
 exact ends_gen _ [2008, 12008] (by rw [Try.results42]; exact (res_agg (by conv => lhs; whnf) (by conv => lhs; whnf) yA27 yS27 rfl res_nil))
 refine awp_seq (awp_region ?_)
 refine s_eq ?_
 refine s_as ?_
 refine k_nil (k_seq ?_)
 refine w_cond hF4 ?_ ?_ <;> intro hc22 hF5
 refine awp_region ?_
 refine s_mv ?_
 refine s_bs rS [(⟨#[]⟩ : ByteArray), (⟨#[65]⟩ : ByteArray), (⟨#[116, 111, 111, 108, 111, 110, 103, 97, 110, 97, 109, 101, 49]⟩ : ByteArray), (⟨#[122]⟩ : ByteArray), (⟨#[120, 32, 121]⟩ : ByteArray)] yP72 yR9 ?_
 obtain ⟨v23, hv23, hF6⟩ := bind_some' hF5
 refine s_call [(9000, 9000)] [46] _ _ (m_spec_l15Rd_of_ok fu _ _ _ hv23) ?_
 refine s_fa yF27_1 ?_
 refine s_stP yS9 ?_
 refine k_nil (k_blk (k_seq (awp_seq (awp_region ?_))))
 refine s_ldW yA27 yS27 ?_
 refine s_stW yS27 ?_
 refine k_nil (k_seq (awp_ret (k_fin ?_)))
 cases hF6
 exact ends_gen _ [2008, 12008] (by rw [Try.results42]; exact (res_agg (by conv => lhs; whnf) (by conv => lhs; whnf) yA27 yS27 rfl res_nil))
 refine awp_seq (awp_region ?_)
 refine s_eq ?_
 refine s_as ?_
 refine k_nil (k_seq ?_)
 refine w_cond hF5 ?_ ?_ <;> intro hc24 hF6
 refine awp_region ?_
 refine s_mv ?_
 refine s_bs rI [1000, (-1), 5] yP24 yR3 ?_
 obtain ⟨v25, hv25, hF7⟩ := bind_some' hF6
 refine s_call [(9000, 9000)] [52] _ _ (m_spec_l15Rd_num_ok fu _ _ _ hv25) ?_
 refine s_fa yF27_2 ?_
 refine s_stP yS3 ?_
 refine k_nil (k_blk (k_seq (awp_seq (awp_region ?_))))
 refine s_ldW yA27 yS27 ?_
 refine s_stW yS27 ?_
 refine k_nil (k_seq (awp_ret (k_fin ?_)))
 cases hF7
 exact ends_gen _ [2008, 12008] (by rw [Try.results42]; exact (res_agg (by conv => lhs; whnf) (by conv => lhs; whnf) yA27 yS27 rfl res_nil))
 refine awp_seq (awp_region ?_)
 refine s_eq ?_
 refine s_as ?_
 refine k_nil (k_seq ?_)
 refine w_cond hF6 ?_ ?_ <;> intro hc26 hF7
 refine awp_draw yMix (by kernel_rfl) ?_
 refine s_fa yF27_3 ?_
 refine s_ld1 yA24 ?_
 refine s_mv ?_
 refine s_bs rI [0, 100, 1, 50] yP24 yR3 ?_
 obtain ⟨v27, hv27, hF8⟩ := bind_some' hF7
 refine s_call [(9000, 9000)] [60] _ _ (m_spec_l15Rd_num_ok fu _ _ _ hv27) ?_
 refine s_bs rI [v27.1] yP24 yR3 ?_
 obtain ⟨hk28, hF9⟩ := chk_some hF8
 refine s_apT rI (fun _ => rfl) hk28 yP24 ?_
 refine s_fa yF27_3 ?_
 refine s_stP yS24 ?_
 refine k_nilD (by kernel_rfl) ?_
 refine k_blk (k_seq (awp_seq (awp_region ?_)))
 refine s_ldW yA27 yS27 ?_
 refine s_stW yS27 ?_
 refine k_nil (k_seq (awp_ret (k_fin ?_)))
 cases hF9
 exact ends_gen _ [63, 12008] (by rw [Try.results42]; exact (res_agg (by conv => lhs; whnf) (by conv => lhs; whnf) yA27 yS27 rfl res_nil))
 refine awp_skip (k_blk (k_seq (awp_seq (awp_region ?_))))
 refine s_ldW yA27 yS27 ?_
 refine s_stW yS27 ?_
 refine k_nil (k_seq (awp_ret (k_fin ?_)))
 cases hF7
 exact ends_gen _ [2008, 12008] (by rw [Try.results42]; exact (res_agg (by conv => lhs; whnf) (by conv => lhs; whnf) yA27 yS27 rfl res_nil))
theorem m_spec_l1Mutate_all (fuel : Nat) : m_spec_l1Mutate_AC fuel := by
 induction fuel using Nat.strongRecOn with
 | _ N ih =>
   cases N with
   | zero => exact (by intro o1 x2 r h; rw [m_spec_l1Mutate] at h; cases h)
   | succ fu => exact m_spec_l1Mutate_st fu (fun k hk => (ih k (by omega)))
theorem m_spec_l1Mutate_ok (fuel : Nat) : m_spec_l1Mutate_AC fuel := (m_spec_l1Mutate_all fuel)
def m_spec_l1Dress_AC (fuel : Nat) : Prop := ∀ (o1 : l15Rd) (x2 : Form) (r : (Form × l15Rd)), m_spec_l1Dress fuel o1 x2 = some r → AC Try.prog 51 [.rf 9000 0, .ag [.t (.sc (.int .i64 x2.kind)), .t (.sc (.str x2.name)), .t (.sc (.int .i64 x2.n)), .t (.sl (x2.scopes.map rI)), .t (.sl (x2.kids.map Form.row))]] (objs [(9000, .box [.t (.sl (o1.b.map rB)), .t (.sc (.int .i64 o1.p))])]) (.ag [.t (.sc (.int .i64 r.1.kind)), .t (.sc (.str r.1.name)), .t (.sc (.int .i64 r.1.n)), .t (.sl (r.1.scopes.map rI)), .t (.sl (r.1.kids.map Form.row))]) (objs [(9000, .box [.t (.sl (r.2.b.map rB)), .t (.sc (.int .i64 r.2.p))])])
theorem m_spec_l1Dress_st (fu : Nat) (ih_m_spec_l1Dress : ∀ k, k ≤ fu → m_spec_l1Dress_AC k) : m_spec_l1Dress_AC (fu + 1) := by
 intro o1 x2 r hF0
 rw [m_spec_l1Dress] at hF0
 refine AC_i [.ag [.t (.sc (.int .i64 r.1.kind)), .t (.sc (.str r.1.name)), .t (.sc (.int .i64 r.1.n)), .t (.sl (r.1.scopes.map rI)), .t (.sl (r.1.kids.map Form.row))]] Try.func51 rfl Try.ntmps51 ?_
 intro C hC
 refine awp_seq (awp_region ?_)
 refine s_box ?_
 refine s_alloc yZ27 ?_
 refine k_nil (k_seq (awp_seq (awp_region ?_)))
 refine s_ldW yA27 yS27 ?_
 obtain ⟨v1, hv1, hF1⟩ := bind_some' hF0
 refine s_call [(9203, 2009), (9204, 12009)] [] _ _ (m_spec_l1Copy_ok fu _ _ hv1) ?_
 refine s_alloc yZ27 ?_
 refine s_stW yS27 ?_
 refine k_nil (k_seq (awp_seq (awp_seq (awp_region ?_))))
 refine s_fa yF27_0 ?_
 refine s_ld1 yA3 ?_
 refine s_eq ?_
 refine k_nil (k_seq ?_)
 refine w_cond hF1 ?_ ?_ <;> intro hc2 hF2
 refine awp_seq (awp_region ?_)
 refine s_bs rI ([] : List Int) yP24 yR3 ?_
 refine s_bs rI [1] yP24 yR3 ?_
 refine s_bs rI [2] yP24 yR3 ?_
 refine s_bs rI [1, 2] yP24 yR3 ?_
 refine s_bs rI [1, 3] yP24 yR3 ?_
 refine s_bs rI [1, 2, 3] yP24 yR3 ?_
 refine s_bs rI [99] yP24 yR3 ?_
 refine s_bs (rL rI) [([] : List Int), [1], [2], [1, 2], [1, 3], [1, 2, 3], [99]] yP105 yR24 ?_
 refine s_as ?_
 refine k_nil (k_seq (awp_region ?_))
 refine s_bs rI ([] : List Int) yP24 yR3 ?_
 iterate 3 refine s_mv ?_
 refine s_lenA yU105 ?_
 obtain ⟨v3, hv3, hF3⟩ := bind_some' hF2
 refine s_call [(9000, 9000)] [] _ _ (m_spec_l15Rd_pick_ok fu _ _ _ hv3) ?_
 obtain ⟨v4, hv4, hF4⟩ := bind_some' hF3
 refine s_ixA (rL rI) hv4 yE105 ?_
 refine s_lA1 (rL rI) hv4 rfl yA24 ?_
 obtain ⟨hk5, hF5⟩ := chk_some hF4
 refine s_apT rI (fun _ => rfl) hk5 yP24 ?_
 refine s_fa yF27_3 ?_
 refine s_stP yS24 ?_
 refine k_nil (k_seq (awp_seq (awp_seq (awp_region ?_))))
 refine s_as ?_
 refine k_nil (k_seq (awp_block ?_))
 refine awp_fr (β := Int × (List Int) × Int × (List Form)) [7, 31, 32, 33, 34, 35, 36, 37, 38, 39, 40, 41, 42, 43, 44, 45, 46, 47, 48] [9000, 12009] [] (fun a => [(7, .t (.sc (.int .i64 a.2.1)))]) (fun a => [(9000, .box [.t (.sl (a.2.2.1.map rB)), .t (.sc (.int .i64 a.2.2.2.1))]), (12009, .arr (a.2.2.2.2.map Form.row) 27 true)]) (fun a => a.1 ≤ fu ∧ m_spec_l1Dress_l1 a.1 v1 v4 a.2.1 a.2.2.1 a.2.2.2.1 a.2.2.2.2 = some r ∧ 0 ≤ a.2.1) (fu, 0, v3.2.b, v3.2.p, v1.kids) ⟨Nat.le_refl _, hF5, by simp⟩ ?_
 clear hF5
 rintro ⟨fu, g6, g7, g8, g9⟩ ⟨hl10, hF6, hn_g6⟩
 dsimp only at hl10 hF6 hn_g6 ⊢
 obtain _ | fu := fu
 · rw [m_spec_l1Dress_l1] at hF6; cases hF6
 rw [m_spec_l1Dress_l1] at hF6
 refine awp_seq (awp_seq (awp_region ?_))
 refine s_mv ?_
 refine s_fa yF27_4 ?_
 refine s_ld1 yA25 ?_
 refine s_lenA yU25 ?_
 refine s_lt ?_
 refine k_nil (k_seq ?_)
 refine w_cond hF6 ?_ ?_ <;> intro hc11 hF7
 refine awp_lenA 33 12009 (fun hb12 => ?_)
 refine awp_skip (k_seq (awp_seq (awp_block ?_)))
 refine awp_draw yMix (by kernel_rfl) ?_
 refine s_fa yF27_4 ?_
 refine s_ld1 yA25 ?_
 refine s_mv ?_
 refine s_mv ?_
 refine s_fa yF27_4 ?_
 refine s_ld1 yA25 ?_
 refine s_mv ?_
 obtain ⟨v13, hv13, hF8⟩ := bind_some' hF7
 refine s_ixA Form.row hv13 yE25 ?_
 refine s_lAN Form.row hv13 (Form.row_eq _) yA27 yS27 ?_
 obtain ⟨v14, hv14, hF9⟩ := bind_some' hF8
 refine s_call [(9000, 9000)] [] _ _ (ih_m_spec_l1Dress fu (by omega) _ _ _ hv14) ?_
 obtain ⟨v15, hv15, hF10⟩ := bind_some' hF9
 refine s_ixA Form.row hv15 yE25 ?_
 refine s_stA Form.row v14.1 hv15 (Form.row_eq _) (Form.row_eq _) yS27 yS27 ?_
 refine k_nilD (by kernel_rfl) ?_
 refine k_blk (k_seq (awp_region ?_))
 refine s_mv ?_
 refine s_add (winc2 hc11 hb12 hn_g6) ?_
 refine s_as ?_
 refine k_nil ?_
 exact s_rn (fu, (g6 + 1), v14.2.b, v14.2.p, (g9.set g6.toNat v14.1)) ⟨by first | omega | (dsimp only; omega), hF10, by first | omega | (dsimp only; omega)⟩
 refine awp_exit (k_seq_exit (k_rnd_exit2 (k_blk_exit (k_seq (awp_seq (awp_region ?_))))))
 refine s_ldW yA27 yS27 ?_
 refine s_stW yS27 ?_
 refine k_nil (k_seq (awp_ret (k_fin ?_)))
 cases hF7
 exact ends_gen _ [29, 12009] (by rw [Try.results51]; exact (res_agg (by conv => lhs; whnf) (by conv => lhs; whnf) yA27 yS27 rfl res_nil))
 refine awp_skip (k_seq (awp_seq (awp_seq (awp_region ?_))))
 refine s_as ?_
 refine k_nil (k_seq (awp_block ?_))
 refine awp_fr (β := Int × (List Int) × Int × (List Form)) [7, 31, 32, 33, 34, 35, 36, 37, 38, 39, 40, 41, 42, 43, 44, 45, 46, 47, 48] [9000, 12009] [] (fun a => [(7, .t (.sc (.int .i64 a.2.1)))]) (fun a => [(9000, .box [.t (.sl (a.2.2.1.map rB)), .t (.sc (.int .i64 a.2.2.2.1))]), (12009, .arr (a.2.2.2.2.map Form.row) 27 true)]) (fun a => a.1 ≤ fu ∧ m_spec_l1Dress_l2 a.1 v1 a.2.1 a.2.2.1 a.2.2.2.1 a.2.2.2.2 = some r ∧ 0 ≤ a.2.1) (fu, 0, o1.b, o1.p, v1.kids) ⟨Nat.le_refl _, hF2, by simp⟩ ?_
 clear hF2
 rintro ⟨fu, g16, g17, g18, g19⟩ ⟨hl20, hF3, hn_g16⟩
 dsimp only at hl20 hF3 hn_g16 ⊢
 obtain _ | fu := fu
 · rw [m_spec_l1Dress_l2] at hF3; cases hF3
 rw [m_spec_l1Dress_l2] at hF3
 refine awp_seq (awp_seq (awp_region ?_))
 refine s_mv ?_
 refine s_fa yF27_4 ?_
 refine s_ld1 yA25 ?_
 refine s_lenA yU25 ?_
 refine s_lt ?_
 refine k_nil (k_seq ?_)
 refine w_cond hF3 ?_ ?_ <;> intro hc21 hF4
 refine awp_lenA 33 12009 (fun hb22 => ?_)
 refine awp_skip (k_seq (awp_seq (awp_block ?_)))
 refine awp_draw yMix (by kernel_rfl) ?_
 refine s_fa yF27_4 ?_
 refine s_ld1 yA25 ?_
 refine s_mv ?_
 refine s_mv ?_
 refine s_fa yF27_4 ?_
 refine s_ld1 yA25 ?_
 refine s_mv ?_
 obtain ⟨v23, hv23, hF5⟩ := bind_some' hF4
 refine s_ixA Form.row hv23 yE25 ?_
 refine s_lAN Form.row hv23 (Form.row_eq _) yA27 yS27 ?_
 obtain ⟨v24, hv24, hF6⟩ := bind_some' hF5
 refine s_call [(9000, 9000)] [] _ _ (ih_m_spec_l1Dress fu (by omega) _ _ _ hv24) ?_
 obtain ⟨v25, hv25, hF7⟩ := bind_some' hF6
 refine s_ixA Form.row hv25 yE25 ?_
 refine s_stA Form.row v24.1 hv25 (Form.row_eq _) (Form.row_eq _) yS27 yS27 ?_
 refine k_nilD (by kernel_rfl) ?_
 refine k_blk (k_seq (awp_region ?_))
 refine s_mv ?_
 refine s_add (winc2 hc21 hb22 hn_g16) ?_
 refine s_as ?_
 refine k_nil ?_
 exact s_rn (fu, (g16 + 1), v24.2.b, v24.2.p, (g19.set g16.toNat v24.1)) ⟨by first | omega | (dsimp only; omega), hF7, by first | omega | (dsimp only; omega)⟩
 refine awp_exit (k_seq_exit (k_rnd_exit2 (k_blk_exit (k_seq (awp_seq (awp_region ?_))))))
 refine s_ldW yA27 yS27 ?_
 refine s_stW yS27 ?_
 refine k_nil (k_seq (awp_ret (k_fin ?_)))
 cases hF4
 exact ends_gen _ [2009, 12009] (by rw [Try.results51]; exact (res_agg (by conv => lhs; whnf) (by conv => lhs; whnf) yA27 yS27 rfl res_nil))
theorem m_spec_l1Dress_all (fuel : Nat) : m_spec_l1Dress_AC fuel := by
 induction fuel using Nat.strongRecOn with
 | _ N ih =>
   cases N with
   | zero => exact (by intro o1 x2 r h; rw [m_spec_l1Dress] at h; cases h)
   | succ fu => exact m_spec_l1Dress_st fu (fun k hk => (ih k (by omega)))
theorem m_spec_l1Dress_ok (fuel : Nat) : m_spec_l1Dress_AC fuel := (m_spec_l1Dress_all fuel)
def m_spec_l4Case_AC (fuel : Nat) : Prop := ∀ (x1 : (List Int)) (r : (Form × (List Form) × Form)), m_spec_l4Case fuel x1 = some r → AC Try.prog 17 [.t (.sl (x1.map rB))] (objs []) (.tp [.ag [.t (.sc (.int .i64 r.1.kind)), .t (.sc (.str r.1.name)), .t (.sc (.int .i64 r.1.n)), .t (.sl (r.1.scopes.map rI)), .t (.sl (r.1.kids.map Form.row))], .ar 9300, .ag [.t (.sc (.int .i64 r.2.2.kind)), .t (.sc (.str r.2.2.name)), .t (.sc (.int .i64 r.2.2.n)), .t (.sl (r.2.2.scopes.map rI)), .t (.sl (r.2.2.kids.map Form.row))]]) (objs [(9300, .arr (r.2.1.map Form.row) 27 true)])
theorem m_spec_l4Case_ok (fuel : Nat) : m_spec_l4Case_AC fuel := by
 intro x1 r hF0
 unfold m_spec_l4Case at hF0
 refine AC_i [.ag [.t (.sc (.int .i64 r.1.kind)), .t (.sc (.str r.1.name)), .t (.sc (.int .i64 r.1.n)), .t (.sl (r.1.scopes.map rI)), .t (.sl (r.1.kids.map Form.row))], .ar 9300, .ag [.t (.sc (.int .i64 r.2.2.kind)), .t (.sc (.str r.2.2.name)), .t (.sc (.int .i64 r.2.2.n)), .t (.sl (r.2.2.scopes.map rI)), .t (.sl (r.2.2.kids.map Form.row))]] Try.func17 rfl Try.ntmps17 ?_
 intro C hC
 refine awp_seq (awp_region ?_)
 refine s_alloc yZ27 ?_
 refine s_as ?_
 refine s_alloc yZ27 ?_
 refine k_nil (k_seq (awp_seq (awp_region ?_)))
 refine s_mv ?_
 obtain ⟨v1, hv1, hF1⟩ := bind_some' hF0
 refine s_call [(10, 12)] [] _ _ (m_spec_l15Open_ok fuel _ _ hv1) ?_
 refine s_as ?_
 refine k_nil (k_seq (awp_seq (awp_region ?_)))
 obtain ⟨v2, hv2, hF2⟩ := bind_some' hF1
 refine s_pure [] (m_spec_l4Texts_ok fuel _ hv2) ?_
 refine s_as ?_
 refine k_nil (k_seq (awp_seq (awp_region ?_)))
 refine s_mv ?_
 refine s_mv ?_
 refine s_lenT yU69 ?_
 obtain ⟨v3, hv3, hF3⟩ := bind_some' hF2
 refine s_call [(9000, 12)] [] _ _ (m_spec_l15Rd_pick_ok fuel _ _ _ hv3) ?_
 refine s_as ?_
 refine k_nil (k_seq (awp_seq (awp_region ?_)))
 refine s_mv ?_
 refine s_mv ?_
 obtain ⟨v4, hv4, hF4⟩ := bind_some' hF3
 refine s_ixT (rL rS) hv4 rfl yE69 ?_
 refine s_ld1 yA72 ?_
 obtain ⟨v5, hv5, hF5⟩ := bind_some' hF4
 refine s_ixT rS hv5 rfl yE72 ?_
 refine s_ld1 yA9 ?_
 obtain ⟨v6, hv6, hF6⟩ := bind_some' hF5
 refine s_pure [] (m_spec_l1Parse_ok fuel _ _ hv6) ?_
 refine s_alloc yZ27 ?_
 refine s_stW yS27 ?_
 refine k_nil (k_seq (awp_seq (awp_region ?_)))
 refine s_mv ?_
 refine s_mv ?_
 obtain ⟨v7, hv7, hF7⟩ := bind_some' hF6
 refine s_ixT (rL rS) hv7 rfl yE69 ?_
 refine s_ld1 yA72 ?_
 obtain ⟨v8, hv8, hF8⟩ := bind_some' hF7
 refine s_ixT rS hv8 rfl yE72 ?_
 refine s_ld1 yA9 ?_
 obtain ⟨v9, hv9, hF9⟩ := bind_some' hF8
 refine s_pure [] (m_spec_l1Parse_ok fuel _ _ hv9) ?_
 refine s_alloc yZ27 ?_
 refine s_stW yS27 ?_
 refine k_nil (k_seq (awp_seq (awp_region ?_)))
 obtain ⟨v10, hv10, hF10⟩ := bind_some' hF9
 refine s_pure [] (m_spec_l1Name_ok fuel _ _ hv10) ?_
 refine s_bs Form.row [v10] yP25 yR27 ?_
 refine s_as ?_
 refine k_nil (k_seq (awp_seq (awp_seq (awp_region ?_))))
 refine s_mv ?_
 obtain ⟨v11, hv11, hF11⟩ := bind_some' hF10
 refine s_call [(9000, 12)] [] _ _ (m_spec_l15Rd_pick_ok fuel _ _ _ hv11) ?_
 refine k_nil (k_seq (awp_block (awp_seq (awp_region ?_))))
 refine s_eq ?_
 refine s_as ?_
 refine k_nil (k_seq ?_)
 refine w_cond hF11 ?_ ?_ <;> intro hc12 hF12
 refine awp_region ?_
 refine s_mv ?_
 refine s_mv ?_
 refine s_ldW yA27 yS27 ?_
 obtain ⟨v13, hv13, hF13⟩ := bind_some' hF12
 refine s_call [(9000, 12)] [] _ _ (m_spec_l1Mutate_ok fuel _ _ _ hv13) ?_
 obtain ⟨v14, hv14, hF14⟩ := bind_some' hF13
 refine s_call [(9000, 12)] [] _ _ (m_spec_l1Mutate_ok fuel _ _ _ hv14) ?_
 refine s_stW yS27 ?_
 refine k_nil (k_blk (k_seq (awp_seq ?_)))
 refine awp_draw yMix (by kernel_rfl) ?_
 refine s_ldW yA27 yS27 ?_
 refine s_mv ?_
 refine s_ldW yA27 yS27 ?_
 refine s_stW yS27 ?_
 refine s_as ?_
 refine s_stW yS27 ?_
 refine k_nilD (by kernel_rfl) ?_
 refine k_seq ?_
 refine awp_mv 3 33 9300 (by conv => lhs; whnf) (by conv => lhs; whnf) rfl ?_
 refine awp_ret (k_fin ?_)
 cases hF14
 exact ends_gen _ [] (by rw [Try.results17]; exact (res_agg (by conv => lhs; whnf) (by conv => lhs; whnf) yA27 yS27 rfl (res_tmp (by conv => lhs; whnf) (res_agg (by conv => lhs; whnf) (by conv => lhs; whnf) yA27 yS27 rfl res_nil))))
 refine awp_seq (awp_region ?_)
 refine s_eq ?_
 refine s_as ?_
 refine k_nil (k_seq ?_)
 refine w_cond hF12 ?_ ?_ <;> intro hc15 hF13
 refine awp_region ?_
 refine s_mv ?_
 refine s_mv ?_
 refine s_ldW yA27 yS27 ?_
 obtain ⟨v16, hv16, hF14⟩ := bind_some' hF13
 refine s_call [(9000, 12)] [] _ _ (m_spec_l1Mutate_ok fuel _ _ _ hv16) ?_
 obtain ⟨v17, hv17, hF15⟩ := bind_some' hF14
 refine s_call [(9000, 12)] [] _ _ (m_spec_l1Mutate_ok fuel _ _ _ hv17) ?_
 refine s_stW yS27 ?_
 refine k_nil (k_blk (k_seq (awp_seq ?_)))
 refine awp_draw yMix (by kernel_rfl) ?_
 refine s_ldW yA27 yS27 ?_
 refine s_mv ?_
 refine s_ldW yA27 yS27 ?_
 refine s_stW yS27 ?_
 refine s_as ?_
 refine s_stW yS27 ?_
 refine k_nilD (by kernel_rfl) ?_
 refine k_seq ?_
 refine awp_mv 3 33 9300 (by conv => lhs; whnf) (by conv => lhs; whnf) rfl ?_
 refine awp_ret (k_fin ?_)
 cases hF15
 exact ends_gen _ [] (by rw [Try.results17]; exact (res_agg (by conv => lhs; whnf) (by conv => lhs; whnf) yA27 yS27 rfl (res_tmp (by conv => lhs; whnf) (res_agg (by conv => lhs; whnf) (by conv => lhs; whnf) yA27 yS27 rfl res_nil))))
 refine awp_seq (awp_region ?_)
 refine s_eq ?_
 refine s_as ?_
 refine k_nil (k_seq ?_)
 refine w_cond hF13 ?_ ?_ <;> intro hc18 hF14
 refine awp_region ?_
 refine s_mv ?_
 refine s_ldW yA27 yS27 ?_
 obtain ⟨v19, hv19, hF15⟩ := bind_some' hF14
 refine s_call [(9000, 12)] [] _ _ (m_spec_l1Dress_ok fuel _ _ _ hv19) ?_
 refine s_stW yS27 ?_
 refine k_nil (k_blk (k_seq (awp_seq ?_)))
 refine awp_draw yMix (by kernel_rfl) ?_
 refine s_ldW yA27 yS27 ?_
 refine s_mv ?_
 refine s_ldW yA27 yS27 ?_
 refine s_stW yS27 ?_
 refine s_as ?_
 refine s_stW yS27 ?_
 refine k_nilD (by kernel_rfl) ?_
 refine k_seq ?_
 refine awp_mv 3 33 9300 (by conv => lhs; whnf) (by conv => lhs; whnf) rfl ?_
 refine awp_ret (k_fin ?_)
 cases hF15
 exact ends_gen _ [] (by rw [Try.results17]; exact (res_agg (by conv => lhs; whnf) (by conv => lhs; whnf) yA27 yS27 rfl (res_tmp (by conv => lhs; whnf) (res_agg (by conv => lhs; whnf) (by conv => lhs; whnf) yA27 yS27 rfl res_nil))))
 refine awp_seq (awp_region ?_)
 refine s_eq ?_
 refine s_as ?_
 refine k_nil (k_seq ?_)
 refine w_cond hF14 ?_ ?_ <;> intro hc20 hF15
 refine awp_region ?_
 refine s_bs Form.row ([] : List Form) yP25 yR27 ?_
 refine s_as ?_
 refine k_nil (k_blk (k_seq (awp_seq ?_)))
 refine awp_draw yMix (by kernel_rfl) ?_
 refine s_ldW yA27 yS27 ?_
 refine s_mv ?_
 refine s_ldW yA27 yS27 ?_
 refine s_stW yS27 ?_
 refine s_as ?_
 refine s_stW yS27 ?_
 refine k_nilD (by kernel_rfl) ?_
 refine k_seq ?_
 refine awp_mv 3 57 9300 (by conv => lhs; whnf) (by conv => lhs; whnf) rfl ?_
 refine awp_ret (k_fin ?_)
 cases hF15
 exact ends_gen _ [] (by rw [Try.results17]; exact (res_agg (by conv => lhs; whnf) (by conv => lhs; whnf) yA27 yS27 rfl (res_tmp (by conv => lhs; whnf) (res_agg (by conv => lhs; whnf) (by conv => lhs; whnf) yA27 yS27 rfl res_nil))))
 refine awp_seq (awp_region ?_)
 refine s_eq ?_
 refine s_as ?_
 refine k_nil (k_seq ?_)
 refine w_cond hF15 ?_ ?_ <;> intro hc21 hF16
 refine awp_region ?_
 iterate 3 refine s_mv ?_
 refine s_lenT yU69 ?_
 obtain ⟨v22, hv22, hF17⟩ := bind_some' hF16
 refine s_call [(9000, 12)] [] _ _ (m_spec_l15Rd_pick_ok fuel _ _ _ hv22) ?_
 obtain ⟨v23, hv23, hF18⟩ := bind_some' hF17
 refine s_ixT (rL rS) hv23 rfl yE69 ?_
 refine s_ld1 yA72 ?_
 obtain ⟨v24, hv24, hF19⟩ := bind_some' hF18
 refine s_ixT rS hv24 rfl yE72 ?_
 refine s_ld1 yA9 ?_
 obtain ⟨v25, hv25, hF20⟩ := bind_some' hF19
 refine s_pure [] (m_spec_l1Parse_ok fuel _ _ hv25) ?_
 refine s_stW yS27 ?_
 refine k_nil (k_blk (k_seq (awp_seq ?_)))
 refine awp_draw yMix (by kernel_rfl) ?_
 refine s_ldW yA27 yS27 ?_
 refine s_mv ?_
 refine s_ldW yA27 yS27 ?_
 refine s_stW yS27 ?_
 refine s_as ?_
 refine s_stW yS27 ?_
 refine k_nilD (by kernel_rfl) ?_
 refine k_seq ?_
 refine awp_mv 3 33 9300 (by conv => lhs; whnf) (by conv => lhs; whnf) rfl ?_
 refine awp_ret (k_fin ?_)
 cases hF20
 exact ends_gen _ [] (by rw [Try.results17]; exact (res_agg (by conv => lhs; whnf) (by conv => lhs; whnf) yA27 yS27 rfl (res_tmp (by conv => lhs; whnf) (res_agg (by conv => lhs; whnf) (by conv => lhs; whnf) yA27 yS27 rfl res_nil))))
 refine awp_skip (k_blk (k_seq (awp_seq ?_)))
 refine awp_draw yMix (by kernel_rfl) ?_
 refine s_ldW yA27 yS27 ?_
 refine s_mv ?_
 refine s_ldW yA27 yS27 ?_
 refine s_stW yS27 ?_
 refine s_as ?_
 refine s_stW yS27 ?_
 refine k_nilD (by kernel_rfl) ?_
 refine k_seq ?_
 refine awp_mv 3 33 9300 (by conv => lhs; whnf) (by conv => lhs; whnf) rfl ?_
 refine awp_ret (k_fin ?_)
 cases hF16
 exact ends_gen _ [] (by rw [Try.results17]; exact (res_agg (by conv => lhs; whnf) (by conv => lhs; whnf) yA27 yS27 rfl (res_tmp (by conv => lhs; whnf) (res_agg (by conv => lhs; whnf) (by conv => lhs; whnf) yA27 yS27 rfl res_nil))))
def m_spec_DrawMatchPattern_AC (fuel : Nat) : Prop := ∀ (x1 : (List Int)) (r : ((List Bind) × Form × (List Form) × Form)), m_spec_DrawMatchPattern fuel x1 = some r → AC Try.prog 5 [.t (.sl (x1.map rB))] noOb (.tp [.t (.sl (r.1.map Bind.row)), .ag [.t (.sc (.int .i64 r.2.1.kind)), .t (.sc (.str r.2.1.name)), .t (.sc (.int .i64 r.2.1.n)), .t (.sl (r.2.1.scopes.map rI)), .t (.sl (r.2.1.kids.map Form.row))], .t (.sl (r.2.2.1.map Form.row)), .ag [.t (.sc (.int .i64 r.2.2.2.kind)), .t (.sc (.str r.2.2.2.name)), .t (.sc (.int .i64 r.2.2.2.n)), .t (.sl (r.2.2.2.scopes.map rI)), .t (.sl (r.2.2.2.kids.map Form.row))]]) noOb
theorem m_spec_DrawMatchPattern_ok (fuel : Nat) : m_spec_DrawMatchPattern_AC fuel := by
 intro x1 r hF0
 unfold m_spec_DrawMatchPattern at hF0
 refine AC_i [.t (.sl (r.1.map Bind.row)), .ag [.t (.sc (.int .i64 r.2.1.kind)), .t (.sc (.str r.2.1.name)), .t (.sc (.int .i64 r.2.1.n)), .t (.sl (r.2.1.scopes.map rI)), .t (.sl (r.2.1.kids.map Form.row))], .t (.sl (r.2.2.1.map Form.row)), .ag [.t (.sc (.int .i64 r.2.2.2.kind)), .t (.sc (.str r.2.2.2.name)), .t (.sc (.int .i64 r.2.2.2.n)), .t (.sl (r.2.2.2.scopes.map rI)), .t (.sl (r.2.2.2.kids.map Form.row))]] Try.func5 rfl Try.ntmps5 ?_
 intro C hC
 refine awp_seq (awp_region ?_)
 refine s_as ?_
 refine s_alloc yZ27 ?_
 refine s_as ?_
 refine s_alloc yZ27 ?_
 refine k_nil (k_seq (awp_seq (awp_region ?_)))
 refine s_mv ?_
 obtain ⟨v1, hv1, hF1⟩ := bind_some' hF0
 refine s_call [(9300, 2013)] [] _ _ (m_spec_l4Case_ok fuel _ _ hv1) ?_
 refine s_mv ?_
 iterate 3 refine s_ext ?_
 refine s_alloc yZ27 ?_
 refine s_alloc yZ27 ?_
 refine s_stW yS27 ?_
 refine s_as ?_
 refine s_stW yS27 ?_
 refine k_nil (k_seq (awp_seq (awp_region ?_)))
 refine s_mv ?_
 obtain ⟨v2, hv2, hF2⟩ := bind_some' hF1
 refine s_call [(10, 18)] [] _ _ (m_spec_l15Open_ok fuel _ _ hv2) ?_
 refine s_as ?_
 refine k_nil (k_seq (awp_seq (awp_region ?_)))
 refine s_bs Bind.row ([] : List Bind) yP23 yR52 ?_
 refine s_as ?_
 refine k_nil (k_seq (awp_seq (awp_seq (awp_region ?_))))
 refine s_mv ?_
 obtain ⟨v3, hv3, hF3⟩ := bind_some' hF2
 refine s_call [(9000, 18)] [] _ _ (m_spec_l15Rd_pick_ok fuel _ _ _ hv3) ?_
 refine s_eq ?_
 refine k_nil (k_seq ?_)
 refine w_cond hF3 ?_ ?_ <;> intro hc4 hF4
 refine awp_region ?_
 refine s_bs rI [1] yP24 yR3 ?_
 refine s_bld yZ52 yL52 ?_
 refine s_bs Bind.row [(Bind.mk (⟨#[101, 108, 115, 101]⟩ : ByteArray) [1] 3)] yP23 yR52 ?_
 refine s_as ?_
 refine k_nil (k_seq (awp_seq ?_))
 refine awp_draw yMix (by kernel_rfl) ?_
 refine s_mv ?_
 refine s_ldW yA27 yS27 ?_
 refine s_mv ?_
 refine s_ldW yA27 yS27 ?_
 refine s_as ?_
 refine s_stW yS27 ?_
 refine s_as ?_
 refine s_stW yS27 ?_
 refine k_nilD (by kernel_rfl) ?_
 refine k_seq (awp_ret (k_fin ?_))
 cases hF4
 exact ends_gen [] [25, 2013] (by rw [Try.results5]; exact (res_tmp (by conv => lhs; whnf) (res_agg (by conv => lhs; whnf) (by conv => lhs; whnf) yA27 yS27 rfl (res_tmp (by conv => lhs; whnf) (res_agg (by conv => lhs; whnf) (by conv => lhs; whnf) yA27 yS27 rfl res_nil)))))
 refine awp_skip (k_seq (awp_seq ?_))
 refine awp_draw yMix (by kernel_rfl) ?_
 refine s_mv ?_
 refine s_ldW yA27 yS27 ?_
 refine s_mv ?_
 refine s_ldW yA27 yS27 ?_
 refine s_as ?_
 refine s_stW yS27 ?_
 refine s_as ?_
 refine s_stW yS27 ?_
 refine k_nilD (by kernel_rfl) ?_
 refine k_seq (awp_ret (k_fin ?_))
 cases hF4
 exact ends_gen [] [19, 2013] (by rw [Try.results5]; exact (res_tmp (by conv => lhs; whnf) (res_agg (by conv => lhs; whnf) (by conv => lhs; whnf) yA27 yS27 rfl (res_tmp (by conv => lhs; whnf) (res_agg (by conv => lhs; whnf) (by conv => lhs; whnf) yA27 yS27 rfl res_nil)))))
def m_strings_IndexByte_AC (fuel : Nat) : Prop := ∀ (x1 : ByteArray) (x2 : Int) (r : Int), m_strings_IndexByte fuel x1 x2 = some r → AC Try.prog 69 [.t (.sc (.str x1)), .t (.sc (.int .u8 x2))] noOb (.t (.sc (.int .i64 r))) noOb
theorem m_strings_IndexByte_ok (fuel : Nat) : m_strings_IndexByte_AC fuel := by
 intro x1 x2 r h
 obtain rfl := Option.some.inj h
 exact ac_two (a := .str x1) (b := .int .u8 x2) (r := .int .i64 _) ⟨_, Try.func69, by kernel_rfl, by kernel_rfl⟩ (fun w => Try.strings_IndexByte x1 x2 w)
def m_impl_within_AC (fuel : Nat) : Prop := ∀ (x1 : Int) (x2 : Int) (x3 : Int) (r : Bool), m_impl_within fuel x1 x2 x3 = some r → AC Try.prog 29 [.t (.sc (.int .i64 x1)), .t (.sc (.int .i64 x2)), .t (.sc (.int .i64 x3))] noOb (.t (.sc (.bool r))) noOb
theorem m_impl_within_ok (fuel : Nat) : m_impl_within_AC fuel := by
 intro x1 x2 x3 r hF0
 unfold m_impl_within at hF0
 refine AC_i [.t (.sc (.bool r))] Try.func29 rfl Try.ntmps29 ?_
 intro C hC
 refine awp_seq (awp_region ?_)
 refine s_as ?_
 refine k_nil (k_seq (awp_seq (awp_region ?_)))
 refine s_mv ?_
 refine s_mv ?_
 refine s_ge ?_
 refine s_mv ?_
 refine w_guard _ 10 hF0 ?_ ?_ <;> intro hc1 hF1
 refine s_mv ?_
 refine s_mv ?_
 refine s_le ?_
 refine s_pkt ?_
 refine s_as ?_
 refine k_nil (k_seq (awp_ret (k_fin ?_)))
 cases hF1
 exact ends_a [] [] Try.results29
 iterate 3 refine r_no rfl ?_
 refine s_pkf ?_
 refine s_as ?_
 refine k_nil (k_seq (awp_ret (k_fin ?_)))
 cases hF1
 exact ends_a [] [] Try.results29
def m_impl_NameValid_AC (fuel : Nat) : Prop := ∀ (x1 : ByteArray) (r : Bool), m_impl_NameValid fuel x1 = some r → AC Try.prog 27 [.t (.sc (.str x1))] noOb (.t (.sc (.bool r))) noOb
theorem m_impl_NameValid_ok (fuel : Nat) : m_impl_NameValid_AC fuel := by
 intro x1 r hF0
 unfold m_impl_NameValid at hF0
 refine AC_i [.t (.sc (.bool r))] Try.func27 rfl Try.ntmps27 ?_
 intro C hC
 refine awp_seq (awp_region ?_)
 refine s_as ?_
 refine k_nil (k_seq (awp_seq (awp_seq (awp_region ?_))))
 refine s_mv ?_
 refine s_eqS ?_
 refine s_mv ?_
 refine w_guard _ 7 hF0 ?_ ?_ <;> intro hc1 hF1
 refine r_no rfl (r_no rfl ?_)
 refine s_pkt ?_
 refine k_nil (k_seq (awp_true rfl (awp_seq (awp_region ?_))))
 refine s_as ?_
 refine k_nil (k_seq (awp_ret (k_seq_ret (k_fin ?_))))
 cases hF1
 exact ends_a [] [] Try.results27
 refine s_mv ?_
 refine s_eqS ?_
 refine s_pkf ?_
 refine k_nil (k_seq ?_)
 refine w_cond hF1 ?_ ?_ <;> intro hc2 hF2
 refine awp_seq (awp_region ?_)
 refine s_as ?_
 refine k_nil (k_seq (awp_ret (k_seq_ret (k_fin ?_))))
 cases hF2
 exact ends_a [] [] Try.results27
 refine awp_skip (k_seq (awp_seq (awp_seq (awp_region ?_))))
 refine s_as ?_
 refine k_nil (k_seq (awp_block ?_))
 refine awp_fr (β := Int) [2, 3, 4, 11, 12, 13, 14, 15, 16, 17, 18, 19, 20, 21, 22, 23, 24, 25, 26, 27, 28, 29, 30, 31, 32, 33, 34, 35, 36, 37, 38, 39, 40, 41, 42, 43, 44, 45, 46] [] [] (fun a => [(3, .t (.sc (.int .i64 a.2)))]) (fun a => []) (fun a => a.1 ≤ fuel ∧ m_impl_NameValid_l1 a.1 x1 a.2 = some r) (fuel, 0) ⟨Nat.le_refl _, hF2⟩ ?_
 clear hF2
 rintro ⟨fu, g3⟩ ⟨hl4, hF3⟩
 dsimp only at hl4 hF3 ⊢
 obtain _ | fu := fu
 · rw [m_impl_NameValid_l1] at hF3; cases hF3
 rw [m_impl_NameValid_l1] at hF3
 refine awp_seq (awp_seq (awp_region ?_))
 refine s_mv ?_
 refine s_mv ?_
 refine s_lenS yU9 ?_
 refine s_lt ?_
 refine k_nil (k_seq ?_)
 refine w_cond hF3 ?_ ?_ <;> intro hc5 hF4
 refine awp_skip (k_seq (awp_seq (awp_block (awp_seq (awp_region ?_)))))
 refine s_mv ?_
 refine s_mv ?_
 obtain ⟨v6, hv6, hF5⟩ := bind_some' hF4
 refine s_ixS hv6 yU9 ?_
 refine s_as ?_
 refine k_nil (k_seq (awp_block (awp_seq (awp_region ?_))))
 refine s_mv ?_
 refine s_ge ?_
 refine s_mv ?_
 refine w_guard _ 23 hF5 ?_ ?_ <;> intro hc7 hF6
 refine s_mv ?_
 refine s_le ?_
 refine s_pkt ?_
 refine s_mv ?_
 refine w_guard _ 27 hF6 ?_ ?_ <;> intro hc8 hF7
 iterate 3 refine r_no rfl ?_
 refine s_pkt ?_
 refine s_as ?_
 refine k_nil (k_seq (awp_true rfl (awp_skip (k_blk (k_blk (k_seq (awp_region ?_)))))))
 refine s_mv ?_
 refine s_add rfl ?_
 refine s_as ?_
 refine k_nil ?_
 exact s_rn (fu, (w64 (g3 + 1))) ⟨by first | omega | (dsimp only; omega), hF7⟩
 refine s_mv ?_
 obtain ⟨v9, hv9, hF8⟩ := bind_some' hF7
 refine s_pure [] (m_strings_IndexByte_ok fu _ _ _ hv9) ?_
 refine s_ge ?_
 refine s_pkf ?_
 refine s_as ?_
 refine k_nil (k_seq ?_)
 refine w_cond hF8 ?_ ?_ <;> intro hc10 hF9
 refine awp_skip (k_blk (k_blk (k_seq (awp_region ?_))))
 refine s_mv ?_
 refine s_add rfl ?_
 refine s_as ?_
 refine k_nil ?_
 exact s_rn (fu, (w64 (g3 + 1))) ⟨by first | omega | (dsimp only; omega), hF9⟩
 refine awp_seq (awp_region ?_)
 refine s_mv ?_
 refine s_gt ?_
 refine s_mv ?_
 refine w_guard _ 35 hF9 ?_ ?_ <;> intro hc11 hF10
 refine s_mv ?_
 refine s_ge ?_
 refine s_mv ?_
 refine w_guard _ 38 hF10 ?_ ?_ <;> intro hc12 hF11
 refine s_mv ?_
 refine s_le ?_
 refine s_pkt ?_
 refine s_mv ?_
 refine w_guard _ 42 hF11 ?_ ?_ <;> intro hc13 hF12
 refine r_no rfl (r_no rfl ?_)
 refine s_pkt ?_
 refine s_pkt ?_
 refine s_as ?_
 refine k_nil (k_seq (awp_true rfl (awp_skip (k_blk (k_blk (k_seq (awp_region ?_)))))))
 refine s_mv ?_
 refine s_add rfl ?_
 refine s_as ?_
 refine k_nil ?_
 exact s_rn (fu, (w64 (g3 + 1))) ⟨by first | omega | (dsimp only; omega), hF12⟩
 refine s_mv ?_
 refine s_eq ?_
 refine s_pkf ?_
 refine s_pkt ?_
 refine s_as ?_
 refine k_nil (k_seq ?_)
 refine w_cond hF12 ?_ ?_ <;> intro hc14 hF13
 refine awp_skip (k_blk (k_blk (k_seq (awp_region ?_))))
 refine s_mv ?_
 refine s_add rfl ?_
 refine s_as ?_
 refine k_nil ?_
 exact s_rn (fu, (w64 (g3 + 1))) ⟨by first | omega | (dsimp only; omega), hF13⟩
 refine awp_seq (awp_region ?_)
 refine s_as ?_
 refine k_nil (k_seq (awp_ret (k_blk_ret (k_blk_ret (k_seq_ret (k_rnd_ret2 (k_blk_ret (k_seq_ret (k_fin ?_)))))))))
 cases hF13
 exact ends_a [] [] Try.results27
 refine r_no rfl (r_no rfl ?_)
 refine s_pkf ?_
 refine s_mv ?_
 refine s_mv ?_
 refine s_eq ?_
 refine s_pkf ?_
 refine s_pkt ?_
 refine s_as ?_
 refine k_nil (k_seq ?_)
 refine w_cond hF11 ?_ ?_ <;> intro hc15 hF12
 refine awp_skip (k_blk (k_blk (k_seq (awp_region ?_))))
 refine s_mv ?_
 refine s_add rfl ?_
 refine s_as ?_
 refine k_nil ?_
 exact s_rn (fu, (w64 (g3 + 1))) ⟨by first | omega | (dsimp only; omega), hF12⟩
 refine awp_seq (awp_region ?_)
 refine s_as ?_
 refine k_nil (k_seq (awp_ret (k_blk_ret (k_blk_ret (k_seq_ret (k_rnd_ret2 (k_blk_ret (k_seq_ret (k_fin ?_)))))))))
 cases hF12
 exact ends_a [] [] Try.results27
 iterate 10 refine r_no rfl ?_
 refine s_pkf ?_
 refine s_as ?_
 refine k_nil (k_seq (awp_false rfl (awp_seq (awp_region ?_))))
 refine s_as ?_
 refine k_nil (k_seq (awp_ret (k_blk_ret (k_blk_ret (k_seq_ret (k_rnd_ret2 (k_blk_ret (k_seq_ret (k_fin ?_)))))))))
 cases hF10
 exact ends_a [] [] Try.results27
 refine r_no rfl (r_no rfl ?_)
 refine s_pkf ?_
 refine s_mv ?_
 refine s_mv ?_
 obtain ⟨v16, hv16, hF7⟩ := bind_some' hF6
 refine s_pure [] (m_strings_IndexByte_ok fu _ _ _ hv16) ?_
 refine s_ge ?_
 refine s_pkf ?_
 refine s_as ?_
 refine k_nil (k_seq ?_)
 refine w_cond hF7 ?_ ?_ <;> intro hc17 hF8
 refine awp_skip (k_blk (k_blk (k_seq (awp_region ?_))))
 refine s_mv ?_
 refine s_add rfl ?_
 refine s_as ?_
 refine k_nil ?_
 exact s_rn (fu, (w64 (g3 + 1))) ⟨by first | omega | (dsimp only; omega), hF8⟩
 refine awp_seq (awp_region ?_)
 refine s_mv ?_
 refine s_gt ?_
 refine s_mv ?_
 refine w_guard _ 35 hF8 ?_ ?_ <;> intro hc18 hF9
 refine s_mv ?_
 refine s_ge ?_
 refine s_mv ?_
 refine w_guard _ 38 hF9 ?_ ?_ <;> intro hc19 hF10
 refine s_mv ?_
 refine s_le ?_
 refine s_pkt ?_
 refine s_mv ?_
 refine w_guard _ 42 hF10 ?_ ?_ <;> intro hc20 hF11
 refine r_no rfl (r_no rfl ?_)
 refine s_pkt ?_
 refine s_pkt ?_
 refine s_as ?_
 refine k_nil (k_seq (awp_true rfl (awp_skip (k_blk (k_blk (k_seq (awp_region ?_)))))))
 refine s_mv ?_
 refine s_add rfl ?_
 refine s_as ?_
 refine k_nil ?_
 exact s_rn (fu, (w64 (g3 + 1))) ⟨by first | omega | (dsimp only; omega), hF11⟩
 refine s_mv ?_
 refine s_eq ?_
 refine s_pkf ?_
 refine s_pkt ?_
 refine s_as ?_
 refine k_nil (k_seq ?_)
 refine w_cond hF11 ?_ ?_ <;> intro hc21 hF12
 refine awp_skip (k_blk (k_blk (k_seq (awp_region ?_))))
 refine s_mv ?_
 refine s_add rfl ?_
 refine s_as ?_
 refine k_nil ?_
 exact s_rn (fu, (w64 (g3 + 1))) ⟨by first | omega | (dsimp only; omega), hF12⟩
 refine awp_seq (awp_region ?_)
 refine s_as ?_
 refine k_nil (k_seq (awp_ret (k_blk_ret (k_blk_ret (k_seq_ret (k_rnd_ret2 (k_blk_ret (k_seq_ret (k_fin ?_)))))))))
 cases hF12
 exact ends_a [] [] Try.results27
 refine r_no rfl (r_no rfl ?_)
 refine s_pkf ?_
 refine s_mv ?_
 refine s_mv ?_
 refine s_eq ?_
 refine s_pkf ?_
 refine s_pkt ?_
 refine s_as ?_
 refine k_nil (k_seq ?_)
 refine w_cond hF10 ?_ ?_ <;> intro hc22 hF11
 refine awp_skip (k_blk (k_blk (k_seq (awp_region ?_))))
 refine s_mv ?_
 refine s_add rfl ?_
 refine s_as ?_
 refine k_nil ?_
 exact s_rn (fu, (w64 (g3 + 1))) ⟨by first | omega | (dsimp only; omega), hF11⟩
 refine awp_seq (awp_region ?_)
 refine s_as ?_
 refine k_nil (k_seq (awp_ret (k_blk_ret (k_blk_ret (k_seq_ret (k_rnd_ret2 (k_blk_ret (k_seq_ret (k_fin ?_)))))))))
 cases hF11
 exact ends_a [] [] Try.results27
 iterate 10 refine r_no rfl ?_
 refine s_pkf ?_
 refine s_as ?_
 refine k_nil (k_seq (awp_false rfl (awp_seq (awp_region ?_))))
 refine s_as ?_
 refine k_nil (k_seq (awp_ret (k_blk_ret (k_blk_ret (k_seq_ret (k_rnd_ret2 (k_blk_ret (k_seq_ret (k_fin ?_)))))))))
 cases hF9
 exact ends_a [] [] Try.results27
 refine awp_exit (k_seq_exit (k_rnd_exit2 (k_blk_exit (k_seq (awp_seq (awp_region ?_))))))
 refine s_mv ?_
 refine s_lenS yU9 ?_
 obtain ⟨v23, hv23, hF5⟩ := bind_some' hF4
 refine s_pure [] (m_impl_within_ok fu _ _ _ _ hv23) ?_
 refine s_as ?_
 refine k_nil (k_seq (awp_ret (k_fin ?_)))
 cases hF5
 exact ends_a [] [] Try.results27
end Go.Abs
