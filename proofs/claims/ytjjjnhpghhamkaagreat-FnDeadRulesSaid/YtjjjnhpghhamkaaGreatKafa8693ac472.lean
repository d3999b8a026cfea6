/- A part of the proof: what the functions that the law calls answer, as pure values. -/
import Derived.Test.YtjjjnhpghhamkaaGreatK07f4536f4c0e
import Derived.Test.YtjjjnhpghhamkaaGreatK48ea3fb19802
import Derived.Test.YtjjjnhpghhamkaaGreatK538f51ad5e1b
import Derived.Test.YtjjjnhpghhamkaaGreatK8fc326ae717d
import Derived.Test.YtjjjnhpghhamkaaGreatK9e84936d54c5
set_option linter.unusedSimpArgs false
set_option linter.unusedVariables false
set_option maxRecDepth 100000
set_option maxHeartbeats 4000000
namespace Go.Abs
open Go.Proofs
def m_spec_l1Parse_AC (fuel : Nat) : Prop := ∀ (x1 : ByteArray) (r : Form), m_spec_l1Parse fuel x1 = some r → AC Tryz.prog 118 [.t (.sc (.str x1))] noOb (.ag [.t (.sc (.int .i64 r.kind)), .t (.sc (.str r.name)), .t (.sc (.int .i64 r.n)), .t (.sl (r.scopes.map rI)), .t (.sl (r.kids.map Form.row))]) noOb
theorem m_spec_l1Parse_ok (fuel : Nat) : m_spec_l1Parse_AC fuel := by
 intro x1 r hF0
 unfold m_spec_l1Parse at hF0
 refine AC_i [.ag [.t (.sc (.int .i64 r.kind)), .t (.sc (.str r.name)), .t (.sc (.int .i64 r.n)), .t (.sl (r.scopes.map rI)), .t (.sl (r.kids.map Form.row))]] Tryz.func118 rfl Tryz.ntmps118 ?_
 intro C hC
 refine awp_seq (awp_region ?_)
 refine s_alloc yZ27 ?_
 refine k_nil (k_seq (awp_seq (awp_region ?_)))
 refine s_mv ?_
 obtain ⟨v1, hv1, hF1⟩ := bind_some' hF0
 refine s_pure [] (m_spec_ParseForm_ok fuel _ _ hv1) ?_
 refine s_mv ?_
 refine s_ext ?_
 refine s_ext ?_
 refine s_alloc yZ27 ?_
 refine s_stW yS27 ?_
 refine s_as ?_
 refine k_nil (k_seq (awp_seq (awp_region ?_)))
 refine s_ldW yA27 yS27 ?_
 refine s_stW yS27 ?_
 refine k_nil (k_seq (awp_ret (k_fin ?_)))
 cases hF1
 exact ends_gen [] [] (by rw [Tryz.results118]; exact (res_agg (by conv => lhs; whnf) (by conv => lhs; whnf) yA27 yS27 rfl res_nil))
def m_spec_l1Copy_AC (fuel : Nat) : Prop := ∀ (x1 : Form) (r : Form), m_spec_l1Copy fuel x1 = some r → AC Tryz.prog 163 [.ag [.t (.sc (.int .i64 x1.kind)), .t (.sc (.str x1.name)), .t (.sc (.int .i64 x1.n)), .t (.sl (x1.scopes.map rI)), .t (.sl (x1.kids.map Form.row))]] (objs []) (.ag [.t (.sc (.int .i64 r.kind)), .t (.sc (.str r.name)), .t (.sc (.int .i64 r.n)), .ar 9203, .ar 9204]) (objs [(9203, .arr (r.scopes.map rI) 3 true), (9204, .arr (r.kids.map Form.row) 27 true)])
theorem m_spec_l1Copy_st (fu : Nat) (ih_m_spec_l1Copy : ∀ k, k ≤ fu → m_spec_l1Copy_AC k) : m_spec_l1Copy_AC (fu + 1) := by
 intro x1 r hF0
 rw [m_spec_l1Copy] at hF0
 refine AC_i [.ag [.t (.sc (.int .i64 r.kind)), .t (.sc (.str r.name)), .t (.sc (.int .i64 r.n)), .ar 9203, .ar 9204]] Tryz.func163 rfl Tryz.ntmps163 ?_
 intro C hC
 refine awp_seq (awp_region ?_)
 refine s_box ?_
 refine s_alloc yZ27 ?_
 refine k_nil (k_seq (awp_seq ?_))
 refine awp_draw yMix (by kernel_rfl) ?_
 refine s_fa yF27_0 ?_
 refine s_ld1 yA3 ?_
 refine s_fa yF27_1 ?_
 refine s_ld1 yA9 ?_
 refine s_fa yF27_2 ?_
 refine s_ld1 yA3 ?_
 refine s_bs rI ([] : List Int) yP24 yR3 ?_
 refine s_fa yF27_3 ?_
 refine s_ld1 yA24 ?_
 obtain ⟨hk1, hF1⟩ := chk_some hF0
 refine s_apT rI (fun _ => rfl) hk1 yP24 ?_
 refine s_bld yZ27 yL27 ?_
 refine s_alloc yZ27 ?_
 refine s_stW yS27 ?_
 refine k_nilD (by kernel_rfl) ?_
 refine k_seq (awp_seq (awp_seq (awp_region ?_)))
 refine s_as ?_
 refine k_nil (k_seq (awp_block ?_))
 refine awp_ownB 3 5020 27 [.t (.sc (.int .i64 x1.kind)), .t (.sc (.str x1.name)), .t (.sc (.int .i64 x1.n)), .ar 14, .ar 5020] yI27.choose_spec ?_
 refine awp_frame2 [4, 16, 17, 18, 19, 20, 21, 22, 23, 24, 25, 26, 27, 28, 29, 30, 31, 32, 33] [3, 5020] [31, 32, 2030, 12030] [5020] (fun a : Nat × Int × (List Form) => a.1) (fun a : Nat × Int × (List Form) => [(4, .t (.sc (.int .i64 a.2.1)))]) (fun a : Nat × Int × (List Form) => [(3, .box [.t (.sc (.int .i64 x1.kind)), .t (.sc (.str x1.name)), .t (.sc (.int .i64 x1.n)), .ar 14, .ar 5020]), (5020, .arr (a.2.2.map Form.row) 27 true)]) (fun a : Nat × Int × (List Form) => a.1 ≤ fu ∧ m_spec_l1Copy_l1 a.1 x1 a.2.1 a.2.2 = some r ∧ 0 ≤ a.2.1) (fu, 0, ([] : List Form)) ⟨Nat.le_refl _, hF1, by simp⟩ (by rfl) (by rfl) (fun _ => rfl) (hasF_cons (by conv => lhs; whnf) (by rfl) hasF_nil) (hasO_cons (by conv => lhs; whnf) (by rfl) (hasO_cons (by conv => lhs; whnf) (by rfl) hasO_nil)) (fresh_C hC rfl) (by repeat (first | exact freshS_args rfl | refine freshS_upd rfl ?_ | refine freshS_frame rfl ?_)) (by repeat (first | exact freshM_no | exact objs_fresh rfl | refine freshM_upd rfl ?_ | refine freshM_frame rfl ?_)) ?_
 clear hF1
 rintro ⟨fu, g2, g3⟩ ⟨hl4, hF2, hn_g2⟩
 dsimp only at hl4 hF2 hn_g2 ⊢
 obtain _ | fu := fu
 · rw [m_spec_l1Copy_l1] at hF2; cases hF2
 rw [m_spec_l1Copy_l1] at hF2
 refine awp_seq (awp_seq (awp_region ?_))
 refine s_mv ?_
 refine s_fa yF27_4 ?_
 refine s_ld1 yA25 ?_
 refine s_lenT yU25 ?_
 refine s_lt ?_
 refine k_nil (k_seq ?_)
 refine w_cond hF2 ?_ ?_ <;> intro hc5 hF3
 refine awp_lenT 18 (fun hb6 => ?_)
 refine awp_skip (k_seq (awp_seq (awp_block ?_)))
 refine awp_draw yMix (by kernel_rfl) ?_
 refine s_fa yF27_4 ?_
 refine s_ld1 yA25 ?_
 refine s_fa yF27_4 ?_
 refine s_ld1 yA25 ?_
 refine s_mv ?_
 obtain ⟨v7, hv7, hF4⟩ := bind_some' hF3
 refine s_ixT Form.row hv7 (Form.row_eq _) yE25 ?_
 refine s_ldN yA27 yS27 ?_
 obtain ⟨v8, hv8, hF5⟩ := bind_some' hF4
 refine s_call [(9203, 2030), (9204, 12030)] [] _ _ (ih_m_spec_l1Copy fu (by omega) _ _ hv8) ?_
 refine s_bs Form.row [v8] yP25 yR27 ?_
 obtain ⟨hk9, hF6⟩ := chk_some hF5
 refine s_apT Form.row (fun y => Form.row_len y) hk9 yP25 ?_
 refine s_fa yF27_4 ?_
 refine s_stP yS25 ?_
 refine k_nilD (by kernel_rfl) ?_
 refine k_blk (k_seq (awp_region ?_))
 refine s_mv ?_
 refine s_add (winc2 hc5 hb6 hn_g2) ?_
 refine s_as ?_
 refine k_nil ?_
 exact s_rn (fu, (g2 + 1), (g3 ++ [v8])) ⟨by first | omega | (dsimp only; omega), hF6, by first | omega | (dsimp only; omega)⟩ [(5020, 32)]
 refine awp_exit (k_seq_exit (k_rnd_exit2 (k_blk_exit (k_seq (awp_seq (awp_region ?_))))))
 refine s_ldW yA27 yS27 ?_
 refine s_stW yS27 ?_
 refine k_nil (k_seq ?_)
 refine awp_mvB 2 14 9203 [.t (.sc (.int .i64 x1.kind)), .t (.sc (.str x1.name)), .t (.sc (.int .i64 x1.n)), .ar 9203, .ar 5020] ?_
 refine awp_mvB 2 5020 9204 [.t (.sc (.int .i64 x1.kind)), .t (.sc (.str x1.name)), .t (.sc (.int .i64 x1.n)), .ar 9203, .ar 9204] ?_
 refine awp_ret (k_fin ?_)
 cases hF3
 exact ends_gen _ [] (by rw [Tryz.results163]; exact (res_agg (by conv => lhs; whnf) (by conv => lhs; whnf) yA27 yS27 rfl res_nil))
theorem m_spec_l1Copy_all (fuel : Nat) : m_spec_l1Copy_AC fuel := by
 induction fuel using Nat.strongRecOn with
 | _ N ih =>
   cases N with
   | zero => exact (by intro x1 r h; rw [m_spec_l1Copy] at h; cases h)
   | succ fu => exact m_spec_l1Copy_st fu (fun k hk => (ih k (by omega)))
theorem m_spec_l1Copy_ok (fuel : Nat) : m_spec_l1Copy_AC fuel := (m_spec_l1Copy_all fuel)
def m_spec_l15Rd_num_AC (fuel : Nat) : Prop := ∀ (o1 : l15Rd) (x2 : (List Int)) (r : (Int × l15Rd)), m_spec_l15Rd_num fuel o1 x2 = some r → AC Tryz.prog 176 [.rf 9000 0, .t (.sl (x2.map rI))] (objs [(9000, .box [.t (.sl (o1.b.map rB)), .t (.sc (.int .i64 o1.p))])]) (.t (.sc (.int .i64 r.1))) (objs [(9000, .box [.t (.sl (r.2.b.map rB)), .t (.sc (.int .i64 r.2.p))])])
theorem m_spec_l15Rd_num_ok (fuel : Nat) : m_spec_l15Rd_num_AC fuel := by
 intro o1 x2 r hF0
 unfold m_spec_l15Rd_num at hF0
 refine AC_i [.t (.sc (.int .i64 r.1))] Tryz.func176 rfl Tryz.ntmps176 ?_
 intro C hC
 refine awp_seq (awp_region ?_)
 refine s_as ?_
 refine k_nil (k_seq (awp_seq (awp_region ?_)))
 iterate 3 refine s_mv ?_
 refine s_lenT yU24 ?_
 obtain ⟨v1, hv1, hF1⟩ := bind_some' hF0
 refine s_call [(9000, 9000)] [] _ _ (m_spec_l15Rd_pick_ok fuel _ _ _ hv1) ?_
 obtain ⟨v2, hv2, hF2⟩ := bind_some' hF1
 refine s_ixT rI hv2 rfl yE24 ?_
 refine s_ld1 yA3 ?_
 refine s_as ?_
 refine k_nil (k_seq (awp_ret (k_fin ?_)))
 cases hF2
 exact ends_a _ [] Tryz.results176
def m_spec_l15Rd_of_AC (fuel : Nat) : Prop := ∀ (o1 : l15Rd) (x2 : (List ByteArray)) (r : (ByteArray × l15Rd)), m_spec_l15Rd_of fuel o1 x2 = some r → AC Tryz.prog 164 [.rf 9000 0, .t (.sl (x2.map rS))] (objs [(9000, .box [.t (.sl (o1.b.map rB)), .t (.sc (.int .i64 o1.p))])]) (.t (.sc (.str r.1))) (objs [(9000, .box [.t (.sl (r.2.b.map rB)), .t (.sc (.int .i64 r.2.p))])])
theorem m_spec_l15Rd_of_ok (fuel : Nat) : m_spec_l15Rd_of_AC fuel := by
 intro o1 x2 r hF0
 unfold m_spec_l15Rd_of at hF0
 refine AC_i [.t (.sc (.str r.1))] Tryz.func164 rfl Tryz.ntmps164 ?_
 intro C hC
 refine awp_seq (awp_region ?_)
 refine s_as ?_
 refine k_nil (k_seq (awp_seq (awp_region ?_)))
 iterate 3 refine s_mv ?_
 refine s_lenT yU36 ?_
 obtain ⟨v1, hv1, hF1⟩ := bind_some' hF0
 refine s_call [(9000, 9000)] [] _ _ (m_spec_l15Rd_pick_ok fuel _ _ _ hv1) ?_
 obtain ⟨v2, hv2, hF2⟩ := bind_some' hF1
 refine s_ixT rS hv2 rfl yE36 ?_
 refine s_ld1 yA9 ?_
 refine s_as ?_
 refine k_nil (k_seq (awp_ret (k_fin ?_)))
 cases hF2
 exact ends_a _ [] Tryz.results164
def m_spec_l1Mutate_AC (fuel : Nat) : Prop := ∀ (o1 : l15Rd) (x2 : Form) (r : (Form × l15Rd)), m_spec_l1Mutate fuel o1 x2 = some r → AC Tryz.prog 120 [.rf 9000 0, .ag [.t (.sc (.int .i64 x2.kind)), .t (.sc (.str x2.name)), .t (.sc (.int .i64 x2.n)), .t (.sl (x2.scopes.map rI)), .t (.sl (x2.kids.map Form.row))]] (objs [(9000, .box [.t (.sl (o1.b.map rB)), .t (.sc (.int .i64 o1.p))])]) (.ag [.t (.sc (.int .i64 r.1.kind)), .t (.sc (.str r.1.name)), .t (.sc (.int .i64 r.1.n)), .t (.sl (r.1.scopes.map rI)), .t (.sl (r.1.kids.map Form.row))]) (objs [(9000, .box [.t (.sl (r.2.b.map rB)), .t (.sc (.int .i64 r.2.p))])])
theorem m_spec_l1Mutate_st (fu : Nat) (ih_m_spec_l1Mutate : ∀ k, k ≤ fu → m_spec_l1Mutate_AC k) : m_spec_l1Mutate_AC (fu + 1) := by
 intro o1 x2 r hF0
 rw [m_spec_l1Mutate] at hF0
 refine AC_i [.ag [.t (.sc (.int .i64 r.1.kind)), .t (.sc (.str r.1.name)), .t (.sc (.int .i64 r.1.n)), .t (.sl (r.1.scopes.map rI)), .t (.sl (r.1.kids.map Form.row))]] Tryz.func120 rfl Tryz.ntmps120 ?_
 intro C hC
 refine awp_seq (awp_region ?_)
 refine s_box ?_
 refine s_alloc yZ27 ?_
 refine k_nil (k_seq (awp_seq (awp_region ?_)))
 refine s_ldW yA27 yS27 ?_
 obtain ⟨v1, hv1, hF1⟩ := bind_some' hF0
 refine s_call [(9203, 2008), (9204, 12008)] [] _ _ (m_spec_l1Copy_ok fu _ _ hv1) ?_
 refine s_alloc yZ27 ?_
 refine s_stW yS27 ?_
 refine k_nil (k_seq (awp_seq (awp_seq (awp_region ?_))))
 refine s_fa yF27_4 ?_
 refine s_ld1 yA25 ?_
 refine s_lenA yU25 ?_
 refine s_gt ?_
 refine s_mv ?_
 refine w_guard _ 13 hF1 ?_ ?_ <;> intro hc2 hF2
 refine s_mv ?_
 obtain ⟨v3, hv3, hF3⟩ := bind_some' hF2
 refine s_call [(9000, 9000)] [] _ _ (m_spec_l15Rd_pick_ok fu _ _ _ hv3) ?_
 refine s_gt ?_
 refine s_pkt ?_
 refine k_nil (k_seq ?_)
 refine w_cond hF3 ?_ ?_ <;> intro hc4 hF4
 refine awp_seq (awp_region ?_)
 refine s_mv ?_
 refine s_fa yF27_4 ?_
 refine s_ld1 yA25 ?_
 refine s_lenA yU25 ?_
 obtain ⟨v5, hv5, hF5⟩ := bind_some' hF4
 refine s_call [(9000, 9000)] [] _ _ (m_spec_l15Rd_pick_ok fu _ _ _ hv5) ?_
 refine s_as ?_
 refine k_nil (k_seq (awp_seq ?_))
 refine awp_draw yMix (by kernel_rfl) ?_
 refine s_fa yF27_4 ?_
 refine s_ld1 yA25 ?_
 refine s_mv ?_
 refine s_mv ?_
 refine s_fa yF27_4 ?_
 refine s_ld1 yA25 ?_
 refine s_mv ?_
 obtain ⟨v6, hv6, hF6⟩ := bind_some' hF5
 refine s_ixA Form.row hv6 yE25 ?_
 refine s_lAN Form.row hv6 (Form.row_eq _) yA27 yS27 ?_
 obtain ⟨v7, hv7, hF7⟩ := bind_some' hF6
 refine s_call [(9000, 9000)] [] _ _ (ih_m_spec_l1Mutate fu (by omega) _ _ _ hv7) ?_
 obtain ⟨v8, hv8, hF8⟩ := bind_some' hF7
 refine s_ixA Form.row hv8 yE25 ?_
 refine s_stA Form.row v7.1 hv8 (Form.row_eq _) (Form.row_eq _) yS27 yS27 ?_
 refine k_nilD (by kernel_rfl) ?_
 refine k_seq (awp_seq (awp_region ?_))
 refine s_ldW yA27 yS27 ?_
 refine s_stW yS27 ?_
 refine k_nil (k_seq (awp_ret (k_seq_ret (k_fin ?_))))
 cases hF8
 exact ends_gen _ [2008, 12008] (by rw [Tryz.results120]; exact (res_agg (by conv => lhs; whnf) (by conv => lhs; whnf) yA27 yS27 rfl res_nil))
 refine awp_skip (k_seq (awp_seq (awp_seq (awp_region ?_))))
 refine s_mv ?_
 obtain ⟨v9, hv9, hF5⟩ := bind_some' hF4
 refine s_call [(9000, 9000)] [] _ _ (m_spec_l15Rd_pick_ok fu _ _ _ hv9) ?_
 refine k_nil (k_seq (awp_block (awp_seq (awp_region ?_))))
 refine s_eq ?_
 refine s_as ?_
 refine k_nil (k_seq ?_)
 refine w_cond hF5 ?_ ?_ <;> intro hc10 hF6
 refine awp_region ?_
 refine s_mv ?_
 refine s_bs rI [0, 4, 1, 3] yP24 yR3 ?_
 obtain ⟨v11, hv11, hF7⟩ := bind_some' hF6
 refine s_call [(9000, 9000)] [40] _ _ (m_spec_l15Rd_num_ok fu _ _ _ hv11) ?_
 refine s_fa yF27_0 ?_
 refine s_stP yS3 ?_
 refine k_nil (k_blk (k_seq (awp_seq (awp_region ?_))))
 refine s_ldW yA27 yS27 ?_
 refine s_stW yS27 ?_
 refine k_nil (k_seq (awp_ret (k_fin ?_)))
 cases hF7
 exact ends_gen _ [2008, 12008] (by rw [Tryz.results120]; exact (res_agg (by conv => lhs; whnf) (by conv => lhs; whnf) yA27 yS27 rfl res_nil))
 refine awp_seq (awp_region ?_)
 refine s_eq ?_
 refine s_as ?_
 refine k_nil (k_seq ?_)
 refine w_cond hF6 ?_ ?_ <;> intro hc12 hF7
 refine awp_region ?_
 refine s_mv ?_
 refine s_bs rS [(⟨#[]⟩ : ByteArray), (⟨#[65]⟩ : ByteArray), (⟨#[116, 111, 111, 108, 111, 110, 103, 97, 110, 97, 109, 101, 49]⟩ : ByteArray), (⟨#[122]⟩ : ByteArray), (⟨#[120, 32, 121]⟩ : ByteArray)] yP36 yR9 ?_
 obtain ⟨v13, hv13, hF8⟩ := bind_some' hF7
 refine s_call [(9000, 9000)] [46] _ _ (m_spec_l15Rd_of_ok fu _ _ _ hv13) ?_
 refine s_fa yF27_1 ?_
 refine s_stP yS9 ?_
 refine k_nil (k_blk (k_seq (awp_seq (awp_region ?_))))
 refine s_ldW yA27 yS27 ?_
 refine s_stW yS27 ?_
 refine k_nil (k_seq (awp_ret (k_fin ?_)))
 cases hF8
 exact ends_gen _ [2008, 12008] (by rw [Tryz.results120]; exact (res_agg (by conv => lhs; whnf) (by conv => lhs; whnf) yA27 yS27 rfl res_nil))
 refine awp_seq (awp_region ?_)
 refine s_eq ?_
 refine s_as ?_
 refine k_nil (k_seq ?_)
 refine w_cond hF7 ?_ ?_ <;> intro hc14 hF8
 refine awp_region ?_
 refine s_mv ?_
 refine s_bs rI [1000, (-1), 5] yP24 yR3 ?_
 obtain ⟨v15, hv15, hF9⟩ := bind_some' hF8
 refine s_call [(9000, 9000)] [52] _ _ (m_spec_l15Rd_num_ok fu _ _ _ hv15) ?_
 refine s_fa yF27_2 ?_
 refine s_stP yS3 ?_
 refine k_nil (k_blk (k_seq (awp_seq (awp_region ?_))))
 refine s_ldW yA27 yS27 ?_
 refine s_stW yS27 ?_
 refine k_nil (k_seq (awp_ret (k_fin ?_)))
 cases hF9
 exact ends_gen _ [2008, 12008] (by rw [Tryz.results120]; exact (res_agg (by conv => lhs; whnf) (by conv => lhs; whnf) yA27 yS27 rfl res_nil))
 refine awp_seq (awp_region ?_)
 refine s_eq ?_
 refine s_as ?_
 refine k_nil (k_seq ?_)
 refine w_cond hF8 ?_ ?_ <;> intro hc16 hF9
 refine awp_draw yMix (by kernel_rfl) ?_
 refine s_fa yF27_3 ?_
 refine s_ld1 yA24 ?_
 refine s_mv ?_
 refine s_bs rI [0, 100, 1, 50] yP24 yR3 ?_
 obtain ⟨v17, hv17, hF10⟩ := bind_some' hF9
 refine s_call [(9000, 9000)] [60] _ _ (m_spec_l15Rd_num_ok fu _ _ _ hv17) ?_
 refine s_bs rI [v17.1] yP24 yR3 ?_
 obtain ⟨hk18, hF11⟩ := chk_some hF10
 refine s_apT rI (fun _ => rfl) hk18 yP24 ?_
 refine s_fa yF27_3 ?_
 refine s_stP yS24 ?_
 refine k_nilD (by kernel_rfl) ?_
 refine k_blk (k_seq (awp_seq (awp_region ?_)))
 refine s_ldW yA27 yS27 ?_
 refine s_stW yS27 ?_
 refine k_nil (k_seq (awp_ret (k_fin ?_)))
 cases hF11
 exact ends_gen _ [63, 12008] (by rw [Tryz.results120]; exact (res_agg (by conv => lhs; whnf) (by conv => lhs; whnf) yA27 yS27 rfl res_nil))
 refine awp_skip (k_blk (k_seq (awp_seq (awp_region ?_))))
 refine s_ldW yA27 yS27 ?_
 refine s_stW yS27 ?_
 refine k_nil (k_seq (awp_ret (k_fin ?_)))
 cases hF9
 exact ends_gen _ [2008, 12008] (by rw [Tryz.results120]; exact (res_agg (by conv => lhs; whnf) (by conv => lhs; whnf) yA27 yS27 rfl res_nil))
 iterate 3 refine r_no rfl ?_
 refine s_pkf ?_
 refine k_nil (k_seq (awp_false rfl (awp_skip (k_seq (awp_seq (awp_seq (awp_region ?_)))))))
 refine s_mv ?_
 obtain ⟨v19, hv19, hF3⟩ := bind_some' hF2
 refine s_call [(9000, 9000)] [] _ _ (m_spec_l15Rd_pick_ok fu _ _ _ hv19) ?_
 refine k_nil (k_seq (awp_block (awp_seq (awp_region ?_))))
 refine s_eq ?_
 refine s_as ?_
 refine k_nil (k_seq ?_)
 refine w_cond hF3 ?_ ?_ <;> intro hc20 hF4
 refine awp_region ?_
 refine s_mv ?_
 refine s_bs rI [0, 4, 1, 3] yP24 yR3 ?_
 obtain ⟨v21, hv21, hF5⟩ := bind_some' hF4
 refine s_call [(9000, 9000)] [40] _ _ (m_spec_l15Rd_num_ok fu _ _ _ hv21) ?_
 refine s_fa yF27_0 ?_
 refine s_stP yS3 ?_
 refine k_nil (k_blk (k_seq (awp_seq (awp_region ?_))))
 refine s_ldW yA27 yS27 ?_
 refine s_stW yS27 ?_
 refine k_nil (k_seq (awp_ret (k_fin ?_)))
 cases hF5
 exact ends_gen _ [2008, 12008] (by rw [Tryz.results120]; exact (res_agg (by conv => lhs; whnf) (by conv => lhs; whnf) yA27 yS27 rfl res_nil))
 refine awp_seq (awp_region ?_)
 refine s_eq ?_
 refine s_as ?_
 refine k_nil (k_seq ?_)
 refine w_cond hF4 ?_ ?_ <;> intro hc22 hF5
 refine awp_region ?_
 refine s_mv ?_
 refine s_bs rS [(⟨#[]⟩ : ByteArray), (⟨#[65]⟩ : ByteArray), (⟨#[116, 111, 111, 108, 111, 110, 103, 97, 110, 97, 109, 101, 49]⟩ : ByteArray), (⟨#[122]⟩ : ByteArray), (⟨#[120, 32, 121]⟩ : ByteArray)] yP36 yR9 ?_
 obtain ⟨v23, hv23, hF6⟩ := bind_some' hF5
 refine s_call [(9000, 9000)] [46] _ _ (m_spec_l15Rd_of_ok fu _ _ _ hv23) ?_
 refine s_fa yF27_1 ?_
 refine s_stP yS9 ?_
 refine k_nil (k_blk (k_seq (awp_seq (awp_region ?_))))
 refine s_ldW yA27 yS27 ?_
 refine s_stW yS27 ?_
 refine k_nil (k_seq (awp_ret (k_fin ?_)))
 cases hF6
 exact ends_gen _ [2008, 12008] (by rw [Tryz.results120]; exact (res_agg (by conv => lhs; whnf) (by conv => lhs; whnf) yA27 yS27 rfl res_nil))
 refine awp_seq (awp_region ?_)
 refine s_eq ?_
 refine s_as ?_
 refine k_nil (k_seq ?_)
 refine w_cond hF5 ?_ ?_ <;> intro hc24 hF6
 refine awp_region ?_
 refine s_mv ?_
 refine s_bs rI [1000, (-1), 5] yP24 yR3 ?_
 obtain ⟨v25, hv25, hF7⟩ := bind_some' hF6
 refine s_call [(9000, 9000)] [52] _ _ (m_spec_l15Rd_num_ok fu _ _ _ hv25) ?_
 refine s_fa yF27_2 ?_
 refine s_stP yS3 ?_
 refine k_nil (k_blk (k_seq (awp_seq (awp_region ?_))))
 refine s_ldW yA27 yS27 ?_
 refine s_stW yS27 ?_
 refine k_nil (k_seq (awp_ret (k_fin ?_)))
 cases hF7
 exact ends_gen _ [2008, 12008] (by rw [Tryz.results120]; exact (res_agg (by conv => lhs; whnf) (by conv => lhs; whnf) yA27 yS27 rfl res_nil))
 refine awp_seq (awp_region ?_)
 refine s_eq ?_
 refine s_as ?_
 refine k_nil (k_seq ?_)
 refine w_cond hF6 ?_ ?_ <;> intro hc26 hF7
 refine awp_draw yMix (by kernel_rfl) ?_
 refine s_fa yF27_3 ?_
 refine s_ld1 yA24 ?_
 refine s_mv ?_
 refine s_bs rI [0, 100, 1, 50] yP24 yR3 ?_
 obtain ⟨v27, hv27, hF8⟩ := bind_some' hF7
 refine s_call [(9000, 9000)] [60] _ _ (m_spec_l15Rd_num_ok fu _ _ _ hv27) ?_
 refine s_bs rI [v27.1] yP24 yR3 ?_
 obtain ⟨hk28, hF9⟩ := chk_some hF8
 refine s_apT rI (fun _ => rfl) hk28 yP24 ?_
 refine s_fa yF27_3 ?_
 refine s_stP yS24 ?_
 refine k_nilD (by kernel_rfl) ?_
 refine k_blk (k_seq (awp_seq (awp_region ?_)))
 refine s_ldW yA27 yS27 ?_
 refine s_stW yS27 ?_
 refine k_nil (k_seq (awp_ret (k_fin ?_)))
 cases hF9
 exact ends_gen _ [63, 12008] (by rw [Tryz.results120]; exact (res_agg (by conv => lhs; whnf) (by conv => lhs; whnf) yA27 yS27 rfl res_nil))
 refine awp_skip (k_blk (k_seq (awp_seq (awp_region ?_))))
 refine s_ldW yA27 yS27 ?_
 refine s_stW yS27 ?_
 refine k_nil (k_seq (awp_ret (k_fin ?_)))
 cases hF7
 exact ends_gen _ [2008, 12008] (by rw [Tryz.results120]; exact (res_agg (by conv => lhs; whnf) (by conv => lhs; whnf) yA27 yS27 rfl res_nil))
theorem m_spec_l1Mutate_all (fuel : Nat) : m_spec_l1Mutate_AC fuel := by
 induction fuel using Nat.strongRecOn with
 | _ N ih =>
   cases N with
   | zero => exact (by intro o1 x2 r h; rw [m_spec_l1Mutate] at h; cases h)
   | succ fu => exact m_spec_l1Mutate_st fu (fun k hk => (ih k (by omega)))
theorem m_spec_l1Mutate_ok (fuel : Nat) : m_spec_l1Mutate_AC fuel := (m_spec_l1Mutate_all fuel)
def m_spec_l3Is_AC (fuel : Nat) : Prop := ∀ (x1 : Form) (r : Bool), m_spec_l3Is fuel x1 = some r → AC Tryz.prog 181 [.ag [.t (.sc (.int .i64 x1.kind)), .t (.sc (.str x1.name)), .t (.sc (.int .i64 x1.n)), .t (.sl (x1.scopes.map rI)), .t (.sl (x1.kids.map Form.row))]] noOb (.t (.sc (.bool r))) noOb
theorem m_spec_l3Is_ok (fuel : Nat) : m_spec_l3Is_AC fuel := by
 intro x1 r hF0
 unfold m_spec_l3Is at hF0
 refine AC_i [.t (.sc (.bool r))] Tryz.func181 rfl Tryz.ntmps181 ?_
 intro C hC
 refine awp_seq (awp_region ?_)
 refine s_box ?_
 refine s_as ?_
 refine k_nil (k_seq (awp_seq (awp_region ?_)))
 refine s_fa yF27_0 ?_
 refine s_ld1 yA3 ?_
 refine s_eq ?_
 refine s_mv ?_
 refine w_guard _ 6 hF0 ?_ ?_ <;> intro hc1 hF1
 refine s_ldW yA27 yS27 ?_
 obtain ⟨v2, hv2, hF2⟩ := bind_some' hF1
 refine s_pure [] (m_spec_FormValid_ok fuel _ _ hv2) ?_
 refine s_pkt ?_
 refine s_as ?_
 refine k_nil (k_seq (awp_ret (k_fin ?_)))
 cases hF2
 exact ends_a [] [] Tryz.results181
 refine r_no rfl (r_no rfl ?_)
 refine s_pkf ?_
 refine s_as ?_
 refine k_nil (k_seq (awp_ret (k_fin ?_)))
 cases hF1
 exact ends_a [] [] Tryz.results181
def m_spec_l1Ints_AC (fuel : Nat) : Prop := ∀ (x1 : (List Int)) (x2 : (List Int)) (r : Bool), m_spec_l1Ints fuel x1 x2 = some r → AC Tryz.prog 127 [.t (.sl (x1.map rI)), .t (.sl (x2.map rI))] noOb (.t (.sc (.bool r))) noOb
theorem m_spec_l1Ints_ok (fuel : Nat) : m_spec_l1Ints_AC fuel := by
 intro x1 x2 r hF0
 unfold m_spec_l1Ints at hF0
 refine AC_i [.t (.sc (.bool r))] Tryz.func127 rfl Tryz.ntmps127 ?_
 intro C hC
 refine awp_seq (awp_region ?_)
 refine s_as ?_
 refine k_nil (k_seq (awp_seq (awp_seq (awp_region ?_))))
 refine s_mv ?_
 refine s_lenT yU24 ?_
 refine s_mv ?_
 refine s_lenT yU24 ?_
 refine s_ne ?_
 refine k_nil (k_seq ?_)
 refine w_cond hF0 ?_ ?_ <;> intro hc1 hF1
 refine awp_seq (awp_region ?_)
 refine s_as ?_
 refine k_nil (k_seq (awp_ret (k_seq_ret (k_fin ?_))))
 cases hF1
 exact ends_a [] [] Tryz.results127
 refine awp_skip (k_seq (awp_seq (awp_seq (awp_region ?_))))
 refine s_as ?_
 refine k_nil (k_seq (awp_block ?_))
 refine awp_fr (β := Int) [4, 5, 11, 12, 13, 14, 15, 16, 17, 18, 19, 20, 21, 22, 23, 24, 25] [] [] (fun a => [(5, .t (.sc (.int .i64 a.2)))]) (fun a => []) (fun a => a.1 ≤ fuel ∧ m_spec_l1Ints_l1 a.1 x1 x2 a.2 = some r ∧ 0 ≤ a.2) (fuel, 0) ⟨Nat.le_refl _, hF1, by simp⟩ ?_
 clear hF1
 rintro ⟨fu, g2⟩ ⟨hl3, hF2, hn_g2⟩
 dsimp only at hl3 hF2 hn_g2 ⊢
 obtain _ | fu := fu
 · rw [m_spec_l1Ints_l1] at hF2; cases hF2
 rw [m_spec_l1Ints_l1] at hF2
 refine awp_seq (awp_seq (awp_region ?_))
 refine s_mv ?_
 refine s_mv ?_
 refine s_lenT yU24 ?_
 refine s_lt ?_
 refine k_nil (k_seq ?_)
 refine w_cond hF2 ?_ ?_ <;> intro hc4 hF3
 refine awp_lenT 0 (fun hb5 => ?_)
 refine awp_skip (k_seq (awp_seq (awp_block (awp_seq ?_))))
 refine awp_draw yMix (by kernel_rfl) ?_
 refine s_mv ?_
 refine s_mv ?_
 obtain ⟨v6, hv6, hF4⟩ := bind_some' hF3
 refine s_ixT rI hv6 rfl yE24 ?_
 refine s_ld1 yA3 ?_
 refine s_mv ?_
 refine s_mv ?_
 obtain ⟨v7, hv7, hF5⟩ := bind_some' hF4
 refine s_ixT rI hv7 rfl yE24 ?_
 refine s_ld1 yA3 ?_
 refine s_ne ?_
 refine k_nilD (by kernel_rfl) ?_
 refine k_seq ?_
 refine w_cond hF5 ?_ ?_ <;> intro hc8 hF6
 refine awp_seq (awp_region ?_)
 refine s_as ?_
 refine k_nil (k_seq (awp_ret (k_blk_ret (k_seq_ret (k_rnd_ret2 (k_blk_ret (k_seq_ret (k_fin ?_))))))))
 cases hF6
 exact ends_a [] [] Tryz.results127
 refine awp_skip (k_blk (k_seq (awp_region ?_)))
 refine s_mv ?_
 refine s_add (winc2 hc4 hb5 hn_g2) ?_
 refine s_as ?_
 refine k_nil ?_
 exact s_rn (fu, (g2 + 1)) ⟨by first | omega | (dsimp only; omega), hF6, by first | omega | (dsimp only; omega)⟩
 refine awp_exit (k_seq_exit (k_rnd_exit2 (k_blk_exit (k_seq (awp_seq (awp_region ?_))))))
 refine s_as ?_
 refine k_nil (k_seq (awp_ret (k_fin ?_)))
 cases hF3
 exact ends_a [] [] Tryz.results127
def m_spec_FormSame_AC (fuel : Nat) : Prop := ∀ (x1 : Form) (x2 : Form) (r : Bool), m_spec_FormSame fuel x1 x2 = some r → AC Tryz.prog 136 [.ag [.t (.sc (.int .i64 x1.kind)), .t (.sc (.str x1.name)), .t (.sc (.int .i64 x1.n)), .t (.sl (x1.scopes.map rI)), .t (.sl (x1.kids.map Form.row))], .ag [.t (.sc (.int .i64 x2.kind)), .t (.sc (.str x2.name)), .t (.sc (.int .i64 x2.n)), .t (.sl (x2.scopes.map rI)), .t (.sl (x2.kids.map Form.row))]] noOb (.t (.sc (.bool r))) noOb
theorem m_spec_FormSame_st (fu : Nat) (ih_m_spec_FormSame : ∀ k, k ≤ fu → m_spec_FormSame_AC k) : m_spec_FormSame_AC (fu + 1) := by
 intro x1 x2 r hF0
 rw [m_spec_FormSame] at hF0
 refine AC_i [.t (.sc (.bool r))] Tryz.func136 rfl Tryz.ntmps136 ?_
 intro C hC
 refine awp_seq (awp_region ?_)
 refine s_box ?_
 refine s_box ?_
 refine s_as ?_
 refine k_nil (k_seq (awp_seq (awp_seq (awp_region ?_))))
 refine s_fa yF27_0 ?_
 refine s_ld1 yA3 ?_
 refine s_fa yF27_0 ?_
 refine s_ld1 yA3 ?_
 refine s_ne ?_
 refine s_mv ?_
 refine w_guard _ 11 hF0 ?_ ?_ <;> intro hc1 hF1
 iterate 5 refine r_no rfl ?_
 refine s_pkt ?_
 refine s_mv ?_
 iterate 5 refine r_no rfl ?_
 refine s_pkt ?_
 refine s_mv ?_
 iterate 6 refine r_no rfl ?_
 refine s_pkt ?_
 refine s_mv ?_
 iterate 7 refine r_no rfl ?_
 refine s_pkt ?_
 refine k_nil (k_seq (awp_true rfl (awp_seq (awp_region ?_))))
 refine s_as ?_
 refine k_nil (k_seq (awp_ret (k_seq_ret (k_fin ?_))))
 cases hF1
 exact ends_a [] [] Tryz.results136
 refine s_fa yF27_1 ?_
 refine s_ld1 yA9 ?_
 refine s_fa yF27_1 ?_
 refine s_ld1 yA9 ?_
 refine s_neS ?_
 refine s_pkf ?_
 refine s_mv ?_
 refine w_guard _ 18 hF1 ?_ ?_ <;> intro hc2 hF2
 iterate 5 refine r_no rfl ?_
 refine s_pkt ?_
 refine s_mv ?_
 iterate 6 refine r_no rfl ?_
 refine s_pkt ?_
 refine s_mv ?_
 iterate 7 refine r_no rfl ?_
 refine s_pkt ?_
 refine k_nil (k_seq (awp_true rfl (awp_seq (awp_region ?_))))
 refine s_as ?_
 refine k_nil (k_seq (awp_ret (k_seq_ret (k_fin ?_))))
 cases hF2
 exact ends_a [] [] Tryz.results136
 refine s_fa yF27_2 ?_
 refine s_ld1 yA3 ?_
 refine s_fa yF27_2 ?_
 refine s_ld1 yA3 ?_
 refine s_ne ?_
 refine s_pkf ?_
 refine s_mv ?_
 refine w_guard _ 25 hF2 ?_ ?_ <;> intro hc3 hF3
 iterate 6 refine r_no rfl ?_
 refine s_pkt ?_
 refine s_mv ?_
 iterate 7 refine r_no rfl ?_
 refine s_pkt ?_
 refine k_nil (k_seq (awp_true rfl (awp_seq (awp_region ?_))))
 refine s_as ?_
 refine k_nil (k_seq (awp_ret (k_seq_ret (k_fin ?_))))
 cases hF3
 exact ends_a [] [] Tryz.results136
 refine s_fa yF27_3 ?_
 refine s_ld1 yA24 ?_
 refine s_fa yF27_3 ?_
 refine s_ld1 yA24 ?_
 obtain ⟨v4, hv4, hF4⟩ := bind_some' hF3
 refine s_pure [] (m_spec_l1Ints_ok fu _ _ _ hv4) ?_
 refine s_not ?_
 refine s_pkf ?_
 refine s_mv ?_
 refine w_guard _ 33 hF4 ?_ ?_ <;> intro hc5 hF5
 iterate 7 refine r_no rfl ?_
 refine s_pkt ?_
 refine k_nil (k_seq (awp_true rfl (awp_seq (awp_region ?_))))
 refine s_as ?_
 refine k_nil (k_seq (awp_ret (k_seq_ret (k_fin ?_))))
 cases hF5
 exact ends_a [] [] Tryz.results136
 refine s_fa yF27_4 ?_
 refine s_ld1 yA25 ?_
 refine s_lenT yU25 ?_
 refine s_fa yF27_4 ?_
 refine s_ld1 yA25 ?_
 refine s_lenT yU25 ?_
 refine s_ne ?_
 refine s_pkf ?_
 refine k_nil (k_seq ?_)
 refine w_cond hF5 ?_ ?_ <;> intro hc6 hF6
 refine awp_seq (awp_region ?_)
 refine s_as ?_
 refine k_nil (k_seq (awp_ret (k_seq_ret (k_fin ?_))))
 cases hF6
 exact ends_a [] [] Tryz.results136
 refine awp_skip (k_seq (awp_seq (awp_seq (awp_region ?_))))
 refine s_as ?_
 refine k_nil (k_seq (awp_block ?_))
 refine awp_fr (β := Int) [4, 5, 42, 43, 44, 45, 46, 47, 48, 49, 50, 51, 52, 53, 54, 55, 56, 57, 58, 59, 60] [] [] (fun a => [(5, .t (.sc (.int .i64 a.2)))]) (fun a => []) (fun a => a.1 ≤ fu ∧ m_spec_FormSame_l1 a.1 x1 x2 a.2 = some r ∧ 0 ≤ a.2) (fu, 0) ⟨Nat.le_refl _, hF6, by simp⟩ ?_
 clear hF6
 rintro ⟨fu, g7⟩ ⟨hl8, hF7, hn_g7⟩
 dsimp only at hl8 hF7 hn_g7 ⊢
 obtain _ | fu := fu
 · rw [m_spec_FormSame_l1] at hF7; cases hF7
 rw [m_spec_FormSame_l1] at hF7
 refine awp_seq (awp_seq (awp_region ?_))
 refine s_mv ?_
 refine s_fa yF27_4 ?_
 refine s_ld1 yA25 ?_
 refine s_lenT yU25 ?_
 refine s_lt ?_
 refine k_nil (k_seq ?_)
 refine w_cond hF7 ?_ ?_ <;> intro hc9 hF8
 refine awp_lenT 35 (fun hb10 => ?_)
 refine awp_skip (k_seq (awp_seq (awp_block (awp_seq ?_))))
 refine awp_draw yMix (by kernel_rfl) ?_
 refine s_fa yF27_4 ?_
 refine s_ld1 yA25 ?_
 refine s_mv ?_
 obtain ⟨v11, hv11, hF9⟩ := bind_some' hF8
 refine s_ixT Form.row hv11 (Form.row_eq _) yE25 ?_
 refine s_ldN yA27 yS27 ?_
 refine s_fa yF27_4 ?_
 refine s_ld1 yA25 ?_
 refine s_mv ?_
 obtain ⟨v12, hv12, hF10⟩ := bind_some' hF9
 refine s_ixT Form.row hv12 (Form.row_eq _) yE25 ?_
 refine s_ldN yA27 yS27 ?_
 obtain ⟨v13, hv13, hF11⟩ := bind_some' hF10
 refine s_pure [] (ih_m_spec_FormSame fu (by omega) _ _ _ hv13) ?_
 refine s_not ?_
 refine k_nilD (by kernel_rfl) ?_
 refine k_seq ?_
 refine w_cond hF11 ?_ ?_ <;> intro hc14 hF12
 refine awp_seq (awp_region ?_)
 refine s_as ?_
 refine k_nil (k_seq (awp_ret (k_blk_ret (k_seq_ret (k_rnd_ret2 (k_blk_ret (k_seq_ret (k_fin ?_))))))))
 cases hF12
 exact ends_a [] [] Tryz.results136
 refine awp_skip (k_blk (k_seq (awp_region ?_)))
 refine s_mv ?_
 refine s_add (winc2 hc9 hb10 hn_g7) ?_
 refine s_as ?_
 refine k_nil ?_
 exact s_rn (fu, (g7 + 1)) ⟨by first | omega | (dsimp only; omega), hF12, by first | omega | (dsimp only; omega)⟩
 refine awp_exit (k_seq_exit (k_rnd_exit2 (k_blk_exit (k_seq (awp_seq (awp_region ?_))))))
 refine s_as ?_
 refine k_nil (k_seq (awp_ret (k_fin ?_)))
 cases hF8
 exact ends_a [] [] Tryz.results136
theorem m_spec_FormSame_all (fuel : Nat) : m_spec_FormSame_AC fuel := by
 induction fuel using Nat.strongRecOn with
 | _ N ih =>
   cases N with
   | zero => exact (by intro x1 x2 r h; rw [m_spec_FormSame] at h; cases h)
   | succ fu => exact m_spec_FormSame_st fu (fun k hk => (ih k (by omega)))
theorem m_spec_FormSame_ok (fuel : Nat) : m_spec_FormSame_AC fuel := (m_spec_FormSame_all fuel)
def m_spec_l4In_AC (fuel : Nat) : Prop := ∀ (x1 : (List Form)) (x2 : Form) (r : Bool), m_spec_l4In fuel x1 x2 = some r → AC Tryz.prog 131 [.t (.sl (x1.map Form.row)), .ag [.t (.sc (.int .i64 x2.kind)), .t (.sc (.str x2.name)), .t (.sc (.int .i64 x2.n)), .t (.sl (x2.scopes.map rI)), .t (.sl (x2.kids.map Form.row))]] noOb (.t (.sc (.bool r))) noOb
theorem m_spec_l4In_ok (fuel : Nat) : m_spec_l4In_AC fuel := by
 intro x1 x2 r hF0
 unfold m_spec_l4In at hF0
 refine AC_i [.t (.sc (.bool r))] Tryz.func131 rfl Tryz.ntmps131 ?_
 intro C hC
 refine awp_seq (awp_region ?_)
 refine s_box ?_
 refine s_as ?_
 refine k_nil (k_seq (awp_seq (awp_seq (awp_region ?_))))
 refine s_as ?_
 refine k_nil (k_seq (awp_block ?_))
 refine awp_fr (β := Int) [4, 5, 6, 7, 8, 9, 10, 11, 12, 13, 14, 15, 16, 17] [] [] (fun a => [(5, .t (.sc (.int .i64 a.2)))]) (fun a => []) (fun a => a.1 ≤ fuel ∧ m_spec_l4In_l1 a.1 x1 x2 a.2 = some r ∧ 0 ≤ a.2) (fuel, 0) ⟨Nat.le_refl _, hF0, by simp⟩ ?_
 clear hF0
 rintro ⟨fu, g1⟩ ⟨hl2, hF1, hn_g1⟩
 dsimp only at hl2 hF1 hn_g1 ⊢
 obtain _ | fu := fu
 · rw [m_spec_l4In_l1] at hF1; cases hF1
 rw [m_spec_l4In_l1] at hF1
 refine awp_seq (awp_seq (awp_region ?_))
 refine s_mv ?_
 refine s_mv ?_
 refine s_lenT yU25 ?_
 refine s_lt ?_
 refine k_nil (k_seq ?_)
 refine w_cond hF1 ?_ ?_ <;> intro hc3 hF2
 refine awp_lenT 0 (fun hb4 => ?_)
 refine awp_skip (k_seq (awp_seq (awp_block (awp_seq ?_))))
 refine awp_draw yMix (by kernel_rfl) ?_
 refine s_mv ?_
 refine s_mv ?_
 obtain ⟨v5, hv5, hF3⟩ := bind_some' hF2
 refine s_ixT Form.row hv5 (Form.row_eq _) yE25 ?_
 refine s_ldN yA27 yS27 ?_
 refine s_ldW yA27 yS27 ?_
 obtain ⟨v6, hv6, hF4⟩ := bind_some' hF3
 refine s_pure [] (m_spec_FormSame_ok fu _ _ _ hv6) ?_
 refine k_nilD (by kernel_rfl) ?_
 refine k_seq ?_
 refine w_cond hF4 ?_ ?_ <;> intro hc7 hF5
 refine awp_seq (awp_region ?_)
 refine s_as ?_
 refine k_nil (k_seq (awp_ret (k_blk_ret (k_seq_ret (k_rnd_ret2 (k_blk_ret (k_seq_ret (k_fin ?_))))))))
 cases hF5
 exact ends_a [] [] Tryz.results131
 refine awp_skip (k_blk (k_seq (awp_region ?_)))
 refine s_mv ?_
 refine s_add (winc2 hc3 hb4 hn_g1) ?_
 refine s_as ?_
 refine k_nil ?_
 exact s_rn (fu, (g1 + 1)) ⟨by first | omega | (dsimp only; omega), hF5, by first | omega | (dsimp only; omega)⟩
 refine awp_exit (k_seq_exit (k_rnd_exit2 (k_blk_exit (k_seq (awp_seq (awp_region ?_))))))
 refine s_as ?_
 refine k_nil (k_seq (awp_ret (k_fin ?_)))
 cases hF2
 exact ends_a [] [] Tryz.results131
def m_spec_l4Literals_AC (fuel : Nat) : Prop := ∀ (x1 : (List Form)) (r : Bool), m_spec_l4Literals fuel x1 = some r → AC Tryz.prog 128 [.t (.sl (x1.map Form.row))] noOb (.t (.sc (.bool r))) noOb
theorem m_spec_l4Literals_ok (fuel : Nat) : m_spec_l4Literals_AC fuel := by
 intro x1 r hF0
 unfold m_spec_l4Literals at hF0
 refine AC_i [.t (.sc (.bool r))] Tryz.func128 rfl Tryz.ntmps128 ?_
 intro C hC
 refine awp_seq (awp_region ?_)
 refine s_as ?_
 refine k_nil (k_seq (awp_seq (awp_seq (awp_region ?_))))
 refine s_as ?_
 refine k_nil (k_seq (awp_block ?_))
 refine awp_fr (β := Int) [2, 3, 4, 5, 6, 7, 8, 9, 10, 11, 12, 13, 14, 15, 16, 17, 18, 19, 20, 21, 22, 23, 24, 25, 26, 27, 28, 29, 30, 31, 32, 33, 34, 35, 36, 37, 38, 39, 40, 41, 42, 43, 44, 45] [] [] (fun a => [(3, .t (.sc (.int .i64 a.2)))]) (fun a => []) (fun a => a.1 ≤ fuel ∧ m_spec_l4Literals_l1 a.1 x1 a.2 = some r) (fuel, 0) ⟨Nat.le_refl _, hF0⟩ ?_
 clear hF0
 rintro ⟨fu, g1⟩ ⟨hl2, hF1⟩
 dsimp only at hl2 hF1 ⊢
 obtain _ | fu := fu
 · rw [m_spec_l4Literals_l1] at hF1; cases hF1
 rw [m_spec_l4Literals_l1] at hF1
 refine awp_seq (awp_seq (awp_region ?_))
 refine s_mv ?_
 refine s_mv ?_
 refine s_lenT yU25 ?_
 refine s_lt ?_
 refine s_mv ?_
 refine w_guard _ 8 hF1 ?_ ?_ <;> intro hc3 hF2
 refine s_mv ?_
 refine s_lt ?_
 refine s_pkt ?_
 refine k_nil (k_seq ?_)
 refine w_cond hF2 ?_ ?_ <;> intro hc4 hF3
 refine awp_skip (k_seq (awp_seq (awp_block (awp_seq ?_))))
 refine awp_draw yMix (by kernel_rfl) ?_
 refine s_mv ?_
 refine s_mv ?_
 obtain ⟨v5, hv5, hF4⟩ := bind_some' hF3
 refine s_ixT Form.row hv5 (Form.row_eq _) yE25 ?_
 refine s_ldN yA27 yS27 ?_
 obtain ⟨v6, hv6, hF5⟩ := bind_some' hF4
 refine s_pure [] (m_spec_l3Is_ok fu _ _ hv6) ?_
 refine s_not ?_
 refine s_mv ?_
 refine w_guard _ 20 hF5 ?_ ?_ <;> intro hc7 hF6
 iterate 6 refine r_no rfl ?_
 refine s_pkt ?_
 refine s_mv ?_
 iterate 6 refine r_no rfl ?_
 refine s_pkt ?_
 refine s_mv ?_
 iterate 8 refine r_no rfl ?_
 refine s_pkt ?_
 refine k_nilD (by kernel_rfl) ?_
 refine k_seq (awp_true rfl (awp_seq (awp_region ?_)))
 refine s_as ?_
 refine k_nil (k_seq (awp_ret (k_blk_ret (k_seq_ret (k_rnd_ret2 (k_blk_ret (k_seq_ret (k_fin ?_))))))))
 cases hF6
 exact ends_a [] [] Tryz.results128
 refine s_mv ?_
 refine s_mv ?_
 obtain ⟨v8, hv8, hF7⟩ := bind_some' hF6
 refine s_ixT Form.row hv8 (Form.row_eq _) yE25 ?_
 refine s_fa yF27_1 ?_
 refine s_ld1 yA9 ?_
 refine s_eqS ?_
 refine s_pkf ?_
 refine s_mv ?_
 refine w_guard _ 28 hF7 ?_ ?_ <;> intro hc9 hF8
 iterate 6 refine r_no rfl ?_
 refine s_pkt ?_
 refine s_mv ?_
 iterate 8 refine r_no rfl ?_
 refine s_pkt ?_
 refine k_nilD (by kernel_rfl) ?_
 refine k_seq (awp_true rfl (awp_seq (awp_region ?_)))
 refine s_as ?_
 refine k_nil (k_seq (awp_ret (k_blk_ret (k_seq_ret (k_rnd_ret2 (k_blk_ret (k_seq_ret (k_fin ?_))))))))
 cases hF8
 exact ends_a [] [] Tryz.results128
 refine s_mv ?_
 refine s_mv ?_
 obtain ⟨v10, hv10, hF9⟩ := bind_some' hF8
 refine s_ixT Form.row hv10 (Form.row_eq _) yE25 ?_
 refine s_fa yF27_1 ?_
 refine s_ld1 yA9 ?_
 refine s_eqS ?_
 refine s_pkf ?_
 refine s_mv ?_
 refine w_guard _ 36 hF9 ?_ ?_ <;> intro hc11 hF10
 iterate 8 refine r_no rfl ?_
 refine s_pkt ?_
 refine k_nilD (by kernel_rfl) ?_
 refine k_seq (awp_true rfl (awp_seq (awp_region ?_)))
 refine s_as ?_
 refine k_nil (k_seq (awp_ret (k_blk_ret (k_seq_ret (k_rnd_ret2 (k_blk_ret (k_seq_ret (k_fin ?_))))))))
 cases hF10
 exact ends_a [] [] Tryz.results128
 refine s_mv ?_
 refine s_mv ?_
 obtain ⟨v12, hv12, hF11⟩ := bind_some' hF10
 refine s_sl01 Form.row (fun y => Form.row_len y) hv12 yU25 yE25 ?_
 refine s_mv ?_
 refine s_mv ?_
 obtain ⟨v13, hv13, hF12⟩ := bind_some' hF11
 refine s_ixT Form.row hv13 (Form.row_eq _) yE25 ?_
 refine s_ldN yA27 yS27 ?_
 obtain ⟨v14, hv14, hF13⟩ := bind_some' hF12
 refine s_pure [] (m_spec_l4In_ok fu _ _ _ hv14) ?_
 refine s_pkf ?_
 refine k_nilD (by kernel_rfl) ?_
 refine k_seq ?_
 refine w_cond hF13 ?_ ?_ <;> intro hc15 hF14
 refine awp_seq (awp_region ?_)
 refine s_as ?_
 refine k_nil (k_seq (awp_ret (k_blk_ret (k_seq_ret (k_rnd_ret2 (k_blk_ret (k_seq_ret (k_fin ?_))))))))
 cases hF14
 exact ends_a [] [] Tryz.results128
 refine awp_skip (k_blk (k_seq (awp_region ?_)))
 refine s_mv ?_
 refine s_add rfl ?_
 refine s_as ?_
 refine k_nil ?_
 exact s_rn (fu, (w64 (g1 + 1))) ⟨by first | omega | (dsimp only; omega), hF14⟩
 refine awp_exit (k_seq_exit (k_rnd_exit2 (k_blk_exit (k_seq (awp_seq (awp_region ?_))))))
 refine s_mv ?_
 refine s_lenT yU25 ?_
 refine s_lt ?_
 refine s_as ?_
 refine k_nil (k_seq (awp_ret (k_fin ?_)))
 cases hF3
 exact ends_a [] [] Tryz.results128
 refine r_no rfl (r_no rfl ?_)
 refine s_pkf ?_
 refine k_nil (k_seq (awp_false rfl (awp_exit (k_seq_exit (k_rnd_exit2 (k_blk_exit (k_seq (awp_seq (awp_region ?_)))))))))
 refine s_mv ?_
 refine s_lenT yU25 ?_
 refine s_lt ?_
 refine s_as ?_
 refine k_nil (k_seq (awp_ret (k_fin ?_)))
 cases hF2
 exact ends_a [] [] Tryz.results128
def m_spec_l4Dots_AC (fuel : Nat) : Prop := ∀ (x1 : Form) (r : Bool), m_spec_l4Dots fuel x1 = some r → AC Tryz.prog 161 [.ag [.t (.sc (.int .i64 x1.kind)), .t (.sc (.str x1.name)), .t (.sc (.int .i64 x1.n)), .t (.sl (x1.scopes.map rI)), .t (.sl (x1.kids.map Form.row))]] noOb (.t (.sc (.bool r))) noOb
theorem m_spec_l4Dots_ok (fuel : Nat) : m_spec_l4Dots_AC fuel := by
 intro x1 r hF0
 unfold m_spec_l4Dots at hF0
 refine AC_i [.t (.sc (.bool r))] Tryz.func161 rfl Tryz.ntmps161 ?_
 intro C hC
 refine awp_seq (awp_region ?_)
 refine s_box ?_
 refine s_as ?_
 refine k_nil (k_seq (awp_seq (awp_region ?_)))
 refine s_fa yF27_0 ?_
 refine s_ld1 yA3 ?_
 refine s_eq ?_
 refine s_mv ?_
 refine w_guard _ 6 hF0 ?_ ?_ <;> intro hc1 hF1
 refine s_fa yF27_1 ?_
 refine s_ld1 yA9 ?_
 refine s_eqS ?_
 refine s_pkt ?_
 refine s_as ?_
 refine k_nil (k_seq (awp_ret (k_fin ?_)))
 cases hF1
 exact ends_a [] [] Tryz.results161
 iterate 3 refine r_no rfl ?_
 refine s_pkf ?_
 refine s_as ?_
 refine k_nil (k_seq (awp_ret (k_fin ?_)))
 cases hF1
 exact ends_a [] [] Tryz.results161
def m_spec_l4Shape_AC (fuel : Nat) : Prop := ∀ (x1 : Form) (r : Bool), m_spec_l4Shape fuel x1 = some r → AC Tryz.prog 129 [.ag [.t (.sc (.int .i64 x1.kind)), .t (.sc (.str x1.name)), .t (.sc (.int .i64 x1.n)), .t (.sl (x1.scopes.map rI)), .t (.sl (x1.kids.map Form.row))]] noOb (.t (.sc (.bool r))) noOb
theorem m_spec_l4Shape_st (fu : Nat) (ih_m_spec_l4Shape : ∀ k, k ≤ fu → m_spec_l4Shape_AC k) : m_spec_l4Shape_AC (fu + 1) := by
 intro x1 r hF0
 rw [m_spec_l4Shape] at hF0
 refine AC_i [.t (.sc (.bool r))] Tryz.func129 rfl Tryz.ntmps129 ?_
 intro C hC
 refine awp_seq (awp_region ?_)
 refine s_box ?_
 refine s_as ?_
 refine k_nil (k_seq (awp_seq (awp_seq (awp_region ?_))))
 refine s_ldW yA27 yS27 ?_
 obtain ⟨v1, hv1, hF1⟩ := bind_some' hF0
 refine s_pure [] (m_spec_l4Dots_ok fu _ _ hv1) ?_
 refine k_nil (k_seq ?_)
 refine w_cond hF1 ?_ ?_ <;> intro hc2 hF2
 refine awp_seq (awp_region ?_)
 refine s_as ?_
 refine k_nil (k_seq (awp_ret (k_seq_ret (k_fin ?_))))
 cases hF2
 exact ends_a [] [] Tryz.results129
 refine awp_skip (k_seq (awp_seq (awp_region ?_)))
 refine s_as ?_
 refine k_nil (k_seq (awp_seq (awp_seq (awp_region ?_))))
 refine s_as ?_
 refine k_nil (k_seq (awp_block ?_))
 refine awp_fr (β := Int × Int) [2, 3, 4, 7, 8, 9, 10, 11, 12, 13, 14, 15, 16, 17, 18, 19, 20, 21, 22, 23, 24, 25, 26, 27, 28, 29, 30, 31, 32, 33, 34, 35, 36, 37, 38, 39] [] [] (fun a => [(3, .t (.sc (.int .i64 a.2.1))), (4, .t (.sc (.int .i64 a.2.2)))]) (fun a => []) (fun a => a.1 ≤ fu ∧ m_spec_l4Shape_l1 a.1 x1 a.2.1 a.2.2 = some r ∧ 0 ≤ a.2.2) (fu, 0, 0) ⟨Nat.le_refl _, hF2, by simp⟩ ?_
 clear hF2
 rintro ⟨fu, g3, g4⟩ ⟨hl5, hF3, hn_g4⟩
 dsimp only at hl5 hF3 hn_g4 ⊢
 obtain _ | fu := fu
 · rw [m_spec_l4Shape_l1] at hF3; cases hF3
 rw [m_spec_l4Shape_l1] at hF3
 refine awp_seq (awp_seq (awp_region ?_))
 refine s_mv ?_
 refine s_fa yF27_4 ?_
 refine s_ld1 yA25 ?_
 refine s_lenT yU25 ?_
 refine s_lt ?_
 refine k_nil (k_seq ?_)
 refine w_cond hF3 ?_ ?_ <;> intro hc6 hF4
 refine awp_lenT 9 (fun hb7 => ?_)
 refine awp_skip (k_seq (awp_seq (awp_block (awp_seq (awp_seq (awp_region ?_))))))
 refine s_fa yF27_4 ?_
 refine s_ld1 yA25 ?_
 refine s_mv ?_
 obtain ⟨v8, hv8, hF5⟩ := bind_some' hF4
 refine s_ixT Form.row hv8 (Form.row_eq _) yE25 ?_
 refine s_ldN yA27 yS27 ?_
 obtain ⟨v9, hv9, hF6⟩ := bind_some' hF5
 refine s_pure [] (m_spec_l4Dots_ok fu _ _ hv9) ?_
 refine k_nil (k_seq ?_)
 refine w_cond hF6 ?_ ?_ <;> intro hc10 hF7
 refine awp_seq (awp_region ?_)
 refine s_mv ?_
 refine s_add rfl ?_
 refine s_as ?_
 refine k_nil (k_seq (awp_seq (awp_seq (awp_region ?_))))
 refine s_mv ?_
 refine s_eq ?_
 refine s_mv ?_
 refine w_guard _ 24 hF7 ?_ ?_ <;> intro hc11 hF8
 iterate 7 refine r_no rfl ?_
 refine s_pkt ?_
 refine k_nil (k_seq (awp_true rfl (awp_seq (awp_region ?_))))
 refine s_as ?_
 refine k_nil (k_seq (awp_ret (k_seq_ret (k_seq_ret (k_blk_ret (k_seq_ret (k_rnd_ret2 (k_blk_ret (k_seq_ret (k_fin ?_))))))))))
 cases hF8
 exact ends_a [] [] Tryz.results129
 refine s_fa yF27_4 ?_
 refine s_ld1 yA25 ?_
 refine s_mv ?_
 refine s_sub rfl ?_
 obtain ⟨v12, hv12, hF9⟩ := bind_some' hF8
 refine s_ixT Form.row hv12 (Form.row_eq _) yE25 ?_
 refine s_ldN yA27 yS27 ?_
 obtain ⟨v13, hv13, hF10⟩ := bind_some' hF9
 refine s_pure [] (m_spec_l4Dots_ok fu _ _ hv13) ?_
 refine s_pkf ?_
 refine k_nil (k_seq ?_)
 refine w_cond hF10 ?_ ?_ <;> intro hc14 hF11
 refine awp_seq (awp_region ?_)
 refine s_as ?_
 refine k_nil (k_seq (awp_ret (k_seq_ret (k_seq_ret (k_blk_ret (k_seq_ret (k_rnd_ret2 (k_blk_ret (k_seq_ret (k_fin ?_))))))))))
 cases hF11
 exact ends_a [] [] Tryz.results129
 refine awp_skip (k_seq (awp_exit (k_seq_exit (k_blk_exit (k_seq (awp_region ?_))))))
 refine s_mv ?_
 refine s_add (winc2 hc6 hb7 hn_g4) ?_
 refine s_as ?_
 refine k_nil ?_
 exact s_rn (fu, (w64 (g3 + 1)), (g4 + 1)) ⟨by first | omega | (dsimp only; omega), hF11, by first | omega | (dsimp only; omega)⟩
 refine awp_skip (k_seq (awp_seq (awp_region ?_)))
 refine s_fa yF27_4 ?_
 refine s_ld1 yA25 ?_
 refine s_mv ?_
 obtain ⟨v15, hv15, hF8⟩ := bind_some' hF7
 refine s_ixT Form.row hv15 (Form.row_eq _) yE25 ?_
 refine s_ldN yA27 yS27 ?_
 obtain ⟨v16, hv16, hF9⟩ := bind_some' hF8
 refine s_pure [] (ih_m_spec_l4Shape fu (by omega) _ _ hv16) ?_
 refine s_not ?_
 refine k_nil (k_seq ?_)
 refine w_cond hF9 ?_ ?_ <;> intro hc17 hF10
 refine awp_seq (awp_region ?_)
 refine s_as ?_
 refine k_nil (k_seq (awp_ret (k_blk_ret (k_seq_ret (k_rnd_ret2 (k_blk_ret (k_seq_ret (k_fin ?_))))))))
 cases hF10
 exact ends_a [] [] Tryz.results129
 refine awp_skip (k_blk (k_seq (awp_region ?_)))
 refine s_mv ?_
 refine s_add (winc2 hc6 hb7 hn_g4) ?_
 refine s_as ?_
 refine k_nil ?_
 exact s_rn (fu, g3, (g4 + 1)) ⟨by first | omega | (dsimp only; omega), hF10, by first | omega | (dsimp only; omega)⟩
 refine awp_exit (k_seq_exit (k_rnd_exit2 (k_blk_exit (k_seq (awp_seq (awp_region ?_))))))
 refine s_mv ?_
 refine s_le ?_
 refine s_as ?_
 refine k_nil (k_seq (awp_ret (k_fin ?_)))
 cases hF4
 exact ends_a [] [] Tryz.results129
end Go.Abs
