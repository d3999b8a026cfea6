/- A part of the proof: what the functions that the law calls answer, as pure values. -/
import Derived.Test.YtdlfmjbmnopaiaaK37b0dec759b5
import Derived.Test.YtdlfmjbmnopaiaaK3eb1bb150e30
import Derived.Test.YtdlfmjbmnopaiaaK566d99bbca90
import Derived.Test.YtdlfmjbmnopaiaaK780d2eb56f1c
import Derived.Test.YtdlfmjbmnopaiaaKd76126587010
set_option linter.unusedSimpArgs false
set_option linter.unusedVariables false
set_option maxRecDepth 100000
set_option maxHeartbeats 4000000
namespace Go.Abs
open Go.Proofs
theorem m_spec_l6Some_all (fuel : Nat) : m_spec_l6Some_AC fuel := by
 induction fuel using Nat.strongRecOn with
 | _ N ih =>
   cases N with
   | zero => exact (by intro o1 x2 x3 x4 r h; rw [m_spec_l6Some] at h; cases h)
   | succ fu => exact m_spec_l6Some_st fu (fun k hk => (ih k (by omega)))
theorem m_spec_l6Some_ok (fuel : Nat) : m_spec_l6Some_AC fuel := (m_spec_l6Some_all fuel)
def m_spec_l1Copy_AC (fuel : Nat) : Prop := ∀ (x1 : Form) (r : Form), m_spec_l1Copy fuel x1 = some r → AC Try.prog 25 [.ag [.t (.sc (.int .i64 x1.kind)), .t (.sc (.str x1.name)), .t (.sc (.int .i64 x1.n)), .t (.sl (x1.scopes.map rI)), .t (.sl (x1.kids.map Form.row))]] (objs []) (.ag [.t (.sc (.int .i64 r.kind)), .t (.sc (.str r.name)), .t (.sc (.int .i64 r.n)), .ar 9203, .ar 9204]) (objs [(9203, .arr (r.scopes.map rI) 3 true), (9204, .arr (r.kids.map Form.row) 26 true)])
theorem m_spec_l1Copy_st (fu : Nat) (ih_m_spec_l1Copy : ∀ k, k ≤ fu → m_spec_l1Copy_AC k) : m_spec_l1Copy_AC (fu + 1) := by
 intro x1 r hF0
 rw [m_spec_l1Copy] at hF0
 refine AC_i [.ag [.t (.sc (.int .i64 r.kind)), .t (.sc (.str r.name)), .t (.sc (.int .i64 r.n)), .ar 9203, .ar 9204]] Try.func25 rfl Try.ntmps25 ?_
 intro C hC
 refine awp_seq (awp_region ?_)
 refine s_box ?_
 refine s_alloc yZ26 ?_
 refine k_nil (k_seq (awp_seq ?_))
 refine awp_draw yMix (by kernel_rfl) ?_
 refine s_fa yF26_0 ?_
 refine s_ld1 yA3 ?_
 refine s_fa yF26_1 ?_
 refine s_ld1 yA9 ?_
 refine s_fa yF26_2 ?_
 refine s_ld1 yA3 ?_
 refine s_bs rI ([] : List Int) yP23 yR3 ?_
 refine s_fa yF26_3 ?_
 refine s_ld1 yA23 ?_
 obtain ⟨hk1, hF1⟩ := chk_some hF0
 refine s_apT rI (fun _ => rfl) hk1 yP23 ?_
 refine s_bld yZ26 yL26 ?_
 refine s_alloc yZ26 ?_
 refine s_stW yS26 ?_
 refine k_nilD (by kernel_rfl) ?_
 refine k_seq (awp_seq (awp_seq (awp_region ?_)))
 refine s_as ?_
 refine k_nil (k_seq (awp_block ?_))
 refine awp_ownB 3 5020 26 [.t (.sc (.int .i64 x1.kind)), .t (.sc (.str x1.name)), .t (.sc (.int .i64 x1.n)), .ar 14, .ar 5020] yI26.choose_spec ?_
 refine awp_frame2 [4, 16, 17, 18, 19, 20, 21, 22, 23, 24, 25, 26, 27, 28, 29, 30, 31, 32, 33] [3, 5020] [31, 32, 2030, 12030] [5020] (fun a : Nat × Int × (List Form) => a.1) (fun a : Nat × Int × (List Form) => [(4, .t (.sc (.int .i64 a.2.1)))]) (fun a : Nat × Int × (List Form) => [(3, .box [.t (.sc (.int .i64 x1.kind)), .t (.sc (.str x1.name)), .t (.sc (.int .i64 x1.n)), .ar 14, .ar 5020]), (5020, .arr (a.2.2.map Form.row) 26 true)]) (fun a : Nat × Int × (List Form) => a.1 ≤ fu ∧ m_spec_l1Copy_l1 a.1 x1 a.2.1 a.2.2 = some r ∧ 0 ≤ a.2.1) (fu, 0, ([] : List Form)) ⟨Nat.le_refl _, hF1, by simp⟩ (by rfl) (by rfl) (fun _ => rfl) (hasF_cons (by conv => lhs; whnf) (by rfl) hasF_nil) (hasO_cons (by conv => lhs; whnf) (by rfl) (hasO_cons (by conv => lhs; whnf) (by rfl) hasO_nil)) (fresh_C hC rfl) (by repeat (first | exact freshS_args rfl | refine freshS_upd rfl ?_ | refine freshS_frame rfl ?_)) (by repeat (first | exact freshM_no | exact objs_fresh rfl | refine freshM_upd rfl ?_ | refine freshM_frame rfl ?_)) ?_
 clear hF1
 rintro ⟨fu, g2, g3⟩ ⟨hl4, hF2, hn_g2⟩
 dsimp only at hl4 hF2 hn_g2 ⊢
 obtain _ | fu := fu
 · rw [m_spec_l1Copy_l1] at hF2; cases hF2
 rw [m_spec_l1Copy_l1] at hF2
 refine awp_seq (awp_seq (awp_region ?_))
 refine s_mv ?_
 refine s_fa yF26_4 ?_
 refine s_ld1 yA24 ?_
 refine s_lenT yU24 ?_
 refine s_lt ?_
 refine k_nil (k_seq ?_)
 refine w_cond hF2 ?_ ?_ <;> intro hc5 hF3
 refine awp_lenT 18 (fun hb6 => ?_)
 refine awp_skip (k_seq (awp_seq (awp_block ?_)))
 refine awp_draw yMix (by kernel_rfl) ?_
 refine s_fa yF26_4 ?_
 refine s_ld1 yA24 ?_
 refine s_fa yF26_4 ?_
 refine s_ld1 yA24 ?_
 refine s_mv ?_
 obtain ⟨v7, hv7, hF4⟩ := bind_some' hF3
 refine s_ixT Form.row hv7 (Form.row_eq _) yE24 ?_
 refine s_ldN yA26 yS26 ?_
 obtain ⟨v8, hv8, hF5⟩ := bind_some' hF4
 refine s_call [(9203, 2030), (9204, 12030)] [] _ _ (ih_m_spec_l1Copy fu (by omega) _ _ hv8) ?_
 refine s_bs Form.row [v8] yP24 yR26 ?_
 obtain ⟨hk9, hF6⟩ := chk_some hF5
 refine s_apT Form.row (fun y => Form.row_len y) hk9 yP24 ?_
 refine s_fa yF26_4 ?_
 refine s_stP yS24 ?_
 refine k_nilD (by kernel_rfl) ?_
 refine k_blk (k_seq (awp_region ?_))
 refine s_mv ?_
 refine s_add (winc2 hc5 hb6 hn_g2) ?_
 refine s_as ?_
 refine k_nil ?_
 exact s_rn (fu, (g2 + 1), (g3 ++ [v8])) ⟨by first | omega | (dsimp only; omega), hF6, by first | omega | (dsimp only; omega)⟩ [(5020, 32)]
 refine awp_exit (k_seq_exit (k_rnd_exit2 (k_blk_exit (k_seq (awp_seq (awp_region ?_))))))
 refine s_ldW yA26 yS26 ?_
 refine s_stW yS26 ?_
 refine k_nil (k_seq ?_)
 refine awp_mvB 2 14 9203 [.t (.sc (.int .i64 x1.kind)), .t (.sc (.str x1.name)), .t (.sc (.int .i64 x1.n)), .ar 9203, .ar 5020] ?_
 refine awp_mvB 2 5020 9204 [.t (.sc (.int .i64 x1.kind)), .t (.sc (.str x1.name)), .t (.sc (.int .i64 x1.n)), .ar 9203, .ar 9204] ?_
 refine awp_ret (k_fin ?_)
 cases hF3
 exact ends_gen _ [] (by rw [Try.results25]; exact (res_agg (by conv => lhs; whnf) (by conv => lhs; whnf) yA26 yS26 rfl res_nil))
theorem m_spec_l1Copy_all (fuel : Nat) : m_spec_l1Copy_AC fuel := by
 induction fuel using Nat.strongRecOn with
 | _ N ih =>
   cases N with
   | zero => exact (by intro x1 r h; rw [m_spec_l1Copy] at h; cases h)
   | succ fu => exact m_spec_l1Copy_st fu (fun k hk => (ih k (by omega)))
theorem m_spec_l1Copy_ok (fuel : Nat) : m_spec_l1Copy_AC fuel := (m_spec_l1Copy_all fuel)
def m_spec_l6Copy_AC (fuel : Nat) : Prop := ∀ (x1 : Core) (r : Core), m_spec_l6Copy fuel x1 = some r → AC Try.prog 38 [.ag [.t (.sc (.int .i64 x1.kind)), .t (.sc (.int .i64 x1.id)), .t (.sc (.str x1.name)), .t (.sc (.int .i64 x1.n)), .t (.sl (x1.ids.map rI)), .t (.sc (.int .i64 x1.data.kind)), .t (.sc (.str x1.data.name)), .t (.sc (.int .i64 x1.data.n)), .t (.sl (x1.data.scopes.map rI)), .t (.sl (x1.data.kids.map Form.row)), .t (.sl (x1.kids.map Core.row))]] (objs []) (.ag [.t (.sc (.int .i64 r.kind)), .t (.sc (.int .i64 r.id)), .t (.sc (.str r.name)), .t (.sc (.int .i64 r.n)), .ar 9204, .t (.sc (.int .i64 r.data.kind)), .t (.sc (.str r.data.name)), .t (.sc (.int .i64 r.data.n)), .t (.sl (r.data.scopes.map rI)), .t (.sl (r.data.kids.map Form.row)), .ar 9210]) (objs [(9204, .arr (r.ids.map rI) 3 true), (9210, .arr (r.kids.map Core.row) 29 true)])
theorem m_spec_l6Copy_st (fu : Nat) (ih_m_spec_l6Copy : ∀ k, k ≤ fu → m_spec_l6Copy_AC k) : m_spec_l6Copy_AC (fu + 1) := by
 intro x1 r hF0
 rw [m_spec_l6Copy] at hF0
 refine AC_i [.ag [.t (.sc (.int .i64 r.kind)), .t (.sc (.int .i64 r.id)), .t (.sc (.str r.name)), .t (.sc (.int .i64 r.n)), .ar 9204, .t (.sc (.int .i64 r.data.kind)), .t (.sc (.str r.data.name)), .t (.sc (.int .i64 r.data.n)), .t (.sl (r.data.scopes.map rI)), .t (.sl (r.data.kids.map Form.row)), .ar 9210]] Try.func38 rfl Try.ntmps38 ?_
 intro C hC
 refine awp_seq (awp_region ?_)
 refine s_box ?_
 refine s_alloc yZ29 ?_
 refine k_nil (k_seq (awp_seq ?_))
 refine awp_draw yMix (by kernel_rfl) ?_
 refine s_fa yF29_0 ?_
 refine s_ld1 yA3 ?_
 refine s_fa yF29_1 ?_
 refine s_ld1 yA3 ?_
 refine s_fa yF29_2 ?_
 refine s_ld1 yA9 ?_
 refine s_fa yF29_3 ?_
 refine s_ld1 yA3 ?_
 refine s_bs rI ([] : List Int) yP23 yR3 ?_
 refine s_fa yF29_4 ?_
 refine s_ld1 yA23 ?_
 obtain ⟨hk1, hF1⟩ := chk_some hF0
 refine s_apT rI (fun _ => rfl) hk1 yP23 ?_
 refine s_fa yF29_5 ?_
 refine s_ldN yA26 yS26 ?_
 obtain ⟨v2, hv2, hF2⟩ := bind_some' hF1
 refine s_call [(9203, 2019), (9204, 12019)] [] _ _ (m_spec_l1Copy_ok fu _ _ hv2) ?_
 refine s_bld yZ29 yL29 ?_
 refine s_alloc yZ29 ?_
 refine s_stW yS29 ?_
 refine k_nilD (by kernel_rfl) ?_
 refine k_seq (awp_seq (awp_seq (awp_region ?_)))
 refine s_as ?_
 refine k_nil (k_seq (awp_block ?_))
 refine awp_ownB 3 5020 29 [.t (.sc (.int .i64 x1.kind)), .t (.sc (.int .i64 x1.id)), .t (.sc (.str x1.name)), .t (.sc (.int .i64 x1.n)), .ar 16, .t (.sc (.int .i64 v2.kind)), .t (.sc (.str v2.name)), .t (.sc (.int .i64 v2.n)), .ar 2019, .ar 12019, .ar 5020] yI29.choose_spec ?_
 refine awp_frame2 [4, 21, 22, 23, 24, 25, 26, 27, 28, 29, 30, 31, 32, 33, 34, 35, 36, 37, 38] [3, 5020] [36, 37, 2035, 12035] [5020] (fun a : Nat × Int × (List Core) => a.1) (fun a : Nat × Int × (List Core) => [(4, .t (.sc (.int .i64 a.2.1)))]) (fun a : Nat × Int × (List Core) => [(3, .box [.t (.sc (.int .i64 x1.kind)), .t (.sc (.int .i64 x1.id)), .t (.sc (.str x1.name)), .t (.sc (.int .i64 x1.n)), .ar 16, .t (.sc (.int .i64 v2.kind)), .t (.sc (.str v2.name)), .t (.sc (.int .i64 v2.n)), .ar 2019, .ar 12019, .ar 5020]), (5020, .arr (a.2.2.map Core.row) 29 true)]) (fun a : Nat × Int × (List Core) => a.1 ≤ fu ∧ m_spec_l6Copy_l1 a.1 x1 v2 a.2.1 a.2.2 = some r ∧ 0 ≤ a.2.1) (fu, 0, ([] : List Core)) ⟨Nat.le_refl _, hF2, by simp⟩ (by rfl) (by rfl) (fun _ => rfl) (hasF_cons (by conv => lhs; whnf) (by rfl) hasF_nil) (hasO_cons (by conv => lhs; whnf) (by rfl) (hasO_cons (by conv => lhs; whnf) (by rfl) hasO_nil)) (fresh_C hC rfl) (by repeat (first | exact freshS_args rfl | refine freshS_upd rfl ?_ | refine freshS_frame rfl ?_)) (by repeat (first | exact freshM_no | exact objs_fresh rfl | refine freshM_upd rfl ?_ | refine freshM_frame rfl ?_)) ?_
 clear hF2
 rintro ⟨fu, g3, g4⟩ ⟨hl5, hF3, hn_g3⟩
 dsimp only at hl5 hF3 hn_g3 ⊢
 obtain _ | fu := fu
 · rw [m_spec_l6Copy_l1] at hF3; cases hF3
 rw [m_spec_l6Copy_l1] at hF3
 refine awp_seq (awp_seq (awp_region ?_))
 refine s_mv ?_
 refine s_fa yF29_6 ?_
 refine s_ld1 yA27 ?_
 refine s_lenT yU27 ?_
 refine s_lt ?_
 refine k_nil (k_seq ?_)
 refine w_cond hF3 ?_ ?_ <;> intro hc6 hF4
 refine awp_lenT 23 (fun hb7 => ?_)
 refine awp_skip (k_seq (awp_seq (awp_block ?_)))
 refine awp_draw yMix (by kernel_rfl) ?_
 refine s_fa yF29_6 ?_
 refine s_ld1 yA27 ?_
 refine s_fa yF29_6 ?_
 refine s_ld1 yA27 ?_
 refine s_mv ?_
 obtain ⟨v8, hv8, hF5⟩ := bind_some' hF4
 refine s_ixT Core.row hv8 (Core.row_eq _) yE27 ?_
 refine s_ldN yA29 yS29 ?_
 obtain ⟨v9, hv9, hF6⟩ := bind_some' hF5
 refine s_call [(9204, 2035), (9210, 12035)] [] _ _ (ih_m_spec_l6Copy fu (by omega) _ _ hv9) ?_
 refine s_bs Core.row [v9] yP27 yR29 ?_
 obtain ⟨hk10, hF7⟩ := chk_some hF6
 refine s_apT Core.row (fun y => Core.row_len y) hk10 yP27 ?_
 refine s_fa yF29_6 ?_
 refine s_stP yS27 ?_
 refine k_nilD (by kernel_rfl) ?_
 refine k_blk (k_seq (awp_region ?_))
 refine s_mv ?_
 refine s_add (winc2 hc6 hb7 hn_g3) ?_
 refine s_as ?_
 refine k_nil ?_
 exact s_rn (fu, (g3 + 1), (g4 ++ [v9])) ⟨by first | omega | (dsimp only; omega), hF7, by first | omega | (dsimp only; omega)⟩ [(5020, 37)]
 refine awp_exit (k_seq_exit (k_rnd_exit2 (k_blk_exit (k_seq (awp_seq (awp_region ?_))))))
 refine s_ldW yA29 yS29 ?_
 refine s_stW yS29 ?_
 refine k_nil (k_seq ?_)
 refine awp_mvB 2 16 9204 [.t (.sc (.int .i64 x1.kind)), .t (.sc (.int .i64 x1.id)), .t (.sc (.str x1.name)), .t (.sc (.int .i64 x1.n)), .ar 9204, .t (.sc (.int .i64 v2.kind)), .t (.sc (.str v2.name)), .t (.sc (.int .i64 v2.n)), .ar 2019, .ar 12019, .ar 5020] ?_
 refine awp_mvB 2 5020 9210 [.t (.sc (.int .i64 x1.kind)), .t (.sc (.int .i64 x1.id)), .t (.sc (.str x1.name)), .t (.sc (.int .i64 x1.n)), .ar 9204, .t (.sc (.int .i64 v2.kind)), .t (.sc (.str v2.name)), .t (.sc (.int .i64 v2.n)), .ar 2019, .ar 12019, .ar 9210] ?_
 refine awp_frz 2019 (by conv => lhs; whnf) ?_
 refine awp_pzB 2 8 2019 [.t (.sc (.int .i64 x1.kind)), .t (.sc (.int .i64 x1.id)), .t (.sc (.str x1.name)), .t (.sc (.int .i64 x1.n)), .ar 9204, .t (.sc (.int .i64 v2.kind)), .t (.sc (.str v2.name)), .t (.sc (.int .i64 v2.n)), .t (.sl (v2.scopes.map rI)), .ar 12019, .ar 9210] (by conv => lhs; whnf) rfl (by conv => lhs; whnf) rfl ?_
 refine awp_frz 12019 (by conv => lhs; whnf) ?_
 refine awp_pzB 2 9 12019 [.t (.sc (.int .i64 x1.kind)), .t (.sc (.int .i64 x1.id)), .t (.sc (.str x1.name)), .t (.sc (.int .i64 x1.n)), .ar 9204, .t (.sc (.int .i64 v2.kind)), .t (.sc (.str v2.name)), .t (.sc (.int .i64 v2.n)), .t (.sl (v2.scopes.map rI)), .t (.sl (v2.kids.map Form.row)), .ar 9210] (by conv => lhs; whnf) rfl (by conv => lhs; whnf) rfl ?_
 refine awp_ret (k_fin ?_)
 cases hF4
 exact ends_gen _ [] (by rw [Try.results38]; exact (res_agg (by conv => lhs; whnf) (by conv => lhs; whnf) yA29 yS29 rfl res_nil))
theorem m_spec_l6Copy_all (fuel : Nat) : m_spec_l6Copy_AC fuel := by
 induction fuel using Nat.strongRecOn with
 | _ N ih =>
   cases N with
   | zero => exact (by intro x1 r h; rw [m_spec_l6Copy] at h; cases h)
   | succ fu => exact m_spec_l6Copy_st fu (fun k hk => (ih k (by omega)))
theorem m_spec_l6Copy_ok (fuel : Nat) : m_spec_l6Copy_AC fuel := (m_spec_l6Copy_all fuel)
def m_spec_l6Mutate_AC (fuel : Nat) : Prop := ∀ (o1 : l15Rd) (x2 : Core) (r : (Core × l15Rd)), m_spec_l6Mutate fuel o1 x2 = some r → AC Try.prog 21 [.rf 9000 0, .ag [.t (.sc (.int .i64 x2.kind)), .t (.sc (.int .i64 x2.id)), .t (.sc (.str x2.name)), .t (.sc (.int .i64 x2.n)), .t (.sl (x2.ids.map rI)), .t (.sc (.int .i64 x2.data.kind)), .t (.sc (.str x2.data.name)), .t (.sc (.int .i64 x2.data.n)), .t (.sl (x2.data.scopes.map rI)), .t (.sl (x2.data.kids.map Form.row)), .t (.sl (x2.kids.map Core.row))]] (objs [(9000, .box [.t (.sl (o1.b.map rB)), .t (.sc (.int .i64 o1.p))])]) (.ag [.t (.sc (.int .i64 r.1.kind)), .t (.sc (.int .i64 r.1.id)), .t (.sc (.str r.1.name)), .t (.sc (.int .i64 r.1.n)), .t (.sl (r.1.ids.map rI)), .t (.sc (.int .i64 r.1.data.kind)), .t (.sc (.str r.1.data.name)), .t (.sc (.int .i64 r.1.data.n)), .t (.sl (r.1.data.scopes.map rI)), .t (.sl (r.1.data.kids.map Form.row)), .t (.sl (r.1.kids.map Core.row))]) (objs [(9000, .box [.t (.sl (r.2.b.map rB)), .t (.sc (.int .i64 r.2.p))])])
theorem m_spec_l6Mutate_st (fu : Nat) (ih_m_spec_l6Mutate : ∀ k, k ≤ fu → m_spec_l6Mutate_AC k) : m_spec_l6Mutate_AC (fu + 1) := by
 intro o1 x2 r hF0
 rw [m_spec_l6Mutate] at hF0
 refine AC_i [.ag [.t (.sc (.int .i64 r.1.kind)), .t (.sc (.int .i64 r.1.id)), .t (.sc (.str r.1.name)), .t (.sc (.int .i64 r.1.n)), .t (.sl (r.1.ids.map rI)), .t (.sc (.int .i64 r.1.data.kind)), .t (.sc (.str r.1.data.name)), .t (.sc (.int .i64 r.1.data.n)), .t (.sl (r.1.data.scopes.map rI)), .t (.sl (r.1.data.kids.map Form.row)), .t (.sl (r.1.kids.map Core.row))]] Try.func21 rfl Try.ntmps21 ?_
 intro C hC
 refine awp_seq (awp_region ?_)
 refine s_box ?_
 refine s_alloc yZ29 ?_
 refine k_nil (k_seq (awp_seq (awp_region ?_)))
 refine s_ldW yA29 yS29 ?_
 obtain ⟨v1, hv1, hF1⟩ := bind_some' hF0
 refine s_call [(9204, 2008), (9210, 12008)] [] _ _ (m_spec_l6Copy_ok fu _ _ hv1) ?_
 refine s_alloc yZ29 ?_
 refine s_stW yS29 ?_
 refine k_nil (k_seq (awp_seq (awp_seq (awp_region ?_))))
 refine s_fa yF29_6 ?_
 refine s_ld1 yA27 ?_
 refine s_lenA yU27 ?_
 refine s_gt ?_
 refine s_mv ?_
 refine w_guard _ 13 hF1 ?_ ?_ <;> intro hc2 hF2
 refine s_mv ?_
 obtain ⟨v3, hv3, hF3⟩ := bind_some' hF2
 refine s_call [(9000, 9000)] [] _ _ (m_spec_l15Rd_pick_ok fu _ _ _ hv3) ?_
 refine s_gt ?_
 refine s_pkt ?_
 refine k_nil (k_seq ?_)
 refine w_cond hF3 ?_ ?_ <;> intro hc4 hF4
 refine awp_seq (awp_region ?_)
 refine s_mv ?_
 refine s_fa yF29_6 ?_
 refine s_ld1 yA27 ?_
 refine s_lenA yU27 ?_
 obtain ⟨v5, hv5, hF5⟩ := bind_some' hF4
 refine s_call [(9000, 9000)] [] _ _ (m_spec_l15Rd_pick_ok fu _ _ _ hv5) ?_
 refine s_as ?_
 refine k_nil (k_seq (awp_seq ?_))
 refine awp_draw yMix (by kernel_rfl) ?_
 refine s_fa yF29_6 ?_
 refine s_ld1 yA27 ?_
 refine s_mv ?_
 refine s_mv0 ?_
 refine s_fa yF29_6 ?_
 refine s_ld1 yA27 ?_
 refine s_mv ?_
 obtain ⟨v6, hv6, hF6⟩ := bind_some' hF5
 refine s_ixA Core.row hv6 yE27 ?_
 refine s_lAN Core.row hv6 (Core.row_eq _) yA29 yS29 ?_
 obtain ⟨v7, hv7, hF7⟩ := bind_some' hF6
 refine s_call [(9000, 9000)] [] _ _ (ih_m_spec_l6Mutate fu (by omega) _ _ _ hv7) ?_
 obtain ⟨v8, hv8, hF8⟩ := bind_some' hF7
 refine s_ixA Core.row hv8 yE27 ?_
 refine s_stA Core.row v7.1 hv8 (Core.row_eq _) (Core.row_eq _) yS29 yS29 ?_
 refine k_nilD (by kernel_rfl) ?_
 refine k_seq (awp_seq (awp_region ?_))
 refine s_ldW yA29 yS29 ?_
 refine s_stW yS29 ?_
 refine k_nil (k_seq (awp_ret (k_seq_ret (k_fin ?_))))
 cases hF8
 exact ends_gen _ [2008, 12008] (by rw [Try.results21]; exact (res_agg (by conv => lhs; whnf) (by conv => lhs; whnf) yA29 yS29 rfl res_nil))
 refine awp_skip (k_seq (awp_seq (awp_seq (awp_region ?_))))
 refine s_mv ?_
 obtain ⟨v9, hv9, hF5⟩ := bind_some' hF4
 refine s_call [(9000, 9000)] [] _ _ (m_spec_l15Rd_pick_ok fu _ _ _ hv9) ?_
 refine k_nil (k_seq (awp_block (awp_seq (awp_region ?_))))
 refine s_eq ?_
 refine s_as ?_
 refine k_nil (k_seq ?_)
 refine w_cond hF5 ?_ ?_ <;> intro hc10 hF6
 refine awp_region ?_
 refine s_mv ?_
 refine s_bs rI [0, 8, 3, 6] yP23 yR3 ?_
 obtain ⟨v11, hv11, hF7⟩ := bind_some' hF6
 refine s_call [(9000, 9000)] [40] _ _ (m_spec_l15Rd_num_ok fu _ _ _ hv11) ?_
 refine s_fa yF29_0 ?_
 refine s_stP yS3 ?_
 refine k_nil (k_blk (k_seq (awp_seq (awp_region ?_))))
 refine s_ldW yA29 yS29 ?_
 refine s_stW yS29 ?_
 refine k_nil (k_seq (awp_ret (k_fin ?_)))
 cases hF7
 exact ends_gen _ [2008, 12008] (by rw [Try.results21]; exact (res_agg (by conv => lhs; whnf) (by conv => lhs; whnf) yA29 yS29 rfl res_nil))
 refine awp_seq (awp_region ?_)
 refine s_eq ?_
 refine s_as ?_
 refine k_nil (k_seq ?_)
 refine w_cond hF6 ?_ ?_ <;> intro hc12 hF7
 refine awp_region ?_
 refine s_mv ?_
 refine s_bs rI [0, 1, 1000, 2] yP23 yR3 ?_
 obtain ⟨v13, hv13, hF8⟩ := bind_some' hF7
 refine s_call [(9000, 9000)] [46] _ _ (m_spec_l15Rd_num_ok fu _ _ _ hv13) ?_
 refine s_fa yF29_1 ?_
 refine s_stP yS3 ?_
 refine k_nil (k_blk (k_seq (awp_seq (awp_region ?_))))
 refine s_ldW yA29 yS29 ?_
 refine s_stW yS29 ?_
 refine k_nil (k_seq (awp_ret (k_fin ?_)))
 cases hF8
 exact ends_gen _ [2008, 12008] (by rw [Try.results21]; exact (res_agg (by conv => lhs; whnf) (by conv => lhs; whnf) yA29 yS29 rfl res_nil))
 refine awp_seq (awp_region ?_)
 refine s_eq ?_
 refine s_as ?_
 refine k_nil (k_seq ?_)
 refine w_cond hF7 ?_ ?_ <;> intro hc14 hF8
 refine awp_draw yMix (by kernel_rfl) ?_
 refine s_fa yF29_4 ?_
 refine s_ld1 yA23 ?_
 refine s_mv0 ?_
 refine s_bs rI [1, 900, 0] yP23 yR3 ?_
 obtain ⟨v15, hv15, hF9⟩ := bind_some' hF8
 refine s_call [(9000, 9000)] [54] _ _ (m_spec_l15Rd_num_ok fu _ _ _ hv15) ?_
 refine s_bs rI [v15.1] yP23 yR3 ?_
 obtain ⟨hk16, hF10⟩ := chk_some hF9
 refine s_apT rI (fun _ => rfl) hk16 yP23 ?_
 refine s_fa yF29_4 ?_
 refine s_stP yS23 ?_
 refine k_nilD (by kernel_rfl) ?_
 refine k_blk (k_seq (awp_seq (awp_region ?_)))
 refine s_ldW yA29 yS29 ?_
 refine s_stW yS29 ?_
 refine k_nil (k_seq (awp_ret (k_fin ?_)))
 cases hF10
 exact ends_gen _ [57, 12008] (by rw [Try.results21]; exact (res_agg (by conv => lhs; whnf) (by conv => lhs; whnf) yA29 yS29 rfl res_nil))
 refine awp_seq (awp_region ?_)
 refine s_eq ?_
 refine s_as ?_
 refine k_nil (k_seq ?_)
 refine w_cond hF8 ?_ ?_ <;> intro hc17 hF9
 refine awp_region ?_
 refine s_mv ?_
 refine s_bs rS [(⟨#[]⟩ : ByteArray), (⟨#[103]⟩ : ByteArray), (⟨#[65]⟩ : ByteArray)] yP66 yR9 ?_
 obtain ⟨v18, hv18, hF10⟩ := bind_some' hF9
 refine s_call [(9000, 9000)] [62] _ _ (m_spec_l15Rd_of_ok fu _ _ _ hv18) ?_
 refine s_fa yF29_2 ?_
 refine s_stP yS9 ?_
 refine k_nil (k_blk (k_seq (awp_seq (awp_region ?_))))
 refine s_ldW yA29 yS29 ?_
 refine s_stW yS29 ?_
 refine k_nil (k_seq (awp_ret (k_fin ?_)))
 cases hF10
 exact ends_gen _ [2008, 12008] (by rw [Try.results21]; exact (res_agg (by conv => lhs; whnf) (by conv => lhs; whnf) yA29 yS29 rfl res_nil))
 refine awp_skip (k_blk (k_seq (awp_seq (awp_region ?_))))
 refine s_ldW yA29 yS29 ?_
 refine s_stW yS29 ?_
 refine k_nil (k_seq (awp_ret (k_fin ?_)))
 cases hF9
 exact ends_gen _ [2008, 12008] (by rw [Try.results21]; exact (res_agg (by conv => lhs; whnf) (by conv => lhs; whnf) yA29 yS29 rfl res_nil))
 iterate 3 refine r_no rfl ?_
 refine s_pkf ?_
 refine k_nil (k_seq (awp_false rfl (awp_skip (k_seq (awp_seq (awp_seq (awp_region ?_)))))))
 refine s_mv ?_
 obtain ⟨v19, hv19, hF3⟩ := bind_some' hF2
 refine s_call [(9000, 9000)] [] _ _ (m_spec_l15Rd_pick_ok fu _ _ _ hv19) ?_
 refine k_nil (k_seq (awp_block (awp_seq (awp_region ?_))))
 refine s_eq ?_
 refine s_as ?_
 refine k_nil (k_seq ?_)
 refine w_cond hF3 ?_ ?_ <;> intro hc20 hF4
 refine awp_region ?_
 refine s_mv ?_
 refine s_bs rI [0, 8, 3, 6] yP23 yR3 ?_
 obtain ⟨v21, hv21, hF5⟩ := bind_some' hF4
 refine s_call [(9000, 9000)] [40] _ _ (m_spec_l15Rd_num_ok fu _ _ _ hv21) ?_
 refine s_fa yF29_0 ?_
 refine s_stP yS3 ?_
 refine k_nil (k_blk (k_seq (awp_seq (awp_region ?_))))
 refine s_ldW yA29 yS29 ?_
 refine s_stW yS29 ?_
 refine k_nil (k_seq (awp_ret (k_fin ?_)))
 cases hF5
 exact ends_gen _ [2008, 12008] (by rw [Try.results21]; exact (res_agg (by conv => lhs; whnf) (by conv => lhs; whnf) yA29 yS29 rfl res_nil))
 refine awp_seq (awp_region ?_)
 refine s_eq ?_
 refine s_as ?_
 refine k_nil (k_seq ?_)
 refine w_cond hF4 ?_ ?_ <;> intro hc22 hF5
 refine awp_region ?_
 refine s_mv ?_
 refine s_bs rI [0, 1, 1000, 2] yP23 yR3 ?_
 obtain ⟨v23, hv23, hF6⟩ := bind_some' hF5
 refine s_call [(9000, 9000)] [46] _ _ (m_spec_l15Rd_num_ok fu _ _ _ hv23) ?_
 refine s_fa yF29_1 ?_
 refine s_stP yS3 ?_
 refine k_nil (k_blk (k_seq (awp_seq (awp_region ?_))))
 refine s_ldW yA29 yS29 ?_
 refine s_stW yS29 ?_
 refine k_nil (k_seq (awp_ret (k_fin ?_)))
 cases hF6
 exact ends_gen _ [2008, 12008] (by rw [Try.results21]; exact (res_agg (by conv => lhs; whnf) (by conv => lhs; whnf) yA29 yS29 rfl res_nil))
 refine awp_seq (awp_region ?_)
 refine s_eq ?_
 refine s_as ?_
 refine k_nil (k_seq ?_)
 refine w_cond hF5 ?_ ?_ <;> intro hc24 hF6
 refine awp_draw yMix (by kernel_rfl) ?_
 refine s_fa yF29_4 ?_
 refine s_ld1 yA23 ?_
 refine s_mv0 ?_
 refine s_bs rI [1, 900, 0] yP23 yR3 ?_
 obtain ⟨v25, hv25, hF7⟩ := bind_some' hF6
 refine s_call [(9000, 9000)] [54] _ _ (m_spec_l15Rd_num_ok fu _ _ _ hv25) ?_
 refine s_bs rI [v25.1] yP23 yR3 ?_
 obtain ⟨hk26, hF8⟩ := chk_some hF7
 refine s_apT rI (fun _ => rfl) hk26 yP23 ?_
 refine s_fa yF29_4 ?_
 refine s_stP yS23 ?_
 refine k_nilD (by kernel_rfl) ?_
 refine k_blk (k_seq (awp_seq (awp_region ?_)))
 refine s_ldW yA29 yS29 ?_
 refine s_stW yS29 ?_
 refine k_nil (k_seq (awp_ret (k_fin ?_)))
 cases hF8
 exact ends_gen _ [57, 12008] (by rw [Try.results21]; exact (res_agg (by conv => lhs; whnf) (by conv => lhs; whnf) yA29 yS29 rfl res_nil))
 refine awp_seq (awp_region ?_)
 refine s_eq ?_
 refine s_as ?_
 refine k_nil (k_seq ?_)
 refine w_cond hF6 ?_ ?_ <;> intro hc27 hF7
 refine awp_region ?_
 refine s_mv ?_
 refine s_bs rS [(⟨#[]⟩ : ByteArray), (⟨#[103]⟩ : ByteArray), (⟨#[65]⟩ : ByteArray)] yP66 yR9 ?_
 obtain ⟨v28, hv28, hF8⟩ := bind_some' hF7
 refine s_call [(9000, 9000)] [62] _ _ (m_spec_l15Rd_of_ok fu _ _ _ hv28) ?_
 refine s_fa yF29_2 ?_
 refine s_stP yS9 ?_
 refine k_nil (k_blk (k_seq (awp_seq (awp_region ?_))))
 refine s_ldW yA29 yS29 ?_
 refine s_stW yS29 ?_
 refine k_nil (k_seq (awp_ret (k_fin ?_)))
 cases hF8
 exact ends_gen _ [2008, 12008] (by rw [Try.results21]; exact (res_agg (by conv => lhs; whnf) (by conv => lhs; whnf) yA29 yS29 rfl res_nil))
 refine awp_skip (k_blk (k_seq (awp_seq (awp_region ?_))))
 refine s_ldW yA29 yS29 ?_
 refine s_stW yS29 ?_
 refine k_nil (k_seq (awp_ret (k_fin ?_)))
 cases hF7
 exact ends_gen _ [2008, 12008] (by rw [Try.results21]; exact (res_agg (by conv => lhs; whnf) (by conv => lhs; whnf) yA29 yS29 rfl res_nil))
theorem m_spec_l6Mutate_all (fuel : Nat) : m_spec_l6Mutate_AC fuel := by
 induction fuel using Nat.strongRecOn with
 | _ N ih =>
   cases N with
   | zero => exact (by intro o1 x2 r h; rw [m_spec_l6Mutate] at h; cases h)
   | succ fu => exact m_spec_l6Mutate_st fu (fun k hk => (ih k (by omega)))
theorem m_spec_l6Mutate_ok (fuel : Nat) : m_spec_l6Mutate_AC fuel := (m_spec_l6Mutate_all fuel)
def m_spec_l6Draw_AC (fuel : Nat) : Prop := ∀ (x1 : (List Int)) (r : Core), m_spec_l6Draw fuel x1 = some r → AC Try.prog 10 [.t (.sl (x1.map rB))] noOb (.ag [.t (.sc (.int .i64 r.kind)), .t (.sc (.int .i64 r.id)), .t (.sc (.str r.name)), .t (.sc (.int .i64 r.n)), .t (.sl (r.ids.map rI)), .t (.sc (.int .i64 r.data.kind)), .t (.sc (.str r.data.name)), .t (.sc (.int .i64 r.data.n)), .t (.sl (r.data.scopes.map rI)), .t (.sl (r.data.kids.map Form.row)), .t (.sl (r.kids.map Core.row))]) noOb
theorem m_spec_l6Draw_ok (fuel : Nat) : m_spec_l6Draw_AC fuel := by
 intro x1 r hF0
 unfold m_spec_l6Draw at hF0
 refine AC_i [.ag [.t (.sc (.int .i64 r.kind)), .t (.sc (.int .i64 r.id)), .t (.sc (.str r.name)), .t (.sc (.int .i64 r.n)), .t (.sl (r.ids.map rI)), .t (.sc (.int .i64 r.data.kind)), .t (.sc (.str r.data.name)), .t (.sc (.int .i64 r.data.n)), .t (.sl (r.data.scopes.map rI)), .t (.sl (r.data.kids.map Form.row)), .t (.sl (r.kids.map Core.row))]] Try.func10 rfl Try.ntmps10 ?_
 intro C hC
 refine awp_seq (awp_region ?_)
 refine s_alloc yZ29 ?_
 refine k_nil (k_seq (awp_seq (awp_region ?_)))
 refine s_mv ?_
 obtain ⟨v1, hv1, hF1⟩ := bind_some' hF0
 refine s_call [(10, 7)] [] _ _ (m_spec_l15Open_ok fuel _ _ hv1) ?_
 refine s_as ?_
 refine k_nil (k_seq (awp_seq (awp_region ?_)))
 refine s_mv ?_
 refine s_bs rI ([] : List Int) yP23 yR3 ?_
 refine s_mv ?_
 refine s_bs rI [3, 4, 2] yP23 yR3 ?_
 obtain ⟨v2, hv2, hF2⟩ := bind_some' hF1
 refine s_call [(9000, 7)] [12] _ _ (m_spec_l15Rd_num_ok fuel _ _ _ hv2) ?_
 obtain ⟨v3, hv3, hF3⟩ := bind_some' hF2
 refine s_call [(9000, 7)] [10] _ _ (m_spec_l6Some_ok fuel _ _ _ _ _ hv3) ?_
 refine s_mv ?_
 refine s_ext ?_
 refine s_ext ?_
 refine s_alloc yZ29 ?_
 refine s_stW yS29 ?_
 refine s_as ?_
 refine k_nil (k_seq (awp_seq (awp_seq (awp_region ?_))))
 refine s_mv ?_
 obtain ⟨v4, hv4, hF4⟩ := bind_some' hF3
 refine s_call [(9000, 7)] [] _ _ (m_spec_l15Rd_pick_ok fuel _ _ _ hv4) ?_
 refine s_eq ?_
 refine k_nil (k_seq ?_)
 refine w_cond hF4 ?_ ?_ <;> intro hc5 hF5
 refine awp_seq (awp_region ?_)
 refine s_mv ?_
 refine s_mv ?_
 refine s_ldW yA29 yS29 ?_
 obtain ⟨v6, hv6, hF6⟩ := bind_some' hF5
 refine s_call [(9000, 7)] [] _ _ (m_spec_l6Mutate_ok fuel _ _ _ hv6) ?_
 obtain ⟨v7, hv7, hF7⟩ := bind_some' hF6
 refine s_call [(9000, 7)] [] _ _ (m_spec_l6Mutate_ok fuel _ _ _ hv7) ?_
 refine s_stW yS29 ?_
 refine k_nil (k_seq (awp_ret (k_seq_ret (k_fin ?_))))
 cases hF7
 exact ends_gen [] [] (by rw [Try.results10]; exact (res_agg (by conv => lhs; whnf) (by conv => lhs; whnf) yA29 yS29 rfl res_nil))
 refine awp_skip (k_seq (awp_seq (awp_region ?_)))
 refine s_ldW yA29 yS29 ?_
 refine s_stW yS29 ?_
 refine k_nil (k_seq (awp_ret (k_fin ?_)))
 cases hF5
 exact ends_gen [] [] (by rw [Try.results10]; exact (res_agg (by conv => lhs; whnf) (by conv => lhs; whnf) yA29 yS29 rfl res_nil))
def m_spec_DrawNumberCore_AC (fuel : Nat) : Prop := ∀ (x1 : (List Int)) (r : Core), m_spec_DrawNumberCore fuel x1 = some r → AC Try.prog 4 [.t (.sl (x1.map rB))] noOb (.ag [.t (.sc (.int .i64 r.kind)), .t (.sc (.int .i64 r.id)), .t (.sc (.str r.name)), .t (.sc (.int .i64 r.n)), .t (.sl (r.ids.map rI)), .t (.sc (.int .i64 r.data.kind)), .t (.sc (.str r.data.name)), .t (.sc (.int .i64 r.data.n)), .t (.sl (r.data.scopes.map rI)), .t (.sl (r.data.kids.map Form.row)), .t (.sl (r.kids.map Core.row))]) noOb
theorem m_spec_DrawNumberCore_ok (fuel : Nat) : m_spec_DrawNumberCore_AC fuel := by
 intro x1 r hF0
 unfold m_spec_DrawNumberCore at hF0
 refine AC_i [.ag [.t (.sc (.int .i64 r.kind)), .t (.sc (.int .i64 r.id)), .t (.sc (.str r.name)), .t (.sc (.int .i64 r.n)), .t (.sl (r.ids.map rI)), .t (.sc (.int .i64 r.data.kind)), .t (.sc (.str r.data.name)), .t (.sc (.int .i64 r.data.n)), .t (.sl (r.data.scopes.map rI)), .t (.sl (r.data.kids.map Form.row)), .t (.sl (r.kids.map Core.row))]] Try.func4 rfl Try.ntmps4 ?_
 intro C hC
 refine awp_seq (awp_region ?_)
 refine s_alloc yZ29 ?_
 refine k_nil (k_seq (awp_seq (awp_region ?_)))
 refine s_mv ?_
 obtain ⟨v1, hv1, hF1⟩ := bind_some' hF0
 refine s_pure [] (m_spec_l6Draw_ok fuel _ _ hv1) ?_
 refine s_stW yS29 ?_
 refine k_nil (k_seq (awp_ret (k_fin ?_)))
 cases hF1
 exact ends_gen [] [] (by rw [Try.results4]; exact (res_agg (by conv => lhs; whnf) (by conv => lhs; whnf) yA29 yS29 rfl res_nil))
def m_impl_within_AC (fuel : Nat) : Prop := ∀ (x1 : Int) (x2 : Int) (x3 : Int) (r : Bool), m_impl_within fuel x1 x2 x3 = some r → AC Try.prog 30 [.t (.sc (.int .i64 x1)), .t (.sc (.int .i64 x2)), .t (.sc (.int .i64 x3))] noOb (.t (.sc (.bool r))) noOb
theorem m_impl_within_ok (fuel : Nat) : m_impl_within_AC fuel := by
 intro x1 x2 x3 r hF0
 unfold m_impl_within at hF0
 refine AC_i [.t (.sc (.bool r))] Try.func30 rfl Try.ntmps30 ?_
 intro C hC
 refine awp_seq (awp_region ?_)
 refine s_as ?_
 refine k_nil (k_seq (awp_seq (awp_region ?_)))
 refine s_mv ?_
 refine s_mv ?_
 refine s_ge ?_
 refine s_mv ?_
 refine w_guard _ 10 hF0 ?_ ?_ <;> intro hc1 hF1
 refine s_mv ?_
 refine s_mv ?_
 refine s_le ?_
 refine s_pkt ?_
 refine s_as ?_
 refine k_nil (k_seq (awp_ret (k_fin ?_)))
 cases hF1
 exact ends_a [] [] Try.results30
 iterate 3 refine r_no rfl ?_
 refine s_pkf ?_
 refine s_as ?_
 refine k_nil (k_seq (awp_ret (k_fin ?_)))
 cases hF1
 exact ends_a [] [] Try.results30
def m_slices_Index_int_AC (fuel : Nat) : Prop := ∀ (x1 : (List Int)) (x2 : Int) (r : Int), m_slices_Index_int fuel x1 x2 = some r → AC Try.prog 43 [.t (.sl (x1.map rI)), .t (.sc (.int .i64 x2))] noOb (.t (.sc (.int .i64 r))) noOb
theorem m_slices_Index_int_ok (fuel : Nat) : m_slices_Index_int_AC fuel := by
 intro x1 x2 r hF0
 unfold m_slices_Index_int at hF0
 refine AC_i [.t (.sc (.int .i64 r))] Try.func43 rfl Try.ntmps43 ?_
 intro C hC
 refine awp_seq (awp_region ?_)
 refine s_as ?_
 refine k_nil (k_seq (awp_seq (awp_seq (awp_region ?_))))
 refine s_mv ?_
 refine s_lenT yU23 ?_
 refine s_mv ?_
 refine k_nil (k_seq (awp_block ?_))
 refine awp_fr (β := Int) [4, 5, 8, 9, 10, 11, 12, 13, 14, 15, 16, 17, 18] [] [] (fun a => [(8, .t (.sc (.int .i64 a.2)))]) (fun a => []) (fun a => a.1 ≤ fuel ∧ m_slices_Index_int_l1 a.1 x1 x2 a.2 = some r ∧ 0 ≤ a.2) (fuel, 0) ⟨Nat.le_refl _, hF0, by simp⟩ ?_
 clear hF0
 rintro ⟨fu, g1⟩ ⟨hl2, hF1, hn_g1⟩
 dsimp only at hl2 hF1 hn_g1 ⊢
 obtain _ | fu := fu
 · rw [m_slices_Index_int_l1] at hF1; cases hF1
 rw [m_slices_Index_int_l1] at hF1
 refine awp_seq (awp_region ?_)
 refine s_lt ?_
 refine k_nil (k_seq (awp_seq ?_))
 refine w_cond hF1 ?_ ?_ <;> intro hc3 hF2
 refine awp_lenT 0 (fun hb4 => ?_)
 refine awp_skip (k_seq (awp_seq (awp_block (awp_seq (awp_region ?_)))))
 refine s_mv ?_
 refine s_as ?_
 refine k_nil (k_seq (awp_seq (awp_region ?_)))
 iterate 3 refine s_mv ?_
 obtain ⟨v5, hv5, hF3⟩ := bind_some' hF2
 refine s_ixT rI hv5 rfl yE23 ?_
 refine s_ld1 yA3 ?_
 refine s_eq ?_
 refine k_nil (k_seq ?_)
 refine w_cond hF3 ?_ ?_ <;> intro hc6 hF4
 refine awp_seq (awp_region ?_)
 refine s_mv ?_
 refine s_as ?_
 refine k_nil (k_seq (awp_ret (k_blk_ret (k_seq_ret (k_rnd_ret2 (k_blk_ret (k_seq_ret (k_fin ?_))))))))
 cases hF4
 exact ends_a [] [] Try.results43
 refine awp_skip (k_blk (k_seq (awp_region ?_)))
 refine s_add (winc2 hc3 hb4 hn_g1) ?_
 refine s_mv ?_
 refine k_nil ?_
 exact s_rn (fu, (g1 + 1)) ⟨by first | omega | (dsimp only; omega), hF4, by first | omega | (dsimp only; omega)⟩
 refine awp_exit (k_seq_exit (k_rnd_exit2 (k_blk_exit (k_seq (awp_seq (awp_region ?_))))))
 refine s_as ?_
 refine k_nil (k_seq (awp_ret (k_fin ?_)))
 cases hF2
 exact ends_a [] [] Try.results43
def m_slices_Contains_int_AC (fuel : Nat) : Prop := ∀ (x1 : (List Int)) (x2 : Int) (r : Bool), m_slices_Contains_int fuel x1 x2 = some r → AC Try.prog 31 [.t (.sl (x1.map rI)), .t (.sc (.int .i64 x2))] noOb (.t (.sc (.bool r))) noOb
theorem m_slices_Contains_int_ok (fuel : Nat) : m_slices_Contains_int_AC fuel := by
 intro x1 x2 r hF0
 unfold m_slices_Contains_int at hF0
 refine AC_i [.t (.sc (.bool r))] Try.func31 rfl Try.ntmps31 ?_
 intro C hC
 refine awp_seq (awp_region ?_)
 refine s_as ?_
 refine k_nil (k_seq (awp_seq (awp_region ?_)))
 refine s_mv ?_
 refine s_mv ?_
 obtain ⟨v1, hv1, hF1⟩ := bind_some' hF0
 refine s_pure [] (m_slices_Index_int_ok fuel _ _ _ hv1) ?_
 refine s_ge ?_
 refine s_as ?_
 refine k_nil (k_seq (awp_ret (k_fin ?_)))
 cases hF1
 exact ends_a [] [] Try.results31
def m_strings_IndexByte_AC (fuel : Nat) : Prop := ∀ (x1 : ByteArray) (x2 : Int) (r : Int), m_strings_IndexByte fuel x1 x2 = some r → AC Try.prog 44 [.t (.sc (.str x1)), .t (.sc (.int .u8 x2))] noOb (.t (.sc (.int .i64 r))) noOb
theorem m_strings_IndexByte_ok (fuel : Nat) : m_strings_IndexByte_AC fuel := by
 intro x1 x2 r h
 obtain rfl := Option.some.inj h
 exact ac_two (a := .str x1) (b := .int .u8 x2) (r := .int .i64 _) ⟨_, Try.func44, by kernel_rfl, by kernel_rfl⟩ (fun w => Try.strings_IndexByte x1 x2 w)
def m_impl_NameValid_AC (fuel : Nat) : Prop := ∀ (x1 : ByteArray) (r : Bool), m_impl_NameValid fuel x1 = some r → AC Try.prog 32 [.t (.sc (.str x1))] noOb (.t (.sc (.bool r))) noOb
theorem m_impl_NameValid_ok (fuel : Nat) : m_impl_NameValid_AC fuel := by
 intro x1 r hF0
 unfold m_impl_NameValid at hF0
 refine AC_i [.t (.sc (.bool r))] Try.func32 rfl Try.ntmps32 ?_
 intro C hC
 refine awp_seq (awp_region ?_)
 refine s_as ?_
 refine k_nil (k_seq (awp_seq (awp_seq (awp_region ?_))))
 refine s_mv ?_
 refine s_eqS ?_
 refine s_mv ?_
 refine w_guard _ 7 hF0 ?_ ?_ <;> intro hc1 hF1
 refine r_no rfl (r_no rfl ?_)
 refine s_pkt ?_
 refine k_nil (k_seq (awp_true rfl (awp_seq (awp_region ?_))))
 refine s_as ?_
 refine k_nil (k_seq (awp_ret (k_seq_ret (k_fin ?_))))
 cases hF1
 exact ends_a [] [] Try.results32
 refine s_mv ?_
 refine s_eqS ?_
 refine s_pkf ?_
 refine k_nil (k_seq ?_)
 refine w_cond hF1 ?_ ?_ <;> intro hc2 hF2
 refine awp_seq (awp_region ?_)
 refine s_as ?_
 refine k_nil (k_seq (awp_ret (k_seq_ret (k_fin ?_))))
 cases hF2
 exact ends_a [] [] Try.results32
 refine awp_skip (k_seq (awp_seq (awp_seq (awp_region ?_))))
 refine s_as ?_
 refine k_nil (k_seq (awp_block ?_))
 refine awp_fr (β := Int) [2, 3, 4, 11, 12, 13, 14, 15, 16, 17, 18, 19, 20, 21, 22, 23, 24, 25, 26, 27, 28, 29, 30, 31, 32, 33, 34, 35, 36, 37, 38, 39, 40, 41, 42, 43, 44, 45, 46] [] [] (fun a => [(3, .t (.sc (.int .i64 a.2)))]) (fun a => []) (fun a => a.1 ≤ fuel ∧ m_impl_NameValid_l1 a.1 x1 a.2 = some r) (fuel, 0) ⟨Nat.le_refl _, hF2⟩ ?_
 clear hF2
 rintro ⟨fu, g3⟩ ⟨hl4, hF3⟩
 dsimp only at hl4 hF3 ⊢
 obtain _ | fu := fu
 · rw [m_impl_NameValid_l1] at hF3; cases hF3
 rw [m_impl_NameValid_l1] at hF3
 refine awp_seq (awp_seq (awp_region ?_))
 refine s_mv ?_
 refine s_mv ?_
 refine s_lenS yU9 ?_
 refine s_lt ?_
 refine k_nil (k_seq ?_)
 refine w_cond hF3 ?_ ?_ <;> intro hc5 hF4
 refine awp_skip (k_seq (awp_seq (awp_block (awp_seq (awp_region ?_)))))
 refine s_mv ?_
 refine s_mv ?_
 obtain ⟨v6, hv6, hF5⟩ := bind_some' hF4
 refine s_ixS hv6 yU9 ?_
 refine s_as ?_
 refine k_nil (k_seq (awp_block (awp_seq (awp_region ?_))))
 refine s_mv ?_
 refine s_ge ?_
 refine s_mv ?_
 refine w_guard _ 23 hF5 ?_ ?_ <;> intro hc7 hF6
 refine s_mv ?_
 refine s_le ?_
 refine s_pkt ?_
 refine s_mv ?_
 refine w_guard _ 27 hF6 ?_ ?_ <;> intro hc8 hF7
 iterate 3 refine r_no rfl ?_
 refine s_pkt ?_
 refine s_as ?_
 refine k_nil (k_seq (awp_true rfl (awp_skip (k_blk (k_blk (k_seq (awp_region ?_)))))))
 refine s_mv ?_
 refine s_add rfl ?_
 refine s_as ?_
 refine k_nil ?_
 exact s_rn (fu, (w64 (g3 + 1))) ⟨by first | omega | (dsimp only; omega), hF7⟩
 refine s_mv ?_
 obtain ⟨v9, hv9, hF8⟩ := bind_some' hF7
 refine s_pure [] (m_strings_IndexByte_ok fu _ _ _ hv9) ?_
 refine s_ge ?_
 refine s_pkf ?_
 refine s_as ?_
 refine k_nil (k_seq ?_)
 refine w_cond hF8 ?_ ?_ <;> intro hc10 hF9
 refine awp_skip (k_blk (k_blk (k_seq (awp_region ?_))))
 refine s_mv ?_
 refine s_add rfl ?_
 refine s_as ?_
 refine k_nil ?_
 exact s_rn (fu, (w64 (g3 + 1))) ⟨by first | omega | (dsimp only; omega), hF9⟩
 refine awp_seq (awp_region ?_)
 refine s_mv ?_
 refine s_gt ?_
 refine s_mv ?_
 refine w_guard _ 35 hF9 ?_ ?_ <;> intro hc11 hF10
 refine s_mv ?_
 refine s_ge ?_
 refine s_mv ?_
 refine w_guard _ 38 hF10 ?_ ?_ <;> intro hc12 hF11
 refine s_mv ?_
 refine s_le ?_
 refine s_pkt ?_
 refine s_mv ?_
 refine w_guard _ 42 hF11 ?_ ?_ <;> intro hc13 hF12
 refine r_no rfl (r_no rfl ?_)
 refine s_pkt ?_
 refine s_pkt ?_
 refine s_as ?_
 refine k_nil (k_seq (awp_true rfl (awp_skip (k_blk (k_blk (k_seq (awp_region ?_)))))))
 refine s_mv ?_
 refine s_add rfl ?_
 refine s_as ?_
 refine k_nil ?_
 exact s_rn (fu, (w64 (g3 + 1))) ⟨by first | omega | (dsimp only; omega), hF12⟩
 refine s_mv ?_
 refine s_eq ?_
 refine s_pkf ?_
 refine s_pkt ?_
 refine s_as ?_
 refine k_nil (k_seq ?_)
 refine w_cond hF12 ?_ ?_ <;> intro hc14 hF13
 refine awp_skip (k_blk (k_blk (k_seq (awp_region ?_))))
 refine s_mv ?_
 refine s_add rfl ?_
 refine s_as ?_
 refine k_nil ?_
 exact s_rn (fu, (w64 (g3 + 1))) ⟨by first | omega | (dsimp only; omega), hF13⟩
 refine awp_seq (awp_region ?_)
 refine s_as ?_
 refine k_nil (k_seq (awp_ret (k_blk_ret (k_blk_ret (k_seq_ret (k_rnd_ret2 (k_blk_ret (k_seq_ret (k_fin ?_)))))))))
 cases hF13
 exact ends_a [] [] Try.results32
 refine r_no rfl (r_no rfl ?_)
 refine s_pkf ?_
 refine s_mv ?_
 refine s_mv ?_
 refine s_eq ?_
 refine s_pkf ?_
 refine s_pkt ?_
 refine s_as ?_
 refine k_nil (k_seq ?_)
 refine w_cond hF11 ?_ ?_ <;> intro hc15 hF12
 refine awp_skip (k_blk (k_blk (k_seq (awp_region ?_))))
 refine s_mv ?_
 refine s_add rfl ?_
 refine s_as ?_
 refine k_nil ?_
 exact s_rn (fu, (w64 (g3 + 1))) ⟨by first | omega | (dsimp only; omega), hF12⟩
 refine awp_seq (awp_region ?_)
 refine s_as ?_
 refine k_nil (k_seq (awp_ret (k_blk_ret (k_blk_ret (k_seq_ret (k_rnd_ret2 (k_blk_ret (k_seq_ret (k_fin ?_)))))))))
 cases hF12
 exact ends_a [] [] Try.results32
 iterate 10 refine r_no rfl ?_
 refine s_pkf ?_
 refine s_as ?_
 refine k_nil (k_seq (awp_false rfl (awp_seq (awp_region ?_))))
 refine s_as ?_
 refine k_nil (k_seq (awp_ret (k_blk_ret (k_blk_ret (k_seq_ret (k_rnd_ret2 (k_blk_ret (k_seq_ret (k_fin ?_)))))))))
 cases hF10
 exact ends_a [] [] Try.results32
 refine r_no rfl (r_no rfl ?_)
 refine s_pkf ?_
 refine s_mv ?_
 refine s_mv ?_
 obtain ⟨v16, hv16, hF7⟩ := bind_some' hF6
 refine s_pure [] (m_strings_IndexByte_ok fu _ _ _ hv16) ?_
 refine s_ge ?_
 refine s_pkf ?_
 refine s_as ?_
 refine k_nil (k_seq ?_)
 refine w_cond hF7 ?_ ?_ <;> intro hc17 hF8
 refine awp_skip (k_blk (k_blk (k_seq (awp_region ?_))))
 refine s_mv ?_
 refine s_add rfl ?_
 refine s_as ?_
 refine k_nil ?_
 exact s_rn (fu, (w64 (g3 + 1))) ⟨by first | omega | (dsimp only; omega), hF8⟩
 refine awp_seq (awp_region ?_)
 refine s_mv ?_
 refine s_gt ?_
 refine s_mv ?_
 refine w_guard _ 35 hF8 ?_ ?_ <;> intro hc18 hF9
 refine s_mv ?_
 refine s_ge ?_
 refine s_mv ?_
 refine w_guard _ 38 hF9 ?_ ?_ <;> intro hc19 hF10
 refine s_mv ?_
 refine s_le ?_
 refine s_pkt ?_
 refine s_mv ?_
 refine w_guard _ 42 hF10 ?_ ?_ <;> intro hc20 hF11
 refine r_no rfl (r_no rfl ?_)
 refine s_pkt ?_
 refine s_pkt ?_
 refine s_as ?_
 refine k_nil (k_seq (awp_true rfl (awp_skip (k_blk (k_blk (k_seq (awp_region ?_)))))))
 refine s_mv ?_
 refine s_add rfl ?_
 refine s_as ?_
 refine k_nil ?_
 exact s_rn (fu, (w64 (g3 + 1))) ⟨by first | omega | (dsimp only; omega), hF11⟩
 refine s_mv ?_
 refine s_eq ?_
 refine s_pkf ?_
 refine s_pkt ?_
 refine s_as ?_
 refine k_nil (k_seq ?_)
 refine w_cond hF11 ?_ ?_ <;> intro hc21 hF12
 refine awp_skip (k_blk (k_blk (k_seq (awp_region ?_))))
 refine s_mv ?_
 refine s_add rfl ?_
 refine s_as ?_
 refine k_nil ?_
 exact s_rn (fu, (w64 (g3 + 1))) ⟨by first | omega | (dsimp only; omega), hF12⟩
 refine awp_seq (awp_region ?_)
 refine s_as ?_
 refine k_nil (k_seq (awp_ret (k_blk_ret (k_blk_ret (k_seq_ret (k_rnd_ret2 (k_blk_ret (k_seq_ret (k_fin ?_)))))))))
 cases hF12
 exact ends_a [] [] Try.results32
 refine r_no rfl (r_no rfl ?_)
 refine s_pkf ?_
 refine s_mv ?_
 refine s_mv ?_
 refine s_eq ?_
 refine s_pkf ?_
 refine s_pkt ?_
 refine s_as ?_
 refine k_nil (k_seq ?_)
 refine w_cond hF10 ?_ ?_ <;> intro hc22 hF11
 refine awp_skip (k_blk (k_blk (k_seq (awp_region ?_))))
 refine s_mv ?_
 refine s_add rfl ?_
 refine s_as ?_
 refine k_nil ?_
 exact s_rn (fu, (w64 (g3 + 1))) ⟨by first | omega | (dsimp only; omega), hF11⟩
 refine awp_seq (awp_region ?_)
 refine s_as ?_
 refine k_nil (k_seq (awp_ret (k_blk_ret (k_blk_ret (k_seq_ret (k_rnd_ret2 (k_blk_ret (k_seq_ret (k_fin ?_)))))))))
 cases hF11
 exact ends_a [] [] Try.results32
 iterate 10 refine r_no rfl ?_
 refine s_pkf ?_
 refine s_as ?_
 refine k_nil (k_seq (awp_false rfl (awp_seq (awp_region ?_))))
 refine s_as ?_
 refine k_nil (k_seq (awp_ret (k_blk_ret (k_blk_ret (k_seq_ret (k_rnd_ret2 (k_blk_ret (k_seq_ret (k_fin ?_)))))))))
 cases hF9
 exact ends_a [] [] Try.results32
 refine awp_exit (k_seq_exit (k_rnd_exit2 (k_blk_exit (k_seq (awp_seq (awp_region ?_))))))
 refine s_mv ?_
 refine s_lenS yU9 ?_
 obtain ⟨v23, hv23, hF5⟩ := bind_some' hF4
 refine s_pure [] (m_impl_within_ok fu _ _ _ _ hv23) ?_
 refine s_as ?_
 refine k_nil (k_seq (awp_ret (k_fin ?_)))
 cases hF5
 exact ends_a [] [] Try.results32
end Go.Abs
