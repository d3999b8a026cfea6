/- A part of the proof: what the functions that the law calls answer, as pure values. -/
import Derived.Test.YtehdhaaopmihaaaGreatDoorK0fde71595f57
import Derived.Test.YtehdhaaopmihaaaGreatDoorK90ecab317ca0
import Derived.Test.YtehdhaaopmihaaaGreatDoorK98906b43c573
import Derived.Test.YtehdhaaopmihaaaGreatDoorKd19899f98c41
set_option linter.unusedSimpArgs false
set_option linter.unusedVariables false
set_option maxRecDepth 100000
set_option maxHeartbeats 4000000
namespace Go.Abs
open Go.Proofs
theorem m_spec_l6Some_all (fuel : Nat) : m_spec_l6Some_AC fuel := by
 induction fuel using Nat.strongRecOn with
 | _ N ih =>
   cases N with
   | zero => exact (by intro o1 x2 x3 x4 r h; rw [m_spec_l6Some] at h; cases h)
   | succ fu => exact m_spec_l6Some_st fu (fun k hk => (ih k (by omega)))
theorem m_spec_l6Some_ok (fuel : Nat) : m_spec_l6Some_AC fuel := (m_spec_l6Some_all fuel)
def m_spec_l1Copy_AC (fuel : Nat) : Prop := ∀ (x1 : Form) (r : Form), m_spec_l1Copy fuel x1 = some r → AC Tryz.prog 106 [.ag [.t (.sc (.int .i64 x1.kind)), .t (.sc (.str x1.name)), .t (.sc (.int .i64 x1.n)), .t (.sl (x1.scopes.map rI)), .t (.sl (x1.kids.map Form.row))]] (objs []) (.ag [.t (.sc (.int .i64 r.kind)), .t (.sc (.str r.name)), .t (.sc (.int .i64 r.n)), .ar 9203, .ar 9204]) (objs [(9203, .arr (r.scopes.map rI) 3 true), (9204, .arr (r.kids.map Form.row) 33 true)])
theorem m_spec_l1Copy_st (fu : Nat) (ih_m_spec_l1Copy : ∀ k, k ≤ fu → m_spec_l1Copy_AC k) : m_spec_l1Copy_AC (fu + 1) := by
 intro x1 r hF0
 rw [m_spec_l1Copy] at hF0
 refine AC_i [.ag [.t (.sc (.int .i64 r.kind)), .t (.sc (.str r.name)), .t (.sc (.int .i64 r.n)), .ar 9203, .ar 9204]] Tryz.func106 rfl Tryz.ntmps106 ?_
 intro C hC
 refine awp_seq (awp_region ?_)
 refine s_box ?_
 refine s_alloc yZ33 ?_
 refine k_nil (k_seq (awp_seq ?_))
 refine awp_draw yMix (by kernel_rfl) ?_
 refine s_fa yF33_0 ?_
 refine s_ld1 yA3 ?_
 refine s_fa yF33_1 ?_
 refine s_ld1 yA9 ?_
 refine s_fa yF33_2 ?_
 refine s_ld1 yA3 ?_
 refine s_bs rI ([] : List Int) yP22 yR3 ?_
 refine s_fa yF33_3 ?_
 refine s_ld1 yA22 ?_
 obtain ⟨hk1, hF1⟩ := chk_some hF0
 refine s_apT rI (fun _ => rfl) hk1 yP22 ?_
 refine s_bld yZ33 yL33 ?_
 refine s_alloc yZ33 ?_
 refine s_stW yS33 ?_
 refine k_nilD (by kernel_rfl) ?_
 refine k_seq (awp_seq (awp_seq (awp_region ?_)))
 refine s_as ?_
 refine k_nil (k_seq (awp_block ?_))
 refine awp_ownB 3 5020 33 [.t (.sc (.int .i64 x1.kind)), .t (.sc (.str x1.name)), .t (.sc (.int .i64 x1.n)), .ar 14, .ar 5020] yI33.choose_spec ?_
 refine awp_frame2 [4, 16, 17, 18, 19, 20, 21, 22, 23, 24, 25, 26, 27, 28, 29, 30, 31, 32, 33] [3, 5020] [31, 32, 2030, 12030] [5020] (fun a : Nat × Int × (List Form) => a.1) (fun a : Nat × Int × (List Form) => [(4, .t (.sc (.int .i64 a.2.1)))]) (fun a : Nat × Int × (List Form) => [(3, .box [.t (.sc (.int .i64 x1.kind)), .t (.sc (.str x1.name)), .t (.sc (.int .i64 x1.n)), .ar 14, .ar 5020]), (5020, .arr (a.2.2.map Form.row) 33 true)]) (fun a : Nat × Int × (List Form) => a.1 ≤ fu ∧ m_spec_l1Copy_l1 a.1 x1 a.2.1 a.2.2 = some r ∧ 0 ≤ a.2.1) (fu, 0, ([] : List Form)) ⟨Nat.le_refl _, hF1, by simp⟩ (by rfl) (by rfl) (fun _ => rfl) (hasF_cons (by conv => lhs; whnf) (by rfl) hasF_nil) (hasO_cons (by conv => lhs; whnf) (by rfl) (hasO_cons (by conv => lhs; whnf) (by rfl) hasO_nil)) (fresh_C hC rfl) (by repeat (first | exact freshS_args rfl | refine freshS_upd rfl ?_ | refine freshS_frame rfl ?_)) (by repeat (first | exact freshM_no | exact objs_fresh rfl | refine freshM_upd rfl ?_ | refine freshM_frame rfl ?_)) ?_
 clear hF1
 rintro ⟨fu, g2, g3⟩ ⟨hl4, hF2, hn_g2⟩
 dsimp only at hl4 hF2 hn_g2 ⊢
 obtain _ | fu := fu
 · rw [m_spec_l1Copy_l1] at hF2; cases hF2
 rw [m_spec_l1Copy_l1] at hF2
 refine awp_seq (awp_seq (awp_region ?_))
 refine s_mv ?_
 refine s_fa yF33_4 ?_
 refine s_ld1 yA31 ?_
 refine s_lenT yU31 ?_
 refine s_lt ?_
 refine k_nil (k_seq ?_)
 refine w_cond hF2 ?_ ?_ <;> intro hc5 hF3
 refine awp_lenT 18 (fun hb6 => ?_)
 refine awp_skip (k_seq (awp_seq (awp_block ?_)))
 refine awp_draw yMix (by kernel_rfl) ?_
 refine s_fa yF33_4 ?_
 refine s_ld1 yA31 ?_
 refine s_fa yF33_4 ?_
 refine s_ld1 yA31 ?_
 refine s_mv ?_
 obtain ⟨v7, hv7, hF4⟩ := bind_some' hF3
 refine s_ixT Form.row hv7 (Form.row_eq _) yE31 ?_
 refine s_ldN yA33 yS33 ?_
 obtain ⟨v8, hv8, hF5⟩ := bind_some' hF4
 refine s_call [(9203, 2030), (9204, 12030)] [] _ _ (ih_m_spec_l1Copy fu (by omega) _ _ hv8) ?_
 refine s_bs Form.row [v8] yP31 yR33 ?_
 obtain ⟨hk9, hF6⟩ := chk_some hF5
 refine s_apT Form.row (fun y => Form.row_len y) hk9 yP31 ?_
 refine s_fa yF33_4 ?_
 refine s_stP yS31 ?_
 refine k_nilD (by kernel_rfl) ?_
 refine k_blk (k_seq (awp_region ?_))
 refine s_mv ?_
 refine s_add (winc2 hc5 hb6 hn_g2) ?_
 refine s_as ?_
 refine k_nil ?_
 exact s_rn (fu, (g2 + 1), (g3 ++ [v8])) ⟨by first | omega | (dsimp only; omega), hF6, by first | omega | (dsimp only; omega)⟩ [(5020, 32)]
 refine awp_exit (k_seq_exit (k_rnd_exit2 (k_blk_exit (k_seq (awp_seq (awp_region ?_))))))
 refine s_ldW yA33 yS33 ?_
 refine s_stW yS33 ?_
 refine k_nil (k_seq ?_)
 refine awp_mvB 2 14 9203 [.t (.sc (.int .i64 x1.kind)), .t (.sc (.str x1.name)), .t (.sc (.int .i64 x1.n)), .ar 9203, .ar 5020] ?_
 refine awp_mvB 2 5020 9204 [.t (.sc (.int .i64 x1.kind)), .t (.sc (.str x1.name)), .t (.sc (.int .i64 x1.n)), .ar 9203, .ar 9204] ?_
 refine awp_ret (k_fin ?_)
 cases hF3
 exact ends_gen _ [] (by rw [Tryz.results106]; exact (res_agg (by conv => lhs; whnf) (by conv => lhs; whnf) yA33 yS33 rfl res_nil))
theorem m_spec_l1Copy_all (fuel : Nat) : m_spec_l1Copy_AC fuel := by
 induction fuel using Nat.strongRecOn with
 | _ N ih =>
   cases N with
   | zero => exact (by intro x1 r h; rw [m_spec_l1Copy] at h; cases h)
   | succ fu => exact m_spec_l1Copy_st fu (fun k hk => (ih k (by omega)))
theorem m_spec_l1Copy_ok (fuel : Nat) : m_spec_l1Copy_AC fuel := (m_spec_l1Copy_all fuel)
def m_spec_l6Copy_AC (fuel : Nat) : Prop := ∀ (x1 : Core) (r : Core), m_spec_l6Copy fuel x1 = some r → AC Tryz.prog 117 [.ag [.t (.sc (.int .i64 x1.kind)), .t (.sc (.int .i64 x1.id)), .t (.sc (.str x1.name)), .t (.sc (.int .i64 x1.n)), .t (.sl (x1.ids.map rI)), .t (.sc (.int .i64 x1.data.kind)), .t (.sc (.str x1.data.name)), .t (.sc (.int .i64 x1.data.n)), .t (.sl (x1.data.scopes.map rI)), .t (.sl (x1.data.kids.map Form.row)), .t (.sl (x1.kids.map Core.row))]] (objs []) (.ag [.t (.sc (.int .i64 r.kind)), .t (.sc (.int .i64 r.id)), .t (.sc (.str r.name)), .t (.sc (.int .i64 r.n)), .ar 9204, .t (.sc (.int .i64 r.data.kind)), .t (.sc (.str r.data.name)), .t (.sc (.int .i64 r.data.n)), .t (.sl (r.data.scopes.map rI)), .t (.sl (r.data.kids.map Form.row)), .ar 9210]) (objs [(9204, .arr (r.ids.map rI) 3 true), (9210, .arr (r.kids.map Core.row) 36 true)])
theorem m_spec_l6Copy_st (fu : Nat) (ih_m_spec_l6Copy : ∀ k, k ≤ fu → m_spec_l6Copy_AC k) : m_spec_l6Copy_AC (fu + 1) := by
 intro x1 r hF0
 rw [m_spec_l6Copy] at hF0
 refine AC_i [.ag [.t (.sc (.int .i64 r.kind)), .t (.sc (.int .i64 r.id)), .t (.sc (.str r.name)), .t (.sc (.int .i64 r.n)), .ar 9204, .t (.sc (.int .i64 r.data.kind)), .t (.sc (.str r.data.name)), .t (.sc (.int .i64 r.data.n)), .t (.sl (r.data.scopes.map rI)), .t (.sl (r.data.kids.map Form.row)), .ar 9210]] Tryz.func117 rfl Tryz.ntmps117 ?_
 intro C hC
 refine awp_seq (awp_region ?_)
 refine s_box ?_
 refine s_alloc yZ36 ?_
 refine k_nil (k_seq (awp_seq ?_))
 refine awp_draw yMix (by kernel_rfl) ?_
 refine s_fa yF36_0 ?_
 refine s_ld1 yA3 ?_
 refine s_fa yF36_1 ?_
 refine s_ld1 yA3 ?_
 refine s_fa yF36_2 ?_
 refine s_ld1 yA9 ?_
 refine s_fa yF36_3 ?_
 refine s_ld1 yA3 ?_
 refine s_bs rI ([] : List Int) yP22 yR3 ?_
 refine s_fa yF36_4 ?_
 refine s_ld1 yA22 ?_
 obtain ⟨hk1, hF1⟩ := chk_some hF0
 refine s_apT rI (fun _ => rfl) hk1 yP22 ?_
 refine s_fa yF36_5 ?_
 refine s_ldN yA33 yS33 ?_
 obtain ⟨v2, hv2, hF2⟩ := bind_some' hF1
 refine s_call [(9203, 2019), (9204, 12019)] [] _ _ (m_spec_l1Copy_ok fu _ _ hv2) ?_
 refine s_bld yZ36 yL36 ?_
 refine s_alloc yZ36 ?_
 refine s_stW yS36 ?_
 refine k_nilD (by kernel_rfl) ?_
 refine k_seq (awp_seq (awp_seq (awp_region ?_)))
 refine s_as ?_
 refine k_nil (k_seq (awp_block ?_))
 refine awp_ownB 3 5020 36 [.t (.sc (.int .i64 x1.kind)), .t (.sc (.int .i64 x1.id)), .t (.sc (.str x1.name)), .t (.sc (.int .i64 x1.n)), .ar 16, .t (.sc (.int .i64 v2.kind)), .t (.sc (.str v2.name)), .t (.sc (.int .i64 v2.n)), .ar 2019, .ar 12019, .ar 5020] yI36.choose_spec ?_
 refine awp_frame2 [4, 21, 22, 23, 24, 25, 26, 27, 28, 29, 30, 31, 32, 33, 34, 35, 36, 37, 38] [3, 5020] [36, 37, 2035, 12035] [5020] (fun a : Nat × Int × (List Core) => a.1) (fun a : Nat × Int × (List Core) => [(4, .t (.sc (.int .i64 a.2.1)))]) (fun a : Nat × Int × (List Core) => [(3, .box [.t (.sc (.int .i64 x1.kind)), .t (.sc (.int .i64 x1.id)), .t (.sc (.str x1.name)), .t (.sc (.int .i64 x1.n)), .ar 16, .t (.sc (.int .i64 v2.kind)), .t (.sc (.str v2.name)), .t (.sc (.int .i64 v2.n)), .ar 2019, .ar 12019, .ar 5020]), (5020, .arr (a.2.2.map Core.row) 36 true)]) (fun a : Nat × Int × (List Core) => a.1 ≤ fu ∧ m_spec_l6Copy_l1 a.1 x1 v2 a.2.1 a.2.2 = some r ∧ 0 ≤ a.2.1) (fu, 0, ([] : List Core)) ⟨Nat.le_refl _, hF2, by simp⟩ (by rfl) (by rfl) (fun _ => rfl) (hasF_cons (by conv => lhs; whnf) (by rfl) hasF_nil) (hasO_cons (by conv => lhs; whnf) (by rfl) (hasO_cons (by conv => lhs; whnf) (by rfl) hasO_nil)) (fresh_C hC rfl) (by repeat (first | exact freshS_args rfl | refine freshS_upd rfl ?_ | refine freshS_frame rfl ?_)) (by repeat (first | exact freshM_no | exact objs_fresh rfl | refine freshM_upd rfl ?_ | refine freshM_frame rfl ?_)) ?_
 clear hF2
 rintro ⟨fu, g3, g4⟩ ⟨hl5, hF3, hn_g3⟩
 dsimp only at hl5 hF3 hn_g3 ⊢
 obtain _ | fu := fu
 · rw [m_spec_l6Copy_l1] at hF3; cases hF3
 rw [m_spec_l6Copy_l1] at hF3
 refine awp_seq (awp_seq (awp_region ?_))
 refine s_mv ?_
 refine s_fa yF36_6 ?_
 refine s_ld1 yA34 ?_
 refine s_lenT yU34 ?_
 refine s_lt ?_
 refine k_nil (k_seq ?_)
 refine w_cond hF3 ?_ ?_ <;> intro hc6 hF4
 refine awp_lenT 23 (fun hb7 => ?_)
 refine awp_skip (k_seq (awp_seq (awp_block ?_)))
 refine awp_draw yMix (by kernel_rfl) ?_
 refine s_fa yF36_6 ?_
 refine s_ld1 yA34 ?_
 refine s_fa yF36_6 ?_
 refine s_ld1 yA34 ?_
 refine s_mv ?_
 obtain ⟨v8, hv8, hF5⟩ := bind_some' hF4
 refine s_ixT Core.row hv8 (Core.row_eq _) yE34 ?_
 refine s_ldN yA36 yS36 ?_
 obtain ⟨v9, hv9, hF6⟩ := bind_some' hF5
 refine s_call [(9204, 2035), (9210, 12035)] [] _ _ (ih_m_spec_l6Copy fu (by omega) _ _ hv9) ?_
 refine s_bs Core.row [v9] yP34 yR36 ?_
 obtain ⟨hk10, hF7⟩ := chk_some hF6
 refine s_apT Core.row (fun y => Core.row_len y) hk10 yP34 ?_
 refine s_fa yF36_6 ?_
 refine s_stP yS34 ?_
 refine k_nilD (by kernel_rfl) ?_
 refine k_blk (k_seq (awp_region ?_))
 refine s_mv ?_
 refine s_add (winc2 hc6 hb7 hn_g3) ?_
 refine s_as ?_
 refine k_nil ?_
 exact s_rn (fu, (g3 + 1), (g4 ++ [v9])) ⟨by first | omega | (dsimp only; omega), hF7, by first | omega | (dsimp only; omega)⟩ [(5020, 37)]
 refine awp_exit (k_seq_exit (k_rnd_exit2 (k_blk_exit (k_seq (awp_seq (awp_region ?_))))))
 refine s_ldW yA36 yS36 ?_
 refine s_stW yS36 ?_
 refine k_nil (k_seq ?_)
 refine awp_mvB 2 16 9204 [.t (.sc (.int .i64 x1.kind)), .t (.sc (.int .i64 x1.id)), .t (.sc (.str x1.name)), .t (.sc (.int .i64 x1.n)), .ar 9204, .t (.sc (.int .i64 v2.kind)), .t (.sc (.str v2.name)), .t (.sc (.int .i64 v2.n)), .ar 2019, .ar 12019, .ar 5020] ?_
 refine awp_mvB 2 5020 9210 [.t (.sc (.int .i64 x1.kind)), .t (.sc (.int .i64 x1.id)), .t (.sc (.str x1.name)), .t (.sc (.int .i64 x1.n)), .ar 9204, .t (.sc (.int .i64 v2.kind)), .t (.sc (.str v2.name)), .t (.sc (.int .i64 v2.n)), .ar 2019, .ar 12019, .ar 9210] ?_
 refine awp_frz 2019 (by conv => lhs; whnf) ?_
 refine awp_pzB 2 8 2019 [.t (.sc (.int .i64 x1.kind)), .t (.sc (.int .i64 x1.id)), .t (.sc (.str x1.name)), .t (.sc (.int .i64 x1.n)), .ar 9204, .t (.sc (.int .i64 v2.kind)), .t (.sc (.str v2.name)), .t (.sc (.int .i64 v2.n)), .t (.sl (v2.scopes.map rI)), .ar 12019, .ar 9210] (by conv => lhs; whnf) rfl (by conv => lhs; whnf) rfl ?_
 refine awp_frz 12019 (by conv => lhs; whnf) ?_
 refine awp_pzB 2 9 12019 [.t (.sc (.int .i64 x1.kind)), .t (.sc (.int .i64 x1.id)), .t (.sc (.str x1.name)), .t (.sc (.int .i64 x1.n)), .ar 9204, .t (.sc (.int .i64 v2.kind)), .t (.sc (.str v2.name)), .t (.sc (.int .i64 v2.n)), .t (.sl (v2.scopes.map rI)), .t (.sl (v2.kids.map Form.row)), .ar 9210] (by conv => lhs; whnf) rfl (by conv => lhs; whnf) rfl ?_
 refine awp_ret (k_fin ?_)
 cases hF4
 exact ends_gen _ [] (by rw [Tryz.results117]; exact (res_agg (by conv => lhs; whnf) (by conv => lhs; whnf) yA36 yS36 rfl res_nil))
theorem m_spec_l6Copy_all (fuel : Nat) : m_spec_l6Copy_AC fuel := by
 induction fuel using Nat.strongRecOn with
 | _ N ih =>
   cases N with
   | zero => exact (by intro x1 r h; rw [m_spec_l6Copy] at h; cases h)
   | succ fu => exact m_spec_l6Copy_st fu (fun k hk => (ih k (by omega)))
theorem m_spec_l6Copy_ok (fuel : Nat) : m_spec_l6Copy_AC fuel := (m_spec_l6Copy_all fuel)
def m_spec_l6Mutate_AC (fuel : Nat) : Prop := ∀ (o1 : l15Rd) (x2 : Core) (r : (Core × l15Rd)), m_spec_l6Mutate fuel o1 x2 = some r → AC Tryz.prog 83 [.rf 9000 0, .ag [.t (.sc (.int .i64 x2.kind)), .t (.sc (.int .i64 x2.id)), .t (.sc (.str x2.name)), .t (.sc (.int .i64 x2.n)), .t (.sl (x2.ids.map rI)), .t (.sc (.int .i64 x2.data.kind)), .t (.sc (.str x2.data.name)), .t (.sc (.int .i64 x2.data.n)), .t (.sl (x2.data.scopes.map rI)), .t (.sl (x2.data.kids.map Form.row)), .t (.sl (x2.kids.map Core.row))]] (objs [(9000, .box [.t (.sl (o1.b.map rB)), .t (.sc (.int .i64 o1.p))])]) (.ag [.t (.sc (.int .i64 r.1.kind)), .t (.sc (.int .i64 r.1.id)), .t (.sc (.str r.1.name)), .t (.sc (.int .i64 r.1.n)), .t (.sl (r.1.ids.map rI)), .t (.sc (.int .i64 r.1.data.kind)), .t (.sc (.str r.1.data.name)), .t (.sc (.int .i64 r.1.data.n)), .t (.sl (r.1.data.scopes.map rI)), .t (.sl (r.1.data.kids.map Form.row)), .t (.sl (r.1.kids.map Core.row))]) (objs [(9000, .box [.t (.sl (r.2.b.map rB)), .t (.sc (.int .i64 r.2.p))])])
theorem m_spec_l6Mutate_st (fu : Nat) (ih_m_spec_l6Mutate : ∀ k, k ≤ fu → m_spec_l6Mutate_AC k) : m_spec_l6Mutate_AC (fu + 1) := by
 intro o1 x2 r hF0
 rw [m_spec_l6Mutate] at hF0
 refine AC_i [.ag [.t (.sc (.int .i64 r.1.kind)), .t (.sc (.int .i64 r.1.id)), .t (.sc (.str r.1.name)), .t (.sc (.int .i64 r.1.n)), .t (.sl (r.1.ids.map rI)), .t (.sc (.int .i64 r.1.data.kind)), .t (.sc (.str r.1.data.name)), .t (.sc (.int .i64 r.1.data.n)), .t (.sl (r.1.data.scopes.map rI)), .t (.sl (r.1.data.kids.map Form.row)), .t (.sl (r.1.kids.map Core.row))]] Tryz.func83 rfl Tryz.ntmps83 ?_
 intro C hC
 refine awp_seq (awp_region ?_)
 refine s_box ?_
 refine s_alloc yZ36 ?_
 refine k_nil (k_seq (awp_seq (awp_region ?_)))
 refine s_ldW yA36 yS36 ?_
 obtain ⟨v1, hv1, hF1⟩ := bind_some' hF0
 refine s_call [(9204, 2008), (9210, 12008)] [] _ _ (m_spec_l6Copy_ok fu _ _ hv1) ?_
 refine s_alloc yZ36 ?_
 refine s_stW yS36 ?_
 refine k_nil (k_seq (awp_seq (awp_seq (awp_region ?_))))
 refine s_fa yF36_6 ?_
 refine s_ld1 yA34 ?_
 refine s_lenA yU34 ?_
 refine s_gt ?_
 refine s_mv ?_
 refine w_guard _ 13 hF1 ?_ ?_ <;> intro hc2 hF2
 refine s_mv ?_
 obtain ⟨v3, hv3, hF3⟩ := bind_some' hF2
 refine s_call [(9000, 9000)] [] _ _ (m_spec_l15Rd_pick_ok fu _ _ _ hv3) ?_
 refine s_gt ?_
 refine s_pkt ?_
 refine k_nil (k_seq ?_)
 refine w_cond hF3 ?_ ?_ <;> intro hc4 hF4
 refine awp_seq (awp_region ?_)
 refine s_mv ?_
 refine s_fa yF36_6 ?_
 refine s_ld1 yA34 ?_
 refine s_lenA yU34 ?_
 obtain ⟨v5, hv5, hF5⟩ := bind_some' hF4
 refine s_call [(9000, 9000)] [] _ _ (m_spec_l15Rd_pick_ok fu _ _ _ hv5) ?_
 refine s_as ?_
 refine k_nil (k_seq (awp_seq ?_))
 refine awp_draw yMix (by kernel_rfl) ?_
 refine s_fa yF36_6 ?_
 refine s_ld1 yA34 ?_
 refine s_mv ?_
 refine s_mv0 ?_
 refine s_fa yF36_6 ?_
 refine s_ld1 yA34 ?_
 refine s_mv ?_
 obtain ⟨v6, hv6, hF6⟩ := bind_some' hF5
 refine s_ixA Core.row hv6 yE34 ?_
 refine s_lAN Core.row hv6 (Core.row_eq _) yA36 yS36 ?_
 obtain ⟨v7, hv7, hF7⟩ := bind_some' hF6
 refine s_call [(9000, 9000)] [] _ _ (ih_m_spec_l6Mutate fu (by omega) _ _ _ hv7) ?_
 obtain ⟨v8, hv8, hF8⟩ := bind_some' hF7
 refine s_ixA Core.row hv8 yE34 ?_
 refine s_stA Core.row v7.1 hv8 (Core.row_eq _) (Core.row_eq _) yS36 yS36 ?_
 refine k_nilD (by kernel_rfl) ?_
 refine k_seq (awp_seq (awp_region ?_))
 refine s_ldW yA36 yS36 ?_
 refine s_stW yS36 ?_
 refine k_nil (k_seq (awp_ret (k_seq_ret (k_fin ?_))))
 cases hF8
 exact ends_gen _ [2008, 12008] (by rw [Tryz.results83]; exact (res_agg (by conv => lhs; whnf) (by conv => lhs; whnf) yA36 yS36 rfl res_nil))
 refine awp_skip (k_seq (awp_seq (awp_seq (awp_region ?_))))
 refine s_mv ?_
 obtain ⟨v9, hv9, hF5⟩ := bind_some' hF4
 refine s_call [(9000, 9000)] [] _ _ (m_spec_l15Rd_pick_ok fu _ _ _ hv9) ?_
 refine k_nil (k_seq (awp_block (awp_seq (awp_region ?_))))
 refine s_eq ?_
 refine s_as ?_
 refine k_nil (k_seq ?_)
 refine w_cond hF5 ?_ ?_ <;> intro hc10 hF6
 refine awp_region ?_
 refine s_mv ?_
 refine s_bs rI [0, 8, 3, 6] yP22 yR3 ?_
 obtain ⟨v11, hv11, hF7⟩ := bind_some' hF6
 refine s_call [(9000, 9000)] [40] _ _ (m_spec_l15Rd_num_ok fu _ _ _ hv11) ?_
 refine s_fa yF36_0 ?_
 refine s_stP yS3 ?_
 refine k_nil (k_blk (k_seq (awp_seq (awp_region ?_))))
 refine s_ldW yA36 yS36 ?_
 refine s_stW yS36 ?_
 refine k_nil (k_seq (awp_ret (k_fin ?_)))
 cases hF7
 exact ends_gen _ [2008, 12008] (by rw [Tryz.results83]; exact (res_agg (by conv => lhs; whnf) (by conv => lhs; whnf) yA36 yS36 rfl res_nil))
 refine awp_seq (awp_region ?_)
 refine s_eq ?_
 refine s_as ?_
 refine k_nil (k_seq ?_)
 refine w_cond hF6 ?_ ?_ <;> intro hc12 hF7
 refine awp_region ?_
 refine s_mv ?_
 refine s_bs rI [0, 1, 1000, 2] yP22 yR3 ?_
 obtain ⟨v13, hv13, hF8⟩ := bind_some' hF7
 refine s_call [(9000, 9000)] [46] _ _ (m_spec_l15Rd_num_ok fu _ _ _ hv13) ?_
 refine s_fa yF36_1 ?_
 refine s_stP yS3 ?_
 refine k_nil (k_blk (k_seq (awp_seq (awp_region ?_))))
 refine s_ldW yA36 yS36 ?_
 refine s_stW yS36 ?_
 refine k_nil (k_seq (awp_ret (k_fin ?_)))
 cases hF8
 exact ends_gen _ [2008, 12008] (by rw [Tryz.results83]; exact (res_agg (by conv => lhs; whnf) (by conv => lhs; whnf) yA36 yS36 rfl res_nil))
 refine awp_seq (awp_region ?_)
 refine s_eq ?_
 refine s_as ?_
 refine k_nil (k_seq ?_)
 refine w_cond hF7 ?_ ?_ <;> intro hc14 hF8
 refine awp_draw yMix (by kernel_rfl) ?_
 refine s_fa yF36_4 ?_
 refine s_ld1 yA22 ?_
 refine s_mv0 ?_
 refine s_bs rI [1, 900, 0] yP22 yR3 ?_
 obtain ⟨v15, hv15, hF9⟩ := bind_some' hF8
 refine s_call [(9000, 9000)] [54] _ _ (m_spec_l15Rd_num_ok fu _ _ _ hv15) ?_
 refine s_bs rI [v15.1] yP22 yR3 ?_
 obtain ⟨hk16, hF10⟩ := chk_some hF9
 refine s_apT rI (fun _ => rfl) hk16 yP22 ?_
 refine s_fa yF36_4 ?_
 refine s_stP yS22 ?_
 refine k_nilD (by kernel_rfl) ?_
 refine k_blk (k_seq (awp_seq (awp_region ?_)))
 refine s_ldW yA36 yS36 ?_
 refine s_stW yS36 ?_
 refine k_nil (k_seq (awp_ret (k_fin ?_)))
 cases hF10
 exact ends_gen _ [57, 12008] (by rw [Tryz.results83]; exact (res_agg (by conv => lhs; whnf) (by conv => lhs; whnf) yA36 yS36 rfl res_nil))
 refine awp_seq (awp_region ?_)
 refine s_eq ?_
 refine s_as ?_
 refine k_nil (k_seq ?_)
 refine w_cond hF8 ?_ ?_ <;> intro hc17 hF9
 refine awp_region ?_
 refine s_mv ?_
 refine s_bs rS [(⟨#[]⟩ : ByteArray), (⟨#[103]⟩ : ByteArray), (⟨#[65]⟩ : ByteArray)] yP50 yR9 ?_
 obtain ⟨v18, hv18, hF10⟩ := bind_some' hF9
 refine s_call [(9000, 9000)] [62] _ _ (m_spec_l15Rd_of_ok fu _ _ _ hv18) ?_
 refine s_fa yF36_2 ?_
 refine s_stP yS9 ?_
 refine k_nil (k_blk (k_seq (awp_seq (awp_region ?_))))
 refine s_ldW yA36 yS36 ?_
 refine s_stW yS36 ?_
 refine k_nil (k_seq (awp_ret (k_fin ?_)))
 cases hF10
 exact ends_gen _ [2008, 12008] (by rw [Tryz.results83]; exact (res_agg (by conv => lhs; whnf) (by conv => lhs; whnf) yA36 yS36 rfl res_nil))
 refine awp_skip (k_blk (k_seq (awp_seq (awp_region ?_))))
 refine s_ldW yA36 yS36 ?_
 refine s_stW yS36 ?_
 refine k_nil (k_seq (awp_ret (k_fin ?_)))
 cases hF9
 exact ends_gen _ [2008, 12008] (by rw [Tryz.results83]; exact (res_agg (by conv => lhs; whnf) (by conv => lhs; whnf) yA36 yS36 rfl res_nil))
 iterate 3 refine r_no rfl ?_
 refine s_pkf ?_
 refine k_nil (k_seq (awp_false rfl (awp_skip (k_seq (awp_seq (awp_seq (awp_region ?_)))))))
 refine s_mv ?_
 obtain ⟨v19, hv19, hF3⟩ := bind_some' hF2
 refine s_call [(9000, 9000)] [] _ _ (m_spec_l15Rd_pick_ok fu _ _ _ hv19) ?_
 refine k_nil (k_seq (awp_block (awp_seq (awp_region ?_))))
 refine s_eq ?_
 refine s_as ?_
 refine k_nil (k_seq ?_)
 refine w_cond hF3 ?_ ?_ <;> intro hc20 hF4
 refine awp_region ?_
 refine s_mv ?_
 refine s_bs rI [0, 8, 3, 6] yP22 yR3 ?_
 obtain ⟨v21, hv21, hF5⟩ := bind_some' hF4
 refine s_call [(9000, 9000)] [40] _ _ (m_spec_l15Rd_num_ok fu _ _ _ hv21) ?_
 refine s_fa yF36_0 ?_
 refine s_stP yS3 ?_
 refine k_nil (k_blk (k_seq (awp_seq (awp_region ?_))))
 refine s_ldW yA36 yS36 ?_
 refine s_stW yS36 ?_
 refine k_nil (k_seq (awp_ret (k_fin ?_)))
 cases hF5
 exact ends_gen _ [2008, 12008] (by rw [Tryz.results83]; exact (res_agg (by conv => lhs; whnf) (by conv => lhs; whnf) yA36 yS36 rfl res_nil))
 refine awp_seq (awp_region ?_)
 refine s_eq ?_
 refine s_as ?_
 refine k_nil (k_seq ?_)
 refine w_cond hF4 ?_ ?_ <;> intro hc22 hF5
 refine awp_region ?_
 refine s_mv ?_
 refine s_bs rI [0, 1, 1000, 2] yP22 yR3 ?_
 obtain ⟨v23, hv23, hF6⟩ := bind_some' hF5
 refine s_call [(9000, 9000)] [46] _ _ (m_spec_l15Rd_num_ok fu _ _ _ hv23) ?_
 refine s_fa yF36_1 ?_
 refine s_stP yS3 ?_
 refine k_nil (k_blk (k_seq (awp_seq (awp_region ?_))))
 refine s_ldW yA36 yS36 ?_
 refine s_stW yS36 ?_
 refine k_nil (k_seq (awp_ret (k_fin ?_)))
 cases hF6
 exact ends_gen _ [2008, 12008] (by rw [Tryz.results83]; exact (res_agg (by conv => lhs; whnf) (by conv => lhs; whnf) yA36 yS36 rfl res_nil))
 refine awp_seq (awp_region ?_)
 refine s_eq ?_
 refine s_as ?_
 refine k_nil (k_seq ?_)
 refine w_cond hF5 ?_ ?_ <;> intro hc24 hF6
 refine awp_draw yMix (by kernel_rfl) ?_
 refine s_fa yF36_4 ?_
 refine s_ld1 yA22 ?_
 refine s_mv0 ?_
 refine s_bs rI [1, 900, 0] yP22 yR3 ?_
 obtain ⟨v25, hv25, hF7⟩ := bind_some' hF6
 refine s_call [(9000, 9000)] [54] _ _ (m_spec_l15Rd_num_ok fu _ _ _ hv25) ?_
 refine s_bs rI [v25.1] yP22 yR3 ?_
 obtain ⟨hk26, hF8⟩ := chk_some hF7
 refine s_apT rI (fun _ => rfl) hk26 yP22 ?_
 refine s_fa yF36_4 ?_
 refine s_stP yS22 ?_
 refine k_nilD (by kernel_rfl) ?_
 refine k_blk (k_seq (awp_seq (awp_region ?_)))
 refine s_ldW yA36 yS36 ?_
 refine s_stW yS36 ?_
 refine k_nil (k_seq (awp_ret (k_fin ?_)))
 cases hF8
 exact ends_gen _ [57, 12008] (by rw [Tryz.results83]; exact (res_agg (by conv => lhs; whnf) (by conv => lhs; whnf) yA36 yS36 rfl res_nil))
 refine awp_seq (awp_region ?_)
 refine s_eq ?_
 refine s_as ?_
 refine k_nil (k_seq ?_)
 refine w_cond hF6 ?_ ?_ <;> intro hc27 hF7
 refine awp_region ?_
 refine s_mv ?_
 refine s_bs rS [(⟨#[]⟩ : ByteArray), (⟨#[103]⟩ : ByteArray), (⟨#[65]⟩ : ByteArray)] yP50 yR9 ?_
 obtain ⟨v28, hv28, hF8⟩ := bind_some' hF7
 refine s_call [(9000, 9000)] [62] _ _ (m_spec_l15Rd_of_ok fu _ _ _ hv28) ?_
 refine s_fa yF36_2 ?_
 refine s_stP yS9 ?_
 refine k_nil (k_blk (k_seq (awp_seq (awp_region ?_))))
 refine s_ldW yA36 yS36 ?_
 refine s_stW yS36 ?_
 refine k_nil (k_seq (awp_ret (k_fin ?_)))
 cases hF8
 exact ends_gen _ [2008, 12008] (by rw [Tryz.results83]; exact (res_agg (by conv => lhs; whnf) (by conv => lhs; whnf) yA36 yS36 rfl res_nil))
 refine awp_skip (k_blk (k_seq (awp_seq (awp_region ?_))))
 refine s_ldW yA36 yS36 ?_
 refine s_stW yS36 ?_
 refine k_nil (k_seq (awp_ret (k_fin ?_)))
 cases hF7
 exact ends_gen _ [2008, 12008] (by rw [Tryz.results83]; exact (res_agg (by conv => lhs; whnf) (by conv => lhs; whnf) yA36 yS36 rfl res_nil))
theorem m_spec_l6Mutate_all (fuel : Nat) : m_spec_l6Mutate_AC fuel := by
 induction fuel using Nat.strongRecOn with
 | _ N ih =>
   cases N with
   | zero => exact (by intro o1 x2 r h; rw [m_spec_l6Mutate] at h; cases h)
   | succ fu => exact m_spec_l6Mutate_st fu (fun k hk => (ih k (by omega)))
theorem m_spec_l6Mutate_ok (fuel : Nat) : m_spec_l6Mutate_AC fuel := (m_spec_l6Mutate_all fuel)
def m_spec_l6Draw_AC (fuel : Nat) : Prop := ∀ (x1 : (List Int)) (r : Core), m_spec_l6Draw fuel x1 = some r → AC Tryz.prog 51 [.t (.sl (x1.map rB))] noOb (.ag [.t (.sc (.int .i64 r.kind)), .t (.sc (.int .i64 r.id)), .t (.sc (.str r.name)), .t (.sc (.int .i64 r.n)), .t (.sl (r.ids.map rI)), .t (.sc (.int .i64 r.data.kind)), .t (.sc (.str r.data.name)), .t (.sc (.int .i64 r.data.n)), .t (.sl (r.data.scopes.map rI)), .t (.sl (r.data.kids.map Form.row)), .t (.sl (r.kids.map Core.row))]) noOb
theorem m_spec_l6Draw_ok (fuel : Nat) : m_spec_l6Draw_AC fuel := by
 intro x1 r hF0
 unfold m_spec_l6Draw at hF0
 refine AC_i [.ag [.t (.sc (.int .i64 r.kind)), .t (.sc (.int .i64 r.id)), .t (.sc (.str r.name)), .t (.sc (.int .i64 r.n)), .t (.sl (r.ids.map rI)), .t (.sc (.int .i64 r.data.kind)), .t (.sc (.str r.data.name)), .t (.sc (.int .i64 r.data.n)), .t (.sl (r.data.scopes.map rI)), .t (.sl (r.data.kids.map Form.row)), .t (.sl (r.kids.map Core.row))]] Tryz.func51 rfl Tryz.ntmps51 ?_
 intro C hC
 refine awp_seq (awp_region ?_)
 refine s_alloc yZ36 ?_
 refine k_nil (k_seq (awp_seq (awp_region ?_)))
 refine s_mv ?_
 obtain ⟨v1, hv1, hF1⟩ := bind_some' hF0
 refine s_call [(10, 7)] [] _ _ (m_spec_l15Open_ok fuel _ _ hv1) ?_
 refine s_as ?_
 refine k_nil (k_seq (awp_seq (awp_region ?_)))
 refine s_mv ?_
 refine s_bs rI ([] : List Int) yP22 yR3 ?_
 refine s_mv ?_
 refine s_bs rI [3, 4, 2] yP22 yR3 ?_
 obtain ⟨v2, hv2, hF2⟩ := bind_some' hF1
 refine s_call [(9000, 7)] [12] _ _ (m_spec_l15Rd_num_ok fuel _ _ _ hv2) ?_
 obtain ⟨v3, hv3, hF3⟩ := bind_some' hF2
 refine s_call [(9000, 7)] [10] _ _ (m_spec_l6Some_ok fuel _ _ _ _ _ hv3) ?_
 refine s_mv ?_
 refine s_ext ?_
 refine s_ext ?_
 refine s_alloc yZ36 ?_
 refine s_stW yS36 ?_
 refine s_as ?_
 refine k_nil (k_seq (awp_seq (awp_seq (awp_region ?_))))
 refine s_mv ?_
 obtain ⟨v4, hv4, hF4⟩ := bind_some' hF3
 refine s_call [(9000, 7)] [] _ _ (m_spec_l15Rd_pick_ok fuel _ _ _ hv4) ?_
 refine s_eq ?_
 refine k_nil (k_seq ?_)
 refine w_cond hF4 ?_ ?_ <;> intro hc5 hF5
 refine awp_seq (awp_region ?_)
 refine s_mv ?_
 refine s_mv ?_
 refine s_ldW yA36 yS36 ?_
 obtain ⟨v6, hv6, hF6⟩ := bind_some' hF5
 refine s_call [(9000, 7)] [] _ _ (m_spec_l6Mutate_ok fuel _ _ _ hv6) ?_
 obtain ⟨v7, hv7, hF7⟩ := bind_some' hF6
 refine s_call [(9000, 7)] [] _ _ (m_spec_l6Mutate_ok fuel _ _ _ hv7) ?_
 refine s_stW yS36 ?_
 refine k_nil (k_seq (awp_ret (k_seq_ret (k_fin ?_))))
 cases hF7
 exact ends_gen [] [] (by rw [Tryz.results51]; exact (res_agg (by conv => lhs; whnf) (by conv => lhs; whnf) yA36 yS36 rfl res_nil))
 refine awp_skip (k_seq (awp_seq (awp_region ?_)))
 refine s_ldW yA36 yS36 ?_
 refine s_stW yS36 ?_
 refine k_nil (k_seq (awp_ret (k_fin ?_)))
 cases hF5
 exact ends_gen [] [] (by rw [Tryz.results51]; exact (res_agg (by conv => lhs; whnf) (by conv => lhs; whnf) yA36 yS36 rfl res_nil))
def m_spec_l6Last_AC (fuel : Nat) : Prop := ∀ (x1 : (List Int)) (x2 : Int) (r : Int), m_spec_l6Last fuel x1 x2 = some r → AC Tryz.prog 92 [.t (.sl (x1.map rI)), .t (.sc (.int .i64 x2))] noOb (.t (.sc (.int .i64 r))) noOb
theorem m_spec_l6Last_ok (fuel : Nat) : m_spec_l6Last_AC fuel := by
 intro x1 x2 r hF0
 unfold m_spec_l6Last at hF0
 refine AC_i [.t (.sc (.int .i64 r))] Tryz.func92 rfl Tryz.ntmps92 ?_
 intro C hC
 refine awp_seq (awp_region ?_)
 refine s_as ?_
 refine k_nil (k_seq (awp_seq (awp_seq (awp_region ?_))))
 refine s_mv ?_
 refine s_lenT yU22 ?_
 refine s_sub rfl ?_
 refine s_as ?_
 refine k_nil (k_seq (awp_block ?_))
 refine awp_fr (β := Int) [4, 5, 9, 10, 11, 12, 13, 14, 15, 16, 17, 18, 19, 20, 21, 22, 23] [] [] (fun a => [(5, .t (.sc (.int .i64 a.2)))]) (fun a => []) (fun a => a.1 ≤ fuel ∧ m_spec_l6Last_l1 a.1 x1 x2 a.2 = some r) (fuel, (w64 ((x1.length : Int) - 1))) ⟨Nat.le_refl _, hF0⟩ ?_
 clear hF0
 rintro ⟨fu, g1⟩ ⟨hl2, hF1⟩
 dsimp only at hl2 hF1 ⊢
 obtain _ | fu := fu
 · rw [m_spec_l6Last_l1] at hF1; cases hF1
 rw [m_spec_l6Last_l1] at hF1
 refine awp_seq (awp_seq (awp_region ?_))
 refine s_mv ?_
 refine s_ge ?_
 refine k_nil (k_seq ?_)
 refine w_cond hF1 ?_ ?_ <;> intro hc3 hF2
 refine awp_skip (k_seq (awp_seq (awp_block (awp_seq (awp_region ?_)))))
 refine s_mv ?_
 refine s_mv ?_
 obtain ⟨v4, hv4, hF3⟩ := bind_some' hF2
 refine s_ixT rI hv4 rfl yE22 ?_
 refine s_ld1 yA3 ?_
 refine s_mv ?_
 refine s_eq ?_
 refine k_nil (k_seq ?_)
 refine w_cond hF3 ?_ ?_ <;> intro hc5 hF4
 refine awp_seq (awp_region ?_)
 refine s_mv ?_
 refine s_lenT yU22 ?_
 refine s_sub rfl ?_
 refine s_mv ?_
 refine s_sub rfl ?_
 refine s_as ?_
 refine k_nil (k_seq (awp_ret (k_blk_ret (k_seq_ret (k_rnd_ret2 (k_blk_ret (k_seq_ret (k_fin ?_))))))))
 cases hF4
 exact ends_a [] [] Tryz.results92
 refine awp_skip (k_blk (k_seq (awp_region ?_)))
 refine s_mv ?_
 refine s_sub rfl ?_
 refine s_as ?_
 refine k_nil ?_
 exact s_rn (fu, (w64 (g1 - 1))) ⟨by first | omega | (dsimp only; omega), hF4⟩
 refine awp_exit (k_seq_exit (k_rnd_exit2 (k_blk_exit (k_seq (awp_seq (awp_region ?_))))))
 refine s_as ?_
 refine k_nil (k_seq (awp_ret (k_fin ?_)))
 cases hF2
 exact ends_a [] [] Tryz.results92
def m_spec_l6Number_AC (fuel : Nat) : Prop := ∀ (x1 : Core) (x2 : (List Int)) (x3 : (List Int)) (x4 : Int) (r : (Core × Int)), m_spec_l6Number fuel x1 x2 x3 x4 = some r → AC Tryz.prog 116 [.ag [.t (.sc (.int .i64 x1.kind)), .t (.sc (.int .i64 x1.id)), .t (.sc (.str x1.name)), .t (.sc (.int .i64 x1.n)), .t (.sl (x1.ids.map rI)), .t (.sc (.int .i64 x1.data.kind)), .t (.sc (.str x1.data.name)), .t (.sc (.int .i64 x1.data.n)), .t (.sl (x1.data.scopes.map rI)), .t (.sl (x1.data.kids.map Form.row)), .t (.sl (x1.kids.map Core.row))], .t (.sl (x2.map rI)), .t (.sl (x3.map rI)), .t (.sc (.int .i64 x4))] noOb (.tp [.ag [.t (.sc (.int .i64 r.1.kind)), .t (.sc (.int .i64 r.1.id)), .t (.sc (.str r.1.name)), .t (.sc (.int .i64 r.1.n)), .t (.sl (r.1.ids.map rI)), .t (.sc (.int .i64 r.1.data.kind)), .t (.sc (.str r.1.data.name)), .t (.sc (.int .i64 r.1.data.n)), .t (.sl (r.1.data.scopes.map rI)), .t (.sl (r.1.data.kids.map Form.row)), .t (.sl (r.1.kids.map Core.row))], .t (.sc (.int .i64 r.2))]) noOb
theorem m_spec_l6Number_st (fu : Nat) (ih_m_spec_l6Number : ∀ k, k ≤ fu → m_spec_l6Number_AC k) : m_spec_l6Number_AC (fu + 1) := by
 intro x1 x2 x3 x4 r hF0
 rw [m_spec_l6Number] at hF0
 refine AC_i [.ag [.t (.sc (.int .i64 r.1.kind)), .t (.sc (.int .i64 r.1.id)), .t (.sc (.str r.1.name)), .t (.sc (.int .i64 r.1.n)), .t (.sl (r.1.ids.map rI)), .t (.sc (.int .i64 r.1.data.kind)), .t (.sc (.str r.1.data.name)), .t (.sc (.int .i64 r.1.data.n)), .t (.sl (r.1.data.scopes.map rI)), .t (.sl (r.1.data.kids.map Form.row)), .t (.sl (r.1.kids.map Core.row))], .t (.sc (.int .i64 r.2))] Tryz.func116 rfl Tryz.ntmps116 ?_
 intro C hC
 refine awp_seq (awp_region ?_)
 refine s_box ?_
 refine s_alloc yZ36 ?_
 refine s_as ?_
 refine k_nil (k_seq (awp_seq ?_))
 refine awp_draw yMix (by kernel_rfl) ?_
 refine s_fa yF36_0 ?_
 refine s_ld1 yA3 ?_
 refine s_fa yF36_2 ?_
 refine s_ld1 yA9 ?_
 refine s_fa yF36_3 ?_
 refine s_ld1 yA3 ?_
 refine s_fa yF36_5 ?_
 refine s_ldN yA33 yS33 ?_
 obtain ⟨v1, hv1, hF1⟩ := bind_some' hF0
 refine s_call [(9203, 2023), (9204, 12023)] [] _ _ (m_spec_l1Copy_ok fu _ _ hv1) ?_
 refine s_bld yZ36 yL36 ?_
 refine s_alloc yZ36 ?_
 refine s_stW yS36 ?_
 refine k_nilD (by kernel_rfl) ?_
 refine k_seq ?_
 refine awp_jn (α := Nat × Int) [25, 26, 27, 28, 29, 30, 31, 32, 33, 34, 35, 36, 37, 38, 39] [10] [] (fun a => []) (fun a => [(10, .box [.t (.sc (.int .i64 x1.kind)), .t (.sc (.int .i64 a.2)), .t (.sc (.str x1.name)), .t (.sc (.int .i64 x1.n)), .nl, .t (.sc (.int .i64 v1.kind)), .t (.sc (.str v1.name)), .t (.sc (.int .i64 v1.n)), .ar 2023, .ar 12023, .nl])]) (fun a => a.1 ≤ fu ∧ m_spec_l6Number_j1 a.1 x1 x2 x3 x4 v1 a.2 = some r) ?_ ?_
 refine awp_seq (awp_region ?_)
 refine s_fa yF36_0 ?_
 refine s_ld1 yA3 ?_
 refine s_eq ?_
 refine k_nil (k_seq ?_)
 refine w_cond hF1 ?_ ?_ <;> intro hc2 hF2
 refine awp_region ?_
 refine s_mv ?_
 refine s_mv ?_
 refine s_lenT yU22 ?_
 refine s_sub rfl ?_
 refine s_mv ?_
 refine s_fa yF36_1 ?_
 refine s_ld1 yA3 ?_
 obtain ⟨v3, hv3, hF3⟩ := bind_some' hF2
 refine s_pure [] (m_spec_l6Last_ok fu _ _ _ hv3) ?_
 refine s_sub rfl ?_
 obtain ⟨v4, hv4, hF4⟩ := bind_some' hF3
 refine s_ixT rI hv4 rfl yE22 ?_
 refine s_ld1 yA3 ?_
 refine s_fa yF36_1 ?_
 refine s_stP yS3 ?_
 refine k_nil ?_
 exact s_jn (fu, v4) ⟨by first | omega | (dsimp only; omega), hF4⟩
 refine awp_skip ?_
 exact s_jn (fu, 0) ⟨by first | omega | (dsimp only; omega), hF2⟩
 clear hF1
 rintro ⟨fu, g5⟩ ⟨hl6, hF2⟩
 dsimp only at hl6 hF2 ⊢
 obtain _ | fu := fu
 · rw [m_spec_l6Number_j1] at hF2; cases hF2
 rw [m_spec_l6Number_j1] at hF2
 refine awp_jn (α := Nat × (List Int) × (List Int) × Int × (List Int)) [1, 2, 3, 11, 40, 41, 42, 43, 44, 45, 46, 47, 48, 49, 50, 51, 52, 53, 54, 55, 56, 57, 58, 59, 60, 61, 62, 63, 64, 65, 66, 67, 68, 69, 70] [10, 5060] [] (fun a => [(1, .t (.sl (a.2.1.map rI))), (2, .t (.sl (a.2.2.1.map rI))), (3, .t (.sc (.int .i64 a.2.2.2.1)))]) (fun a => [(10, .box [.t (.sc (.int .i64 x1.kind)), .t (.sc (.int .i64 g5)), .t (.sc (.str x1.name)), .t (.sc (.int .i64 x1.n)), .ar 5060, .t (.sc (.int .i64 v1.kind)), .t (.sc (.str v1.name)), .t (.sc (.int .i64 v1.n)), .ar 2023, .ar 12023, .nl]), (5060, .arr (a.2.2.2.2.map rI) 3 true)]) (fun a => a.1 ≤ fu ∧ m_spec_l6Number_j2 a.1 x1 v1 g5 a.2.1 a.2.2.1 a.2.2.2.1 a.2.2.2.2 = some r) ?_ ?_
 refine awp_seq (awp_region ?_)
 refine s_as ?_
 refine k_nil (k_seq (awp_block ?_))
 refine awp_ownB 10 5060 3 [.t (.sc (.int .i64 x1.kind)), .t (.sc (.int .i64 g5)), .t (.sc (.str x1.name)), .t (.sc (.int .i64 x1.n)), .ar 5060, .t (.sc (.int .i64 v1.kind)), .t (.sc (.str v1.name)), .t (.sc (.int .i64 v1.n)), .ar 2023, .ar 12023, .nl] yI3.choose_spec ?_
 refine awp_frame2 [1, 2, 3, 11, 40, 41, 42, 43, 44, 45, 46, 47, 48, 49, 50, 51, 52, 53, 54, 55, 56, 57, 58, 59, 60, 61, 62, 63, 64, 65, 66, 67, 68, 69, 70] [10, 5060] [52, 53, 55, 57, 63, 64, 65, 67, 69, 70] [5060] (fun a : Nat × (List Int) × (List Int) × Int × Int × (List Int) => a.1) (fun a : Nat × (List Int) × (List Int) × Int × Int × (List Int) => [(1, .t (.sl (a.2.1.map rI))), (2, .t (.sl (a.2.2.1.map rI))), (3, .t (.sc (.int .i64 a.2.2.2.1))), (11, .t (.sc (.int .i64 a.2.2.2.2.1)))]) (fun a : Nat × (List Int) × (List Int) × Int × Int × (List Int) => [(10, .box [.t (.sc (.int .i64 x1.kind)), .t (.sc (.int .i64 g5)), .t (.sc (.str x1.name)), .t (.sc (.int .i64 x1.n)), .ar 5060, .t (.sc (.int .i64 v1.kind)), .t (.sc (.str v1.name)), .t (.sc (.int .i64 v1.n)), .ar 2023, .ar 12023, .nl]), (5060, .arr (a.2.2.2.2.2.map rI) 3 true)]) (fun a : Nat × (List Int) × (List Int) × Int × Int × (List Int) => a.1 ≤ fu ∧ m_spec_l6Number_l3 a.1 x1 v1 g5 a.2.1 a.2.2.1 a.2.2.2.1 a.2.2.2.2.1 a.2.2.2.2.2 = some r ∧ 0 ≤ a.2.2.2.2.1) (fu, x2, x3, x4, 0, ([] : List Int)) ⟨Nat.le_refl _, hF2, by simp⟩ (by rfl) (by rfl) (fun _ => rfl) (hasF_cons (by conv => lhs; whnf) (by rfl) (hasF_cons (by conv => lhs; whnf) (by rfl) (hasF_cons (by conv => lhs; whnf) (by rfl) (hasF_cons (by conv => lhs; whnf) (by rfl) hasF_nil)))) (hasO_cons (by conv => lhs; whnf) (by rfl) (hasO_cons (by conv => lhs; whnf) (by rfl) hasO_nil)) (fresh_C hC rfl) (by repeat (first | exact freshS_args rfl | refine freshS_upd rfl ?_ | refine freshS_frame rfl ?_)) (by repeat (first | exact freshM_no | exact objs_fresh rfl | refine freshM_upd rfl ?_ | refine freshM_frame rfl ?_)) ?_
 clear hF2
 rintro ⟨fu, g7, g8, g9, g10, g11⟩ ⟨hl12, hF3, hn_g10⟩
 dsimp only at hl12 hF3 hn_g10 ⊢
 obtain _ | fu := fu
 · rw [m_spec_l6Number_l3] at hF3; cases hF3
 rw [m_spec_l6Number_l3] at hF3
 refine awp_seq (awp_seq (awp_region ?_))
 refine s_mv ?_
 refine s_fa yF36_4 ?_
 refine s_ld1 yA22 ?_
 refine s_lenT yU22 ?_
 refine s_lt ?_
 refine k_nil (k_seq ?_)
 refine w_cond hF3 ?_ ?_ <;> intro hc13 hF4
 refine awp_lenT 42 (fun hb14 => ?_)
 refine awp_skip (k_seq (awp_seq (awp_block (awp_seq (awp_region ?_)))))
 refine s_mv ?_
 refine s_add rfl ?_
 refine s_as ?_
 refine k_nil (k_seq (awp_seq (awp_region ?_)))
 refine s_fa yF36_4 ?_
 refine s_ld1 yA22 ?_
 refine s_mv ?_
 refine s_bs rI [(w64 (g9 + 1))] yP22 yR3 ?_
 obtain ⟨hk15, hF5⟩ := chk_some hF4
 refine s_apT rI (fun _ => rfl) hk15 yP22 ?_
 refine s_fa yF36_4 ?_
 refine s_stP yS22 ?_
 refine k_nil (k_seq (awp_seq ?_))
 refine awp_draw yMix (by kernel_rfl) ?_
 refine s_bs rI ([] : List Int) yP22 yR3 ?_
 refine s_mv ?_
 obtain ⟨hk16, hF6⟩ := chk_some hF5
 refine s_apT rI (fun _ => rfl) hk16 yP22 ?_
 refine s_fa yF36_4 ?_
 refine s_ld1 yA22 ?_
 refine s_mv ?_
 obtain ⟨v17, hv17, hF7⟩ := bind_some' hF6
 refine s_ixT rI hv17 rfl yE22 ?_
 refine s_ld1 yA3 ?_
 refine s_bs rI [v17] yP22 yR3 ?_
 obtain ⟨hk18, hF8⟩ := chk_some hF7
 refine s_apT rI (fun _ => rfl) hk18 yP22 ?_
 refine s_as ?_
 refine k_nilD (by kernel_rfl) ?_
 refine k_seq ?_
 refine awp_pz 1 ?_
 refine awp_region ?_
 refine s_bs rI ([] : List Int) yP22 yR3 ?_
 refine s_mv ?_
 obtain ⟨hk19, hF9⟩ := chk_some hF8
 refine s_apT rI (fun _ => rfl) hk19 yP22 ?_
 refine s_mv ?_
 refine s_bs rI [(w64 (g9 + 1))] yP22 yR3 ?_
 obtain ⟨hk20, hF10⟩ := chk_some hF9
 refine s_apT rI (fun _ => rfl) hk20 yP22 ?_
 refine s_as ?_
 refine k_nil (k_blk (k_seq ?_))
 refine awp_pz 2 ?_
 refine awp_region ?_
 refine s_mv ?_
 refine s_add (winc2 hc13 hb14 hn_g10) ?_
 refine s_as ?_
 refine k_nil ?_
 exact s_rn (fu, ((([] : List Int) ++ g7) ++ [v17]), ((([] : List Int) ++ g8) ++ [(w64 (g9 + 1))]), (w64 (g9 + 1)), (g10 + 1), (g11 ++ [(w64 (g9 + 1))])) ⟨by first | omega | (dsimp only; omega), hF10, by first | omega | (dsimp only; omega)⟩ [(5060, 53)]
 refine awp_exit (k_seq_exit (k_rnd_exit2 (k_blk_exit ?_)))
 exact s_jn (fu, g7, g8, g9, g11) ⟨by first | omega | (dsimp only; omega), hF4⟩
 clear hF2
 rintro ⟨fu, g21, g22, g23, g24⟩ ⟨hl25, hF3⟩
 dsimp only at hl25 hF3 ⊢
 obtain _ | fu := fu
 · rw [m_spec_l6Number_j2] at hF3; cases hF3
 rw [m_spec_l6Number_j2] at hF3
 refine awp_seq (awp_seq (awp_region ?_))
 refine s_as ?_
 refine k_nil (k_seq (awp_block ?_))
 refine awp_ownB 10 5080 36 [.t (.sc (.int .i64 x1.kind)), .t (.sc (.int .i64 g5)), .t (.sc (.str x1.name)), .t (.sc (.int .i64 x1.n)), .ar 5060, .t (.sc (.int .i64 v1.kind)), .t (.sc (.str v1.name)), .t (.sc (.int .i64 v1.n)), .ar 2023, .ar 12023, .ar 5080] yI36.choose_spec ?_
 refine awp_frame2 [3, 12, 13, 14, 71, 72, 73, 74, 75, 76, 77, 78, 79, 80, 81, 82, 83, 84, 85, 86, 87, 88, 89, 90, 91, 92, 93, 94, 95, 96] [10, 5080] [13, 94, 95] [5080] (fun a : Nat × Int × Int × (List Core) => a.1) (fun a : Nat × Int × Int × (List Core) => [(3, .t (.sc (.int .i64 a.2.1))), (12, .t (.sc (.int .i64 a.2.2.1)))]) (fun a : Nat × Int × Int × (List Core) => [(10, .box [.t (.sc (.int .i64 x1.kind)), .t (.sc (.int .i64 g5)), .t (.sc (.str x1.name)), .t (.sc (.int .i64 x1.n)), .ar 5060, .t (.sc (.int .i64 v1.kind)), .t (.sc (.str v1.name)), .t (.sc (.int .i64 v1.n)), .ar 2023, .ar 12023, .ar 5080]), (5080, .arr (a.2.2.2.map Core.row) 36 true)]) (fun a : Nat × Int × Int × (List Core) => a.1 ≤ fu ∧ m_spec_l6Number_l4 a.1 x1 v1 g5 g21 g22 g24 a.2.1 a.2.2.1 a.2.2.2 = some r ∧ 0 ≤ a.2.2.1) (fu, g23, 0, ([] : List Core)) ⟨Nat.le_refl _, hF3, by simp⟩ (by rfl) (by rfl) (fun _ => rfl) (hasF_cons (by conv => lhs; whnf) (by rfl) (hasF_cons (by conv => lhs; whnf) (by rfl) hasF_nil)) (hasO_cons (by conv => lhs; whnf) (by rfl) (hasO_cons (by conv => lhs; whnf) (by rfl) hasO_nil)) (fresh_C hC rfl) (by repeat (first | exact freshS_args rfl | refine freshS_upd rfl ?_ | refine freshS_frame rfl ?_)) (by repeat (first | exact freshM_no | exact objs_fresh rfl | refine freshM_upd rfl ?_ | refine freshM_frame rfl ?_)) ?_
 clear hF3
 rintro ⟨fu, g26, g27, g28⟩ ⟨hl29, hF4, hn_g27⟩
 dsimp only at hl29 hF4 hn_g27 ⊢
 obtain _ | fu := fu
 · rw [m_spec_l6Number_l4] at hF4; cases hF4
 rw [m_spec_l6Number_l4] at hF4
 refine awp_seq (awp_seq (awp_region ?_))
 refine s_mv ?_
 refine s_fa yF36_6 ?_
 refine s_ld1 yA34 ?_
 refine s_lenT yU34 ?_
 refine s_lt ?_
 refine k_nil (k_seq ?_)
 refine w_cond hF4 ?_ ?_ <;> intro hc30 hF5
 refine awp_lenT 73 (fun hb31 => ?_)
 refine awp_skip (k_seq (awp_seq (awp_block (awp_seq (awp_region ?_)))))
 refine s_fa yF36_6 ?_
 refine s_ld1 yA34 ?_
 refine s_mv ?_
 obtain ⟨v32, hv32, hF6⟩ := bind_some' hF5
 refine s_ixT Core.row hv32 (Core.row_eq _) yE34 ?_
 refine s_ldN yA36 yS36 ?_
 iterate 3 refine s_mv ?_
 obtain ⟨v33, hv33, hF7⟩ := bind_some' hF6
 refine s_pure [] (ih_m_spec_l6Number fu (by omega) _ _ _ _ _ hv33) ?_
 refine s_mv ?_
 refine s_ext ?_
 refine s_ext ?_
 refine s_alloc yZ36 ?_
 refine s_stW yS36 ?_
 refine s_as ?_
 refine k_nil (k_seq (awp_seq (awp_region ?_)))
 refine s_mv ?_
 refine s_as ?_
 refine k_nil (k_seq (awp_region ?_))
 refine s_fa yF36_6 ?_
 refine s_ld1 yA34 ?_
 refine s_ldW yA36 yS36 ?_
 refine s_bs Core.row [v33.1] yP34 yR36 ?_
 obtain ⟨hk34, hF8⟩ := chk_some hF7
 refine s_apT Core.row (fun y => Core.row_len y) hk34 yP34 ?_
 refine s_fa yF36_6 ?_
 refine s_stP yS34 ?_
 refine k_nil (k_blk (k_seq (awp_region ?_)))
 refine s_mv ?_
 refine s_add (winc2 hc30 hb31 hn_g27) ?_
 refine s_as ?_
 refine k_nil ?_
 exact s_rn (fu, v33.2, (g27 + 1), (g28 ++ [v33.1])) ⟨by first | omega | (dsimp only; omega), hF8, by first | omega | (dsimp only; omega)⟩ [(5080, 95)]
 refine awp_exit (k_seq_exit (k_rnd_exit2 (k_blk_exit (k_seq (awp_seq (awp_region ?_))))))
 refine s_ldW yA36 yS36 ?_
 refine s_mv ?_
 refine s_stW yS36 ?_
 refine s_as ?_
 refine k_nil (k_seq (awp_ret (k_fin ?_)))
 cases hF5
 exact ends_gen [] [5060, 2023, 12023, 5080] (by rw [Tryz.results116]; exact (res_agg (by conv => lhs; whnf) (by conv => lhs; whnf) yA36 yS36 rfl (res_tmp (by conv => lhs; whnf) res_nil)))
end Go.Abs
