/- A part of the proof: what the functions that the law calls answer, as pure values. -/
import Derived.Test.YtehdhaaopmihaaaGreatDoorK0fde71595f57
import Derived.Test.YtehdhaaopmihaaaGreatDoorK6308826bfdce
import Derived.Test.YtehdhaaopmihaaaGreatDoorK71dc5ada3beb
import Derived.Test.YtehdhaaopmihaaaGreatDoorK90ecab317ca0
import Derived.Test.YtehdhaaopmihaaaGreatDoorK98906b43c573
import Derived.Test.YtehdhaaopmihaaaGreatDoorKd19899f98c41
set_option linter.unusedSimpArgs false
set_option linter.unusedVariables false
set_option maxRecDepth 100000
set_option maxHeartbeats 4000000
namespace Go.Abs
open Go.Proofs
def m_slices_Contains_string_AC (fuel : Nat) : Prop := ∀ (x1 : (List ByteArray)) (x2 : ByteArray) (r : Bool), m_slices_Contains_string fuel x1 x2 = some r → AC Tryz.prog 94 [.t (.sl (x1.map rS)), .t (.sc (.str x2))] noOb (.t (.sc (.bool r))) noOb
theorem m_slices_Contains_string_ok (fuel : Nat) : m_slices_Contains_string_AC fuel := by
 intro x1 x2 r hF0
 unfold m_slices_Contains_string at hF0
 refine AC_i [.t (.sc (.bool r))] Tryz.func94 rfl Tryz.ntmps94 ?_
 intro C hC
 refine awp_seq (awp_region ?_)
 refine s_as ?_
 refine k_nil (k_seq (awp_seq (awp_region ?_)))
 refine s_mv ?_
 refine s_mv ?_
 obtain ⟨v1, hv1, hF1⟩ := bind_some' hF0
 refine s_pure [] (m_slices_Index_string_ok fuel _ _ _ hv1) ?_
 refine s_ge ?_
 refine s_as ?_
 refine k_nil (k_seq (awp_ret (k_fin ?_)))
 cases hF1
 exact ends_a [] [] Tryz.results94
def m_impl_freeOf_f_AC (fuel : Nat) : Prop := ∀ (x1 : Core) (x2 : (List ByteArray)) (r : (List ByteArray)), m_impl_freeOf_f fuel x1 x2 = some r → AC Tryz.prog 56 [.ag [.t (.sc (.int .i64 x1.kind)), .t (.sc (.int .i64 x1.id)), .t (.sc (.str x1.name)), .t (.sc (.int .i64 x1.n)), .t (.sl (x1.ids.map rI)), .t (.sc (.int .i64 x1.data.kind)), .t (.sc (.str x1.data.name)), .t (.sc (.int .i64 x1.data.n)), .t (.sl (x1.data.scopes.map rI)), .t (.sl (x1.data.kids.map Form.row)), .t (.sl (x1.kids.map Core.row))], .ar 9301] (objs [(9301, .arr (x2.map rS) 9 false)]) (.ar 9200) (objs [(9301, .dead), (9200, .arr (r.map rS) 9 false)])
theorem m_impl_freeOf_f_st (fu : Nat) (ih_m_impl_freeOf_f : ∀ k, k ≤ fu → m_impl_freeOf_f_AC k) : m_impl_freeOf_f_AC (fu + 1) := by
 intro x1 x2 r hF0
 rw [m_impl_freeOf_f] at hF0
 refine AC_i [.ar 9200] Tryz.func56 rfl Tryz.ntmps56 ?_
 intro C hC
 refine awp_seq (awp_region ?_)
 refine s_box ?_
 refine s_as ?_
 refine k_nil (k_seq (awp_seq (awp_seq (awp_region ?_))))
 refine s_fa yF36_0 ?_
 refine s_ld1 yA3 ?_
 refine s_eq ?_
 refine s_mv ?_
 refine w_guard _ 10 hF0 ?_ ?_ <;> intro hc1 hF1
 refine s_mv ?_
 refine s_fa yF36_2 ?_
 refine s_ld1 yA9 ?_
 obtain ⟨v2, hv2, hF2⟩ := bind_some' hF1
 refine s_pure [9301] (m_slices_Contains_string_ok fu _ _ _ hv2) ?_
 refine s_not ?_
 refine s_pkt ?_
 refine k_nil (k_seq ?_)
 refine w_cond hF2 ?_ ?_ <;> intro hc3 hF3
 refine awp_region ?_
 refine s_mv ?_
 refine s_fa yF36_2 ?_
 refine s_ld1 yA9 ?_
 refine s_bs rS [x1.name] yP50 yR9 ?_
 obtain ⟨hk4, hF4⟩ := chk_some hF3
 refine s_apF rS (fun _ => rfl) hk4 yP50 ?_
 refine s_as ?_
 refine k_nil (k_seq (awp_seq (awp_seq (awp_region ?_))))
 refine s_fa yF36_6 ?_
 refine s_ld1 yA34 ?_
 refine s_lenT yU34 ?_
 refine s_mv ?_
 refine k_nil (k_seq (awp_block ?_))
 refine awp_mv 1 21 5020 (by conv => lhs; whnf) (by conv => lhs; whnf) rfl ?_
 refine awp_frame2 [1, 6, 25, 26, 27, 28, 29, 30, 31, 32] [5020] [6, 12031] [5020] (fun a : Nat × (List ByteArray) × Int => a.1) (fun a : Nat × (List ByteArray) × Int => [(1, .ar 5020), (25, .t (.sc (.int .i64 a.2.2)))]) (fun a : Nat × (List ByteArray) × Int => [(5020, .arr (a.2.1.map rS) 9 false)]) (fun a : Nat × (List ByteArray) × Int => a.1 ≤ fu ∧ m_impl_freeOf_f_l1 a.1 x1 a.2.1 a.2.2 = some r ∧ 0 ≤ a.2.2) (fu, (x2 ++ [x1.name]), 0) ⟨Nat.le_refl _, hF4, by simp⟩ (by rfl) (by rfl) (fun _ => rfl) (hasF_cons (by conv => lhs; whnf) (by rfl) (hasF_cons (by conv => lhs; whnf) (by rfl) hasF_nil)) (hasO_cons (by conv => lhs; whnf) (by rfl) hasO_nil) (fresh_C hC rfl) (by repeat (first | exact freshS_args rfl | refine freshS_upd rfl ?_ | refine freshS_frame rfl ?_)) (by repeat (first | exact freshM_no | exact objs_fresh rfl | refine freshM_upd rfl ?_ | refine freshM_frame rfl ?_)) ?_
 clear hF4
 rintro ⟨fu, g5, g6⟩ ⟨hl7, hF5, hn_g6⟩
 dsimp only at hl7 hF5 hn_g6 ⊢
 obtain _ | fu := fu
 · rw [m_impl_freeOf_f_l1] at hF5; cases hF5
 rw [m_impl_freeOf_f_l1] at hF5
 refine awp_seq (awp_region ?_)
 refine s_lt ?_
 refine k_nil (k_seq (awp_seq ?_))
 refine w_cond hF5 ?_ ?_ <;> intro hc8 hF6
 refine awp_lenT 23 (fun hb9 => ?_)
 refine awp_skip (k_seq (awp_seq (awp_block (awp_seq (awp_region ?_)))))
 obtain ⟨v10, hv10, hF7⟩ := bind_some' hF6
 refine s_ixT Core.row hv10 (Core.row_eq _) yE34 ?_
 refine s_ldN yA36 yS36 ?_
 refine s_alloc yZ36 ?_
 refine s_stW yS36 ?_
 refine k_nil (k_seq (awp_region ?_))
 refine s_ldW yA36 yS36 ?_
 refine s_mv ?_
 obtain ⟨v11, hv11, hF8⟩ := bind_some' hF7
 refine s_call [(9301, 5020), (9200, 12031)] [] _ _ (ih_m_impl_freeOf_f fu (by omega) _ _ _ hv11) ?_
 refine s_as ?_
 refine k_nil (k_blk (k_seq (awp_region ?_)))
 refine s_add (winc2 hc8 hb9 hn_g6) ?_
 refine s_mv ?_
 refine k_nil ?_
 exact s_rn (fu, v11, (g6 + 1)) ⟨by first | omega | (dsimp only; omega), hF8, by first | omega | (dsimp only; omega)⟩ [(5020, 12031)]
 refine awp_exit (k_seq_exit (k_rnd_exit2 (k_blk_exit (k_seq (awp_seq (awp_region ?_))))))
 refine s_mv ?_
 refine s_as ?_
 refine k_nil (k_seq ?_)
 refine awp_mv 4 5020 9200 (by conv => lhs; whnf) (by conv => lhs; whnf) rfl ?_
 refine awp_kill 9301 rfl ?_
 refine awp_ret (k_fin ?_)
 cases hF6
 exact ends_a _ [] Tryz.results56
 refine awp_skip (k_seq (awp_seq (awp_seq (awp_region ?_))))
 refine s_fa yF36_6 ?_
 refine s_ld1 yA34 ?_
 refine s_lenT yU34 ?_
 refine s_mv ?_
 refine k_nil (k_seq (awp_block ?_))
 refine awp_mv 1 9301 5040 (by conv => lhs; whnf) (by conv => lhs; whnf) rfl ?_
 refine awp_frame2 [1, 6, 25, 26, 27, 28, 29, 30, 31, 32] [5040] [6, 12031] [5040] (fun a : Nat × (List ByteArray) × Int => a.1) (fun a : Nat × (List ByteArray) × Int => [(1, .ar 5040), (25, .t (.sc (.int .i64 a.2.2)))]) (fun a : Nat × (List ByteArray) × Int => [(5040, .arr (a.2.1.map rS) 9 false)]) (fun a : Nat × (List ByteArray) × Int => a.1 ≤ fu ∧ m_impl_freeOf_f_l1 a.1 x1 a.2.1 a.2.2 = some r ∧ 0 ≤ a.2.2) (fu, x2, 0) ⟨Nat.le_refl _, hF3, by simp⟩ (by rfl) (by rfl) (fun _ => rfl) (hasF_cons (by conv => lhs; whnf) (by rfl) (hasF_cons (by conv => lhs; whnf) (by rfl) hasF_nil)) (hasO_cons (by conv => lhs; whnf) (by rfl) hasO_nil) (fresh_C hC rfl) (by repeat (first | exact freshS_args rfl | refine freshS_upd rfl ?_ | refine freshS_frame rfl ?_)) (by repeat (first | exact freshM_no | exact objs_fresh rfl | refine freshM_upd rfl ?_ | refine freshM_frame rfl ?_)) ?_
 clear hF3
 rintro ⟨fu, g12, g13⟩ ⟨hl14, hF4, hn_g13⟩
 dsimp only at hl14 hF4 hn_g13 ⊢
 obtain _ | fu := fu
 · rw [m_impl_freeOf_f_l1] at hF4; cases hF4
 rw [m_impl_freeOf_f_l1] at hF4
 refine awp_seq (awp_region ?_)
 refine s_lt ?_
 refine k_nil (k_seq (awp_seq ?_))
 refine w_cond hF4 ?_ ?_ <;> intro hc15 hF5
 refine awp_lenT 23 (fun hb16 => ?_)
 refine awp_skip (k_seq (awp_seq (awp_block (awp_seq (awp_region ?_)))))
 obtain ⟨v17, hv17, hF6⟩ := bind_some' hF5
 refine s_ixT Core.row hv17 (Core.row_eq _) yE34 ?_
 refine s_ldN yA36 yS36 ?_
 refine s_alloc yZ36 ?_
 refine s_stW yS36 ?_
 refine k_nil (k_seq (awp_region ?_))
 refine s_ldW yA36 yS36 ?_
 refine s_mv ?_
 obtain ⟨v18, hv18, hF7⟩ := bind_some' hF6
 refine s_call [(9301, 5040), (9200, 12031)] [] _ _ (ih_m_impl_freeOf_f fu (by omega) _ _ _ hv18) ?_
 refine s_as ?_
 refine k_nil (k_blk (k_seq (awp_region ?_)))
 refine s_add (winc2 hc15 hb16 hn_g13) ?_
 refine s_mv ?_
 refine k_nil ?_
 exact s_rn (fu, v18, (g13 + 1)) ⟨by first | omega | (dsimp only; omega), hF7, by first | omega | (dsimp only; omega)⟩ [(5040, 12031)]
 refine awp_exit (k_seq_exit (k_rnd_exit2 (k_blk_exit (k_seq (awp_seq (awp_region ?_))))))
 refine s_mv ?_
 refine s_as ?_
 refine k_nil (k_seq ?_)
 refine awp_mv 4 5040 9200 (by conv => lhs; whnf) (by conv => lhs; whnf) rfl ?_
 refine awp_ret (k_fin ?_)
 cases hF5
 exact ends_a _ [] Tryz.results56
 iterate 5 refine r_no rfl ?_
 refine s_pkf ?_
 refine k_nil (k_seq (awp_false rfl (awp_skip (k_seq (awp_seq (awp_seq (awp_region ?_)))))))
 refine s_fa yF36_6 ?_
 refine s_ld1 yA34 ?_
 refine s_lenT yU34 ?_
 refine s_mv ?_
 refine k_nil (k_seq (awp_block ?_))
 refine awp_mv 1 9301 5060 (by conv => lhs; whnf) (by conv => lhs; whnf) rfl ?_
 refine awp_frame2 [1, 6, 25, 26, 27, 28, 29, 30, 31, 32] [5060] [6, 12031] [5060] (fun a : Nat × (List ByteArray) × Int => a.1) (fun a : Nat × (List ByteArray) × Int => [(1, .ar 5060), (25, .t (.sc (.int .i64 a.2.2)))]) (fun a : Nat × (List ByteArray) × Int => [(5060, .arr (a.2.1.map rS) 9 false)]) (fun a : Nat × (List ByteArray) × Int => a.1 ≤ fu ∧ m_impl_freeOf_f_l1 a.1 x1 a.2.1 a.2.2 = some r ∧ 0 ≤ a.2.2) (fu, x2, 0) ⟨Nat.le_refl _, hF1, by simp⟩ (by rfl) (by rfl) (fun _ => rfl) (hasF_cons (by conv => lhs; whnf) (by rfl) (hasF_cons (by conv => lhs; whnf) (by rfl) hasF_nil)) (hasO_cons (by conv => lhs; whnf) (by rfl) hasO_nil) (fresh_C hC rfl) (by repeat (first | exact freshS_args rfl | refine freshS_upd rfl ?_ | refine freshS_frame rfl ?_)) (by repeat (first | exact freshM_no | exact objs_fresh rfl | refine freshM_upd rfl ?_ | refine freshM_frame rfl ?_)) ?_
 clear hF1
 rintro ⟨fu, g19, g20⟩ ⟨hl21, hF2, hn_g20⟩
 dsimp only at hl21 hF2 hn_g20 ⊢
 obtain _ | fu := fu
 · rw [m_impl_freeOf_f_l1] at hF2; cases hF2
 rw [m_impl_freeOf_f_l1] at hF2
 refine awp_seq (awp_region ?_)
 refine s_lt ?_
 refine k_nil (k_seq (awp_seq ?_))
 refine w_cond hF2 ?_ ?_ <;> intro hc22 hF3
 refine awp_lenT 23 (fun hb23 => ?_)
 refine awp_skip (k_seq (awp_seq (awp_block (awp_seq (awp_region ?_)))))
 obtain ⟨v24, hv24, hF4⟩ := bind_some' hF3
 refine s_ixT Core.row hv24 (Core.row_eq _) yE34 ?_
 refine s_ldN yA36 yS36 ?_
 refine s_alloc yZ36 ?_
 refine s_stW yS36 ?_
 refine k_nil (k_seq (awp_region ?_))
 refine s_ldW yA36 yS36 ?_
 refine s_mv ?_
 obtain ⟨v25, hv25, hF5⟩ := bind_some' hF4
 refine s_call [(9301, 5060), (9200, 12031)] [] _ _ (ih_m_impl_freeOf_f fu (by omega) _ _ _ hv25) ?_
 refine s_as ?_
 refine k_nil (k_blk (k_seq (awp_region ?_)))
 refine s_add (winc2 hc22 hb23 hn_g20) ?_
 refine s_mv ?_
 refine k_nil ?_
 exact s_rn (fu, v25, (g20 + 1)) ⟨by first | omega | (dsimp only; omega), hF5, by first | omega | (dsimp only; omega)⟩ [(5060, 12031)]
 refine awp_exit (k_seq_exit (k_rnd_exit2 (k_blk_exit (k_seq (awp_seq (awp_region ?_))))))
 refine s_mv ?_
 refine s_as ?_
 refine k_nil (k_seq ?_)
 refine awp_mv 4 5060 9200 (by conv => lhs; whnf) (by conv => lhs; whnf) rfl ?_
 refine awp_ret (k_fin ?_)
 cases hF3
 exact ends_a _ [] Tryz.results56
theorem m_impl_freeOf_f_all (fuel : Nat) : m_impl_freeOf_f_AC fuel := by
 induction fuel using Nat.strongRecOn with
 | _ N ih =>
   cases N with
   | zero => exact (by intro x1 x2 r h; rw [m_impl_freeOf_f] at h; cases h)
   | succ fu => exact m_impl_freeOf_f_st fu (fun k hk => (ih k (by omega)))
theorem m_impl_freeOf_f_ok (fuel : Nat) : m_impl_freeOf_f_AC fuel := (m_impl_freeOf_f_all fuel)
def m_impl_freeOf_n_AC (fuel : Nat) : Prop := ∀ (x1 : Core) (r : (List ByteArray)), m_impl_freeOf_n fuel x1 = some r → AC Tryz.prog 56 [.ag [.t (.sc (.int .i64 x1.kind)), .t (.sc (.int .i64 x1.id)), .t (.sc (.str x1.name)), .t (.sc (.int .i64 x1.n)), .t (.sl (x1.ids.map rI)), .t (.sc (.int .i64 x1.data.kind)), .t (.sc (.str x1.data.name)), .t (.sc (.int .i64 x1.data.n)), .t (.sl (x1.data.scopes.map rI)), .t (.sl (x1.data.kids.map Form.row)), .t (.sl (x1.kids.map Core.row))], .nl] (objs []) (.ar 9200) (objs [(9200, .arr (r.map rS) 9 false)])
theorem m_impl_freeOf_n_ok (fuel : Nat) : m_impl_freeOf_n_AC fuel := by
 intro x1 r hF0
 unfold m_impl_freeOf_n at hF0
 refine AC_i [.ar 9200] Tryz.func56 rfl Tryz.ntmps56 ?_
 intro C hC
 refine awp_seq (awp_region ?_)
 refine s_box ?_
 refine s_as ?_
 refine k_nil (k_seq (awp_seq (awp_seq (awp_region ?_))))
 refine s_fa yF36_0 ?_
 refine s_ld1 yA3 ?_
 refine s_eq ?_
 refine s_mv ?_
 refine w_guard _ 10 hF0 ?_ ?_ <;> intro hc1 hF1
 refine s_mv ?_
 refine s_fa yF36_2 ?_
 refine s_ld1 yA9 ?_
 obtain ⟨v2, hv2, hF2⟩ := bind_some' hF1
 refine s_pure [] (m_slices_Contains_string_ok fuel _ _ _ hv2) ?_
 refine s_not ?_
 refine s_pkt ?_
 refine k_nil (k_seq ?_)
 refine w_cond hF2 ?_ ?_ <;> intro hc3 hF3
 refine awp_region ?_
 refine s_mv ?_
 refine s_fa yF36_2 ?_
 refine s_ld1 yA9 ?_
 refine s_bs rS [x1.name] yP50 yR9 ?_
 obtain ⟨hk4, hF4⟩ := chk_some hF3
 refine s_apN rS (fun _ => rfl) hk4 yP50 ?_
 refine s_as ?_
 refine k_nil (k_seq (awp_seq (awp_seq (awp_region ?_))))
 refine s_fa yF36_6 ?_
 refine s_ld1 yA34 ?_
 refine s_lenT yU34 ?_
 refine s_mv ?_
 refine k_nil (k_seq (awp_block ?_))
 refine awp_mv 1 21 5020 (by conv => lhs; whnf) (by conv => lhs; whnf) rfl ?_
 refine awp_frz 5020 (by conv => lhs; whnf) ?_
 refine awp_frame2 [1, 6, 25, 26, 27, 28, 29, 30, 31, 32] [5020] [6, 12031] [5020] (fun a : Nat × (List ByteArray) × Int => a.1) (fun a : Nat × (List ByteArray) × Int => [(1, .ar 5020), (25, .t (.sc (.int .i64 a.2.2)))]) (fun a : Nat × (List ByteArray) × Int => [(5020, .arr (a.2.1.map rS) 9 false)]) (fun a : Nat × (List ByteArray) × Int => a.1 ≤ fuel ∧ m_impl_freeOf_f_l1 a.1 x1 a.2.1 a.2.2 = some r ∧ 0 ≤ a.2.2) (fuel, [x1.name], 0) ⟨Nat.le_refl _, hF4, by simp⟩ (by rfl) (by rfl) (fun _ => rfl) (hasF_cons (by conv => lhs; whnf) (by rfl) (hasF_cons (by conv => lhs; whnf) (by rfl) hasF_nil)) (hasO_cons (by conv => lhs; whnf) (by rfl) hasO_nil) (fresh_C hC rfl) (by repeat (first | exact freshS_args rfl | refine freshS_upd rfl ?_ | refine freshS_frame rfl ?_)) (by repeat (first | exact freshM_no | exact objs_fresh rfl | refine freshM_upd rfl ?_ | refine freshM_frame rfl ?_)) ?_
 clear hF4
 rintro ⟨fu, g5, g6⟩ ⟨hl7, hF5, hn_g6⟩
 dsimp only at hl7 hF5 hn_g6 ⊢
 obtain _ | fu := fu
 · rw [m_impl_freeOf_f_l1] at hF5; cases hF5
 rw [m_impl_freeOf_f_l1] at hF5
 refine awp_seq (awp_region ?_)
 refine s_lt ?_
 refine k_nil (k_seq (awp_seq ?_))
 refine w_cond hF5 ?_ ?_ <;> intro hc8 hF6
 refine awp_lenT 23 (fun hb9 => ?_)
 refine awp_skip (k_seq (awp_seq (awp_block (awp_seq (awp_region ?_)))))
 obtain ⟨v10, hv10, hF7⟩ := bind_some' hF6
 refine s_ixT Core.row hv10 (Core.row_eq _) yE34 ?_
 refine s_ldN yA36 yS36 ?_
 refine s_alloc yZ36 ?_
 refine s_stW yS36 ?_
 refine k_nil (k_seq (awp_region ?_))
 refine s_ldW yA36 yS36 ?_
 refine s_mv ?_
 obtain ⟨v11, hv11, hF8⟩ := bind_some' hF7
 refine s_call [(9301, 5020), (9200, 12031)] [] _ _ (m_impl_freeOf_f_ok fu _ _ _ hv11) ?_
 refine s_as ?_
 refine k_nil (k_blk (k_seq (awp_region ?_)))
 refine s_add (winc2 hc8 hb9 hn_g6) ?_
 refine s_mv ?_
 refine k_nil ?_
 exact s_rn (fu, v11, (g6 + 1)) ⟨by first | omega | (dsimp only; omega), hF8, by first | omega | (dsimp only; omega)⟩ [(5020, 12031)]
 refine awp_exit (k_seq_exit (k_rnd_exit2 (k_blk_exit (k_seq (awp_seq (awp_region ?_))))))
 refine s_mv ?_
 refine s_as ?_
 refine k_nil (k_seq ?_)
 refine awp_mv 4 5020 9200 (by conv => lhs; whnf) (by conv => lhs; whnf) rfl ?_
 refine awp_ret (k_fin ?_)
 cases hF6
 exact ends_a _ [] Tryz.results56
 refine awp_skip (k_seq (awp_seq (awp_seq (awp_region ?_))))
 refine s_fa yF36_6 ?_
 refine s_ld1 yA34 ?_
 refine s_lenT yU34 ?_
 refine s_mv ?_
 refine k_nil (k_seq (awp_block ?_))
 refine awp_own 1 5040 9 yI9.choose_spec ?_
 refine awp_frz 5040 (by conv => lhs; whnf) ?_
 refine awp_frame2 [1, 6, 25, 26, 27, 28, 29, 30, 31, 32] [5040] [6, 12031] [5040] (fun a : Nat × (List ByteArray) × Int => a.1) (fun a : Nat × (List ByteArray) × Int => [(1, .ar 5040), (25, .t (.sc (.int .i64 a.2.2)))]) (fun a : Nat × (List ByteArray) × Int => [(5040, .arr (a.2.1.map rS) 9 false)]) (fun a : Nat × (List ByteArray) × Int => a.1 ≤ fuel ∧ m_impl_freeOf_f_l1 a.1 x1 a.2.1 a.2.2 = some r ∧ 0 ≤ a.2.2) (fuel, ([] : List ByteArray), 0) ⟨Nat.le_refl _, hF3, by simp⟩ (by rfl) (by rfl) (fun _ => rfl) (hasF_cons (by conv => lhs; whnf) (by rfl) (hasF_cons (by conv => lhs; whnf) (by rfl) hasF_nil)) (hasO_cons (by conv => lhs; whnf) (by rfl) hasO_nil) (fresh_C hC rfl) (by repeat (first | exact freshS_args rfl | refine freshS_upd rfl ?_ | refine freshS_frame rfl ?_)) (by repeat (first | exact freshM_no | exact objs_fresh rfl | refine freshM_upd rfl ?_ | refine freshM_frame rfl ?_)) ?_
 clear hF3
 rintro ⟨fu, g12, g13⟩ ⟨hl14, hF4, hn_g13⟩
 dsimp only at hl14 hF4 hn_g13 ⊢
 obtain _ | fu := fu
 · rw [m_impl_freeOf_f_l1] at hF4; cases hF4
 rw [m_impl_freeOf_f_l1] at hF4
 refine awp_seq (awp_region ?_)
 refine s_lt ?_
 refine k_nil (k_seq (awp_seq ?_))
 refine w_cond hF4 ?_ ?_ <;> intro hc15 hF5
 refine awp_lenT 23 (fun hb16 => ?_)
 refine awp_skip (k_seq (awp_seq (awp_block (awp_seq (awp_region ?_)))))
 obtain ⟨v17, hv17, hF6⟩ := bind_some' hF5
 refine s_ixT Core.row hv17 (Core.row_eq _) yE34 ?_
 refine s_ldN yA36 yS36 ?_
 refine s_alloc yZ36 ?_
 refine s_stW yS36 ?_
 refine k_nil (k_seq (awp_region ?_))
 refine s_ldW yA36 yS36 ?_
 refine s_mv ?_
 obtain ⟨v18, hv18, hF7⟩ := bind_some' hF6
 refine s_call [(9301, 5040), (9200, 12031)] [] _ _ (m_impl_freeOf_f_ok fu _ _ _ hv18) ?_
 refine s_as ?_
 refine k_nil (k_blk (k_seq (awp_region ?_)))
 refine s_add (winc2 hc15 hb16 hn_g13) ?_
 refine s_mv ?_
 refine k_nil ?_
 exact s_rn (fu, v18, (g13 + 1)) ⟨by first | omega | (dsimp only; omega), hF7, by first | omega | (dsimp only; omega)⟩ [(5040, 12031)]
 refine awp_exit (k_seq_exit (k_rnd_exit2 (k_blk_exit (k_seq (awp_seq (awp_region ?_))))))
 refine s_mv ?_
 refine s_as ?_
 refine k_nil (k_seq ?_)
 refine awp_mv 4 5040 9200 (by conv => lhs; whnf) (by conv => lhs; whnf) rfl ?_
 refine awp_ret (k_fin ?_)
 cases hF5
 exact ends_a _ [] Tryz.results56
 iterate 5 refine r_no rfl ?_
 refine s_pkf ?_
 refine k_nil (k_seq (awp_false rfl (awp_skip (k_seq (awp_seq (awp_seq (awp_region ?_)))))))
 refine s_fa yF36_6 ?_
 refine s_ld1 yA34 ?_
 refine s_lenT yU34 ?_
 refine s_mv ?_
 refine k_nil (k_seq (awp_block ?_))
 refine awp_own 1 5060 9 yI9.choose_spec ?_
 refine awp_frz 5060 (by conv => lhs; whnf) ?_
 refine awp_frame2 [1, 6, 25, 26, 27, 28, 29, 30, 31, 32] [5060] [6, 12031] [5060] (fun a : Nat × (List ByteArray) × Int => a.1) (fun a : Nat × (List ByteArray) × Int => [(1, .ar 5060), (25, .t (.sc (.int .i64 a.2.2)))]) (fun a : Nat × (List ByteArray) × Int => [(5060, .arr (a.2.1.map rS) 9 false)]) (fun a : Nat × (List ByteArray) × Int => a.1 ≤ fuel ∧ m_impl_freeOf_f_l1 a.1 x1 a.2.1 a.2.2 = some r ∧ 0 ≤ a.2.2) (fuel, ([] : List ByteArray), 0) ⟨Nat.le_refl _, hF1, by simp⟩ (by rfl) (by rfl) (fun _ => rfl) (hasF_cons (by conv => lhs; whnf) (by rfl) (hasF_cons (by conv => lhs; whnf) (by rfl) hasF_nil)) (hasO_cons (by conv => lhs; whnf) (by rfl) hasO_nil) (fresh_C hC rfl) (by repeat (first | exact freshS_args rfl | refine freshS_upd rfl ?_ | refine freshS_frame rfl ?_)) (by repeat (first | exact freshM_no | exact objs_fresh rfl | refine freshM_upd rfl ?_ | refine freshM_frame rfl ?_)) ?_
 clear hF1
 rintro ⟨fu, g19, g20⟩ ⟨hl21, hF2, hn_g20⟩
 dsimp only at hl21 hF2 hn_g20 ⊢
 obtain _ | fu := fu
 · rw [m_impl_freeOf_f_l1] at hF2; cases hF2
 rw [m_impl_freeOf_f_l1] at hF2
 refine awp_seq (awp_region ?_)
 refine s_lt ?_
 refine k_nil (k_seq (awp_seq ?_))
 refine w_cond hF2 ?_ ?_ <;> intro hc22 hF3
 refine awp_lenT 23 (fun hb23 => ?_)
 refine awp_skip (k_seq (awp_seq (awp_block (awp_seq (awp_region ?_)))))
 obtain ⟨v24, hv24, hF4⟩ := bind_some' hF3
 refine s_ixT Core.row hv24 (Core.row_eq _) yE34 ?_
 refine s_ldN yA36 yS36 ?_
 refine s_alloc yZ36 ?_
 refine s_stW yS36 ?_
 refine k_nil (k_seq (awp_region ?_))
 refine s_ldW yA36 yS36 ?_
 refine s_mv ?_
 obtain ⟨v25, hv25, hF5⟩ := bind_some' hF4
 refine s_call [(9301, 5060), (9200, 12031)] [] _ _ (m_impl_freeOf_f_ok fu _ _ _ hv25) ?_
 refine s_as ?_
 refine k_nil (k_blk (k_seq (awp_region ?_)))
 refine s_add (winc2 hc22 hb23 hn_g20) ?_
 refine s_mv ?_
 refine k_nil ?_
 exact s_rn (fu, v25, (g20 + 1)) ⟨by first | omega | (dsimp only; omega), hF5, by first | omega | (dsimp only; omega)⟩ [(5060, 12031)]
 refine awp_exit (k_seq_exit (k_rnd_exit2 (k_blk_exit (k_seq (awp_seq (awp_region ?_))))))
 refine s_mv ?_
 refine s_as ?_
 refine k_nil (k_seq ?_)
 refine awp_mv 4 5060 9200 (by conv => lhs; whnf) (by conv => lhs; whnf) rfl ?_
 refine awp_ret (k_fin ?_)
 cases hF3
 exact ends_a _ [] Tryz.results56
def m_impl_FreeOf_AC (fuel : Nat) : Prop := ∀ (x1 : Core) (r : (List ByteArray)), m_impl_FreeOf fuel x1 = some r → AC Tryz.prog 25 [.ag [.t (.sc (.int .i64 x1.kind)), .t (.sc (.int .i64 x1.id)), .t (.sc (.str x1.name)), .t (.sc (.int .i64 x1.n)), .t (.sl (x1.ids.map rI)), .t (.sc (.int .i64 x1.data.kind)), .t (.sc (.str x1.data.name)), .t (.sc (.int .i64 x1.data.n)), .t (.sl (x1.data.scopes.map rI)), .t (.sl (x1.data.kids.map Form.row)), .t (.sl (x1.kids.map Core.row))]] noOb (.t (.sl (r.map rS))) noOb
theorem m_impl_FreeOf_ok (fuel : Nat) : m_impl_FreeOf_AC fuel := by
 intro x1 r hF0
 unfold m_impl_FreeOf at hF0
 refine AC_i [.t (.sl (r.map rS))] Tryz.func25 rfl Tryz.ntmps25 ?_
 intro C hC
 refine awp_seq (awp_region ?_)
 refine s_box ?_
 refine s_as ?_
 refine k_nil (k_seq (awp_seq (awp_region ?_)))
 refine s_ldW yA36 yS36 ?_
 obtain ⟨v1, hv1, hF1⟩ := bind_some' hF0
 refine s_call [(9200, 2004)] [] _ _ (m_impl_freeOf_n_ok fuel _ _ hv1) ?_
 refine s_as ?_
 refine k_nil (k_seq (awp_ret (k_fin ?_)))
 cases hF1
 exact ends_a [] [2004] Tryz.results25
def m_laws_mxTexts_AC (fuel : Nat) : Prop := ∀ (x1 : (List ByteArray)) (x2 : (List ByteArray)) (r : Bool), m_laws_mxTexts fuel x1 x2 = some r → AC Tryz.prog 24 [.t (.sl (x1.map rS)), .t (.sl (x2.map rS))] noOb (.t (.sc (.bool r))) noOb
theorem m_laws_mxTexts_ok (fuel : Nat) : m_laws_mxTexts_AC fuel := by
 intro x1 x2 r hF0
 unfold m_laws_mxTexts at hF0
 refine AC_i [.t (.sc (.bool r))] Tryz.func24 rfl Tryz.ntmps24 ?_
 intro C hC
 refine awp_seq (awp_region ?_)
 refine s_as ?_
 refine k_nil (k_seq (awp_seq (awp_seq (awp_region ?_))))
 refine s_mv ?_
 refine s_lenT yU50 ?_
 refine s_mv ?_
 refine s_lenT yU50 ?_
 refine s_ne ?_
 refine k_nil (k_seq ?_)
 refine w_cond hF0 ?_ ?_ <;> intro hc1 hF1
 refine awp_seq (awp_region ?_)
 refine s_as ?_
 refine k_nil (k_seq (awp_ret (k_seq_ret (k_fin ?_))))
 cases hF1
 exact ends_a [] [] Tryz.results24
 refine awp_skip (k_seq (awp_seq (awp_seq (awp_region ?_))))
 refine s_as ?_
 refine k_nil (k_seq (awp_block ?_))
 refine awp_fr (β := Int) [4, 5, 11, 12, 13, 14, 15, 16, 17, 18, 19, 20, 21, 22, 23, 24, 25] [] [] (fun a => [(5, .t (.sc (.int .i64 a.2)))]) (fun a => []) (fun a => a.1 ≤ fuel ∧ m_laws_mxTexts_l1 a.1 x1 x2 a.2 = some r ∧ 0 ≤ a.2) (fuel, 0) ⟨Nat.le_refl _, hF1, by simp⟩ ?_
 clear hF1
 rintro ⟨fu, g2⟩ ⟨hl3, hF2, hn_g2⟩
 dsimp only at hl3 hF2 hn_g2 ⊢
 obtain _ | fu := fu
 · rw [m_laws_mxTexts_l1] at hF2; cases hF2
 rw [m_laws_mxTexts_l1] at hF2
 refine awp_seq (awp_seq (awp_region ?_))
 refine s_mv ?_
 refine s_mv ?_
 refine s_lenT yU50 ?_
 refine s_lt ?_
 refine k_nil (k_seq ?_)
 refine w_cond hF2 ?_ ?_ <;> intro hc4 hF3
 refine awp_lenT 0 (fun hb5 => ?_)
 refine awp_skip (k_seq (awp_seq (awp_block (awp_seq ?_))))
 refine awp_draw yMix (by kernel_rfl) ?_
 refine s_mv ?_
 refine s_mv ?_
 obtain ⟨v6, hv6, hF4⟩ := bind_some' hF3
 refine s_ixT rS hv6 rfl yE50 ?_
 refine s_ld1 yA9 ?_
 refine s_mv ?_
 refine s_mv ?_
 obtain ⟨v7, hv7, hF5⟩ := bind_some' hF4
 refine s_ixT rS hv7 rfl yE50 ?_
 refine s_ld1 yA9 ?_
 refine s_neS ?_
 refine k_nilD (by kernel_rfl) ?_
 refine k_seq ?_
 refine w_cond hF5 ?_ ?_ <;> intro hc8 hF6
 refine awp_seq (awp_region ?_)
 refine s_as ?_
 refine k_nil (k_seq (awp_ret (k_blk_ret (k_seq_ret (k_rnd_ret2 (k_blk_ret (k_seq_ret (k_fin ?_))))))))
 cases hF6
 exact ends_a [] [] Tryz.results24
 refine awp_skip (k_blk (k_seq (awp_region ?_)))
 refine s_mv ?_
 refine s_add (winc2 hc4 hb5 hn_g2) ?_
 refine s_as ?_
 refine k_nil ?_
 exact s_rn (fu, (g2 + 1)) ⟨by first | omega | (dsimp only; omega), hF6, by first | omega | (dsimp only; omega)⟩
 refine awp_exit (k_seq_exit (k_rnd_exit2 (k_blk_exit (k_seq (awp_seq (awp_region ?_))))))
 refine s_as ?_
 refine k_nil (k_seq (awp_ret (k_fin ?_)))
 cases hF3
 exact ends_a [] [] Tryz.results24
def m_laws_FnAlikeText_AC (fuel : Nat) : Prop := ∀ (x1 : (List Int)) (r : Bool), m_laws_FnAlikeText fuel x1 = some r → AC Tryz.prog 6 [.t (.sl (x1.map rB))] noOb (.t (.sc (.bool r))) noOb
theorem m_laws_FnAlikeText_ok (fuel : Nat) : m_laws_FnAlikeText_AC fuel := by
 intro x1 r hF0
 unfold m_laws_FnAlikeText at hF0
 refine AC_i [.t (.sc (.bool r))] Tryz.func6 rfl Tryz.ntmps6 ?_
 intro C hC
 refine awp_seq (awp_region ?_)
 refine s_as ?_
 refine k_nil (k_seq (awp_seq (awp_seq (awp_region ?_))))
 refine s_mv ?_
 refine s_lenT yU40 ?_
 refine s_gt ?_
 refine k_nil (k_seq ?_)
 refine w_cond hF0 ?_ ?_ <;> intro hc1 hF1
 refine awp_lenT 0 (fun hb2 => ?_)
 refine awp_seq (awp_region ?_)
 refine s_as ?_
 refine k_nil (k_seq (awp_ret (k_seq_ret (k_fin ?_))))
 cases hF1
 exact ends_a [] [] Tryz.results6
 refine awp_skip (k_seq (awp_seq (awp_region ?_)))
 refine s_mv ?_
 obtain ⟨v3, hv3, hF2⟩ := bind_some' hF1
 refine s_pure [] (m_spec_DrawCoreAlike_ok fuel _ _ hv3) ?_
 refine s_mv ?_
 refine s_ext ?_
 refine s_ext ?_
 refine s_alloc yZ36 ?_
 refine s_alloc yZ36 ?_
 refine s_stW yS36 ?_
 refine s_stW yS36 ?_
 refine k_nil (k_seq (awp_seq (awp_region ?_)))
 refine s_ldW yA36 yS36 ?_
 refine s_ldW yA36 yS36 ?_
 obtain ⟨v4, hv4, hF3⟩ := bind_some' hF2
 refine s_pure [] (m_impl_CoreAlike_ok fuel _ _ _ hv4) ?_
 refine s_as ?_
 refine k_nil (k_seq (awp_seq ?_))
 refine awp_jn (α := Nat × Bool) [21, 22, 23, 24, 25, 26, 27, 28, 29] [] [] (fun a => [(29, .t (.sc (.bool a.2)))]) (fun a => []) (fun a => a.1 ≤ fuel ∧ m_laws_FnAlikeText_j1 a.1 v3 v4 a.2 = some r) ?_ ?_
 refine awp_region ?_
 refine s_mv ?_
 refine s_ldW yA36 yS36 ?_
 refine s_ldW yA36 yS36 ?_
 obtain ⟨v5, hv5, hF4⟩ := bind_some' hF3
 refine s_pure [] (m_spec_CoreAlike_ok fuel _ _ _ hv5) ?_
 refine s_neB yU4 ?_
 refine s_mv ?_
 refine w_guard _ 26 hF4 ?_ ?_ <;> intro hc6 hF5
 refine r_no rfl (r_no rfl ?_)
 refine s_pkt ?_
 refine k_nil ?_
 exact s_jn (fuel, true) ⟨by first | omega | (dsimp only; omega), hF5⟩
 refine s_mv ?_
 refine s_not ?_
 refine s_pkf ?_
 refine k_nil ?_
 exact s_jn (fuel, (!v4)) ⟨by first | omega | (dsimp only; omega), hF5⟩
 clear hF3
 rintro ⟨fu, g7⟩ ⟨hl8, hF4⟩
 dsimp only at hl8 hF4 ⊢
 obtain _ | fu := fu
 · rw [m_laws_FnAlikeText_j1] at hF4; cases hF4
 rw [m_laws_FnAlikeText_j1] at hF4
 refine w_cond hF4 ?_ ?_ <;> intro hc9 hF5
 refine awp_seq (awp_region ?_)
 refine s_mv ?_
 refine s_ldW yA36 yS36 ?_
 refine s_ldW yA36 yS36 ?_
 obtain ⟨v10, hv10, hF6⟩ := bind_some' hF5
 refine s_pure [] (m_spec_CoreAlike_ok fu _ _ _ hv10) ?_
 refine s_eqB yU4 ?_
 refine s_as ?_
 refine k_nil (k_seq (awp_ret (k_seq_ret (k_fin ?_))))
 cases hF6
 exact ends_a [] [] Tryz.results6
 refine awp_skip (k_seq (awp_seq (awp_region ?_)))
 refine s_ldW yA36 yS36 ?_
 obtain ⟨v11, hv11, hF6⟩ := bind_some' hF5
 refine s_pure [] (m_impl_NumberCore_ok fu _ _ hv11) ?_
 refine s_mv ?_
 refine s_ext ?_
 refine s_ext ?_
 refine s_alloc yZ36 ?_
 refine s_stW yS36 ?_
 refine s_as ?_
 refine k_nil (k_seq (awp_seq (awp_region ?_)))
 refine s_ldW yA36 yS36 ?_
 obtain ⟨v12, hv12, hF7⟩ := bind_some' hF6
 refine s_pure [] (m_impl_NumberCore_ok fu _ _ hv12) ?_
 refine s_mv ?_
 refine s_ext ?_
 refine s_ext ?_
 refine s_alloc yZ36 ?_
 refine s_stW yS36 ?_
 refine s_as ?_
 refine k_nil (k_seq (awp_seq ?_))
 refine awp_draw yMix (by kernel_rfl) ?_
 refine s_ldW yA36 yS36 ?_
 obtain ⟨v13, hv13, hF8⟩ := bind_some' hF7
 refine s_pure [] (m_impl_CoreSize_ok fu _ _ hv13) ?_
 refine s_ldW yA36 yS36 ?_
 obtain ⟨v14, hv14, hF9⟩ := bind_some' hF8
 refine s_pure [] (m_impl_CoreSize_ok fu _ _ hv14) ?_
 refine s_eq ?_
 refine s_mv ?_
 refine w_guard _ 50 hF9 ?_ ?_ <;> intro hc15 hF10
 refine s_ldW yA36 yS36 ?_
 obtain ⟨v16, hv16, hF11⟩ := bind_some' hF10
 refine s_pure [] (m_impl_FreeOf_ok fu _ _ hv16) ?_
 refine s_ldW yA36 yS36 ?_
 obtain ⟨v17, hv17, hF12⟩ := bind_some' hF11
 refine s_pure [] (m_impl_FreeOf_ok fu _ _ hv17) ?_
 obtain ⟨v18, hv18, hF13⟩ := bind_some' hF12
 refine s_pure [] (m_laws_mxTexts_ok fu _ _ _ hv18) ?_
 refine s_pkt ?_
 refine s_mv ?_
 refine w_guard _ 57 hF13 ?_ ?_ <;> intro hc19 hF14
 refine s_mv ?_
 refine s_mv ?_
 refine s_eqB yU4 ?_
 refine s_pkt ?_
 refine s_mv ?_
 refine w_guard _ 62 hF14 ?_ ?_ <;> intro hc20 hF15
 refine s_mv ?_
 refine s_not ?_
 refine s_mv ?_
 refine w_guard _ 65 hF15 ?_ ?_ <;> intro hc21 hF16
 iterate 5 refine r_no rfl ?_
 refine s_pkt ?_
 refine s_pkt ?_
 refine s_as ?_
 refine k_nilD (by kernel_rfl) ?_
 refine k_seq (awp_ret (k_fin ?_))
 cases hF16
 exact ends_a [] [] Tryz.results6
 refine s_ldW yA36 yS36 ?_
 obtain ⟨v22, hv22, hF17⟩ := bind_some' hF16
 refine s_pure [] (m_impl_FormatCore_ok fu _ _ hv22) ?_
 refine s_ldW yA36 yS36 ?_
 obtain ⟨v23, hv23, hF18⟩ := bind_some' hF17
 refine s_pure [] (m_impl_FormatCore_ok fu _ _ hv23) ?_
 refine s_eqS ?_
 refine s_pkf ?_
 refine s_pkt ?_
 refine s_as ?_
 refine k_nilD (by kernel_rfl) ?_
 refine k_seq (awp_ret (k_fin ?_))
 cases hF18
 exact ends_a [] [] Tryz.results6
 iterate 9 refine r_no rfl ?_
 refine s_pkf ?_
 refine s_as ?_
 refine k_nilD (by kernel_rfl) ?_
 refine k_seq (awp_ret (k_fin ?_))
 cases hF15
 exact ends_a [] [] Tryz.results6
 iterate 3 refine r_no rfl ?_
 refine s_pkf ?_
 refine s_mv ?_
 iterate 9 refine r_no rfl ?_
 refine s_pkf ?_
 refine s_as ?_
 refine k_nilD (by kernel_rfl) ?_
 refine k_seq (awp_ret (k_fin ?_))
 cases hF14
 exact ends_a [] [] Tryz.results6
 iterate 5 refine r_no rfl ?_
 refine s_pkf ?_
 refine s_mv ?_
 iterate 3 refine r_no rfl ?_
 refine s_pkf ?_
 refine s_mv ?_
 iterate 9 refine r_no rfl ?_
 refine s_pkf ?_
 refine s_as ?_
 refine k_nilD (by kernel_rfl) ?_
 refine k_seq (awp_ret (k_fin ?_))
 cases hF10
 exact ends_a [] [] Tryz.results6
end Go.Abs
