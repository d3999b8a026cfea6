/- A part of the proof: what the functions that the law calls answer, as pure values. -/
import Derived.Test.YtgicgbokgmmgdaaGreatK0a4c624ac2b7
import Derived.Test.YtgicgbokgmmgdaaGreatK18697e364aa0
import Derived.Test.YtgicgbokgmmgdaaGreatK24d12bacf01b
import Derived.Test.YtgicgbokgmmgdaaGreatK26b19939f33d
import Derived.Test.YtgicgbokgmmgdaaGreatK32ea1a48e85b
import Derived.Test.YtgicgbokgmmgdaaGreatK7e1f73f937e5
import Derived.Test.YtgicgbokgmmgdaaGreatKb2fda210d385
import Derived.Test.YtgicgbokgmmgdaaGreatKc744c354db0d
set_option linter.unusedSimpArgs false
set_option linter.unusedVariables false
set_option maxRecDepth 100000
set_option maxHeartbeats 4000000
namespace Go.Abs
open Go.Proofs
def m_impl_fitting_AC (fuel : Nat) : Prop := ∀ (x1 : (List Bind)) (x2 : Form) (r : (List Int)), m_impl_fitting fuel x1 x2 = some r → AC Tryz.prog 140 [.t (.sl (x1.map Bind.row)), .ag [.t (.sc (.int .i64 x2.kind)), .t (.sc (.str x2.name)), .t (.sc (.int .i64 x2.n)), .t (.sl (x2.scopes.map rI)), .t (.sl (x2.kids.map Form.row))]] noOb (.t (.sl (r.map rI))) noOb
theorem m_impl_fitting_ok (fuel : Nat) : m_impl_fitting_AC fuel := by
 intro x1 x2 r hF0
 unfold m_impl_fitting at hF0
 refine AC_i [.t (.sl (r.map rI))] Tryz.func140 rfl Tryz.ntmps140 ?_
 intro C hC
 refine awp_seq (awp_region ?_)
 refine s_box ?_
 refine s_as ?_
 refine k_nil (k_seq (awp_seq (awp_region ?_)))
 refine s_bs rI ([] : List Int) yP36 yR3 ?_
 refine s_as ?_
 refine k_nil (k_seq (awp_seq (awp_seq (awp_region ?_))))
 refine s_mv ?_
 refine s_lenT yU28 ?_
 refine s_mv ?_
 refine k_nil (k_seq (awp_block ?_))
 refine awp_mv 5 8 5020 (by conv => lhs; whnf) (by conv => lhs; whnf) rfl ?_
 refine awp_frame2 [5, 6, 7, 11, 12, 13, 14, 15, 16, 17, 18, 19, 20, 21, 22, 23, 24, 25, 26, 27, 28, 29, 30, 31, 32] [5020] [7, 30, 31] [5020] (fun a : Nat × (List Int) × Int => a.1) (fun a : Nat × (List Int) × Int => [(5, .ar 5020), (11, .t (.sc (.int .i64 a.2.2)))]) (fun a : Nat × (List Int) × Int => [(5020, .arr (a.2.1.map rI) 3 true)]) (fun a : Nat × (List Int) × Int => a.1 ≤ fuel ∧ m_impl_fitting_l1 a.1 x1 x2 a.2.1 a.2.2 = some r ∧ 0 ≤ a.2.2) (fuel, ([] : List Int), 0) ⟨Nat.le_refl _, hF0, by simp⟩ (by rfl) (by rfl) (fun _ => rfl) (hasF_cons (by conv => lhs; whnf) (by rfl) (hasF_cons (by conv => lhs; whnf) (by rfl) hasF_nil)) (hasO_cons (by conv => lhs; whnf) (by rfl) hasO_nil) (fresh_C hC rfl) (by repeat (first | exact freshS_args rfl | refine freshS_upd rfl ?_ | refine freshS_frame rfl ?_)) (by repeat (first | exact freshM_no | exact objs_fresh rfl | refine freshM_upd rfl ?_ | refine freshM_frame rfl ?_)) ?_
 clear hF0
 rintro ⟨fu, g1, g2⟩ ⟨hl3, hF1, hn_g2⟩
 dsimp only at hl3 hF1 hn_g2 ⊢
 obtain _ | fu := fu
 · rw [m_impl_fitting_l1] at hF1; cases hF1
 rw [m_impl_fitting_l1] at hF1
 refine awp_seq (awp_region ?_)
 refine s_lt ?_
 refine k_nil (k_seq (awp_seq ?_))
 refine w_cond hF1 ?_ ?_ <;> intro hc4 hF2
 refine awp_lenT 0 (fun hb5 => ?_)
 refine awp_skip (k_seq (awp_seq (awp_block (awp_seq (awp_region ?_)))))
 refine s_mv ?_
 obtain ⟨v6, hv6, hF3⟩ := bind_some' hF2
 refine s_ixT Bind.row hv6 (Bind.row_eq _) yE28 ?_
 refine s_ldN yA66 yS66 ?_
 refine s_alloc yZ66 ?_
 refine s_as ?_
 refine s_stW yS66 ?_
 refine k_nil (k_seq ?_)
 refine awp_jn (α := Nat × Bool) [16, 17, 18, 19, 20, 21, 22, 23, 24, 25, 26, 27] [] [] (fun a => [(27, .t (.sc (.bool a.2)))]) (fun a => []) (fun a => a.1 ≤ fu ∧ m_impl_fitting_j2 a.1 x1 x2 g1 g2 a.2 = some r) ?_ ?_
 refine awp_region ?_
 refine s_fa yF66_0 ?_
 refine s_ld1 yA9 ?_
 refine s_fa yF39_1 ?_
 refine s_ld1 yA9 ?_
 refine s_eqS ?_
 refine s_mv ?_
 refine w_guard _ 21 hF3 ?_ ?_ <;> intro hc7 hF4
 refine s_fa yF66_1 ?_
 refine s_ld1 yA36 ?_
 refine s_fa yF39_3 ?_
 refine s_ld1 yA36 ?_
 obtain ⟨v8, hv8, hF5⟩ := bind_some' hF4
 refine s_pure [] (m_impl_ScopesWithin_ok fu _ _ _ hv8) ?_
 refine s_pkt ?_
 refine k_nil ?_
 exact s_jn (fu, v8) ⟨by first | omega | (dsimp only; omega), hF5⟩
 iterate 5 refine r_no rfl ?_
 refine s_pkf ?_
 refine k_nil ?_
 exact s_jn (fu, false) ⟨by first | omega | (dsimp only; omega), hF4⟩
 clear hF3
 rintro ⟨fu, g9⟩ ⟨hl10, hF4⟩
 dsimp only at hl10 hF4 ⊢
 obtain _ | fu := fu
 · rw [m_impl_fitting_j2] at hF4; cases hF4
 rw [m_impl_fitting_j2] at hF4
 refine w_cond hF4 ?_ ?_ <;> intro hc11 hF5
 refine awp_region ?_
 refine s_mv ?_
 refine s_mv ?_
 refine s_bs rI [g2] yP36 yR3 ?_
 obtain ⟨hk12, hF6⟩ := chk_some hF5
 refine s_apT rI (fun _ => rfl) hk12 yP36 ?_
 refine s_as ?_
 refine k_nil (k_blk (k_seq (awp_region ?_)))
 refine s_add (winc2 hc4 hb5 hn_g2) ?_
 refine s_mv ?_
 refine k_nil ?_
 exact s_rn (fu, (g1 ++ [g2]), (g2 + 1)) ⟨by first | omega | (dsimp only; omega), hF6, by first | omega | (dsimp only; omega)⟩ [(5020, 31)]
 refine awp_skip (k_blk (k_seq (awp_region ?_)))
 refine s_add (winc2 hc4 hb5 hn_g2) ?_
 refine s_mv ?_
 refine k_nil ?_
 exact s_rn (fu, g1, (g2 + 1)) ⟨by first | omega | (dsimp only; omega), hF5, by first | omega | (dsimp only; omega)⟩
 refine awp_exit (k_seq_exit (k_rnd_exit2 (k_blk_exit (k_seq (awp_seq (awp_region ?_))))))
 refine s_mv ?_
 refine s_as ?_
 refine k_nil (k_seq (awp_ret (k_fin ?_)))
 cases hF2
 exact ends_a [] [5020] Tryz.results140
def m_impl_bound_1_AC (fuel : Nat) : Prop := ∀ (x1 : Int) (o1 : (List Bind)) (o2 : Int) (r : Bool), m_impl_bound_1 fuel x1 o1 o2 = some r → AC Tryz.prog 142 [.t (.sc (.int .i64 x1)), .rf 9000 0, .rf 9001 0] (objs [(9000, .box [.t (.sl (o1.map Bind.row))]), (9001, .box [.t (.sc (.int .i64 o2))])]) (.t (.sc (.bool r))) (objs [(9000, .box [.t (.sl (o1.map Bind.row))]), (9001, .box [.t (.sc (.int .i64 o2))])])
theorem m_impl_bound_1_ok (fuel : Nat) : m_impl_bound_1_AC fuel := by
 intro x1 o1 o2 r hF0
 unfold m_impl_bound_1 at hF0
 refine AC_i [.t (.sc (.bool r))] Tryz.func142 rfl Tryz.ntmps142 ?_
 intro C hC
 refine awp_seq (awp_region ?_)
 refine s_as ?_
 refine k_nil (k_seq (awp_seq ?_))
 refine awp_draw yMix (by kernel_rfl) ?_
 refine s_ld1 yA28 ?_
 refine s_mv ?_
 obtain ⟨v1, hv1, hF1⟩ := bind_some' hF0
 refine s_ixT Bind.row hv1 (Bind.row_eq _) yE28 ?_
 refine s_fa yF66_1 ?_
 refine s_ld1 yA36 ?_
 refine s_ld1 yA28 ?_
 refine s_ld1 yA3 ?_
 obtain ⟨v2, hv2, hF2⟩ := bind_some' hF1
 refine s_ixT Bind.row hv2 (Bind.row_eq _) yE28 ?_
 refine s_fa yF66_1 ?_
 refine s_ld1 yA36 ?_
 obtain ⟨v3, hv3, hF3⟩ := bind_some' hF2
 refine s_pure [] (m_impl_ScopesWithin_ok fuel _ _ _ hv3) ?_
 refine s_not ?_
 refine s_as ?_
 refine k_nilD (by kernel_rfl) ?_
 refine k_seq (awp_ret (k_fin ?_))
 cases hF3
 exact ends_a _ [] Tryz.results142
def m_slices_IndexFunc_int_bound_1_AC (fuel : Nat) : Prop := ∀ (x1 : (List Int)) (o1 : (List Bind)) (o2 : Int) (r : Int), m_slices_IndexFunc_int_bound_1 fuel x1 o1 o2 = some r → AC Tryz.prog 163 [.t (.sl (x1.map rI)), .fn 142 [.rf 9000 0, .rf 9001 0]] (objs [(9000, .box [.t (.sl (o1.map Bind.row))]), (9001, .box [.t (.sc (.int .i64 o2))])]) (.t (.sc (.int .i64 r))) (objs [(9000, .box [.t (.sl (o1.map Bind.row))]), (9001, .box [.t (.sc (.int .i64 o2))])])
theorem m_slices_IndexFunc_int_bound_1_ok (fuel : Nat) : m_slices_IndexFunc_int_bound_1_AC fuel := by
 intro x1 o1 o2 r hF0
 unfold m_slices_IndexFunc_int_bound_1 at hF0
 refine AC_i [.t (.sc (.int .i64 r))] Tryz.func163 rfl Tryz.ntmps163 ?_
 intro C hC
 refine awp_seq (awp_region ?_)
 refine s_as ?_
 refine k_nil (k_seq (awp_seq (awp_seq (awp_region ?_))))
 refine s_mv ?_
 refine s_lenT yU36 ?_
 refine s_mv ?_
 refine k_nil (k_seq (awp_block ?_))
 refine awp_fr (β := Int) [4, 5, 8, 9, 10, 11, 12, 13, 14, 15, 16, 17, 18] [] [] (fun a => [(8, .t (.sc (.int .i64 a.2)))]) (fun a => []) (fun a => a.1 ≤ fuel ∧ m_slices_IndexFunc_int_bound_1_l1 a.1 x1 o1 o2 a.2 = some r ∧ 0 ≤ a.2) (fuel, 0) ⟨Nat.le_refl _, hF0, by simp⟩ ?_
 clear hF0
 rintro ⟨fu, g1⟩ ⟨hl2, hF1, hn_g1⟩
 dsimp only at hl2 hF1 hn_g1 ⊢
 obtain _ | fu := fu
 · rw [m_slices_IndexFunc_int_bound_1_l1] at hF1; cases hF1
 rw [m_slices_IndexFunc_int_bound_1_l1] at hF1
 refine awp_seq (awp_region ?_)
 refine s_lt ?_
 refine k_nil (k_seq (awp_seq ?_))
 refine w_cond hF1 ?_ ?_ <;> intro hc3 hF2
 refine awp_lenT 0 (fun hb4 => ?_)
 refine awp_skip (k_seq (awp_seq (awp_block (awp_seq (awp_region ?_)))))
 refine s_mv ?_
 refine s_as ?_
 refine k_nil (k_seq (awp_seq (awp_region ?_)))
 iterate 3 refine s_mv ?_
 obtain ⟨v5, hv5, hF3⟩ := bind_some' hF2
 refine s_ixT rI hv5 rfl yE36 ?_
 refine s_ld1 yA3 ?_
 obtain ⟨v6, hv6, hF4⟩ := bind_some' hF3
 refine s_call [(9000, 9000), (9001, 9001)] [] _ _ (m_impl_bound_1_ok fu _ _ _ _ hv6) ?_
 refine k_nil (k_seq ?_)
 refine w_cond hF4 ?_ ?_ <;> intro hc7 hF5
 refine awp_seq (awp_region ?_)
 refine s_mv ?_
 refine s_as ?_
 refine k_nil (k_seq (awp_ret (k_blk_ret (k_seq_ret (k_rnd_ret2 (k_blk_ret (k_seq_ret (k_fin ?_))))))))
 cases hF5
 exact ends_a _ [] Tryz.results163
 refine awp_skip (k_blk (k_seq (awp_region ?_)))
 refine s_add (winc2 hc3 hb4 hn_g1) ?_
 refine s_mv ?_
 refine k_nil ?_
 exact s_rn (fu, (g1 + 1)) ⟨by first | omega | (dsimp only; omega), hF5, by first | omega | (dsimp only; omega)⟩
 refine awp_exit (k_seq_exit (k_rnd_exit2 (k_blk_exit (k_seq (awp_seq (awp_region ?_))))))
 refine s_as ?_
 refine k_nil (k_seq (awp_ret (k_fin ?_)))
 cases hF2
 exact ends_a _ [] Tryz.results163
def m_slices_ContainsFunc_int_bound_1_AC (fuel : Nat) : Prop := ∀ (x1 : (List Int)) (o1 : (List Bind)) (o2 : Int) (r : Bool), m_slices_ContainsFunc_int_bound_1 fuel x1 o1 o2 = some r → AC Tryz.prog 141 [.t (.sl (x1.map rI)), .fn 142 [.rf 9000 0, .rf 9001 0]] (objs [(9000, .box [.t (.sl (o1.map Bind.row))]), (9001, .box [.t (.sc (.int .i64 o2))])]) (.t (.sc (.bool r))) (objs [(9000, .box [.t (.sl (o1.map Bind.row))]), (9001, .box [.t (.sc (.int .i64 o2))])])
theorem m_slices_ContainsFunc_int_bound_1_ok (fuel : Nat) : m_slices_ContainsFunc_int_bound_1_AC fuel := by
 intro x1 o1 o2 r hF0
 unfold m_slices_ContainsFunc_int_bound_1 at hF0
 refine AC_i [.t (.sc (.bool r))] Tryz.func141 rfl Tryz.ntmps141 ?_
 intro C hC
 refine awp_seq (awp_region ?_)
 refine s_as ?_
 refine k_nil (k_seq (awp_seq (awp_region ?_)))
 refine s_mv ?_
 refine s_mv ?_
 obtain ⟨v1, hv1, hF1⟩ := bind_some' hF0
 refine s_call [(9000, 9000), (9001, 9001)] [] _ _ (m_slices_IndexFunc_int_bound_1_ok fuel _ _ _ _ hv1) ?_
 refine s_ge ?_
 refine s_as ?_
 refine k_nil (k_seq (awp_ret (k_fin ?_)))
 cases hF1
 exact ends_a _ [] Tryz.results141
def m_impl_bound_AC (fuel : Nat) : Prop := ∀ (x1 : (List Bind)) (x2 : Form) (r : (Int × Int)), m_impl_bound fuel x1 x2 = some r → AC Tryz.prog 113 [.t (.sl (x1.map Bind.row)), .ag [.t (.sc (.int .i64 x2.kind)), .t (.sc (.str x2.name)), .t (.sc (.int .i64 x2.n)), .t (.sl (x2.scopes.map rI)), .t (.sl (x2.kids.map Form.row))]] noOb (.tp [.t (.sc (.int .i64 r.1)), .t (.sc (.int .i64 r.2))]) noOb
theorem m_impl_bound_ok (fuel : Nat) : m_impl_bound_AC fuel := by
 intro x1 x2 r hF0
 unfold m_impl_bound at hF0
 refine AC_i [.t (.sc (.int .i64 r.1)), .t (.sc (.int .i64 r.2))] Tryz.func113 rfl Tryz.ntmps113 ?_
 intro C hC
 refine awp_seq (awp_region ?_)
 refine s_box ?_
 refine s_box ?_
 refine s_as ?_
 refine s_as ?_
 refine k_nil (k_seq (awp_seq (awp_region ?_)))
 refine s_ld1 yA28 ?_
 refine s_ldW yA39 yS39 ?_
 obtain ⟨v1, hv1, hF1⟩ := bind_some' hF0
 refine s_pure [] (m_impl_fitting_ok fuel _ _ _ hv1) ?_
 refine s_as ?_
 refine k_nil (k_seq (awp_seq (awp_seq (awp_region ?_))))
 refine s_mv ?_
 refine s_lenT yU36 ?_
 refine s_eq ?_
 refine k_nil (k_seq ?_)
 refine w_cond hF1 ?_ ?_ <;> intro hc2 hF2
 refine awp_seq (awp_region ?_)
 refine s_as ?_
 refine s_as ?_
 refine k_nil (k_seq (awp_ret (k_seq_ret (k_fin ?_))))
 cases hF2
 exact ends_a [] [] Tryz.results113
 refine awp_skip (k_seq (awp_seq (awp_seq (awp_region ?_))))
 refine s_mv ?_
 refine s_lenT yU36 ?_
 refine s_mv ?_
 refine k_nil (k_seq (awp_block ?_))
 refine awp_fr (β := Int) [4, 5, 8, 17, 18, 19, 20, 21, 22, 23, 24, 25, 26] [] [8] (fun a => [(17, .t (.sc (.int .i64 a.2)))]) (fun a => []) (fun a => a.1 ≤ fuel ∧ m_impl_bound_l1 a.1 x1 v1 a.2 = some r ∧ 0 ≤ a.2) (fuel, 0) ⟨Nat.le_refl _, hF2, by simp⟩ ?_
 clear hF2
 rintro ⟨fu, g3⟩ ⟨hl4, hF3, hn_g3⟩
 dsimp only at hl4 hF3 hn_g3 ⊢
 obtain _ | fu := fu
 · rw [m_impl_bound_l1] at hF3; cases hF3
 rw [m_impl_bound_l1] at hF3
 refine awp_seq (awp_region ?_)
 refine s_lt ?_
 refine k_nil (k_seq (awp_seq ?_))
 refine w_cond hF3 ?_ ?_ <;> intro hc5 hF4
 refine awp_lenT 6 (fun hb6 => ?_)
 refine awp_skip (k_seq (awp_seq (awp_block (awp_seq (awp_region ?_)))))
 obtain ⟨v7, hv7, hF5⟩ := bind_some' hF4
 refine s_ixT rI hv7 rfl yE36 ?_
 refine s_ld1 yA3 ?_
 refine s_alloc yZ3 ?_
 refine s_stW yS3 ?_
 refine k_nil (k_seq (awp_seq (awp_region ?_)))
 refine s_mv ?_
 refine s_fn ?_
 obtain ⟨v8, hv8, hF6⟩ := bind_some' hF5
 refine s_call [(9000, 2), (9001, 8)] [] _ _ (m_slices_ContainsFunc_int_bound_1_ok fu _ _ _ _ hv8) ?_
 refine s_not ?_
 refine k_nil (k_seq ?_)
 refine w_cond hF6 ?_ ?_ <;> intro hc9 hF7
 refine awp_seq (awp_region ?_)
 refine s_ld1 yA3 ?_
 refine s_as ?_
 refine s_as ?_
 refine k_nil (k_seq (awp_ret (k_blk_ret (k_seq_ret (k_rnd_ret2 (k_blk_ret (k_seq_ret (k_fin ?_))))))))
 cases hF7
 exact ends_a [] [] Tryz.results113
 refine awp_skip (k_blk (k_seq (awp_region ?_)))
 refine s_add (winc2 hc5 hb6 hn_g3) ?_
 refine s_mv ?_
 refine k_nil ?_
 exact s_rn (fu, (g3 + 1)) ⟨by first | omega | (dsimp only; omega), hF7, by first | omega | (dsimp only; omega)⟩
 refine awp_exit (k_seq_exit (k_rnd_exit2 (k_blk_exit (k_seq (awp_seq (awp_region ?_))))))
 refine s_as ?_
 refine s_as ?_
 refine k_nil (k_seq (awp_ret (k_fin ?_)))
 cases hF4
 exact ends_a [] [] Tryz.results113
def m_impl_meaning_AC (fuel : Nat) : Prop := ∀ (x1 : Expansion) (x2 : Form) (r : (Int × Int)), m_impl_meaning fuel x1 x2 = some r → AC Tryz.prog 60 [.ag [.t (.sl (x1.binds.map Bind.row)), .t (.sl (x1.macros.map Macro.row)), .t (.sc (.int .i64 x1.scope)), .t (.sc (.int .i64 x1.id)), .t (.sc (.int .i64 x1.steps))], .ag [.t (.sc (.int .i64 x2.kind)), .t (.sc (.str x2.name)), .t (.sc (.int .i64 x2.n)), .t (.sl (x2.scopes.map rI)), .t (.sl (x2.kids.map Form.row))]] noOb (.tp [.t (.sc (.int .i64 r.1)), .t (.sc (.int .i64 r.2))]) noOb
theorem m_impl_meaning_ok (fuel : Nat) : m_impl_meaning_AC fuel := by
 intro x1 x2 r hF0
 unfold m_impl_meaning at hF0
 refine AC_i [.t (.sc (.int .i64 r.1)), .t (.sc (.int .i64 r.2))] Tryz.func60 rfl Tryz.ntmps60 ?_
 intro C hC
 refine awp_seq (awp_region ?_)
 refine s_box ?_
 refine s_box ?_
 refine s_as ?_
 refine s_as ?_
 refine k_nil (k_seq (awp_seq (awp_region ?_)))
 refine s_fa yF31_0 ?_
 refine s_ld1 yA28 ?_
 refine s_ldW yA39 yS39 ?_
 obtain ⟨v1, hv1, hF1⟩ := bind_some' hF0
 refine s_pure [] (m_impl_bound_ok fuel _ _ _ hv1) ?_
 refine s_mv ?_
 refine s_ext ?_
 refine s_ext ?_
 refine s_as ?_
 refine s_as ?_
 refine k_nil (k_seq (awp_seq (awp_seq (awp_region ?_))))
 refine s_mv ?_
 refine k_nil (k_seq (awp_block (awp_seq (awp_region ?_))))
 refine s_eq ?_
 refine s_as ?_
 refine k_nil (k_seq ?_)
 refine w_cond hF1 ?_ ?_ <;> intro hc2 hF2
 refine awp_seq (awp_region ?_)
 refine s_as ?_
 refine s_as ?_
 refine k_nil (k_seq (awp_ret (k_blk_ret (k_seq_ret (k_fin ?_)))))
 cases hF2
 exact ends_a [] [] Tryz.results60
 refine awp_seq (awp_region ?_)
 refine s_eq ?_
 refine s_as ?_
 refine k_nil (k_seq ?_)
 refine w_cond hF2 ?_ ?_ <;> intro hc3 hF3
 refine awp_seq (awp_region ?_)
 refine s_as ?_
 refine s_as ?_
 refine k_nil (k_seq (awp_ret (k_blk_ret (k_seq_ret (k_fin ?_)))))
 cases hF3
 exact ends_a [] [] Tryz.results60
 refine awp_skip (k_blk (k_seq (awp_seq (awp_region ?_))))
 refine s_fa yF31_0 ?_
 refine s_ld1 yA28 ?_
 refine s_mv ?_
 obtain ⟨v4, hv4, hF4⟩ := bind_some' hF3
 refine s_ixT Bind.row hv4 (Bind.row_eq _) yE28 ?_
 refine s_fa yF66_2 ?_
 refine s_ld1 yA3 ?_
 refine s_as ?_
 refine k_nil (k_seq (awp_seq (awp_block (awp_seq (awp_region ?_)))))
 refine s_mv ?_
 obtain ⟨v5, hv5, hF5⟩ := bind_some' hF4
 refine s_pure [] (m_impl_within_ok fuel _ _ _ _ hv5) ?_
 refine s_as ?_
 refine k_nil (k_seq ?_)
 refine w_cond hF5 ?_ ?_ <;> intro hc6 hF6
 refine awp_seq (awp_region ?_)
 refine s_mv ?_
 refine s_as ?_
 refine s_as ?_
 refine k_nil (k_seq (awp_ret (k_blk_ret (k_seq_ret (k_fin ?_)))))
 cases hF6
 exact ends_a [] [] Tryz.results60
 refine awp_seq (awp_region ?_)
 refine s_fa yF31_1 ?_
 refine s_ld1 yA29 ?_
 refine s_mv ?_
 obtain ⟨v7, hv7, hF7⟩ := bind_some' hF6
 refine s_pure [] (m_impl_macroAt_ok fuel _ _ _ hv7) ?_
 refine s_ge ?_
 refine s_as ?_
 refine k_nil (k_seq ?_)
 refine w_cond hF7 ?_ ?_ <;> intro hc8 hF8
 refine awp_seq (awp_region ?_)
 refine s_mv ?_
 refine s_as ?_
 refine s_as ?_
 refine k_nil (k_seq (awp_ret (k_blk_ret (k_seq_ret (k_fin ?_)))))
 cases hF8
 exact ends_a [] [] Tryz.results60
 refine awp_skip (k_blk (k_seq (awp_seq (awp_region ?_))))
 refine s_mv ?_
 refine s_as ?_
 refine s_as ?_
 refine k_nil (k_seq (awp_ret (k_fin ?_)))
 cases hF8
 exact ends_a [] [] Tryz.results60
def m_impl_MeaningOf_AC (fuel : Nat) : Prop := ∀ (x1 : Expansion) (x2 : Form) (r : (Int × Int)), m_impl_MeaningOf fuel x1 x2 = some r → AC Tryz.prog 22 [.ag [.t (.sl (x1.binds.map Bind.row)), .t (.sl (x1.macros.map Macro.row)), .t (.sc (.int .i64 x1.scope)), .t (.sc (.int .i64 x1.id)), .t (.sc (.int .i64 x1.steps))], .ag [.t (.sc (.int .i64 x2.kind)), .t (.sc (.str x2.name)), .t (.sc (.int .i64 x2.n)), .t (.sl (x2.scopes.map rI)), .t (.sl (x2.kids.map Form.row))]] noOb (.tp [.t (.sc (.int .i64 r.1)), .t (.sc (.int .i64 r.2))]) noOb
theorem m_impl_MeaningOf_ok (fuel : Nat) : m_impl_MeaningOf_AC fuel := by
 intro x1 x2 r hF0
 unfold m_impl_MeaningOf at hF0
 refine AC_i [.t (.sc (.int .i64 r.1)), .t (.sc (.int .i64 r.2))] Tryz.func22 rfl Tryz.ntmps22 ?_
 intro C hC
 refine awp_seq (awp_region ?_)
 refine s_box ?_
 refine s_box ?_
 refine s_as ?_
 refine s_as ?_
 refine k_nil (k_seq (awp_seq ?_))
 refine awp_jn (α := Nat × Bool) [6, 7, 8, 9, 10, 11, 12, 13] [] [] (fun a => [(13, .t (.sc (.bool a.2)))]) (fun a => []) (fun a => a.1 ≤ fuel ∧ m_impl_MeaningOf_j1 a.1 x1 x2 a.2 = some r) ?_ ?_
 refine awp_region ?_
 refine s_ldW yA31 yS31 ?_
 obtain ⟨v1, hv1, hF1⟩ := bind_some' hF0
 refine s_pure [] (m_impl_ExpansionValid_ok fuel _ _ hv1) ?_
 refine s_not ?_
 refine s_mv ?_
 refine w_guard _ 9 hF1 ?_ ?_ <;> intro hc2 hF2
 iterate 3 refine r_no rfl ?_
 refine s_pkt ?_
 refine k_nil ?_
 exact s_jn (fuel, true) ⟨by first | omega | (dsimp only; omega), hF2⟩
 refine s_ldW yA39 yS39 ?_
 obtain ⟨v3, hv3, hF3⟩ := bind_some' hF2
 refine s_pure [] (m_impl_isName_ok fuel _ _ hv3) ?_
 refine s_not ?_
 refine s_pkf ?_
 refine k_nil ?_
 exact s_jn (fuel, (!v3)) ⟨by first | omega | (dsimp only; omega), hF3⟩
 clear hF0
 rintro ⟨fu, g4⟩ ⟨hl5, hF1⟩
 dsimp only at hl5 hF1 ⊢
 obtain _ | fu := fu
 · rw [m_impl_MeaningOf_j1] at hF1; cases hF1
 rw [m_impl_MeaningOf_j1] at hF1
 refine w_cond hF1 ?_ ?_ <;> intro hc6 hF2
 refine awp_seq (awp_region ?_)
 refine s_as ?_
 refine s_as ?_
 refine k_nil (k_seq (awp_ret (k_seq_ret (k_fin ?_))))
 cases hF2
 exact ends_a [] [] Tryz.results22
 refine awp_skip (k_seq (awp_seq (awp_region ?_)))
 refine s_ldW yA31 yS31 ?_
 refine s_ldW yA39 yS39 ?_
 obtain ⟨v7, hv7, hF3⟩ := bind_some' hF2
 refine s_pure [] (m_impl_meaning_ok fu _ _ _ hv7) ?_
 refine s_ext ?_
 refine s_ext ?_
 refine s_as ?_
 refine s_as ?_
 refine k_nil (k_seq (awp_ret (k_fin ?_)))
 cases hF3
 exact ends_a [] [] Tryz.results22
def m_laws_FnExactMeaningOf_AC (fuel : Nat) : Prop := ∀ (x1 : Expansion) (x2 : Form) (r : Bool), m_laws_FnExactMeaningOf fuel x1 x2 = some r → AC Tryz.prog 5 [.ag [.t (.sl (x1.binds.map Bind.row)), .t (.sl (x1.macros.map Macro.row)), .t (.sc (.int .i64 x1.scope)), .t (.sc (.int .i64 x1.id)), .t (.sc (.int .i64 x1.steps))], .ag [.t (.sc (.int .i64 x2.kind)), .t (.sc (.str x2.name)), .t (.sc (.int .i64 x2.n)), .t (.sl (x2.scopes.map rI)), .t (.sl (x2.kids.map Form.row))]] noOb (.t (.sc (.bool r))) noOb
theorem m_laws_FnExactMeaningOf_ok (fuel : Nat) : m_laws_FnExactMeaningOf_AC fuel := by
 intro x1 x2 r hF0
 unfold m_laws_FnExactMeaningOf at hF0
 refine AC_i [.t (.sc (.bool r))] Tryz.func5 rfl Tryz.ntmps5 ?_
 intro C hC
 refine awp_seq (awp_region ?_)
 refine s_box ?_
 refine s_box ?_
 refine s_as ?_
 refine k_nil (k_seq (awp_seq (awp_region ?_)))
 refine s_as ?_
 refine k_nil (k_seq (awp_seq (awp_region ?_)))
 refine s_ldW yA25 yS25 ?_
 refine s_mv ?_
 obtain ⟨v1, hv1, hF1⟩ := bind_some' hF0
 refine s_pure [] (m_laws_szExpansion_ok fuel _ _ _ hv1) ?_
 refine s_as ?_
 refine k_nil (k_seq (awp_seq (awp_seq (awp_region ?_))))
 refine s_mv ?_
 refine s_lt ?_
 refine k_nil (k_seq ?_)
 refine w_cond hF1 ?_ ?_ <;> intro hc2 hF2
 refine awp_seq (awp_region ?_)
 refine s_as ?_
 refine k_nil (k_seq (awp_ret (k_seq_ret (k_fin ?_))))
 cases hF2
 exact ends_a [] [] Tryz.results5
 refine awp_skip (k_seq (awp_seq (awp_region ?_)))
 refine s_ldW yA55 yS55 ?_
 refine s_mv ?_
 obtain ⟨v3, hv3, hF3⟩ := bind_some' hF2
 refine s_pure [] (m_laws_szForm_ok fuel _ _ _ hv3) ?_
 refine s_as ?_
 refine k_nil (k_seq (awp_seq (awp_seq (awp_region ?_))))
 refine s_mv ?_
 refine s_lt ?_
 refine k_nil (k_seq ?_)
 refine w_cond hF3 ?_ ?_ <;> intro hc4 hF4
 refine awp_seq (awp_region ?_)
 refine s_as ?_
 refine k_nil (k_seq (awp_ret (k_seq_ret (k_fin ?_))))
 cases hF4
 exact ends_a [] [] Tryz.results5
 refine awp_skip (k_seq (awp_seq ?_))
 refine awp_draw yMix (by kernel_rfl) ?_
 refine s_ldW yA25 yS25 ?_
 obtain ⟨v5, hv5, hF5⟩ := bind_some' hF4
 refine s_pure [] (m_laws_toExpansion_ok fuel _ _ hv5) ?_
 refine s_ldW yA55 yS55 ?_
 obtain ⟨v6, hv6, hF6⟩ := bind_some' hF5
 refine s_pure [] (m_laws_toForm_ok fuel _ _ hv6) ?_
 obtain ⟨v7, hv7, hF7⟩ := bind_some' hF6
 refine s_pure [] (m_spec_MeaningOf_ok fuel _ _ _ hv7) ?_
 refine s_mv ?_
 refine s_ext ?_
 refine s_ext ?_
 refine s_as ?_
 refine s_as ?_
 refine k_nilD (by kernel_rfl) ?_
 refine k_seq (awp_seq (awp_region ?_))
 refine s_ldW yA25 yS25 ?_
 obtain ⟨v8, hv8, hF8⟩ := bind_some' hF7
 refine s_pure [] (m_laws_toExpansion_ok fuel _ _ hv8) ?_
 refine s_alloc yZ31 ?_
 refine s_stW yS31 ?_
 refine k_nil (k_seq (awp_seq (awp_region ?_)))
 refine s_ldW yA55 yS55 ?_
 obtain ⟨v9, hv9, hF9⟩ := bind_some' hF8
 refine s_pure [] (m_laws_toForm_ok fuel _ _ hv9) ?_
 refine s_alloc yZ39 ?_
 refine s_stW yS39 ?_
 refine k_nil (k_seq (awp_seq (awp_region ?_)))
 refine s_ldW yA31 yS31 ?_
 refine s_ldW yA39 yS39 ?_
 obtain ⟨v10, hv10, hF10⟩ := bind_some' hF9
 refine s_pure [] (m_impl_MeaningOf_ok fuel _ _ _ hv10) ?_
 refine s_mv ?_
 refine s_ext ?_
 refine s_ext ?_
 refine s_as ?_
 refine s_as ?_
 refine k_nil (k_seq (awp_seq ?_))
 refine awp_jn (α := Nat × Bool) [40, 41, 42, 43, 44, 45, 46, 47] [] [] (fun a => [(47, .t (.sc (.bool a.2)))]) (fun a => []) (fun a => a.1 ≤ fuel ∧ m_laws_FnExactMeaningOf_j1 a.1 x1 x2 v8 v9 a.2 = some r) ?_ ?_
 refine awp_region ?_
 refine s_mv ?_
 refine s_mv ?_
 refine s_ne ?_
 refine s_mv ?_
 refine w_guard _ 43 hF10 ?_ ?_ <;> intro hc11 hF11
 iterate 3 refine r_no rfl ?_
 refine s_pkt ?_
 refine k_nil ?_
 exact s_jn (fuel, true) ⟨by first | omega | (dsimp only; omega), hF11⟩
 refine s_mv ?_
 refine s_mv ?_
 refine s_ne ?_
 refine s_pkf ?_
 refine k_nil ?_
 exact s_jn (fuel, (decide (v10.2 ≠ v7.2))) ⟨by first | omega | (dsimp only; omega), hF11⟩
 clear hF10
 rintro ⟨fu, g12⟩ ⟨hl13, hF11⟩
 dsimp only at hl13 hF11 ⊢
 obtain _ | fu := fu
 · rw [m_laws_FnExactMeaningOf_j1] at hF11; cases hF11
 rw [m_laws_FnExactMeaningOf_j1] at hF11
 refine w_cond hF11 ?_ ?_ <;> intro hc14 hF12
 refine awp_seq (awp_region ?_)
 refine s_as ?_
 refine k_nil (k_seq (awp_ret (k_seq_ret (k_fin ?_))))
 cases hF12
 exact ends_a [] [] Tryz.results5
 refine awp_skip (k_seq (awp_seq (awp_seq ?_)))
 refine awp_draw yMix (by kernel_rfl) ?_
 refine s_ldW yA31 yS31 ?_
 refine s_ldW yA25 yS25 ?_
 obtain ⟨v15, hv15, hF13⟩ := bind_some' hF12
 refine s_pure [] (m_laws_toExpansion_ok fu _ _ hv15) ?_
 obtain ⟨v16, hv16, hF14⟩ := bind_some' hF13
 refine s_pure [] (m_laws_eqExpansion_ok fu _ _ _ hv16) ?_
 refine s_not ?_
 refine k_nilD (by kernel_rfl) ?_
 refine k_seq ?_
 refine w_cond hF14 ?_ ?_ <;> intro hc17 hF15
 refine awp_seq (awp_region ?_)
 refine s_as ?_
 refine k_nil (k_seq (awp_ret (k_seq_ret (k_fin ?_))))
 cases hF15
 exact ends_a [] [] Tryz.results5
 refine awp_skip (k_seq (awp_seq (awp_seq ?_)))
 refine awp_draw yMix (by kernel_rfl) ?_
 refine s_ldW yA39 yS39 ?_
 refine s_ldW yA55 yS55 ?_
 obtain ⟨v18, hv18, hF16⟩ := bind_some' hF15
 refine s_pure [] (m_laws_toForm_ok fu _ _ hv18) ?_
 obtain ⟨v19, hv19, hF17⟩ := bind_some' hF16
 refine s_pure [] (m_laws_eqForm_ok fu _ _ _ hv19) ?_
 refine s_not ?_
 refine k_nilD (by kernel_rfl) ?_
 refine k_seq ?_
 refine w_cond hF17 ?_ ?_ <;> intro hc20 hF18
 refine awp_seq (awp_region ?_)
 refine s_as ?_
 refine k_nil (k_seq (awp_ret (k_seq_ret (k_fin ?_))))
 cases hF18
 exact ends_a [] [] Tryz.results5
 refine awp_skip (k_seq (awp_seq (awp_region ?_)))
 refine s_as ?_
 refine k_nil (k_seq (awp_ret (k_fin ?_)))
 cases hF18
 exact ends_a [] [] Tryz.results5
end Go.Abs
