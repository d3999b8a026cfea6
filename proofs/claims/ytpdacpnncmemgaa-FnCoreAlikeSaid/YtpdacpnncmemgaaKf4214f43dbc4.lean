/- A part of the proof: what the functions that the law calls answer, as pure values. -/
import Derived.Test.YtpdacpnncmemgaaK23e2b856d280
import Derived.Test.YtpdacpnncmemgaaK256e6a35767f
import Derived.Test.YtpdacpnncmemgaaK5c79faf26e3d
import Derived.Test.YtpdacpnncmemgaaK8df349ffdace
import Derived.Test.YtpdacpnncmemgaaK91b7e0de0d8e
import Derived.Test.YtpdacpnncmemgaaKc4f816cc9c2e
import Derived.Test.YtpdacpnncmemgaaKee3386e9ca8e
import Derived.Test.YtpdacpnncmemgaaKf37d0a587565
set_option linter.unusedSimpArgs false
set_option linter.unusedVariables false
set_option maxRecDepth 100000
set_option maxHeartbeats 4000000
namespace Go.Abs
open Go.Proofs
def m_spec_l6Last_AC (fuel : Nat) : Prop := ∀ (x1 : (List Int)) (x2 : Int) (r : Int), m_spec_l6Last fuel x1 x2 = some r → AC Try.prog 66 [.t (.sl (x1.map rI)), .t (.sc (.int .i64 x2))] noOb (.t (.sc (.int .i64 r))) noOb
theorem m_spec_l6Last_ok (fuel : Nat) : m_spec_l6Last_AC fuel := by
 intro x1 x2 r hF0
 unfold m_spec_l6Last at hF0
 refine AC_i [.t (.sc (.int .i64 r))] Try.func66 rfl Try.ntmps66 ?_
 intro C hC
 refine awp_seq (awp_region ?_)
 refine s_as ?_
 refine k_nil (k_seq (awp_seq (awp_seq (awp_region ?_))))
 refine s_mv ?_
 refine s_lenT yU23 ?_
 refine s_sub rfl ?_
 refine s_as ?_
 refine k_nil (k_seq (awp_block ?_))
 refine awp_fr (β := Int) [4, 5, 9, 10, 11, 12, 13, 14, 15, 16, 17, 18, 19, 20, 21, 22, 23] [] [] (fun a => [(5, .t (.sc (.int .i64 a.2)))]) (fun a => []) (fun a => a.1 ≤ fuel ∧ m_spec_l6Last_l1 a.1 x1 x2 a.2 = some r) (fuel, (w64 ((x1.length : Int) - 1))) ⟨Nat.le_refl _, hF0⟩ ?_
 clear hF0
 rintro ⟨fu, g1⟩ ⟨hl2, hF1⟩
 dsimp only at hl2 hF1 ⊢
 obtain _ | fu := fu
 · rw [m_spec_l6Last_l1] at hF1; cases hF1
 rw [m_spec_l6Last_l1] at hF1
 refine awp_seq (awp_seq (awp_region ?_))
 refine s_mv ?_
 refine s_ge ?_
 refine k_nil (k_seq ?_)
 refine w_cond hF1 ?_ ?_ <;> intro hc3 hF2
 refine awp_skip (k_seq (awp_seq (awp_block (awp_seq (awp_region ?_)))))
 refine s_mv ?_
 refine s_mv ?_
 obtain ⟨v4, hv4, hF3⟩ := bind_some' hF2
 refine s_ixT rI hv4 rfl yE23 ?_
 refine s_ld1 yA3 ?_
 refine s_mv ?_
 refine s_eq ?_
 refine k_nil (k_seq ?_)
 refine w_cond hF3 ?_ ?_ <;> intro hc5 hF4
 refine awp_seq (awp_region ?_)
 refine s_mv ?_
 refine s_lenT yU23 ?_
 refine s_sub rfl ?_
 refine s_mv ?_
 refine s_sub rfl ?_
 refine s_as ?_
 refine k_nil (k_seq (awp_ret (k_blk_ret (k_seq_ret (k_rnd_ret2 (k_blk_ret (k_seq_ret (k_fin ?_))))))))
 cases hF4
 exact ends_a [] [] Try.results66
 refine awp_skip (k_blk (k_seq (awp_region ?_)))
 refine s_mv ?_
 refine s_sub rfl ?_
 refine s_as ?_
 refine k_nil ?_
 exact s_rn (fu, (w64 (g1 - 1))) ⟨by first | omega | (dsimp only; omega), hF4⟩
 refine awp_exit (k_seq_exit (k_rnd_exit2 (k_blk_exit (k_seq (awp_seq (awp_region ?_))))))
 refine s_as ?_
 refine k_nil (k_seq (awp_ret (k_fin ?_)))
 cases hF2
 exact ends_a [] [] Try.results66
def m_spec_l6Number_AC (fuel : Nat) : Prop := ∀ (x1 : Core) (x2 : (List Int)) (x3 : (List Int)) (x4 : Int) (r : (Core × Int)), m_spec_l6Number fuel x1 x2 x3 x4 = some r → AC Try.prog 46 [.ag [.t (.sc (.int .i64 x1.kind)), .t (.sc (.int .i64 x1.id)), .t (.sc (.str x1.name)), .t (.sc (.int .i64 x1.n)), .t (.sl (x1.ids.map rI)), .t (.sc (.int .i64 x1.data.kind)), .t (.sc (.str x1.data.name)), .t (.sc (.int .i64 x1.data.n)), .t (.sl (x1.data.scopes.map rI)), .t (.sl (x1.data.kids.map Form.row)), .t (.sl (x1.kids.map Core.row))], .t (.sl (x2.map rI)), .t (.sl (x3.map rI)), .t (.sc (.int .i64 x4))] noOb (.tp [.ag [.t (.sc (.int .i64 r.1.kind)), .t (.sc (.int .i64 r.1.id)), .t (.sc (.str r.1.name)), .t (.sc (.int .i64 r.1.n)), .t (.sl (r.1.ids.map rI)), .t (.sc (.int .i64 r.1.data.kind)), .t (.sc (.str r.1.data.name)), .t (.sc (.int .i64 r.1.data.n)), .t (.sl (r.1.data.scopes.map rI)), .t (.sl (r.1.data.kids.map Form.row)), .t (.sl (r.1.kids.map Core.row))], .t (.sc (.int .i64 r.2))]) noOb
theorem m_spec_l6Number_st (fu : Nat) (ih_m_spec_l6Number : ∀ k, k ≤ fu → m_spec_l6Number_AC k) : m_spec_l6Number_AC (fu + 1) := by
 intro x1 x2 x3 x4 r hF0
 rw [m_spec_l6Number] at hF0
 refine AC_i [.ag [.t (.sc (.int .i64 r.1.kind)), .t (.sc (.int .i64 r.1.id)), .t (.sc (.str r.1.name)), .t (.sc (.int .i64 r.1.n)), .t (.sl (r.1.ids.map rI)), .t (.sc (.int .i64 r.1.data.kind)), .t (.sc (.str r.1.data.name)), .t (.sc (.int .i64 r.1.data.n)), .t (.sl (r.1.data.scopes.map rI)), .t (.sl (r.1.data.kids.map Form.row)), .t (.sl (r.1.kids.map Core.row))], .t (.sc (.int .i64 r.2))] Try.func46 rfl Try.ntmps46 ?_
 intro C hC
 refine awp_seq (awp_region ?_)
 refine s_box ?_
 refine s_alloc yZ29 ?_
 refine s_as ?_
 refine k_nil (k_seq (awp_seq ?_))
 refine awp_draw yMix (by kernel_rfl) ?_
 refine s_fa yF29_0 ?_
 refine s_ld1 yA3 ?_
 refine s_fa yF29_2 ?_
 refine s_ld1 yA9 ?_
 refine s_fa yF29_3 ?_
 refine s_ld1 yA3 ?_
 refine s_fa yF29_5 ?_
 refine s_ldN yA26 yS26 ?_
 obtain ⟨v1, hv1, hF1⟩ := bind_some' hF0
 refine s_call [(9203, 2023), (9204, 12023)] [] _ _ (m_spec_l1Copy_ok fu _ _ hv1) ?_
 refine s_bld yZ29 yL29 ?_
 refine s_alloc yZ29 ?_
 refine s_stW yS29 ?_
 refine k_nilD (by kernel_rfl) ?_
 refine k_seq ?_
 refine awp_jn (α := Nat × Int) [25, 26, 27, 28, 29, 30, 31, 32, 33, 34, 35, 36, 37, 38, 39] [10] [] (fun a => []) (fun a => [(10, .box [.t (.sc (.int .i64 x1.kind)), .t (.sc (.int .i64 a.2)), .t (.sc (.str x1.name)), .t (.sc (.int .i64 x1.n)), .nl, .t (.sc (.int .i64 v1.kind)), .t (.sc (.str v1.name)), .t (.sc (.int .i64 v1.n)), .ar 2023, .ar 12023, .nl])]) (fun a => a.1 ≤ fu ∧ m_spec_l6Number_j1 a.1 x1 x2 x3 x4 v1 a.2 = some r) ?_ ?_
 refine awp_seq (awp_region ?_)
 refine s_fa yF29_0 ?_
 refine s_ld1 yA3 ?_
 refine s_eq ?_
 refine k_nil (k_seq ?_)
 refine w_cond hF1 ?_ ?_ <;> intro hc2 hF2
 refine awp_region ?_
 refine s_mv ?_
 refine s_mv ?_
 refine s_lenT yU23 ?_
 refine s_sub rfl ?_
 refine s_mv ?_
 refine s_fa yF29_1 ?_
 refine s_ld1 yA3 ?_
 obtain ⟨v3, hv3, hF3⟩ := bind_some' hF2
 refine s_pure [] (m_spec_l6Last_ok fu _ _ _ hv3) ?_
 refine s_sub rfl ?_
 obtain ⟨v4, hv4, hF4⟩ := bind_some' hF3
 refine s_ixT rI hv4 rfl yE23 ?_
 refine s_ld1 yA3 ?_
 refine s_fa yF29_1 ?_
 refine s_stP yS3 ?_
 refine k_nil ?_
 exact s_jn (fu, v4) ⟨by first | omega | (dsimp only; omega), hF4⟩
 refine awp_skip ?_
 exact s_jn (fu, 0) ⟨by first | omega | (dsimp only; omega), hF2⟩
 clear hF1
 rintro ⟨fu, g5⟩ ⟨hl6, hF2⟩
 dsimp only at hl6 hF2 ⊢
 obtain _ | fu := fu
 · rw [m_spec_l6Number_j1] at hF2; cases hF2
 rw [m_spec_l6Number_j1] at hF2
 refine awp_jn (α := Nat × (List Int) × (List Int) × Int × (List Int)) [1, 2, 3, 11, 40, 41, 42, 43, 44, 45, 46, 47, 48, 49, 50, 51, 52, 53, 54, 55, 56, 57, 58, 59, 60, 61, 62, 63, 64, 65, 66, 67, 68, 69, 70] [10, 5060] [] (fun a => [(1, .t (.sl (a.2.1.map rI))), (2, .t (.sl (a.2.2.1.map rI))), (3, .t (.sc (.int .i64 a.2.2.2.1)))]) (fun a => [(10, .box [.t (.sc (.int .i64 x1.kind)), .t (.sc (.int .i64 g5)), .t (.sc (.str x1.name)), .t (.sc (.int .i64 x1.n)), .ar 5060, .t (.sc (.int .i64 v1.kind)), .t (.sc (.str v1.name)), .t (.sc (.int .i64 v1.n)), .ar 2023, .ar 12023, .nl]), (5060, .arr (a.2.2.2.2.map rI) 3 true)]) (fun a => a.1 ≤ fu ∧ m_spec_l6Number_j2 a.1 x1 v1 g5 a.2.1 a.2.2.1 a.2.2.2.1 a.2.2.2.2 = some r) ?_ ?_
 refine awp_seq (awp_region ?_)
 refine s_as ?_
 refine k_nil (k_seq (awp_block ?_))
 refine awp_ownB 10 5060 3 [.t (.sc (.int .i64 x1.kind)), .t (.sc (.int .i64 g5)), .t (.sc (.str x1.name)), .t (.sc (.int .i64 x1.n)), .ar 5060, .t (.sc (.int .i64 v1.kind)), .t (.sc (.str v1.name)), .t (.sc (.int .i64 v1.n)), .ar 2023, .ar 12023, .nl] yI3.choose_spec ?_
 refine awp_frame2 [1, 2, 3, 11, 40, 41, 42, 43, 44, 45, 46, 47, 48, 49, 50, 51, 52, 53, 54, 55, 56, 57, 58, 59, 60, 61, 62, 63, 64, 65, 66, 67, 68, 69, 70] [10, 5060] [52, 53, 55, 57, 63, 64, 65, 67, 69, 70] [5060] (fun a : Nat × (List Int) × (List Int) × Int × Int × (List Int) => a.1) (fun a : Nat × (List Int) × (List Int) × Int × Int × (List Int) => [(1, .t (.sl (a.2.1.map rI))), (2, .t (.sl (a.2.2.1.map rI))), (3, .t (.sc (.int .i64 a.2.2.2.1))), (11, .t (.sc (.int .i64 a.2.2.2.2.1)))]) (fun a : Nat × (List Int) × (List Int) × Int × Int × (List Int) => [(10, .box [.t (.sc (.int .i64 x1.kind)), .t (.sc (.int .i64 g5)), .t (.sc (.str x1.name)), .t (.sc (.int .i64 x1.n)), .ar 5060, .t (.sc (.int .i64 v1.kind)), .t (.sc (.str v1.name)), .t (.sc (.int .i64 v1.n)), .ar 2023, .ar 12023, .nl]), (5060, .arr (a.2.2.2.2.2.map rI) 3 true)]) (fun a : Nat × (List Int) × (List Int) × Int × Int × (List Int) => a.1 ≤ fu ∧ m_spec_l6Number_l3 a.1 x1 v1 g5 a.2.1 a.2.2.1 a.2.2.2.1 a.2.2.2.2.1 a.2.2.2.2.2 = some r ∧ 0 ≤ a.2.2.2.2.1) (fu, x2, x3, x4, 0, ([] : List Int)) ⟨Nat.le_refl _, hF2, by simp⟩ (by rfl) (by rfl) (fun _ => rfl) (hasF_cons (by conv => lhs; whnf) (by rfl) (hasF_cons (by conv => lhs; whnf) (by rfl) (hasF_cons (by conv => lhs; whnf) (by rfl) (hasF_cons (by conv => lhs; whnf) (by rfl) hasF_nil)))) (hasO_cons (by conv => lhs; whnf) (by rfl) (hasO_cons (by conv => lhs; whnf) (by rfl) hasO_nil)) (fresh_C hC rfl) (by repeat (first | exact freshS_args rfl | refine freshS_upd rfl ?_ | refine freshS_frame rfl ?_)) (by repeat (first | exact freshM_no | exact objs_fresh rfl | refine freshM_upd rfl ?_ | refine freshM_frame rfl ?_)) ?_
 clear hF2
 rintro ⟨fu, g7, g8, g9, g10, g11⟩ ⟨hl12, hF3, hn_g10⟩
 dsimp only at hl12 hF3 hn_g10 ⊢
 obtain _ | fu := fu
 · rw [m_spec_l6Number_l3] at hF3; cases hF3
 rw [m_spec_l6Number_l3] at hF3
 refine awp_seq (awp_seq (awp_region ?_))
 refine s_mv ?_
 refine s_fa yF29_4 ?_
 refine s_ld1 yA23 ?_
 refine s_lenT yU23 ?_
 refine s_lt ?_
 refine k_nil (k_seq ?_)
 refine w_cond hF3 ?_ ?_ <;> intro hc13 hF4
 refine awp_lenT 42 (fun hb14 => ?_)
 refine awp_skip (k_seq (awp_seq (awp_block (awp_seq (awp_region ?_)))))
 refine s_mv ?_
 refine s_add rfl ?_
 refine s_as ?_
 refine k_nil (k_seq (awp_seq (awp_region ?_)))
 refine s_fa yF29_4 ?_
 refine s_ld1 yA23 ?_
 refine s_mv ?_
 refine s_bs rI [(w64 (g9 + 1))] yP23 yR3 ?_
 obtain ⟨hk15, hF5⟩ := chk_some hF4
 refine s_apT rI (fun _ => rfl) hk15 yP23 ?_
 refine s_fa yF29_4 ?_
 refine s_stP yS23 ?_
 refine k_nil (k_seq (awp_seq ?_))
 refine awp_draw yMix (by kernel_rfl) ?_
 refine s_bs rI ([] : List Int) yP23 yR3 ?_
 refine s_mv ?_
 obtain ⟨hk16, hF6⟩ := chk_some hF5
 refine s_apT rI (fun _ => rfl) hk16 yP23 ?_
 refine s_fa yF29_4 ?_
 refine s_ld1 yA23 ?_
 refine s_mv ?_
 obtain ⟨v17, hv17, hF7⟩ := bind_some' hF6
 refine s_ixT rI hv17 rfl yE23 ?_
 refine s_ld1 yA3 ?_
 refine s_bs rI [v17] yP23 yR3 ?_
 obtain ⟨hk18, hF8⟩ := chk_some hF7
 refine s_apT rI (fun _ => rfl) hk18 yP23 ?_
 refine s_as ?_
 refine k_nilD (by kernel_rfl) ?_
 refine k_seq ?_
 refine awp_pz 1 ?_
 refine awp_region ?_
 refine s_bs rI ([] : List Int) yP23 yR3 ?_
 refine s_mv ?_
 obtain ⟨hk19, hF9⟩ := chk_some hF8
 refine s_apT rI (fun _ => rfl) hk19 yP23 ?_
 refine s_mv ?_
 refine s_bs rI [(w64 (g9 + 1))] yP23 yR3 ?_
 obtain ⟨hk20, hF10⟩ := chk_some hF9
 refine s_apT rI (fun _ => rfl) hk20 yP23 ?_
 refine s_as ?_
 refine k_nil (k_blk (k_seq ?_))
 refine awp_pz 2 ?_
 refine awp_region ?_
 refine s_mv ?_
 refine s_add (winc2 hc13 hb14 hn_g10) ?_
 refine s_as ?_
 refine k_nil ?_
 exact s_rn (fu, ((([] : List Int) ++ g7) ++ [v17]), ((([] : List Int) ++ g8) ++ [(w64 (g9 + 1))]), (w64 (g9 + 1)), (g10 + 1), (g11 ++ [(w64 (g9 + 1))])) ⟨by first | omega | (dsimp only; omega), hF10, by first | omega | (dsimp only; omega)⟩ [(5060, 53)]
 refine awp_exit (k_seq_exit (k_rnd_exit2 (k_blk_exit ?_)))
 exact s_jn (fu, g7, g8, g9, g11) ⟨by first | omega | (dsimp only; omega), hF4⟩
 clear hF2
 rintro ⟨fu, g21, g22, g23, g24⟩ ⟨hl25, hF3⟩
 dsimp only at hl25 hF3 ⊢
 obtain _ | fu := fu
 · rw [m_spec_l6Number_j2] at hF3; cases hF3
 rw [m_spec_l6Number_j2] at hF3
 refine awp_seq (awp_seq (awp_region ?_))
 refine s_as ?_
 refine k_nil (k_seq (awp_block ?_))
 refine awp_ownB 10 5080 29 [.t (.sc (.int .i64 x1.kind)), .t (.sc (.int .i64 g5)), .t (.sc (.str x1.name)), .t (.sc (.int .i64 x1.n)), .ar 5060, .t (.sc (.int .i64 v1.kind)), .t (.sc (.str v1.name)), .t (.sc (.int .i64 v1.n)), .ar 2023, .ar 12023, .ar 5080] yI29.choose_spec ?_
 refine awp_frame2 [3, 12, 13, 14, 71, 72, 73, 74, 75, 76, 77, 78, 79, 80, 81, 82, 83, 84, 85, 86, 87, 88, 89, 90, 91, 92, 93, 94, 95, 96] [10, 5080] [13, 94, 95] [5080] (fun a : Nat × Int × Int × (List Core) => a.1) (fun a : Nat × Int × Int × (List Core) => [(3, .t (.sc (.int .i64 a.2.1))), (12, .t (.sc (.int .i64 a.2.2.1)))]) (fun a : Nat × Int × Int × (List Core) => [(10, .box [.t (.sc (.int .i64 x1.kind)), .t (.sc (.int .i64 g5)), .t (.sc (.str x1.name)), .t (.sc (.int .i64 x1.n)), .ar 5060, .t (.sc (.int .i64 v1.kind)), .t (.sc (.str v1.name)), .t (.sc (.int .i64 v1.n)), .ar 2023, .ar 12023, .ar 5080]), (5080, .arr (a.2.2.2.map Core.row) 29 true)]) (fun a : Nat × Int × Int × (List Core) => a.1 ≤ fu ∧ m_spec_l6Number_l4 a.1 x1 v1 g5 g21 g22 g24 a.2.1 a.2.2.1 a.2.2.2 = some r ∧ 0 ≤ a.2.2.1) (fu, g23, 0, ([] : List Core)) ⟨Nat.le_refl _, hF3, by simp⟩ (by rfl) (by rfl) (fun _ => rfl) (hasF_cons (by conv => lhs; whnf) (by rfl) (hasF_cons (by conv => lhs; whnf) (by rfl) hasF_nil)) (hasO_cons (by conv => lhs; whnf) (by rfl) (hasO_cons (by conv => lhs; whnf) (by rfl) hasO_nil)) (fresh_C hC rfl) (by repeat (first | exact freshS_args rfl | refine freshS_upd rfl ?_ | refine freshS_frame rfl ?_)) (by repeat (first | exact freshM_no | exact objs_fresh rfl | refine freshM_upd rfl ?_ | refine freshM_frame rfl ?_)) ?_
 clear hF3
 rintro ⟨fu, g26, g27, g28⟩ ⟨hl29, hF4, hn_g27⟩
 dsimp only at hl29 hF4 hn_g27 ⊢
 obtain _ | fu := fu
 · rw [m_spec_l6Number_l4] at hF4; cases hF4
 rw [m_spec_l6Number_l4] at hF4
 refine awp_seq (awp_seq (awp_region ?_))
 refine s_mv ?_
 refine s_fa yF29_6 ?_
 refine s_ld1 yA27 ?_
 refine s_lenT yU27 ?_
 refine s_lt ?_
 refine k_nil (k_seq ?_)
 refine w_cond hF4 ?_ ?_ <;> intro hc30 hF5
 refine awp_lenT 73 (fun hb31 => ?_)
 refine awp_skip (k_seq (awp_seq (awp_block (awp_seq (awp_region ?_)))))
 refine s_fa yF29_6 ?_
 refine s_ld1 yA27 ?_
 refine s_mv ?_
 obtain ⟨v32, hv32, hF6⟩ := bind_some' hF5
 refine s_ixT Core.row hv32 (Core.row_eq _) yE27 ?_
 refine s_ldN yA29 yS29 ?_
 iterate 3 refine s_mv ?_
 obtain ⟨v33, hv33, hF7⟩ := bind_some' hF6
 refine s_pure [] (ih_m_spec_l6Number fu (by omega) _ _ _ _ _ hv33) ?_
 refine s_mv ?_
 refine s_ext ?_
 refine s_ext ?_
 refine s_alloc yZ29 ?_
 refine s_stW yS29 ?_
 refine s_as ?_
 refine k_nil (k_seq (awp_seq (awp_region ?_)))
 refine s_mv ?_
 refine s_as ?_
 refine k_nil (k_seq (awp_region ?_))
 refine s_fa yF29_6 ?_
 refine s_ld1 yA27 ?_
 refine s_ldW yA29 yS29 ?_
 refine s_bs Core.row [v33.1] yP27 yR29 ?_
 obtain ⟨hk34, hF8⟩ := chk_some hF7
 refine s_apT Core.row (fun y => Core.row_len y) hk34 yP27 ?_
 refine s_fa yF29_6 ?_
 refine s_stP yS27 ?_
 refine k_nil (k_blk (k_seq (awp_region ?_)))
 refine s_mv ?_
 refine s_add (winc2 hc30 hb31 hn_g27) ?_
 refine s_as ?_
 refine k_nil ?_
 exact s_rn (fu, v33.2, (g27 + 1), (g28 ++ [v33.1])) ⟨by first | omega | (dsimp only; omega), hF8, by first | omega | (dsimp only; omega)⟩ [(5080, 95)]
 refine awp_exit (k_seq_exit (k_rnd_exit2 (k_blk_exit (k_seq (awp_seq (awp_region ?_))))))
 refine s_ldW yA29 yS29 ?_
 refine s_mv ?_
 refine s_stW yS29 ?_
 refine s_as ?_
 refine k_nil (k_seq (awp_ret (k_fin ?_)))
 cases hF5
 exact ends_gen [] [5060, 2023, 12023, 5080] (by rw [Try.results46]; exact (res_agg (by conv => lhs; whnf) (by conv => lhs; whnf) yA29 yS29 rfl (res_tmp (by conv => lhs; whnf) res_nil)))
theorem m_spec_l6Number_all (fuel : Nat) : m_spec_l6Number_AC fuel := by
 induction fuel using Nat.strongRecOn with
 | _ N ih =>
   cases N with
   | zero => exact (by intro x1 x2 x3 x4 r h; rw [m_spec_l6Number] at h; cases h)
   | succ fu => exact m_spec_l6Number_st fu (fun k hk => (ih k (by omega)))
theorem m_spec_l6Number_ok (fuel : Nat) : m_spec_l6Number_AC fuel := (m_spec_l6Number_all fuel)
def m_spec_NumberCore_AC (fuel : Nat) : Prop := ∀ (x1 : Core) (r : (Core × Bool)), m_spec_NumberCore fuel x1 = some r → AC Try.prog 25 [.ag [.t (.sc (.int .i64 x1.kind)), .t (.sc (.int .i64 x1.id)), .t (.sc (.str x1.name)), .t (.sc (.int .i64 x1.n)), .t (.sl (x1.ids.map rI)), .t (.sc (.int .i64 x1.data.kind)), .t (.sc (.str x1.data.name)), .t (.sc (.int .i64 x1.data.n)), .t (.sl (x1.data.scopes.map rI)), .t (.sl (x1.data.kids.map Form.row)), .t (.sl (x1.kids.map Core.row))]] noOb (.tp [.ag [.t (.sc (.int .i64 r.1.kind)), .t (.sc (.int .i64 r.1.id)), .t (.sc (.str r.1.name)), .t (.sc (.int .i64 r.1.n)), .t (.sl (r.1.ids.map rI)), .t (.sc (.int .i64 r.1.data.kind)), .t (.sc (.str r.1.data.name)), .t (.sc (.int .i64 r.1.data.n)), .t (.sl (r.1.data.scopes.map rI)), .t (.sl (r.1.data.kids.map Form.row)), .t (.sl (r.1.kids.map Core.row))], .t (.sc (.bool r.2))]) noOb
theorem m_spec_NumberCore_ok (fuel : Nat) : m_spec_NumberCore_AC fuel := by
 intro x1 r hF0
 unfold m_spec_NumberCore at hF0
 refine AC_i [.ag [.t (.sc (.int .i64 r.1.kind)), .t (.sc (.int .i64 r.1.id)), .t (.sc (.str r.1.name)), .t (.sc (.int .i64 r.1.n)), .t (.sl (r.1.ids.map rI)), .t (.sc (.int .i64 r.1.data.kind)), .t (.sc (.str r.1.data.name)), .t (.sc (.int .i64 r.1.data.n)), .t (.sl (r.1.data.scopes.map rI)), .t (.sl (r.1.data.kids.map Form.row)), .t (.sl (r.1.kids.map Core.row))], .t (.sc (.bool r.2))] Try.func25 rfl Try.ntmps25 ?_
 intro C hC
 refine awp_seq (awp_region ?_)
 refine s_box ?_
 refine s_alloc yZ29 ?_
 refine s_as ?_
 refine k_nil (k_seq (awp_seq (awp_seq (awp_region ?_))))
 refine s_ldW yA29 yS29 ?_
 obtain ⟨v1, hv1, hF1⟩ := bind_some' hF0
 refine s_pure [] (m_spec_CoreValid_ok fuel _ _ hv1) ?_
 refine s_not ?_
 refine k_nil (k_seq ?_)
 refine w_cond hF1 ?_ ?_ <;> intro hc2 hF2
 refine awp_seq (awp_region ?_)
 refine s_bld yZ29 yL29 ?_
 refine s_stW yS29 ?_
 refine s_as ?_
 refine k_nil (k_seq (awp_ret (k_seq_ret (k_fin ?_))))
 cases hF2
 exact ends_gen [] [] (by rw [Try.results25]; exact (res_agg (by conv => lhs; whnf) (by conv => lhs; whnf) yA29 yS29 rfl (res_tmp (by conv => lhs; whnf) res_nil)))
 refine awp_skip (k_seq (awp_seq (awp_region ?_)))
 refine s_ldW yA29 yS29 ?_
 refine s_bs rI ([] : List Int) yP23 yR3 ?_
 refine s_bs rI ([] : List Int) yP23 yR3 ?_
 obtain ⟨v3, hv3, hF3⟩ := bind_some' hF2
 refine s_pure [12, 13] (m_spec_l6Number_ok fuel _ _ _ _ _ hv3) ?_
 refine s_mv ?_
 refine s_ext ?_
 refine s_ext ?_
 refine s_alloc yZ29 ?_
 refine s_stW yS29 ?_
 refine s_as ?_
 refine k_nil (k_seq (awp_seq (awp_seq (awp_region ?_))))
 refine s_mv ?_
 refine s_gt ?_
 refine k_nil (k_seq ?_)
 refine w_cond hF3 ?_ ?_ <;> intro hc4 hF4
 refine awp_seq (awp_region ?_)
 refine s_bld yZ29 yL29 ?_
 refine s_stW yS29 ?_
 refine s_as ?_
 refine k_nil (k_seq (awp_ret (k_seq_ret (k_fin ?_))))
 cases hF4
 exact ends_gen [] [] (by rw [Try.results25]; exact (res_agg (by conv => lhs; whnf) (by conv => lhs; whnf) yA29 yS29 rfl (res_tmp (by conv => lhs; whnf) res_nil)))
 refine awp_skip (k_seq (awp_seq (awp_region ?_)))
 refine s_ldW yA29 yS29 ?_
 refine s_stW yS29 ?_
 refine s_as ?_
 refine k_nil (k_seq (awp_ret (k_fin ?_)))
 cases hF4
 exact ends_gen [] [] (by rw [Try.results25]; exact (res_agg (by conv => lhs; whnf) (by conv => lhs; whnf) yA29 yS29 rfl (res_tmp (by conv => lhs; whnf) res_nil)))
def m_spec_l6Two_AC (fuel : Nat) : Prop := ∀ (x1 : (List Int)) (r : (Core × Core)), m_spec_l6Two fuel x1 = some r → AC Try.prog 42 [.t (.sl (x1.map rB))] noOb (.tp [.ag [.t (.sc (.int .i64 r.1.kind)), .t (.sc (.int .i64 r.1.id)), .t (.sc (.str r.1.name)), .t (.sc (.int .i64 r.1.n)), .t (.sl (r.1.ids.map rI)), .t (.sc (.int .i64 r.1.data.kind)), .t (.sc (.str r.1.data.name)), .t (.sc (.int .i64 r.1.data.n)), .t (.sl (r.1.data.scopes.map rI)), .t (.sl (r.1.data.kids.map Form.row)), .t (.sl (r.1.kids.map Core.row))], .ag [.t (.sc (.int .i64 r.2.kind)), .t (.sc (.int .i64 r.2.id)), .t (.sc (.str r.2.name)), .t (.sc (.int .i64 r.2.n)), .t (.sl (r.2.ids.map rI)), .t (.sc (.int .i64 r.2.data.kind)), .t (.sc (.str r.2.data.name)), .t (.sc (.int .i64 r.2.data.n)), .t (.sl (r.2.data.scopes.map rI)), .t (.sl (r.2.data.kids.map Form.row)), .t (.sl (r.2.kids.map Core.row))]]) noOb
theorem m_spec_l6Two_ok (fuel : Nat) : m_spec_l6Two_AC fuel := by
 intro x1 r hF0
 unfold m_spec_l6Two at hF0
 refine AC_i [.ag [.t (.sc (.int .i64 r.1.kind)), .t (.sc (.int .i64 r.1.id)), .t (.sc (.str r.1.name)), .t (.sc (.int .i64 r.1.n)), .t (.sl (r.1.ids.map rI)), .t (.sc (.int .i64 r.1.data.kind)), .t (.sc (.str r.1.data.name)), .t (.sc (.int .i64 r.1.data.n)), .t (.sl (r.1.data.scopes.map rI)), .t (.sl (r.1.data.kids.map Form.row)), .t (.sl (r.1.kids.map Core.row))], .ag [.t (.sc (.int .i64 r.2.kind)), .t (.sc (.int .i64 r.2.id)), .t (.sc (.str r.2.name)), .t (.sc (.int .i64 r.2.n)), .t (.sl (r.2.ids.map rI)), .t (.sc (.int .i64 r.2.data.kind)), .t (.sc (.str r.2.data.name)), .t (.sc (.int .i64 r.2.data.n)), .t (.sl (r.2.data.scopes.map rI)), .t (.sl (r.2.data.kids.map Form.row)), .t (.sl (r.2.kids.map Core.row))]] Try.func42 rfl Try.ntmps42 ?_
 intro C hC
 refine awp_seq (awp_region ?_)
 refine s_alloc yZ29 ?_
 refine s_alloc yZ29 ?_
 refine k_nil (k_seq (awp_seq (awp_region ?_)))
 refine s_mv ?_
 obtain ⟨v1, hv1, hF1⟩ := bind_some' hF0
 refine s_pure [] (m_spec_l6Draw_ok fuel _ _ hv1) ?_
 refine s_alloc yZ29 ?_
 refine s_stW yS29 ?_
 refine k_nil (k_seq (awp_seq (awp_region ?_)))
 refine s_mv ?_
 obtain ⟨v2, hv2, hF2⟩ := bind_some' hF1
 refine s_call [(10, 11)] [] _ _ (m_spec_l15Open_ok fuel _ _ hv2) ?_
 refine s_as ?_
 refine k_nil (k_seq (awp_seq (awp_region ?_)))
 refine s_ldW yA29 yS29 ?_
 obtain ⟨v3, hv3, hF3⟩ := bind_some' hF2
 refine s_pure [] (m_spec_NumberCore_ok fuel _ _ hv3) ?_
 refine s_mv ?_
 refine s_ext ?_
 refine s_ext ?_
 refine s_alloc yZ29 ?_
 refine s_stW yS29 ?_
 refine s_as ?_
 refine k_nil (k_seq (awp_seq ?_))
 refine awp_jn (α := Nat × Bool × (List Int) × Int) [17, 18, 19, 20, 21, 22] [11] [] (fun a => [(22, .t (.sc (.bool a.2.1)))]) (fun a => [(11, .box [.t (.sl (a.2.2.1.map rB)), .t (.sc (.int .i64 a.2.2.2))])]) (fun a => a.1 ≤ fuel ∧ m_spec_l6Two_j1 a.1 v1 v3 a.2.1 a.2.2.1 a.2.2.2 = some r) ?_ ?_
 refine awp_region ?_
 refine s_mv ?_
 refine s_mv ?_
 refine w_guard _ 18 hF3 ?_ ?_ <;> intro hc4 hF4
 refine s_mv ?_
 obtain ⟨v5, hv5, hF5⟩ := bind_some' hF4
 refine s_call [(9000, 11)] [] _ _ (m_spec_l15Rd_pick_ok fuel _ _ _ hv5) ?_
 refine s_gt ?_
 refine s_pkt ?_
 refine k_nil ?_
 exact s_jn (fuel, (decide (0 < v5.1)), v5.2.b, v5.2.p) ⟨by first | omega | (dsimp only; omega), hF5⟩
 iterate 3 refine r_no rfl ?_
 refine s_pkf ?_
 refine k_nil ?_
 exact s_jn (fuel, false, v2.b, v2.p) ⟨by first | omega | (dsimp only; omega), hF4⟩
 clear hF3
 rintro ⟨fu, g6, g7, g8⟩ ⟨hl9, hF4⟩
 dsimp only at hl9 hF4 ⊢
 obtain _ | fu := fu
 · rw [m_spec_l6Two_j1] at hF4; cases hF4
 rw [m_spec_l6Two_j1] at hF4
 refine w_cond hF4 ?_ ?_ <;> intro hc10 hF5
 refine awp_seq ?_
 refine awp_draw yMix (by kernel_rfl) ?_
 refine s_ldW yA29 yS29 ?_
 refine s_ldW yA29 yS29 ?_
 refine s_stW yS29 ?_
 refine s_stW yS29 ?_
 refine k_nilD (by kernel_rfl) ?_
 refine k_seq (awp_ret (k_seq_ret (k_fin ?_)))
 cases hF5
 exact ends_gen [] [] (by rw [Try.results42]; exact (res_agg (by conv => lhs; whnf) (by conv => lhs; whnf) yA29 yS29 rfl (res_agg (by conv => lhs; whnf) (by conv => lhs; whnf) yA29 yS29 rfl res_nil)))
 refine awp_skip (k_seq (awp_seq ?_))
 refine awp_draw yMix (by kernel_rfl) ?_
 refine s_ldW yA29 yS29 ?_
 refine s_mv0 ?_
 refine s_mv0 ?_
 refine s_ldW yA29 yS29 ?_
 obtain ⟨v11, hv11, hF6⟩ := bind_some' hF5
 refine s_call [(9000, 11)] [] _ _ (m_spec_l6Mutate_ok fu _ _ _ hv11) ?_
 obtain ⟨v12, hv12, hF7⟩ := bind_some' hF6
 refine s_call [(9000, 11)] [] _ _ (m_spec_l6Mutate_ok fu _ _ _ hv12) ?_
 refine s_stW yS29 ?_
 refine s_stW yS29 ?_
 refine k_nilD (by kernel_rfl) ?_
 refine k_seq (awp_ret (k_fin ?_))
 cases hF7
 exact ends_gen [] [] (by rw [Try.results42]; exact (res_agg (by conv => lhs; whnf) (by conv => lhs; whnf) yA29 yS29 rfl (res_agg (by conv => lhs; whnf) (by conv => lhs; whnf) yA29 yS29 rfl res_nil)))
def m_spec_DrawCoreAlike_AC (fuel : Nat) : Prop := ∀ (x1 : (List Int)) (r : (Core × Core)), m_spec_DrawCoreAlike fuel x1 = some r → AC Try.prog 20 [.t (.sl (x1.map rB))] noOb (.tp [.ag [.t (.sc (.int .i64 r.1.kind)), .t (.sc (.int .i64 r.1.id)), .t (.sc (.str r.1.name)), .t (.sc (.int .i64 r.1.n)), .t (.sl (r.1.ids.map rI)), .t (.sc (.int .i64 r.1.data.kind)), .t (.sc (.str r.1.data.name)), .t (.sc (.int .i64 r.1.data.n)), .t (.sl (r.1.data.scopes.map rI)), .t (.sl (r.1.data.kids.map Form.row)), .t (.sl (r.1.kids.map Core.row))], .ag [.t (.sc (.int .i64 r.2.kind)), .t (.sc (.int .i64 r.2.id)), .t (.sc (.str r.2.name)), .t (.sc (.int .i64 r.2.n)), .t (.sl (r.2.ids.map rI)), .t (.sc (.int .i64 r.2.data.kind)), .t (.sc (.str r.2.data.name)), .t (.sc (.int .i64 r.2.data.n)), .t (.sl (r.2.data.scopes.map rI)), .t (.sl (r.2.data.kids.map Form.row)), .t (.sl (r.2.kids.map Core.row))]]) noOb
theorem m_spec_DrawCoreAlike_ok (fuel : Nat) : m_spec_DrawCoreAlike_AC fuel := by
 intro x1 r hF0
 unfold m_spec_DrawCoreAlike at hF0
 refine AC_i [.ag [.t (.sc (.int .i64 r.1.kind)), .t (.sc (.int .i64 r.1.id)), .t (.sc (.str r.1.name)), .t (.sc (.int .i64 r.1.n)), .t (.sl (r.1.ids.map rI)), .t (.sc (.int .i64 r.1.data.kind)), .t (.sc (.str r.1.data.name)), .t (.sc (.int .i64 r.1.data.n)), .t (.sl (r.1.data.scopes.map rI)), .t (.sl (r.1.data.kids.map Form.row)), .t (.sl (r.1.kids.map Core.row))], .ag [.t (.sc (.int .i64 r.2.kind)), .t (.sc (.int .i64 r.2.id)), .t (.sc (.str r.2.name)), .t (.sc (.int .i64 r.2.n)), .t (.sl (r.2.ids.map rI)), .t (.sc (.int .i64 r.2.data.kind)), .t (.sc (.str r.2.data.name)), .t (.sc (.int .i64 r.2.data.n)), .t (.sl (r.2.data.scopes.map rI)), .t (.sl (r.2.data.kids.map Form.row)), .t (.sl (r.2.kids.map Core.row))]] Try.func20 rfl Try.ntmps20 ?_
 intro C hC
 refine awp_seq (awp_region ?_)
 refine s_alloc yZ29 ?_
 refine s_alloc yZ29 ?_
 refine k_nil (k_seq (awp_seq (awp_region ?_)))
 refine s_mv ?_
 obtain ⟨v1, hv1, hF1⟩ := bind_some' hF0
 refine s_pure [] (m_spec_l6Two_ok fuel _ _ hv1) ?_
 refine s_ext ?_
 refine s_ext ?_
 refine s_stW yS29 ?_
 refine s_stW yS29 ?_
 refine k_nil (k_seq (awp_ret (k_fin ?_)))
 cases hF1
 exact ends_gen [] [] (by rw [Try.results20]; exact (res_agg (by conv => lhs; whnf) (by conv => lhs; whnf) yA29 yS29 rfl (res_agg (by conv => lhs; whnf) (by conv => lhs; whnf) yA29 yS29 rfl res_nil)))
def m_spec_l6Alike_AC (fuel : Nat) : Prop := ∀ (x1 : Core) (x2 : Core) (x3 : (List Int)) (x4 : (List Int)) (r : Bool), m_spec_l6Alike fuel x1 x2 x3 x4 = some r → AC Try.prog 43 [.ag [.t (.sc (.int .i64 x1.kind)), .t (.sc (.int .i64 x1.id)), .t (.sc (.str x1.name)), .t (.sc (.int .i64 x1.n)), .t (.sl (x1.ids.map rI)), .t (.sc (.int .i64 x1.data.kind)), .t (.sc (.str x1.data.name)), .t (.sc (.int .i64 x1.data.n)), .t (.sl (x1.data.scopes.map rI)), .t (.sl (x1.data.kids.map Form.row)), .t (.sl (x1.kids.map Core.row))], .ag [.t (.sc (.int .i64 x2.kind)), .t (.sc (.int .i64 x2.id)), .t (.sc (.str x2.name)), .t (.sc (.int .i64 x2.n)), .t (.sl (x2.ids.map rI)), .t (.sc (.int .i64 x2.data.kind)), .t (.sc (.str x2.data.name)), .t (.sc (.int .i64 x2.data.n)), .t (.sl (x2.data.scopes.map rI)), .t (.sl (x2.data.kids.map Form.row)), .t (.sl (x2.kids.map Core.row))], .t (.sl (x3.map rI)), .t (.sl (x4.map rI))] noOb (.t (.sc (.bool r))) noOb
theorem m_spec_l6Alike_st (fu : Nat) (ih_m_spec_l6Alike : ∀ k, k ≤ fu → m_spec_l6Alike_AC k) : m_spec_l6Alike_AC (fu + 1) := by
 intro x1 x2 x3 x4 r hF0
 rw [m_spec_l6Alike] at hF0
 refine AC_i [.t (.sc (.bool r))] Try.func43 rfl Try.ntmps43 ?_
 intro C hC
 refine awp_seq (awp_region ?_)
 refine s_box ?_
 refine s_box ?_
 refine s_as ?_
 refine k_nil (k_seq (awp_seq ?_))
 refine awp_jn (α := Nat × Bool) [12, 13, 14, 15, 16, 17, 18, 19, 20, 21, 22, 23, 24, 25, 26, 27, 28, 29, 30, 31, 32, 33, 34, 35, 36, 37, 38, 39, 40, 41, 42, 43, 44, 45, 46, 47, 48, 49, 50, 51, 52, 53, 54, 55, 56] [] [] (fun a => [(56, .t (.sc (.bool a.2)))]) (fun a => []) (fun a => a.1 ≤ fu ∧ m_spec_l6Alike_j1 a.1 x1 x2 x3 x4 a.2 = some r) ?_ ?_
 refine awp_region ?_
 refine s_fa yF29_0 ?_
 refine s_ld1 yA3 ?_
 refine s_fa yF29_0 ?_
 refine s_ld1 yA3 ?_
 refine s_ne ?_
 refine s_mv ?_
 refine w_guard _ 17 hF0 ?_ ?_ <;> intro hc1 hF1
 iterate 5 refine r_no rfl ?_
 refine s_pkt ?_
 refine s_mv ?_
 iterate 5 refine r_no rfl ?_
 refine s_pkt ?_
 refine s_mv ?_
 iterate 7 refine r_no rfl ?_
 refine s_pkt ?_
 refine s_mv ?_
 iterate 6 refine r_no rfl ?_
 refine s_pkt ?_
 refine s_mv ?_
 iterate 7 refine r_no rfl ?_
 refine s_pkt ?_
 refine k_nil ?_
 exact s_jn (fu, true) ⟨by first | omega | (dsimp only; omega), hF1⟩
 refine s_fa yF29_2 ?_
 refine s_ld1 yA9 ?_
 refine s_fa yF29_2 ?_
 refine s_ld1 yA9 ?_
 refine s_neS ?_
 refine s_pkf ?_
 refine s_mv ?_
 refine w_guard _ 24 hF1 ?_ ?_ <;> intro hc2 hF2
 iterate 5 refine r_no rfl ?_
 refine s_pkt ?_
 refine s_mv ?_
 iterate 7 refine r_no rfl ?_
 refine s_pkt ?_
 refine s_mv ?_
 iterate 6 refine r_no rfl ?_
 refine s_pkt ?_
 refine s_mv ?_
 iterate 7 refine r_no rfl ?_
 refine s_pkt ?_
 refine k_nil ?_
 exact s_jn (fu, true) ⟨by first | omega | (dsimp only; omega), hF2⟩
 refine s_fa yF29_3 ?_
 refine s_ld1 yA3 ?_
 refine s_fa yF29_3 ?_
 refine s_ld1 yA3 ?_
 refine s_ne ?_
 refine s_pkf ?_
 refine s_mv ?_
 refine w_guard _ 31 hF2 ?_ ?_ <;> intro hc3 hF3
 iterate 7 refine r_no rfl ?_
 refine s_pkt ?_
 refine s_mv ?_
 iterate 6 refine r_no rfl ?_
 refine s_pkt ?_
 refine s_mv ?_
 iterate 7 refine r_no rfl ?_
 refine s_pkt ?_
 refine k_nil ?_
 exact s_jn (fu, true) ⟨by first | omega | (dsimp only; omega), hF3⟩
 refine s_fa yF29_4 ?_
 refine s_ld1 yA23 ?_
 refine s_lenT yU23 ?_
 refine s_fa yF29_4 ?_
 refine s_ld1 yA23 ?_
 refine s_lenT yU23 ?_
 refine s_ne ?_
 refine s_pkf ?_
 refine s_mv ?_
 refine w_guard _ 40 hF3 ?_ ?_ <;> intro hc4 hF4
 iterate 6 refine r_no rfl ?_
 refine s_pkt ?_
 refine s_mv ?_
 iterate 7 refine r_no rfl ?_
 refine s_pkt ?_
 refine k_nil ?_
 exact s_jn (fu, true) ⟨by first | omega | (dsimp only; omega), hF4⟩
 refine s_fa yF29_5 ?_
 refine s_ldN yA26 yS26 ?_
 refine s_fa yF29_5 ?_
 refine s_ldN yA26 yS26 ?_
 obtain ⟨v5, hv5, hF5⟩ := bind_some' hF4
 refine s_pure [] (m_spec_FormSame_ok fu _ _ _ hv5) ?_
 refine s_not ?_
 refine s_pkf ?_
 refine s_mv ?_
 refine w_guard _ 48 hF5 ?_ ?_ <;> intro hc6 hF6
 iterate 7 refine r_no rfl ?_
 refine s_pkt ?_
 refine k_nil ?_
 exact s_jn (fu, true) ⟨by first | omega | (dsimp only; omega), hF6⟩
 refine s_fa yF29_6 ?_
 refine s_ld1 yA27 ?_
 refine s_lenT yU27 ?_
 refine s_fa yF29_6 ?_
 refine s_ld1 yA27 ?_
 refine s_lenT yU27 ?_
 refine s_ne ?_
 refine s_pkf ?_
 refine k_nil ?_
 exact s_jn (fu, (decide ((x1.kids.length : Int) ≠ (x2.kids.length : Int)))) ⟨by first | omega | (dsimp only; omega), hF6⟩
 clear hF0
 rintro ⟨fu, g7⟩ ⟨hl8, hF1⟩
 dsimp only at hl8 hF1 ⊢
 obtain _ | fu := fu
 · rw [m_spec_l6Alike_j1] at hF1; cases hF1
 rw [m_spec_l6Alike_j1] at hF1
 refine w_cond hF1 ?_ ?_ <;> intro hc9 hF2
 refine awp_seq (awp_region ?_)
 refine s_as ?_
 refine k_nil (k_seq (awp_ret (k_seq_ret (k_fin ?_))))
 cases hF2
 exact ends_a [] [] Try.results43
 refine awp_skip (k_seq ?_)
 refine awp_jn (α := Nat) [8, 57, 58, 59, 60, 61, 62, 63, 64, 65, 66, 67, 68, 69, 70] [] [] (fun a => []) (fun a => []) (fun a => a ≤ fu ∧ m_spec_l6Alike_j2 a x1 x2 x3 x4  = some r) ?_ ?_
 refine awp_seq ?_
 refine awp_draw yMix (by kernel_rfl) ?_
 refine s_fa yF29_0 ?_
 refine s_ld1 yA3 ?_
 refine s_eq ?_
 refine s_mv ?_
 refine w_guard _ 60 hF2 ?_ ?_ <;> intro hc10 hF3
 refine s_mv ?_
 refine s_fa yF29_1 ?_
 refine s_ld1 yA3 ?_
 obtain ⟨v11, hv11, hF4⟩ := bind_some' hF3
 refine s_pure [] (m_spec_l6Last_ok fu _ _ _ hv11) ?_
 refine s_mv ?_
 refine s_fa yF29_1 ?_
 refine s_ld1 yA3 ?_
 obtain ⟨v12, hv12, hF5⟩ := bind_some' hF4
 refine s_pure [] (m_spec_l6Last_ok fu _ _ _ hv12) ?_
 refine s_ne ?_
 refine s_pkt ?_
 refine k_nilD (by kernel_rfl) ?_
 refine k_seq ?_
 refine w_cond hF5 ?_ ?_ <;> intro hc13 hF6
 refine awp_seq (awp_region ?_)
 refine s_as ?_
 refine k_nil (k_seq (awp_ret (k_jn_ret (k_fin ?_))))
 cases hF6
 exact ends_a [] [] Try.results43
 refine awp_skip ?_
 exact s_jn (fu) ⟨by first | omega | (dsimp only; omega), hF6⟩
 iterate 9 refine r_no rfl ?_
 refine s_pkf ?_
 refine k_nilD (by kernel_rfl) ?_
 refine k_seq (awp_false rfl (awp_skip ?_))
 exact s_jn (fu) ⟨by first | omega | (dsimp only; omega), hF3⟩
 clear hF2
 rintro fu ⟨hl14, hF3⟩
 obtain _ | fu := fu
 · rw [m_spec_l6Alike_j2] at hF3; cases hF3
 rw [m_spec_l6Alike_j2] at hF3
 refine awp_seq ?_
 refine awp_draw yMix (by kernel_rfl) ?_
 refine s_bs rI ([] : List Int) yP23 yR3 ?_
 refine s_mv ?_
 obtain ⟨hk15, hF4⟩ := chk_some hF3
 refine s_apT rI (fun _ => rfl) hk15 yP23 ?_
 refine s_fa yF29_4 ?_
 refine s_ld1 yA23 ?_
 obtain ⟨hk16, hF5⟩ := chk_some hF4
 refine s_apT rI (fun _ => rfl) hk16 yP23 ?_
 refine s_as ?_
 refine k_nilD (by kernel_rfl) ?_
 refine k_seq (awp_seq ?_)
 refine awp_draw yMix (by kernel_rfl) ?_
 refine s_bs rI ([] : List Int) yP23 yR3 ?_
 refine s_mv ?_
 obtain ⟨hk17, hF6⟩ := chk_some hF5
 refine s_apT rI (fun _ => rfl) hk17 yP23 ?_
 refine s_fa yF29_4 ?_
 refine s_ld1 yA23 ?_
 obtain ⟨hk18, hF7⟩ := chk_some hF6
 refine s_apT rI (fun _ => rfl) hk18 yP23 ?_
 refine s_as ?_
 refine k_nilD (by kernel_rfl) ?_
 refine k_seq (awp_seq (awp_seq (awp_region ?_)))
 refine s_as ?_
 refine k_nil (k_seq (awp_block ?_))
 refine awp_frz 76 (by conv => lhs; whnf) ?_
 refine awp_frz 82 (by conv => lhs; whnf) ?_
 refine awp_fr (β := Int × (List Int) × (List Int)) [8, 11, 83, 84, 85, 86, 87, 88, 89, 90, 91, 92, 93, 94, 95, 96, 97, 98, 99, 100, 101, 102, 103] [76, 82] [] (fun a => [(11, .t (.sc (.int .i64 a.2.1)))]) (fun a => [(76, .arr (a.2.2.1.map rI) 3 false), (82, .arr (a.2.2.2.map rI) 3 false)]) (fun a => a.1 ≤ fu ∧ m_spec_l6Alike_l3 a.1 x1 x2 a.2.1 a.2.2.1 a.2.2.2 = some r ∧ 0 ≤ a.2.1) (fu, 0, ((([] : List Int) ++ x3) ++ x1.ids), ((([] : List Int) ++ x4) ++ x2.ids)) ⟨Nat.le_refl _, hF7, by simp⟩ ?_
 clear hF7
 rintro ⟨fu, g19, g20, g21⟩ ⟨hl22, hF8, hn_g19⟩
 dsimp only at hl22 hF8 hn_g19 ⊢
 obtain _ | fu := fu
 · rw [m_spec_l6Alike_l3] at hF8; cases hF8
 rw [m_spec_l6Alike_l3] at hF8
 refine awp_seq (awp_seq (awp_region ?_))
 refine s_mv ?_
 refine s_fa yF29_6 ?_
 refine s_ld1 yA27 ?_
 refine s_lenT yU27 ?_
 refine s_lt ?_
 refine k_nil (k_seq ?_)
 refine w_cond hF8 ?_ ?_ <;> intro hc23 hF9
 refine awp_lenT 85 (fun hb24 => ?_)
 refine awp_skip (k_seq (awp_seq (awp_block (awp_seq ?_))))
 refine awp_draw yMix (by kernel_rfl) ?_
 refine s_fa yF29_6 ?_
 refine s_ld1 yA27 ?_
 refine s_mv ?_
 obtain ⟨v25, hv25, hF10⟩ := bind_some' hF9
 refine s_ixT Core.row hv25 (Core.row_eq _) yE27 ?_
 refine s_ldN yA29 yS29 ?_
 refine s_fa yF29_6 ?_
 refine s_ld1 yA27 ?_
 refine s_mv ?_
 obtain ⟨v26, hv26, hF11⟩ := bind_some' hF10
 refine s_ixT Core.row hv26 (Core.row_eq _) yE27 ?_
 refine s_ldN yA29 yS29 ?_
 refine s_mv0 ?_
 refine s_mv0 ?_
 obtain ⟨v27, hv27, hF12⟩ := bind_some' hF11
 refine s_pure [76, 82] (ih_m_spec_l6Alike fu (by omega) _ _ _ _ _ hv27) ?_
 refine s_not ?_
 refine k_nilD (by kernel_rfl) ?_
 refine k_seq ?_
 refine w_cond hF12 ?_ ?_ <;> intro hc28 hF13
 refine awp_seq (awp_region ?_)
 refine s_as ?_
 refine k_nil (k_seq (awp_ret (k_blk_ret (k_seq_ret (k_rnd_ret2 (k_blk_ret (k_seq_ret (k_fin ?_))))))))
 cases hF13
 exact ends_a [] [] Try.results43
 refine awp_skip (k_blk (k_seq (awp_region ?_)))
 refine s_mv ?_
 refine s_add (winc2 hc23 hb24 hn_g19) ?_
 refine s_as ?_
 refine k_nil ?_
 exact s_rn (fu, (g19 + 1), g20, g21) ⟨by first | omega | (dsimp only; omega), hF13, by first | omega | (dsimp only; omega)⟩
 refine awp_exit (k_seq_exit (k_rnd_exit2 (k_blk_exit (k_seq (awp_seq (awp_region ?_))))))
 refine s_as ?_
 refine k_nil (k_seq (awp_ret (k_fin ?_)))
 cases hF9
 exact ends_a [] [] Try.results43
theorem m_spec_l6Alike_all (fuel : Nat) : m_spec_l6Alike_AC fuel := by
 induction fuel using Nat.strongRecOn with
 | _ N ih =>
   cases N with
   | zero => exact (by intro x1 x2 x3 x4 r h; rw [m_spec_l6Alike] at h; cases h)
   | succ fu => exact m_spec_l6Alike_st fu (fun k hk => (ih k (by omega)))
theorem m_spec_l6Alike_ok (fuel : Nat) : m_spec_l6Alike_AC fuel := (m_spec_l6Alike_all fuel)
def m_spec_CoreAlike_AC (fuel : Nat) : Prop := ∀ (x1 : Core) (x2 : Core) (r : Bool), m_spec_CoreAlike fuel x1 x2 = some r → AC Try.prog 21 [.ag [.t (.sc (.int .i64 x1.kind)), .t (.sc (.int .i64 x1.id)), .t (.sc (.str x1.name)), .t (.sc (.int .i64 x1.n)), .t (.sl (x1.ids.map rI)), .t (.sc (.int .i64 x1.data.kind)), .t (.sc (.str x1.data.name)), .t (.sc (.int .i64 x1.data.n)), .t (.sl (x1.data.scopes.map rI)), .t (.sl (x1.data.kids.map Form.row)), .t (.sl (x1.kids.map Core.row))], .ag [.t (.sc (.int .i64 x2.kind)), .t (.sc (.int .i64 x2.id)), .t (.sc (.str x2.name)), .t (.sc (.int .i64 x2.n)), .t (.sl (x2.ids.map rI)), .t (.sc (.int .i64 x2.data.kind)), .t (.sc (.str x2.data.name)), .t (.sc (.int .i64 x2.data.n)), .t (.sl (x2.data.scopes.map rI)), .t (.sl (x2.data.kids.map Form.row)), .t (.sl (x2.kids.map Core.row))]] noOb (.t (.sc (.bool r))) noOb
theorem m_spec_CoreAlike_ok (fuel : Nat) : m_spec_CoreAlike_AC fuel := by
 intro x1 x2 r hF0
 unfold m_spec_CoreAlike at hF0
 refine AC_i [.t (.sc (.bool r))] Try.func21 rfl Try.ntmps21 ?_
 intro C hC
 refine awp_seq (awp_region ?_)
 refine s_box ?_
 refine s_box ?_
 refine s_as ?_
 refine k_nil (k_seq (awp_seq (awp_region ?_)))
 refine s_ldW yA29 yS29 ?_
 obtain ⟨v1, hv1, hF1⟩ := bind_some' hF0
 refine s_pure [] (m_spec_CoreValid_ok fuel _ _ hv1) ?_
 refine s_mv ?_
 refine w_guard _ 7 hF1 ?_ ?_ <;> intro hc2 hF2
 refine s_ldW yA29 yS29 ?_
 obtain ⟨v3, hv3, hF3⟩ := bind_some' hF2
 refine s_pure [] (m_spec_CoreValid_ok fuel _ _ hv3) ?_
 refine s_pkt ?_
 refine s_mv ?_
 refine w_guard _ 11 hF3 ?_ ?_ <;> intro hc4 hF4
 refine s_ldW yA29 yS29 ?_
 refine s_ldW yA29 yS29 ?_
 refine s_bs rI ([] : List Int) yP23 yR3 ?_
 refine s_bs rI ([] : List Int) yP23 yR3 ?_
 obtain ⟨v5, hv5, hF5⟩ := bind_some' hF4
 refine s_pure [14, 15] (m_spec_l6Alike_ok fuel _ _ _ _ _ hv5) ?_
 refine s_pkt ?_
 refine s_as ?_
 refine k_nil (k_seq (awp_ret (k_fin ?_)))
 cases hF5
 exact ends_a [] [] Try.results21
 iterate 5 refine r_no rfl ?_
 refine s_pkf ?_
 refine s_as ?_
 refine k_nil (k_seq (awp_ret (k_fin ?_)))
 cases hF4
 exact ends_a [] [] Try.results21
 refine r_no rfl (r_no rfl ?_)
 refine s_pkf ?_
 refine s_mv ?_
 iterate 5 refine r_no rfl ?_
 refine s_pkf ?_
 refine s_as ?_
 refine k_nil (k_seq (awp_ret (k_fin ?_)))
 cases hF2
 exact ends_a [] [] Try.results21
def m_impl_CoreSame_AC (fuel : Nat) : Prop := ∀ (x1 : Core) (x2 : Core) (r : Bool), m_impl_CoreSame fuel x1 x2 = some r → AC Try.prog 22 [.ag [.t (.sc (.int .i64 x1.kind)), .t (.sc (.int .i64 x1.id)), .t (.sc (.str x1.name)), .t (.sc (.int .i64 x1.n)), .t (.sl (x1.ids.map rI)), .t (.sc (.int .i64 x1.data.kind)), .t (.sc (.str x1.data.name)), .t (.sc (.int .i64 x1.data.n)), .t (.sl (x1.data.scopes.map rI)), .t (.sl (x1.data.kids.map Form.row)), .t (.sl (x1.kids.map Core.row))], .ag [.t (.sc (.int .i64 x2.kind)), .t (.sc (.int .i64 x2.id)), .t (.sc (.str x2.name)), .t (.sc (.int .i64 x2.n)), .t (.sl (x2.ids.map rI)), .t (.sc (.int .i64 x2.data.kind)), .t (.sc (.str x2.data.name)), .t (.sc (.int .i64 x2.data.n)), .t (.sl (x2.data.scopes.map rI)), .t (.sl (x2.data.kids.map Form.row)), .t (.sl (x2.kids.map Core.row))]] noOb (.t (.sc (.bool r))) noOb
theorem m_impl_CoreSame_ok (fuel : Nat) : m_impl_CoreSame_AC fuel := by
 intro x1 x2 r hF0
 unfold m_impl_CoreSame at hF0
 refine AC_i [.t (.sc (.bool r))] Try.func22 rfl Try.ntmps22 ?_
 intro C hC
 refine awp_seq (awp_region ?_)
 refine s_box ?_
 refine s_box ?_
 refine s_as ?_
 refine k_nil (k_seq (awp_seq (awp_region ?_)))
 refine s_ldW yA29 yS29 ?_
 refine s_ldW yA29 yS29 ?_
 obtain ⟨v1, hv1, hF1⟩ := bind_some' hF0
 refine s_pure [] (m_impl_sameCore_ok fuel _ _ _ hv1) ?_
 refine s_as ?_
 refine k_nil (k_seq (awp_ret (k_fin ?_)))
 cases hF1
 exact ends_a [] [] Try.results22
def m_impl_copyForm_AC (fuel : Nat) : Prop := ∀ (x1 : Form) (r : Form), m_impl_copyForm fuel x1 = some r → AC Try.prog 69 [.ag [.t (.sc (.int .i64 x1.kind)), .t (.sc (.str x1.name)), .t (.sc (.int .i64 x1.n)), .t (.sl (x1.scopes.map rI)), .t (.sl (x1.kids.map Form.row))]] noOb (.ag [.t (.sc (.int .i64 r.kind)), .t (.sc (.str r.name)), .t (.sc (.int .i64 r.n)), .t (.sl (r.scopes.map rI)), .t (.sl (r.kids.map Form.row))]) noOb
theorem m_impl_copyForm_st (fu : Nat) (ih_m_impl_copyForm : ∀ k, k ≤ fu → m_impl_copyForm_AC k) : m_impl_copyForm_AC (fu + 1) := by
 intro x1 r hF0
 rw [m_impl_copyForm] at hF0
 refine AC_i [.ag [.t (.sc (.int .i64 r.kind)), .t (.sc (.str r.name)), .t (.sc (.int .i64 r.n)), .t (.sl (r.scopes.map rI)), .t (.sl (r.kids.map Form.row))]] Try.func69 rfl Try.ntmps69 ?_
 intro C hC
 refine awp_seq (awp_region ?_)
 refine s_box ?_
 refine s_alloc yZ26 ?_
 refine k_nil (k_seq (awp_seq ?_))
 refine awp_draw yMix (by kernel_rfl) ?_
 refine s_fa yF26_0 ?_
 refine s_ld1 yA3 ?_
 refine s_fa yF26_1 ?_
 refine s_ld1 yA9 ?_
 refine s_fa yF26_2 ?_
 refine s_ld1 yA3 ?_
 refine s_fa yF26_3 ?_
 refine s_ld1 yA23 ?_
 obtain ⟨v1, hv1, hF1⟩ := bind_some' hF0
 refine s_call [(9200, 2014)] [] _ _ (m_slices_Clone_int_ok fu _ _ hv1) ?_
 refine s_bld yZ26 yL26 ?_
 refine s_alloc yZ26 ?_
 refine s_stW yS26 ?_
 refine k_nilD (by kernel_rfl) ?_
 refine k_seq (awp_seq (awp_seq (awp_region ?_)))
 refine s_fa yF26_4 ?_
 refine s_ld1 yA24 ?_
 refine s_lenT yU24 ?_
 refine s_mv ?_
 refine k_nil (k_seq (awp_block ?_))
 refine awp_ownB 3 5020 26 [.t (.sc (.int .i64 x1.kind)), .t (.sc (.str x1.name)), .t (.sc (.int .i64 x1.n)), .ar 2014, .ar 5020] yI26.choose_spec ?_
 refine awp_frame2 [5, 19, 20, 21, 22, 23, 24, 25, 26, 27, 28, 29, 30] [3, 5020] [5, 27, 28] [5020] (fun a : Nat × Int × (List Form) => a.1) (fun a : Nat × Int × (List Form) => [(19, .t (.sc (.int .i64 a.2.1)))]) (fun a : Nat × Int × (List Form) => [(3, .box [.t (.sc (.int .i64 x1.kind)), .t (.sc (.str x1.name)), .t (.sc (.int .i64 x1.n)), .ar 2014, .ar 5020]), (5020, .arr (a.2.2.map Form.row) 26 true)]) (fun a : Nat × Int × (List Form) => a.1 ≤ fu ∧ m_impl_copyForm_l1 a.1 x1 v1 a.2.1 a.2.2 = some r ∧ 0 ≤ a.2.1) (fu, 0, ([] : List Form)) ⟨Nat.le_refl _, hF1, by simp⟩ (by rfl) (by rfl) (fun _ => rfl) (hasF_cons (by conv => lhs; whnf) (by rfl) hasF_nil) (hasO_cons (by conv => lhs; whnf) (by rfl) (hasO_cons (by conv => lhs; whnf) (by rfl) hasO_nil)) (fresh_C hC rfl) (by repeat (first | exact freshS_args rfl | refine freshS_upd rfl ?_ | refine freshS_frame rfl ?_)) (by repeat (first | exact freshM_no | exact objs_fresh rfl | refine freshM_upd rfl ?_ | refine freshM_frame rfl ?_)) ?_
 clear hF1
 rintro ⟨fu, g2, g3⟩ ⟨hl4, hF2, hn_g2⟩
 dsimp only at hl4 hF2 hn_g2 ⊢
 obtain _ | fu := fu
 · rw [m_impl_copyForm_l1] at hF2; cases hF2
 rw [m_impl_copyForm_l1] at hF2
 refine awp_seq (awp_region ?_)
 refine s_lt ?_
 refine k_nil (k_seq (awp_seq ?_))
 refine w_cond hF2 ?_ ?_ <;> intro hc5 hF3
 refine awp_lenT 17 (fun hb6 => ?_)
 refine awp_skip (k_seq (awp_seq (awp_block (awp_seq (awp_region ?_)))))
 obtain ⟨v7, hv7, hF4⟩ := bind_some' hF3
 refine s_ixT Form.row hv7 (Form.row_eq _) yE24 ?_
 refine s_ldN yA26 yS26 ?_
 refine s_alloc yZ26 ?_
 refine s_stW yS26 ?_
 refine k_nil (k_seq ?_)
 refine awp_draw yMix (by kernel_rfl) ?_
 refine s_fa yF26_4 ?_
 refine s_ld1 yA24 ?_
 refine s_ldW yA26 yS26 ?_
 obtain ⟨v8, hv8, hF5⟩ := bind_some' hF4
 refine s_pure [] (ih_m_impl_copyForm fu (by omega) _ _ hv8) ?_
 refine s_bs Form.row [v8] yP24 yR26 ?_
 obtain ⟨hk9, hF6⟩ := chk_some hF5
 refine s_apT Form.row (fun y => Form.row_len y) hk9 yP24 ?_
 refine s_fa yF26_4 ?_
 refine s_stP yS24 ?_
 refine k_nilD (by kernel_rfl) ?_
 refine k_blk (k_seq (awp_region ?_))
 refine s_add (winc2 hc5 hb6 hn_g2) ?_
 refine s_mv ?_
 refine k_nil ?_
 exact s_rn (fu, (g2 + 1), (g3 ++ [v8])) ⟨by first | omega | (dsimp only; omega), hF6, by first | omega | (dsimp only; omega)⟩ [(5020, 28)]
 refine awp_exit (k_seq_exit (k_rnd_exit2 (k_blk_exit (k_seq (awp_seq (awp_region ?_))))))
 refine s_ldW yA26 yS26 ?_
 refine s_stW yS26 ?_
 refine k_nil (k_seq (awp_ret (k_fin ?_)))
 cases hF3
 exact ends_gen [] [2014, 5020] (by rw [Try.results69]; exact (res_agg (by conv => lhs; whnf) (by conv => lhs; whnf) yA26 yS26 rfl res_nil))
end Go.Abs
