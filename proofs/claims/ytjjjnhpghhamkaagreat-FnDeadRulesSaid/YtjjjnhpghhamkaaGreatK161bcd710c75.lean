/- A part of the proof: what the functions that the law calls answer, as pure values. -/
import Derived.Test.YtjjjnhpghhamkaaGreatK07f4536f4c0e
import Derived.Test.YtjjjnhpghhamkaaGreatK48ea3fb19802
import Derived.Test.YtjjjnhpghhamkaaGreatK538f51ad5e1b
import Derived.Test.YtjjjnhpghhamkaaGreatK7f945aff5f74
import Derived.Test.YtjjjnhpghhamkaaGreatK8fc326ae717d
import Derived.Test.YtjjjnhpghhamkaaGreatK9e84936d54c5
import Derived.Test.YtjjjnhpghhamkaaGreatKafa8693ac472
set_option linter.unusedSimpArgs false
set_option linter.unusedVariables false
set_option maxRecDepth 100000
set_option maxHeartbeats 4000000
namespace Go.Abs
open Go.Proofs
def m_spec_l5Less_AC (fuel : Nat) : Prop := ∀ (x1 : (List Hit)) (r : (List Hit)), m_spec_l5Less fuel x1 = some r → AC Tryz.prog 196 [.t (.sl (x1.map Hit.row))] noOb (.t (.sl (r.map Hit.row))) noOb
theorem m_spec_l5Less_ok (fuel : Nat) : m_spec_l5Less_AC fuel := by
 intro x1 r hF0
 unfold m_spec_l5Less at hF0
 refine AC_i [.t (.sl (r.map Hit.row))] Tryz.func196 rfl Tryz.ntmps196 ?_
 intro C hC
 refine awp_seq (awp_region ?_)
 refine s_as ?_
 refine k_nil (k_seq (awp_seq (awp_region ?_)))
 refine s_bs Hit.row ([] : List Hit) yP30 yR40 ?_
 refine s_as ?_
 refine k_nil (k_seq (awp_seq (awp_seq (awp_region ?_))))
 refine s_as ?_
 refine k_nil (k_seq (awp_block ?_))
 refine awp_mv 3 6 5020 (by conv => lhs; whnf) (by conv => lhs; whnf) rfl ?_
 refine awp_frame2 [3, 4, 5, 7, 8, 9, 10, 11, 12, 13, 14, 15, 16, 17, 18, 19, 20, 21, 22, 23, 24, 25, 26, 27, 28, 29, 30, 31, 32, 33, 34, 35, 36, 37, 38, 39] [5020] [5, 38, 39] [5020] (fun a : Nat × (List Hit) × Int => a.1) (fun a : Nat × (List Hit) × Int => [(3, .ar 5020), (4, .t (.sc (.int .i64 a.2.2)))]) (fun a : Nat × (List Hit) × Int => [(5020, .arr (a.2.1.map Hit.row) 40 true)]) (fun a : Nat × (List Hit) × Int => a.1 ≤ fuel ∧ m_spec_l5Less_l1 a.1 x1 a.2.1 a.2.2 = some r ∧ 0 ≤ a.2.2) (fuel, ([] : List Hit), 0) ⟨Nat.le_refl _, hF0, by simp⟩ (by rfl) (by rfl) (fun _ => rfl) (hasF_cons (by conv => lhs; whnf) (by rfl) (hasF_cons (by conv => lhs; whnf) (by rfl) hasF_nil)) (hasO_cons (by conv => lhs; whnf) (by rfl) hasO_nil) (fresh_C hC rfl) (by repeat (first | exact freshS_args rfl | refine freshS_upd rfl ?_ | refine freshS_frame rfl ?_)) (by repeat (first | exact freshM_no | exact objs_fresh rfl | refine freshM_upd rfl ?_ | refine freshM_frame rfl ?_)) ?_
 clear hF0
 rintro ⟨fu, g1, g2⟩ ⟨hl3, hF1, hn_g2⟩
 dsimp only at hl3 hF1 hn_g2 ⊢
 obtain _ | fu := fu
 · rw [m_spec_l5Less_l1] at hF1; cases hF1
 rw [m_spec_l5Less_l1] at hF1
 refine awp_seq (awp_seq (awp_region ?_))
 refine s_mv ?_
 refine s_mv ?_
 refine s_lenT yU30 ?_
 refine s_lt ?_
 refine k_nil (k_seq ?_)
 refine w_cond hF1 ?_ ?_ <;> intro hc4 hF2
 refine awp_lenT 0 (fun hb5 => ?_)
 refine awp_skip (k_seq (awp_seq (awp_block (awp_seq ?_))))
 refine awp_draw yMix (by kernel_rfl) ?_
 refine s_mv ?_
 refine s_mv ?_
 obtain ⟨v6, hv6, hF3⟩ := bind_some' hF2
 refine s_ixT Hit.row hv6 (Hit.row_eq _) yE30 ?_
 refine s_fa yF40_0 ?_
 refine s_ldN yA27 yS27 ?_
 refine s_mv ?_
 refine s_mv ?_
 obtain ⟨v7, hv7, hF4⟩ := bind_some' hF3
 refine s_ixT Hit.row hv7 (Hit.row_eq _) yE30 ?_
 refine s_fa yF40_1 ?_
 refine s_ld1 yA3 ?_
 refine s_mv ?_
 refine s_mv ?_
 obtain ⟨v8, hv8, hF5⟩ := bind_some' hF4
 refine s_ixT Hit.row hv8 (Hit.row_eq _) yE30 ?_
 refine s_fa yF40_2 ?_
 refine s_ldN yA27 yS27 ?_
 refine s_bld yZ40 yL40 ?_
 refine s_alloc yZ40 ?_
 refine s_stW yS40 ?_
 refine k_nilD (by kernel_rfl) ?_
 refine k_seq (awp_seq (awp_seq (awp_region ?_)))
 refine s_fa yF40_1 ?_
 refine s_ld1 yA3 ?_
 refine s_gt ?_
 refine k_nil (k_seq ?_)
 refine w_cond hF5 ?_ ?_ <;> intro hc9 hF6
 refine awp_region ?_
 refine s_fa yF40_1 ?_
 refine s_ld1 yA3 ?_
 refine s_sub rfl ?_
 refine s_fa yF40_1 ?_
 refine s_stP yS3 ?_
 refine k_nil (k_seq (awp_region ?_))
 refine s_mv ?_
 refine s_ldW yA40 yS40 ?_
 refine s_bs Hit.row [(Hit.mk v6.name (w64 (v7.depth - 1)) v8.one ([] : List Hit))] yP30 yR40 ?_
 obtain ⟨hk10, hF7⟩ := chk_some hF6
 refine s_apT Hit.row (fun y => Hit.row_len y) hk10 yP30 ?_
 refine s_as ?_
 refine k_nil (k_blk (k_seq (awp_region ?_)))
 refine s_mv ?_
 refine s_add (winc2 hc4 hb5 hn_g2) ?_
 refine s_as ?_
 refine k_nil ?_
 exact s_rn (fu, (g1 ++ [(Hit.mk v6.name (w64 (v7.depth - 1)) v8.one ([] : List Hit))]), (g2 + 1)) ⟨by first | omega | (dsimp only; omega), hF7, by first | omega | (dsimp only; omega)⟩ [(5020, 39)]
 refine awp_skip (k_seq (awp_region ?_))
 refine s_mv ?_
 refine s_ldW yA40 yS40 ?_
 refine s_bs Hit.row [(Hit.mk v6.name v7.depth v8.one ([] : List Hit))] yP30 yR40 ?_
 obtain ⟨hk11, hF7⟩ := chk_some hF6
 refine s_apT Hit.row (fun y => Hit.row_len y) hk11 yP30 ?_
 refine s_as ?_
 refine k_nil (k_blk (k_seq (awp_region ?_)))
 refine s_mv ?_
 refine s_add (winc2 hc4 hb5 hn_g2) ?_
 refine s_as ?_
 refine k_nil ?_
 exact s_rn (fu, (g1 ++ [(Hit.mk v6.name v7.depth v8.one ([] : List Hit))]), (g2 + 1)) ⟨by first | omega | (dsimp only; omega), hF7, by first | omega | (dsimp only; omega)⟩ [(5020, 39)]
 refine awp_exit (k_seq_exit (k_rnd_exit2 (k_blk_exit (k_seq (awp_seq (awp_region ?_))))))
 refine s_mv ?_
 refine s_as ?_
 refine k_nil (k_seq (awp_ret (k_fin ?_)))
 cases hF2
 exact ends_a [] [5020] Tryz.results196
def m_spec_l5Is_AC (fuel : Nat) : Prop := ∀ (x1 : Form) (x2 : (List Hit)) (r : Bool), m_spec_l5Is fuel x1 x2 = some r → AC Tryz.prog 170 [.ag [.t (.sc (.int .i64 x1.kind)), .t (.sc (.str x1.name)), .t (.sc (.int .i64 x1.n)), .t (.sl (x1.scopes.map rI)), .t (.sl (x1.kids.map Form.row))], .t (.sl (x2.map Hit.row))] noOb (.t (.sc (.bool r))) noOb
theorem m_spec_l5Is_st (fu : Nat) (ih_m_spec_l5Is : ∀ k, k ≤ fu → m_spec_l5Is_AC k) : m_spec_l5Is_AC (fu + 1) := by
 intro x1 x2 r hF0
 rw [m_spec_l5Is] at hF0
 refine AC_i [.t (.sc (.bool r))] Tryz.func170 rfl Tryz.ntmps170 ?_
 intro C hC
 refine awp_seq (awp_region ?_)
 refine s_box ?_
 refine s_as ?_
 refine k_nil (k_seq (awp_seq (awp_seq (awp_region ?_))))
 refine s_ldW yA27 yS27 ?_
 obtain ⟨v1, hv1, hF1⟩ := bind_some' hF0
 refine s_pure [] (m_spec_l4Dots_ok fu _ _ hv1) ?_
 refine s_mv ?_
 refine w_guard _ 8 hF1 ?_ ?_ <;> intro hc2 hF2
 iterate 4 refine r_no rfl ?_
 refine s_pkt ?_
 refine k_nil (k_seq (awp_true rfl (awp_seq (awp_region ?_))))
 refine s_as ?_
 refine k_nil (k_seq (awp_ret (k_seq_ret (k_fin ?_))))
 cases hF2
 exact ends_a [] [] Tryz.results170
 refine s_mv ?_
 refine s_ldW yA27 yS27 ?_
 obtain ⟨v3, hv3, hF3⟩ := bind_some' hF2
 refine s_pure [] (m_spec_l5Depth_ok fu _ _ _ hv3) ?_
 refine s_gt ?_
 refine s_pkf ?_
 refine k_nil (k_seq ?_)
 refine w_cond hF3 ?_ ?_ <;> intro hc4 hF4
 refine awp_seq (awp_region ?_)
 refine s_as ?_
 refine k_nil (k_seq (awp_ret (k_seq_ret (k_fin ?_))))
 cases hF4
 exact ends_a [] [] Tryz.results170
 refine awp_skip (k_seq (awp_seq (awp_seq (awp_region ?_))))
 refine s_as ?_
 refine k_nil (k_seq (awp_block ?_))
 refine awp_fr (β := Int) [4, 5, 14, 15, 16, 17, 18, 19, 20, 21, 22, 23, 24, 25, 26, 27, 28, 29, 30, 31, 32, 33, 34, 35, 36, 37, 38, 39, 40, 41, 42, 43, 44, 45, 46, 47, 48, 49, 50, 51, 52, 53, 54, 55, 56, 57, 58, 59, 60, 61, 62, 63, 64, 65, 66, 67, 68, 69, 70, 71, 72, 73, 74, 75, 76, 77, 78, 79] [] [] (fun a => [(5, .t (.sc (.int .i64 a.2)))]) (fun a => []) (fun a => a.1 ≤ fu ∧ m_spec_l5Is_l1 a.1 x1 x2 a.2 = some r ∧ 0 ≤ a.2) (fu, 0) ⟨Nat.le_refl _, hF4, by simp⟩ ?_
 clear hF4
 rintro ⟨fu, g5⟩ ⟨hl6, hF5, hn_g5⟩
 dsimp only at hl6 hF5 hn_g5 ⊢
 obtain _ | fu := fu
 · rw [m_spec_l5Is_l1] at hF5; cases hF5
 rw [m_spec_l5Is_l1] at hF5
 refine awp_seq (awp_seq (awp_region ?_))
 refine s_mv ?_
 refine s_fa yF27_4 ?_
 refine s_ld1 yA25 ?_
 refine s_lenT yU25 ?_
 refine s_lt ?_
 refine k_nil (k_seq ?_)
 refine w_cond hF5 ?_ ?_ <;> intro hc7 hF6
 refine awp_lenT 16 (fun hb8 => ?_)
 refine awp_skip (k_seq (awp_seq (awp_block (awp_seq (awp_seq (awp_region ?_))))))
 refine s_fa yF27_4 ?_
 refine s_ld1 yA25 ?_
 refine s_mv ?_
 obtain ⟨v9, hv9, hF7⟩ := bind_some' hF6
 refine s_ixT Form.row hv9 (Form.row_eq _) yE25 ?_
 refine s_ldN yA27 yS27 ?_
 obtain ⟨v10, hv10, hF8⟩ := bind_some' hF7
 refine s_pure [] (m_spec_l4Dots_ok fu _ _ hv10) ?_
 refine k_nil (k_seq ?_)
 refine w_cond hF8 ?_ ?_ <;> intro hc11 hF9
 refine awp_seq (awp_seq (awp_region ?_))
 refine s_mv ?_
 refine s_eq ?_
 refine s_mv ?_
 refine w_guard _ 29 hF9 ?_ ?_ <;> intro hc12 hF10
 iterate 7 refine r_no rfl ?_
 refine s_pkt ?_
 refine k_nil (k_seq (awp_true rfl (awp_seq (awp_region ?_))))
 refine s_as ?_
 refine k_nil (k_seq (awp_ret (k_seq_ret (k_seq_ret (k_blk_ret (k_seq_ret (k_rnd_ret2 (k_blk_ret (k_seq_ret (k_fin ?_))))))))))
 cases hF10
 exact ends_a [] [] Tryz.results170
 refine s_fa yF27_4 ?_
 refine s_ld1 yA25 ?_
 refine s_mv ?_
 refine s_sub rfl ?_
 obtain ⟨v13, hv13, hF11⟩ := bind_some' hF10
 refine s_ixT Form.row hv13 (Form.row_eq _) yE25 ?_
 refine s_ldN yA27 yS27 ?_
 obtain ⟨v14, hv14, hF12⟩ := bind_some' hF11
 refine s_pure [] (m_spec_l4Dots_ok fu _ _ hv14) ?_
 refine s_pkf ?_
 refine k_nil (k_seq ?_)
 refine w_cond hF12 ?_ ?_ <;> intro hc15 hF13
 refine awp_seq (awp_region ?_)
 refine s_as ?_
 refine k_nil (k_seq (awp_ret (k_seq_ret (k_seq_ret (k_blk_ret (k_seq_ret (k_rnd_ret2 (k_blk_ret (k_seq_ret (k_fin ?_))))))))))
 cases hF13
 exact ends_a [] [] Tryz.results170
 refine awp_skip (k_seq (awp_exit (k_seq_exit (k_blk_exit (k_seq (awp_region ?_))))))
 refine s_mv ?_
 refine s_add (winc2 hc7 hb8 hn_g5) ?_
 refine s_as ?_
 refine k_nil ?_
 exact s_rn (fu, (g5 + 1)) ⟨by first | omega | (dsimp only; omega), hF13, by first | omega | (dsimp only; omega)⟩
 refine awp_skip (k_seq (awp_seq (awp_seq (awp_region ?_))))
 refine s_mv ?_
 refine s_add (winc2 hc7 hb8 hn_g5) ?_
 refine s_fa yF27_4 ?_
 refine s_ld1 yA25 ?_
 refine s_lenT yU25 ?_
 refine s_lt ?_
 refine s_mv ?_
 refine w_guard _ 44 hF9 ?_ ?_ <;> intro hc16 hF10
 refine s_fa yF27_4 ?_
 refine s_ld1 yA25 ?_
 refine s_mv ?_
 refine s_add (winc2 hc7 hb8 hn_g5) ?_
 obtain ⟨v17, hv17, hF11⟩ := bind_some' hF10
 refine s_ixT Form.row hv17 (Form.row_eq _) yE25 ?_
 refine s_ldN yA27 yS27 ?_
 obtain ⟨v18, hv18, hF12⟩ := bind_some' hF11
 refine s_pure [] (m_spec_l4Dots_ok fu _ _ hv18) ?_
 refine s_pkt ?_
 refine k_nil (k_seq ?_)
 refine w_cond hF12 ?_ ?_ <;> intro hc19 hF13
 refine awp_seq (awp_seq ?_)
 refine awp_draw yMix (by kernel_rfl) ?_
 refine s_mv ?_
 refine s_fa yF27_4 ?_
 refine s_ld1 yA25 ?_
 refine s_mv ?_
 obtain ⟨v20, hv20, hF14⟩ := bind_some' hF13
 refine s_ixT Form.row hv20 (Form.row_eq _) yE25 ?_
 refine s_ldN yA27 yS27 ?_
 obtain ⟨v21, hv21, hF15⟩ := bind_some' hF14
 refine s_pure [] (m_spec_l5Rows_ok fu _ _ _ hv21) ?_
 refine s_not ?_
 refine s_mv ?_
 refine w_guard _ 61 hF15 ?_ ?_ <;> intro hc22 hF16
 iterate 9 refine r_no rfl ?_
 refine s_pkt ?_
 refine k_nilD (by kernel_rfl) ?_
 refine k_seq (awp_true rfl (awp_seq (awp_region ?_)))
 refine s_as ?_
 refine k_nil (k_seq (awp_ret (k_seq_ret (k_seq_ret (k_blk_ret (k_seq_ret (k_rnd_ret2 (k_blk_ret (k_seq_ret (k_fin ?_))))))))))
 cases hF16
 exact ends_a [] [] Tryz.results170
 refine s_fa yF27_4 ?_
 refine s_ld1 yA25 ?_
 refine s_mv ?_
 obtain ⟨v23, hv23, hF17⟩ := bind_some' hF16
 refine s_ixT Form.row hv23 (Form.row_eq _) yE25 ?_
 refine s_ldN yA27 yS27 ?_
 refine s_mv ?_
 obtain ⟨v24, hv24, hF18⟩ := bind_some' hF17
 refine s_pure [] (m_spec_l5Less_ok fu _ _ hv24) ?_
 obtain ⟨v25, hv25, hF19⟩ := bind_some' hF18
 refine s_pure [] (ih_m_spec_l5Is fu (by omega) _ _ _ hv25) ?_
 refine s_not ?_
 refine s_pkf ?_
 refine k_nilD (by kernel_rfl) ?_
 refine k_seq ?_
 refine w_cond hF19 ?_ ?_ <;> intro hc26 hF20
 refine awp_seq (awp_region ?_)
 refine s_as ?_
 refine k_nil (k_seq (awp_ret (k_seq_ret (k_seq_ret (k_blk_ret (k_seq_ret (k_rnd_ret2 (k_blk_ret (k_seq_ret (k_fin ?_))))))))))
 cases hF20
 exact ends_a [] [] Tryz.results170
 refine awp_skip (k_seq (awp_exit (k_seq_exit (k_blk_exit (k_seq (awp_region ?_))))))
 refine s_mv ?_
 refine s_add (winc2 hc7 hb8 hn_g5) ?_
 refine s_as ?_
 refine k_nil ?_
 exact s_rn (fu, (g5 + 1)) ⟨by first | omega | (dsimp only; omega), hF20, by first | omega | (dsimp only; omega)⟩
 refine awp_skip (k_seq (awp_seq (awp_region ?_)))
 refine s_fa yF27_4 ?_
 refine s_ld1 yA25 ?_
 refine s_mv ?_
 obtain ⟨v27, hv27, hF14⟩ := bind_some' hF13
 refine s_ixT Form.row hv27 (Form.row_eq _) yE25 ?_
 refine s_ldN yA27 yS27 ?_
 refine s_mv ?_
 obtain ⟨v28, hv28, hF15⟩ := bind_some' hF14
 refine s_pure [] (ih_m_spec_l5Is fu (by omega) _ _ _ hv28) ?_
 refine s_not ?_
 refine k_nil (k_seq ?_)
 refine w_cond hF15 ?_ ?_ <;> intro hc29 hF16
 refine awp_seq (awp_region ?_)
 refine s_as ?_
 refine k_nil (k_seq (awp_ret (k_blk_ret (k_seq_ret (k_rnd_ret2 (k_blk_ret (k_seq_ret (k_fin ?_))))))))
 cases hF16
 exact ends_a [] [] Tryz.results170
 refine awp_skip (k_blk (k_seq (awp_region ?_)))
 refine s_mv ?_
 refine s_add (winc2 hc7 hb8 hn_g5) ?_
 refine s_as ?_
 refine k_nil ?_
 exact s_rn (fu, (g5 + 1)) ⟨by first | omega | (dsimp only; omega), hF16, by first | omega | (dsimp only; omega)⟩
 iterate 7 refine r_no rfl ?_
 refine s_pkf ?_
 refine k_nil (k_seq (awp_false rfl (awp_skip (k_seq (awp_seq (awp_region ?_))))))
 refine s_fa yF27_4 ?_
 refine s_ld1 yA25 ?_
 refine s_mv ?_
 obtain ⟨v30, hv30, hF11⟩ := bind_some' hF10
 refine s_ixT Form.row hv30 (Form.row_eq _) yE25 ?_
 refine s_ldN yA27 yS27 ?_
 refine s_mv ?_
 obtain ⟨v31, hv31, hF12⟩ := bind_some' hF11
 refine s_pure [] (ih_m_spec_l5Is fu (by omega) _ _ _ hv31) ?_
 refine s_not ?_
 refine k_nil (k_seq ?_)
 refine w_cond hF12 ?_ ?_ <;> intro hc32 hF13
 refine awp_seq (awp_region ?_)
 refine s_as ?_
 refine k_nil (k_seq (awp_ret (k_blk_ret (k_seq_ret (k_rnd_ret2 (k_blk_ret (k_seq_ret (k_fin ?_))))))))
 cases hF13
 exact ends_a [] [] Tryz.results170
 refine awp_skip (k_blk (k_seq (awp_region ?_)))
 refine s_mv ?_
 refine s_add (winc2 hc7 hb8 hn_g5) ?_
 refine s_as ?_
 refine k_nil ?_
 exact s_rn (fu, (g5 + 1)) ⟨by first | omega | (dsimp only; omega), hF13, by first | omega | (dsimp only; omega)⟩
 refine awp_exit (k_seq_exit (k_rnd_exit2 (k_blk_exit (k_seq (awp_seq (awp_region ?_))))))
 refine s_as ?_
 refine k_nil (k_seq (awp_ret (k_fin ?_)))
 cases hF6
 exact ends_a [] [] Tryz.results170
theorem m_spec_l5Is_all (fuel : Nat) : m_spec_l5Is_AC fuel := by
 induction fuel using Nat.strongRecOn with
 | _ N ih =>
   cases N with
   | zero => exact (by intro x1 x2 r h; rw [m_spec_l5Is] at h; cases h)
   | succ fu => exact m_spec_l5Is_st fu (fun k hk => (ih k (by omega)))
theorem m_spec_l5Is_ok (fuel : Nat) : m_spec_l5Is_AC fuel := (m_spec_l5Is_all fuel)
def m_spec_l5Rule_AC (fuel : Nat) : Prop := ∀ (x1 : Rule) (x2 : (List Form)) (r : Bool), m_spec_l5Rule fuel x1 x2 = some r → AC Tryz.prog 154 [.ag [.t (.sc (.int .i64 x1.pattern.kind)), .t (.sc (.str x1.pattern.name)), .t (.sc (.int .i64 x1.pattern.n)), .t (.sl (x1.pattern.scopes.map rI)), .t (.sl (x1.pattern.kids.map Form.row)), .t (.sc (.int .i64 x1.template.kind)), .t (.sc (.str x1.template.name)), .t (.sc (.int .i64 x1.template.n)), .t (.sl (x1.template.scopes.map rI)), .t (.sl (x1.template.kids.map Form.row))], .t (.sl (x2.map Form.row))] noOb (.t (.sc (.bool r))) noOb
theorem m_spec_l5Rule_ok (fuel : Nat) : m_spec_l5Rule_AC fuel := by
 intro x1 x2 r hF0
 unfold m_spec_l5Rule at hF0
 refine AC_i [.t (.sc (.bool r))] Tryz.func154 rfl Tryz.ntmps154 ?_
 intro C hC
 refine awp_seq (awp_region ?_)
 refine s_box ?_
 refine s_as ?_
 refine k_nil (k_seq (awp_seq ?_))
 refine awp_draw yMix (by kernel_rfl) ?_
 refine s_fa yF73_0 ?_
 refine s_ldN yA27 yS27 ?_
 refine s_mv ?_
 obtain ⟨v1, hv1, hF1⟩ := bind_some' hF0
 refine s_pure [] (m_spec_l4Is_ok fuel _ _ _ hv1) ?_
 refine s_mv ?_
 refine w_guard _ 9 hF1 ?_ ?_ <;> intro hc2 hF2
 refine s_fa yF73_0 ?_
 refine s_fa yF27_0 ?_
 refine s_ld1 yA3 ?_
 refine s_eq ?_
 refine s_pkt ?_
 refine s_mv ?_
 refine w_guard _ 15 hF2 ?_ ?_ <;> intro hc3 hF3
 refine s_fa yF73_0 ?_
 refine s_fa yF27_4 ?_
 refine s_ld1 yA25 ?_
 refine s_lenT yU25 ?_
 refine s_gt ?_
 refine s_pkt ?_
 refine s_mv ?_
 refine w_guard _ 22 hF3 ?_ ?_ <;> intro hc4 hF4
 refine s_fa yF73_1 ?_
 refine s_ldN yA27 yS27 ?_
 obtain ⟨v5, hv5, hF5⟩ := bind_some' hF4
 refine s_pure [] (m_spec_FormValid_ok fuel _ _ hv5) ?_
 refine s_pkt ?_
 refine s_mv ?_
 refine w_guard _ 27 hF5 ?_ ?_ <;> intro hc6 hF6
 refine s_fa yF73_1 ?_
 refine s_ldN yA27 yS27 ?_
 refine s_fa yF73_0 ?_
 refine s_ldN yA27 yS27 ?_
 refine s_mv ?_
 obtain ⟨v7, hv7, hF7⟩ := bind_some' hF6
 refine s_pure [] (m_spec_l5Shape_ok fuel _ _ _ hv7) ?_
 obtain ⟨v8, hv8, hF8⟩ := bind_some' hF7
 refine s_pure [] (m_spec_l5Is_ok fuel _ _ _ hv8) ?_
 refine s_pkt ?_
 refine s_as ?_
 refine k_nilD (by kernel_rfl) ?_
 refine k_seq (awp_ret (k_fin ?_))
 cases hF8
 exact ends_a [] [] Tryz.results154
 iterate 7 refine r_no rfl ?_
 refine s_pkf ?_
 refine s_as ?_
 refine k_nilD (by kernel_rfl) ?_
 refine k_seq (awp_ret (k_fin ?_))
 cases hF6
 exact ends_a [] [] Tryz.results154
 iterate 3 refine r_no rfl ?_
 refine s_pkf ?_
 refine s_mv ?_
 iterate 7 refine r_no rfl ?_
 refine s_pkf ?_
 refine s_as ?_
 refine k_nilD (by kernel_rfl) ?_
 refine k_seq (awp_ret (k_fin ?_))
 cases hF4
 exact ends_a [] [] Tryz.results154
 iterate 5 refine r_no rfl ?_
 refine s_pkf ?_
 refine s_mv ?_
 iterate 3 refine r_no rfl ?_
 refine s_pkf ?_
 refine s_mv ?_
 iterate 7 refine r_no rfl ?_
 refine s_pkf ?_
 refine s_as ?_
 refine k_nilD (by kernel_rfl) ?_
 refine k_seq (awp_ret (k_fin ?_))
 cases hF3
 exact ends_a [] [] Tryz.results154
 iterate 4 refine r_no rfl ?_
 refine s_pkf ?_
 refine s_mv ?_
 iterate 5 refine r_no rfl ?_
 refine s_pkf ?_
 refine s_mv ?_
 iterate 3 refine r_no rfl ?_
 refine s_pkf ?_
 refine s_mv ?_
 iterate 7 refine r_no rfl ?_
 refine s_pkf ?_
 refine s_as ?_
 refine k_nilD (by kernel_rfl) ?_
 refine k_seq (awp_ret (k_fin ?_))
 cases hF2
 exact ends_a [] [] Tryz.results154
def m_spec_l5Rules_AC (fuel : Nat) : Prop := ∀ (x1 : (List Rule)) (x2 : (List Form)) (r : Bool), m_spec_l5Rules fuel x1 x2 = some r → AC Tryz.prog 94 [.t (.sl (x1.map Rule.row)), .t (.sl (x2.map Form.row))] noOb (.t (.sc (.bool r))) noOb
theorem m_spec_l5Rules_ok (fuel : Nat) : m_spec_l5Rules_AC fuel := by
 intro x1 x2 r hF0
 unfold m_spec_l5Rules at hF0
 refine AC_i [.t (.sc (.bool r))] Tryz.func94 rfl Tryz.ntmps94 ?_
 intro C hC
 refine awp_seq (awp_region ?_)
 refine s_as ?_
 refine k_nil (k_seq (awp_seq (awp_seq (awp_region ?_))))
 refine s_as ?_
 refine k_nil (k_seq (awp_block ?_))
 refine awp_fr (β := Int) [4, 5, 6, 7, 8, 9, 10, 11, 12, 13, 14, 15, 16, 17, 18, 19, 20, 21, 22] [] [] (fun a => [(5, .t (.sc (.int .i64 a.2)))]) (fun a => []) (fun a => a.1 ≤ fuel ∧ m_spec_l5Rules_l1 a.1 x1 x2 a.2 = some r) (fuel, 0) ⟨Nat.le_refl _, hF0⟩ ?_
 clear hF0
 rintro ⟨fu, g1⟩ ⟨hl2, hF1⟩
 dsimp only at hl2 hF1 ⊢
 obtain _ | fu := fu
 · rw [m_spec_l5Rules_l1] at hF1; cases hF1
 rw [m_spec_l5Rules_l1] at hF1
 refine awp_seq ?_
 refine awp_jn (α := Nat × Bool) [6, 7, 8, 9, 10, 11, 12, 13] [] [] (fun a => [(13, .t (.sc (.bool a.2)))]) (fun a => []) (fun a => a.1 ≤ fu ∧ m_spec_l5Rules_j2 a.1 x1 x2 g1 a.2 = some r) ?_ ?_
 refine awp_region ?_
 refine s_mv ?_
 refine s_mv ?_
 refine s_lenT yU62 ?_
 refine s_lt ?_
 refine s_mv ?_
 refine w_guard _ 10 hF1 ?_ ?_ <;> intro hc3 hF2
 refine s_mv ?_
 refine s_lt ?_
 refine s_pkt ?_
 refine k_nil ?_
 exact s_jn (fu, (decide (g1 < 10))) ⟨by first | omega | (dsimp only; omega), hF2⟩
 refine r_no rfl (r_no rfl ?_)
 refine s_pkf ?_
 refine k_nil ?_
 exact s_jn (fu, false) ⟨by first | omega | (dsimp only; omega), hF2⟩
 clear hF1
 rintro ⟨fu, g4⟩ ⟨hl5, hF2⟩
 dsimp only at hl5 hF2 ⊢
 obtain _ | fu := fu
 · rw [m_spec_l5Rules_j2] at hF2; cases hF2
 rw [m_spec_l5Rules_j2] at hF2
 refine w_cond hF2 ?_ ?_ <;> intro hc6 hF3
 refine awp_skip (k_seq (awp_seq (awp_block (awp_seq (awp_region ?_)))))
 refine s_mv ?_
 refine s_mv ?_
 obtain ⟨v7, hv7, hF4⟩ := bind_some' hF3
 refine s_ixT Rule.row hv7 (Rule.row_eq _) yE62 ?_
 refine s_ldN yA73 yS73 ?_
 refine s_mv ?_
 obtain ⟨v8, hv8, hF5⟩ := bind_some' hF4
 refine s_pure [] (m_spec_l5Rule_ok fu _ _ _ hv8) ?_
 refine s_not ?_
 refine k_nil (k_seq ?_)
 refine w_cond hF5 ?_ ?_ <;> intro hc9 hF6
 refine awp_seq (awp_region ?_)
 refine s_as ?_
 refine k_nil (k_seq (awp_ret (k_blk_ret (k_seq_ret (k_rnd_ret2 (k_blk_ret (k_seq_ret (k_fin ?_))))))))
 cases hF6
 exact ends_a [] [] Tryz.results94
 refine awp_skip (k_blk (k_seq (awp_region ?_)))
 refine s_mv ?_
 refine s_add rfl ?_
 refine s_as ?_
 refine k_nil ?_
 exact s_rn (fu, (w64 (g1 + 1))) ⟨by first | omega | (dsimp only; omega), hF6⟩
 refine awp_exit (k_seq_exit (k_rnd_exit2 (k_blk_exit (k_seq (awp_seq (awp_region ?_))))))
 refine s_mv ?_
 refine s_lenT yU62 ?_
 refine s_lt ?_
 refine s_mv ?_
 refine w_guard _ 26 hF3 ?_ ?_ <;> intro hc10 hF4
 refine s_mv ?_
 obtain ⟨v11, hv11, hF5⟩ := bind_some' hF4
 refine s_pure [] (m_spec_l4Literals_ok fu _ _ hv11) ?_
 refine s_pkt ?_
 refine s_as ?_
 refine k_nil (k_seq (awp_ret (k_fin ?_)))
 cases hF5
 exact ends_a [] [] Tryz.results94
 refine r_no rfl (r_no rfl ?_)
 refine s_pkf ?_
 refine s_as ?_
 refine k_nil (k_seq (awp_ret (k_fin ?_)))
 cases hF4
 exact ends_a [] [] Tryz.results94
def m_spec_ParseRules_AC (fuel : Nat) : Prop := ∀ (x1 : Form) (r : ((List Form) × (List Rule) × Bool)), m_spec_ParseRules fuel x1 = some r → AC Tryz.prog 157 [.ag [.t (.sc (.int .i64 x1.kind)), .t (.sc (.str x1.name)), .t (.sc (.int .i64 x1.n)), .t (.sl (x1.scopes.map rI)), .t (.sl (x1.kids.map Form.row))]] (objs []) (.tp [.t (.sl (r.1.map Form.row)), .ar 9300, .t (.sc (.bool r.2.2))]) (objs [(9300, .arr (r.2.1.map Rule.row) 73 false)])
theorem m_spec_ParseRules_ok (fuel : Nat) : m_spec_ParseRules_AC fuel := by
 intro x1 r hF0
 unfold m_spec_ParseRules at hF0
 refine AC_i [.t (.sl (r.1.map Form.row)), .ar 9300, .t (.sc (.bool r.2.2))] Tryz.func157 rfl Tryz.ntmps157 ?_
 intro C hC
 refine awp_seq (awp_region ?_)
 refine s_box ?_
 iterate 3 refine s_as ?_
 refine k_nil (k_seq (awp_seq (awp_region ?_)))
 refine s_bs Form.row ([] : List Form) yP25 yR27 ?_
 refine s_as ?_
 refine k_nil (k_seq (awp_seq (awp_region ?_)))
 refine s_bs Rule.row ([] : List Rule) yP62 yR73 ?_
 refine s_as ?_
 refine k_nil (k_seq (awp_seq ?_))
 refine awp_jn (α := Nat × Bool) [11, 12, 13, 14, 15, 16, 17, 18, 19, 20, 21, 22, 23, 24, 25, 26, 27, 28, 29, 30, 31, 32, 33, 34, 35, 36, 37, 38, 39, 40] [] [] (fun a => [(40, .t (.sc (.bool a.2)))]) (fun a => []) (fun a => a.1 ≤ fuel ∧ m_spec_ParseRules_j1 a.1 x1 a.2 = some r) ?_ ?_
 refine awp_region ?_
 refine s_ldW yA27 yS27 ?_
 obtain ⟨v1, hv1, hF1⟩ := bind_some' hF0
 refine s_pure [] (m_spec_FormValid_ok fuel _ _ hv1) ?_
 refine s_not ?_
 refine s_mv ?_
 refine w_guard _ 14 hF1 ?_ ?_ <;> intro hc2 hF2
 iterate 3 refine r_no rfl ?_
 refine s_pkt ?_
 refine s_mv ?_
 iterate 4 refine r_no rfl ?_
 refine s_pkt ?_
 refine s_mv ?_
 iterate 6 refine r_no rfl ?_
 refine s_pkt ?_
 refine s_mv ?_
 iterate 6 refine r_no rfl ?_
 refine s_pkt ?_
 refine k_nil ?_
 exact s_jn (fuel, true) ⟨by first | omega | (dsimp only; omega), hF2⟩
 refine s_fa yF27_0 ?_
 refine s_ld1 yA3 ?_
 refine s_ne ?_
 refine s_pkf ?_
 refine s_mv ?_
 refine w_guard _ 19 hF2 ?_ ?_ <;> intro hc3 hF3
 iterate 4 refine r_no rfl ?_
 refine s_pkt ?_
 refine s_mv ?_
 iterate 6 refine r_no rfl ?_
 refine s_pkt ?_
 refine s_mv ?_
 iterate 6 refine r_no rfl ?_
 refine s_pkt ?_
 refine k_nil ?_
 exact s_jn (fuel, true) ⟨by first | omega | (dsimp only; omega), hF3⟩
 refine s_fa yF27_4 ?_
 refine s_ld1 yA25 ?_
 refine s_lenT yU25 ?_
 refine s_lt ?_
 refine s_pkf ?_
 refine s_mv ?_
 refine w_guard _ 25 hF3 ?_ ?_ <;> intro hc4 hF4
 iterate 6 refine r_no rfl ?_
 refine s_pkt ?_
 refine s_mv ?_
 iterate 6 refine r_no rfl ?_
 refine s_pkt ?_
 refine k_nil ?_
 exact s_jn (fuel, true) ⟨by first | omega | (dsimp only; omega), hF4⟩
 refine s_fa yF27_4 ?_
 refine s_ld1 yA25 ?_
 obtain ⟨v5, hv5, hF5⟩ := bind_some' hF4
 refine s_ixT Form.row hv5 (Form.row_eq _) yE25 ?_
 refine s_fa yF27_1 ?_
 refine s_ld1 yA9 ?_
 refine s_neS ?_
 refine s_pkf ?_
 refine s_mv ?_
 refine w_guard _ 33 hF5 ?_ ?_ <;> intro hc6 hF6
 iterate 6 refine r_no rfl ?_
 refine s_pkt ?_
 refine k_nil ?_
 exact s_jn (fuel, true) ⟨by first | omega | (dsimp only; omega), hF6⟩
 refine s_fa yF27_4 ?_
 refine s_ld1 yA25 ?_
 obtain ⟨v7, hv7, hF7⟩ := bind_some' hF6
 refine s_ixT Form.row hv7 (Form.row_eq _) yE25 ?_
 refine s_fa yF27_0 ?_
 refine s_ld1 yA3 ?_
 refine s_ne ?_
 refine s_pkf ?_
 refine k_nil ?_
 exact s_jn (fuel, (decide (v7.kind ≠ 3))) ⟨by first | omega | (dsimp only; omega), hF7⟩
 clear hF0
 rintro ⟨fu, g8⟩ ⟨hl9, hF1⟩
 dsimp only at hl9 hF1 ⊢
 obtain _ | fu := fu
 · rw [m_spec_ParseRules_j1] at hF1; cases hF1
 rw [m_spec_ParseRules_j1] at hF1
 refine w_cond hF1 ?_ ?_ <;> intro hc10 hF2
 refine awp_seq (awp_region ?_)
 refine s_mv ?_
 refine s_mv ?_
 iterate 3 refine s_as ?_
 refine k_nil (k_seq ?_)
 refine awp_mv 3 10 9300 (by conv => lhs; whnf) (by conv => lhs; whnf) rfl ?_
 refine awp_frz 9300 (by conv => lhs; whnf) ?_
 refine awp_ret (k_seq_ret (k_fin ?_))
 cases hF2
 exact ends_a _ [9] Tryz.results157
 refine awp_skip (k_seq ?_)
 refine awp_jn (α := Nat × (List Form)) [5, 7, 43, 44, 45, 46, 47, 48, 49, 50, 51, 52, 53, 54, 55, 56, 57, 58, 59, 60, 61, 62, 63, 64] [9, 5060] [] (fun a => [(5, .ar 5060)]) (fun a => [(9, .dead), (5060, .arr (a.2.map Form.row) 27 true)]) (fun a => a.1 ≤ fu ∧ m_spec_ParseRules_j2 a.1 x1 a.2 = some r) ?_ ?_
 refine awp_seq (awp_region ?_)
 refine s_as ?_
 refine k_nil (k_seq (awp_block ?_))
 refine awp_mv 5 9 5060 (by conv => lhs; whnf) (by conv => lhs; whnf) rfl ?_
 refine awp_frame2 [5, 7, 43, 44, 45, 46, 47, 48, 49, 50, 51, 52, 53, 54, 55, 56, 57, 58, 59, 60, 61, 62, 63, 64] [5060] [63, 64, 2062, 12062] [5060] (fun a : Nat × (List Form) × Int => a.1) (fun a : Nat × (List Form) × Int => [(5, .ar 5060), (7, .t (.sc (.int .i64 a.2.2)))]) (fun a : Nat × (List Form) × Int => [(5060, .arr (a.2.1.map Form.row) 27 true)]) (fun a : Nat × (List Form) × Int => a.1 ≤ fu ∧ m_spec_ParseRules_l3 a.1 x1 a.2.1 a.2.2 = some r ∧ 0 ≤ a.2.2) (fu, ([] : List Form), 0) ⟨Nat.le_refl _, hF2, by simp⟩ (by rfl) (by rfl) (fun _ => rfl) (hasF_cons (by conv => lhs; whnf) (by rfl) (hasF_cons (by conv => lhs; whnf) (by rfl) hasF_nil)) (hasO_cons (by conv => lhs; whnf) (by rfl) hasO_nil) (fresh_C hC rfl) (by repeat (first | exact freshS_args rfl | refine freshS_upd rfl ?_ | refine freshS_frame rfl ?_)) (by repeat (first | exact freshM_no | exact objs_fresh rfl | refine freshM_upd rfl ?_ | refine freshM_frame rfl ?_)) ?_
 clear hF2
 rintro ⟨fu, g11, g12⟩ ⟨hl13, hF3, hn_g12⟩
 dsimp only at hl13 hF3 hn_g12 ⊢
 obtain _ | fu := fu
 · rw [m_spec_ParseRules_l3] at hF3; cases hF3
 rw [m_spec_ParseRules_l3] at hF3
 refine awp_seq (awp_seq (awp_region ?_))
 refine s_mv ?_
 refine s_fa yF27_4 ?_
 refine s_ld1 yA25 ?_
 obtain ⟨v14, hv14, hF4⟩ := bind_some' hF3
 refine s_ixT Form.row hv14 (Form.row_eq _) yE25 ?_
 refine s_fa yF27_4 ?_
 refine s_ld1 yA25 ?_
 refine s_lenT yU25 ?_
 refine s_lt ?_
 refine k_nil (k_seq ?_)
 refine w_cond hF4 ?_ ?_ <;> intro hc15 hF5
 refine awp_lenT 48 (fun hb16 => ?_)
 refine awp_skip (k_seq (awp_seq (awp_block (awp_region ?_))))
 refine s_mv ?_
 refine s_fa yF27_4 ?_
 refine s_ld1 yA25 ?_
 obtain ⟨v17, hv17, hF6⟩ := bind_some' hF5
 refine s_ixT Form.row hv17 (Form.row_eq _) yE25 ?_
 refine s_fa yF27_4 ?_
 refine s_ld1 yA25 ?_
 refine s_mv ?_
 obtain ⟨v18, hv18, hF7⟩ := bind_some' hF6
 refine s_ixT Form.row hv18 (Form.row_eq _) yE25 ?_
 refine s_ldN yA27 yS27 ?_
 obtain ⟨v19, hv19, hF8⟩ := bind_some' hF7
 refine s_call [(9203, 2062), (9204, 12062)] [] _ _ (m_spec_l1Copy_ok fu _ _ hv19) ?_
 refine s_bs Form.row [v19] yP25 yR27 ?_
 obtain ⟨hk20, hF9⟩ := chk_some hF8
 refine s_apT Form.row (fun y => Form.row_len y) hk20 yP25 ?_
 refine s_as ?_
 refine k_nil (k_blk (k_seq (awp_region ?_)))
 refine s_mv ?_
 refine s_add (winc2 hc15 hb16 hn_g12) ?_
 refine s_as ?_
 refine k_nil ?_
 exact s_rn (fu, (g11 ++ [v19]), (g12 + 1)) ⟨by first | omega | (dsimp only; omega), hF9, by first | omega | (dsimp only; omega)⟩ [(5060, 64)]
 refine awp_exit (k_seq_exit (k_rnd_exit2 (k_blk_exit ?_)))
 exact s_jn (fu, g11) ⟨by first | omega | (dsimp only; omega), hF5⟩
 clear hF2
 rintro ⟨fu, g21⟩ ⟨hl22, hF3⟩
 dsimp only at hl22 hF3 ⊢
 obtain _ | fu := fu
 · rw [m_spec_ParseRules_j2] at hF3; cases hF3
 rw [m_spec_ParseRules_j2] at hF3
 refine awp_jn (α := Nat × (List Rule)) [2, 3, 4, 6, 8, 65, 66, 67, 68, 69, 70, 71, 72, 73, 74, 75, 76, 77, 78, 79, 80, 81, 82, 83, 84, 85, 86, 87, 88, 89, 90, 91, 92, 93, 94, 95, 96, 97, 98, 99, 100, 101, 102, 103, 104, 105, 106, 107, 108, 109, 110, 111, 112] [10, 5100] [] (fun a => [(6, .ar 5100)]) (fun a => [(10, .dead), (5100, .arr (a.2.map Rule.row) 73 true)]) (fun a => a.1 ≤ fu ∧ m_spec_ParseRules_j4 a.1 g21 a.2 = some r) ?_ ?_
 refine awp_seq (awp_region ?_)
 refine s_as ?_
 refine k_nil (k_seq (awp_block ?_))
 refine awp_mv 6 10 5100 (by conv => lhs; whnf) (by conv => lhs; whnf) rfl ?_
 refine awp_frame2 [2, 3, 4, 6, 8, 65, 66, 67, 68, 69, 70, 71, 72, 73, 74, 75, 76, 77, 78, 79, 80, 81, 82, 83, 84, 85, 86, 87, 88, 89, 90, 91, 92, 93, 94, 95, 96, 97, 98, 99, 100, 101, 102, 103, 104, 105, 106, 107, 108, 109, 110, 111, 112] [5100] [111, 112, 2100, 2109, 12100, 12109] [5100] (fun a : Nat × (List Rule) × Int => a.1) (fun a : Nat × (List Rule) × Int => [(6, .ar 5100), (8, .t (.sc (.int .i64 a.2.2)))]) (fun a : Nat × (List Rule) × Int => [(5100, .arr (a.2.1.map Rule.row) 73 true)]) (fun a : Nat × (List Rule) × Int => a.1 ≤ fu ∧ m_spec_ParseRules_l5 a.1 x1 g21 a.2.1 a.2.2 = some r ∧ 0 ≤ a.2.2) (fu, ([] : List Rule), 2) ⟨Nat.le_refl _, hF3, by simp⟩ (by rfl) (by rfl) (fun _ => rfl) (hasF_cons (by conv => lhs; whnf) (by rfl) (hasF_cons (by conv => lhs; whnf) (by rfl) hasF_nil)) (hasO_cons (by conv => lhs; whnf) (by rfl) hasO_nil) (fresh_C hC rfl) (by repeat (first | exact freshS_args rfl | refine freshS_upd rfl ?_ | refine freshS_frame rfl ?_)) (by repeat (first | exact freshM_no | exact objs_fresh rfl | refine freshM_upd rfl ?_ | refine freshM_frame rfl ?_)) ?_
 clear hF3
 rintro ⟨fu, g23, g24⟩ ⟨hl25, hF4, hn_g24⟩
 dsimp only at hl25 hF4 hn_g24 ⊢
 obtain _ | fu := fu
 · rw [m_spec_ParseRules_l5] at hF4; cases hF4
 rw [m_spec_ParseRules_l5] at hF4
 refine awp_seq (awp_seq (awp_region ?_))
 refine s_mv ?_
 refine s_fa yF27_4 ?_
 refine s_ld1 yA25 ?_
 refine s_lenT yU25 ?_
 refine s_lt ?_
 refine k_nil (k_seq ?_)
 refine w_cond hF4 ?_ ?_ <;> intro hc26 hF5
 refine awp_lenT 67 (fun hb27 => ?_)
 refine awp_skip (k_seq (awp_seq (awp_block (awp_seq ?_))))
 refine awp_jn (α := Nat × Bool) [72, 73, 74, 75, 76, 77, 78, 79, 80, 81, 82, 83, 84, 85, 86, 87, 88] [] [] (fun a => [(88, .t (.sc (.bool a.2)))]) (fun a => []) (fun a => a.1 ≤ fu ∧ m_spec_ParseRules_j6 a.1 x1 g21 g23 g24 a.2 = some r) ?_ ?_
 refine awp_region ?_
 refine s_fa yF27_4 ?_
 refine s_ld1 yA25 ?_
 refine s_mv ?_
 obtain ⟨v28, hv28, hF6⟩ := bind_some' hF5
 refine s_ixT Form.row hv28 (Form.row_eq _) yE25 ?_
 refine s_fa yF27_0 ?_
 refine s_ld1 yA3 ?_
 refine s_ne ?_
 refine s_mv ?_
 refine w_guard _ 79 hF6 ?_ ?_ <;> intro hc29 hF7
 iterate 8 refine r_no rfl ?_
 refine s_pkt ?_
 refine k_nil ?_
 exact s_jn (fu, true) ⟨by first | omega | (dsimp only; omega), hF7⟩
 refine s_fa yF27_4 ?_
 refine s_ld1 yA25 ?_
 refine s_mv ?_
 obtain ⟨v30, hv30, hF8⟩ := bind_some' hF7
 refine s_ixT Form.row hv30 (Form.row_eq _) yE25 ?_
 refine s_fa yF27_4 ?_
 refine s_ld1 yA25 ?_
 refine s_lenT yU25 ?_
 refine s_ne ?_
 refine s_pkf ?_
 refine k_nil ?_
 exact s_jn (fu, (decide ((v30.kids.length : Int) ≠ 2))) ⟨by first | omega | (dsimp only; omega), hF8⟩
 clear hF5
 rintro ⟨fu, g31⟩ ⟨hl32, hF6⟩
 dsimp only at hl32 hF6 ⊢
 obtain _ | fu := fu
 · rw [m_spec_ParseRules_j6] at hF6; cases hF6
 rw [m_spec_ParseRules_j6] at hF6
 refine w_cond hF6 ?_ ?_ <;> intro hc33 hF7
 refine awp_seq (awp_region ?_)
 refine s_bs Form.row ([] : List Form) yP25 yR27 ?_
 refine s_bs Rule.row ([] : List Rule) yP62 yR73 ?_
 iterate 3 refine s_as ?_
 refine k_nil (k_seq ?_)
 refine awp_mv 3 90 9300 (by conv => lhs; whnf) (by conv => lhs; whnf) rfl ?_
 refine awp_frz 9300 (by conv => lhs; whnf) ?_
 refine awp_ret (k_seq_ret (k_blk_ret (k_seq_ret (k_rnd_ret2 (k_blk_ret (k_jn_ret (k_fin ?_)))))))
 cases hF7
 exact ends_a _ [89] Tryz.results157
 refine awp_skip (k_seq ?_)
 refine awp_draw yMix (by kernel_rfl) ?_
 refine s_mv ?_
 refine s_fa yF27_4 ?_
 refine s_ld1 yA25 ?_
 refine s_mv ?_
 obtain ⟨v34, hv34, hF8⟩ := bind_some' hF7
 refine s_ixT Form.row hv34 (Form.row_eq _) yE25 ?_
 refine s_fa yF27_4 ?_
 refine s_ld1 yA25 ?_
 obtain ⟨v35, hv35, hF9⟩ := bind_some' hF8
 refine s_ixT Form.row hv35 (Form.row_eq _) yE25 ?_
 refine s_ldN yA27 yS27 ?_
 obtain ⟨v36, hv36, hF10⟩ := bind_some' hF9
 refine s_call [(9203, 2100), (9204, 12100)] [] _ _ (m_spec_l1Copy_ok fu _ _ hv36) ?_
 refine s_fa yF27_4 ?_
 refine s_ld1 yA25 ?_
 refine s_mv ?_
 obtain ⟨v37, hv37, hF11⟩ := bind_some' hF10
 refine s_ixT Form.row hv37 (Form.row_eq _) yE25 ?_
 refine s_fa yF27_4 ?_
 refine s_ld1 yA25 ?_
 obtain ⟨v38, hv38, hF12⟩ := bind_some' hF11
 refine s_ixT Form.row hv38 (Form.row_eq _) yE25 ?_
 refine s_ldN yA27 yS27 ?_
 obtain ⟨v39, hv39, hF13⟩ := bind_some' hF12
 refine s_call [(9203, 2109), (9204, 12109)] [] _ _ (m_spec_l1Copy_ok fu _ _ hv39) ?_
 refine s_bld yZ73 yL73 ?_
 refine s_bs Rule.row [(Rule.mk v36 v39)] yP62 yR73 ?_
 obtain ⟨hk40, hF14⟩ := chk_some hF13
 refine s_apT Rule.row (fun y => Rule.row_len y) hk40 yP62 ?_
 refine s_as ?_
 refine k_nilD (by kernel_rfl) ?_
 refine k_blk (k_seq (awp_region ?_))
 refine s_mv ?_
 refine s_add (winc2 hc26 hb27 hn_g24) ?_
 refine s_as ?_
 refine k_nil ?_
 exact s_rn (fu, (g23 ++ [(Rule.mk v36 v39)]), (g24 + 1)) ⟨by first | omega | (dsimp only; omega), hF14, by first | omega | (dsimp only; omega)⟩ [(5100, 112)]
 refine awp_exit (k_seq_exit (k_rnd_exit2 (k_blk_exit ?_)))
 exact s_jn (fu, g23) ⟨by first | omega | (dsimp only; omega), hF5⟩
 clear hF3
 rintro ⟨fu, g41⟩ ⟨hl42, hF4⟩
 dsimp only at hl42 hF4 ⊢
 obtain _ | fu := fu
 · rw [m_spec_ParseRules_j4] at hF4; cases hF4
 rw [m_spec_ParseRules_j4] at hF4
 refine awp_seq (awp_seq (awp_region ?_))
 refine s_mv ?_
 refine s_mv ?_
 obtain ⟨v43, hv43, hF5⟩ := bind_some' hF4
 refine s_pure [5100, 5060] (m_spec_l5Rules_ok fu _ _ _ hv43) ?_
 refine s_not ?_
 refine k_nil (k_seq ?_)
 refine w_cond hF5 ?_ ?_ <;> intro hc44 hF6
 refine awp_seq (awp_region ?_)
 refine s_bs Form.row ([] : List Form) yP25 yR27 ?_
 refine s_bs Rule.row ([] : List Rule) yP62 yR73 ?_
 iterate 3 refine s_as ?_
 refine k_nil (k_seq ?_)
 refine awp_mv 3 118 9300 (by conv => lhs; whnf) (by conv => lhs; whnf) rfl ?_
 refine awp_frz 9300 (by conv => lhs; whnf) ?_
 refine awp_ret (k_seq_ret (k_fin ?_))
 cases hF6
 exact ends_a _ [117] Tryz.results157
 refine awp_skip (k_seq (awp_seq (awp_region ?_)))
 refine s_mv ?_
 refine s_mv ?_
 iterate 3 refine s_as ?_
 refine k_nil (k_seq ?_)
 refine awp_mv 3 5100 9300 (by conv => lhs; whnf) (by conv => lhs; whnf) rfl ?_
 refine awp_ret (k_fin ?_)
 cases hF6
 exact ends_a _ [5060] Tryz.results157
def m_spec_l1Dress_AC (fuel : Nat) : Prop := ∀ (o1 : l15Rd) (x2 : Form) (r : (Form × l15Rd)), m_spec_l1Dress fuel o1 x2 = some r → AC Tryz.prog 121 [.rf 9000 0, .ag [.t (.sc (.int .i64 x2.kind)), .t (.sc (.str x2.name)), .t (.sc (.int .i64 x2.n)), .t (.sl (x2.scopes.map rI)), .t (.sl (x2.kids.map Form.row))]] (objs [(9000, .box [.t (.sl (o1.b.map rB)), .t (.sc (.int .i64 o1.p))])]) (.ag [.t (.sc (.int .i64 r.1.kind)), .t (.sc (.str r.1.name)), .t (.sc (.int .i64 r.1.n)), .t (.sl (r.1.scopes.map rI)), .t (.sl (r.1.kids.map Form.row))]) (objs [(9000, .box [.t (.sl (r.2.b.map rB)), .t (.sc (.int .i64 r.2.p))])])
theorem m_spec_l1Dress_st (fu : Nat) (ih_m_spec_l1Dress : ∀ k, k ≤ fu → m_spec_l1Dress_AC k) : m_spec_l1Dress_AC (fu + 1) := by
 intro o1 x2 r hF0
 rw [m_spec_l1Dress] at hF0
 refine AC_i [.ag [.t (.sc (.int .i64 r.1.kind)), .t (.sc (.str r.1.name)), .t (.sc (.int .i64 r.1.n)), .t (.sl (r.1.scopes.map rI)), .t (.sl (r.1.kids.map Form.row))]] Tryz.func121 rfl Tryz.ntmps121 ?_
 intro C hC
 refine awp_seq (awp_region ?_)
 refine s_box ?_
 refine s_alloc yZ27 ?_
 refine k_nil (k_seq (awp_seq (awp_region ?_)))
 refine s_ldW yA27 yS27 ?_
 obtain ⟨v1, hv1, hF1⟩ := bind_some' hF0
 refine s_call [(9203, 2009), (9204, 12009)] [] _ _ (m_spec_l1Copy_ok fu _ _ hv1) ?_
 refine s_alloc yZ27 ?_
 refine s_stW yS27 ?_
 refine k_nil (k_seq (awp_seq (awp_seq (awp_region ?_))))
 refine s_fa yF27_0 ?_
 refine s_ld1 yA3 ?_
 refine s_eq ?_
 refine k_nil (k_seq ?_)
 refine w_cond hF1 ?_ ?_ <;> intro hc2 hF2
 refine awp_seq (awp_region ?_)
 refine s_bs rI ([] : List Int) yP24 yR3 ?_
 refine s_bs rI [1] yP24 yR3 ?_
 refine s_bs rI [2] yP24 yR3 ?_
 refine s_bs rI [1, 2] yP24 yR3 ?_
 refine s_bs rI [1, 3] yP24 yR3 ?_
 refine s_bs rI [1, 2, 3] yP24 yR3 ?_
 refine s_bs rI [99] yP24 yR3 ?_
 refine s_bs (rL rI) [([] : List Int), [1], [2], [1, 2], [1, 3], [1, 2, 3], [99]] yP177 yR24 ?_
 refine s_as ?_
 refine k_nil (k_seq (awp_region ?_))
 refine s_bs rI ([] : List Int) yP24 yR3 ?_
 iterate 3 refine s_mv ?_
 refine s_lenA yU177 ?_
 obtain ⟨v3, hv3, hF3⟩ := bind_some' hF2
 refine s_call [(9000, 9000)] [] _ _ (m_spec_l15Rd_pick_ok fu _ _ _ hv3) ?_
 obtain ⟨v4, hv4, hF4⟩ := bind_some' hF3
 refine s_ixA (rL rI) hv4 yE177 ?_
 refine s_lA1 (rL rI) hv4 rfl yA24 ?_
 obtain ⟨hk5, hF5⟩ := chk_some hF4
 refine s_apT rI (fun _ => rfl) hk5 yP24 ?_
 refine s_fa yF27_3 ?_
 refine s_stP yS24 ?_
 refine k_nil (k_seq (awp_seq (awp_seq (awp_region ?_))))
 refine s_as ?_
 refine k_nil (k_seq (awp_block ?_))
 refine awp_fr (β := Int × (List Int) × Int × (List Form)) [7, 31, 32, 33, 34, 35, 36, 37, 38, 39, 40, 41, 42, 43, 44, 45, 46, 47, 48] [9000, 12009] [] (fun a => [(7, .t (.sc (.int .i64 a.2.1)))]) (fun a => [(9000, .box [.t (.sl (a.2.2.1.map rB)), .t (.sc (.int .i64 a.2.2.2.1))]), (12009, .arr (a.2.2.2.2.map Form.row) 27 true)]) (fun a => a.1 ≤ fu ∧ m_spec_l1Dress_l1 a.1 v1 v4 a.2.1 a.2.2.1 a.2.2.2.1 a.2.2.2.2 = some r ∧ 0 ≤ a.2.1) (fu, 0, v3.2.b, v3.2.p, v1.kids) ⟨Nat.le_refl _, hF5, by simp⟩ ?_
 clear hF5
 rintro ⟨fu, g6, g7, g8, g9⟩ ⟨hl10, hF6, hn_g6⟩
 dsimp only at hl10 hF6 hn_g6 ⊢
 obtain _ | fu := fu
 · rw [m_spec_l1Dress_l1] at hF6; cases hF6
 rw [m_spec_l1Dress_l1] at hF6
 refine awp_seq (awp_seq (awp_region ?_))
 refine s_mv ?_
 refine s_fa yF27_4 ?_
 refine s_ld1 yA25 ?_
 refine s_lenA yU25 ?_
 refine s_lt ?_
 refine k_nil (k_seq ?_)
 refine w_cond hF6 ?_ ?_ <;> intro hc11 hF7
 refine awp_lenA 33 12009 (fun hb12 => ?_)
 refine awp_skip (k_seq (awp_seq (awp_block ?_)))
 refine awp_draw yMix (by kernel_rfl) ?_
 refine s_fa yF27_4 ?_
 refine s_ld1 yA25 ?_
 refine s_mv ?_
 refine s_mv ?_
 refine s_fa yF27_4 ?_
 refine s_ld1 yA25 ?_
 refine s_mv ?_
 obtain ⟨v13, hv13, hF8⟩ := bind_some' hF7
 refine s_ixA Form.row hv13 yE25 ?_
 refine s_lAN Form.row hv13 (Form.row_eq _) yA27 yS27 ?_
 obtain ⟨v14, hv14, hF9⟩ := bind_some' hF8
 refine s_call [(9000, 9000)] [] _ _ (ih_m_spec_l1Dress fu (by omega) _ _ _ hv14) ?_
 obtain ⟨v15, hv15, hF10⟩ := bind_some' hF9
 refine s_ixA Form.row hv15 yE25 ?_
 refine s_stA Form.row v14.1 hv15 (Form.row_eq _) (Form.row_eq _) yS27 yS27 ?_
 refine k_nilD (by kernel_rfl) ?_
 refine k_blk (k_seq (awp_region ?_))
 refine s_mv ?_
 refine s_add (winc2 hc11 hb12 hn_g6) ?_
 refine s_as ?_
 refine k_nil ?_
 exact s_rn (fu, (g6 + 1), v14.2.b, v14.2.p, (g9.set g6.toNat v14.1)) ⟨by first | omega | (dsimp only; omega), hF10, by first | omega | (dsimp only; omega)⟩
 refine awp_exit (k_seq_exit (k_rnd_exit2 (k_blk_exit (k_seq (awp_seq (awp_region ?_))))))
 refine s_ldW yA27 yS27 ?_
 refine s_stW yS27 ?_
 refine k_nil (k_seq (awp_ret (k_fin ?_)))
 cases hF7
 exact ends_gen _ [29, 12009] (by rw [Tryz.results121]; exact (res_agg (by conv => lhs; whnf) (by conv => lhs; whnf) yA27 yS27 rfl res_nil))
 refine awp_skip (k_seq (awp_seq (awp_seq (awp_region ?_))))
 refine s_as ?_
 refine k_nil (k_seq (awp_block ?_))
 refine awp_fr (β := Int × (List Int) × Int × (List Form)) [7, 31, 32, 33, 34, 35, 36, 37, 38, 39, 40, 41, 42, 43, 44, 45, 46, 47, 48] [9000, 12009] [] (fun a => [(7, .t (.sc (.int .i64 a.2.1)))]) (fun a => [(9000, .box [.t (.sl (a.2.2.1.map rB)), .t (.sc (.int .i64 a.2.2.2.1))]), (12009, .arr (a.2.2.2.2.map Form.row) 27 true)]) (fun a => a.1 ≤ fu ∧ m_spec_l1Dress_l2 a.1 v1 a.2.1 a.2.2.1 a.2.2.2.1 a.2.2.2.2 = some r ∧ 0 ≤ a.2.1) (fu, 0, o1.b, o1.p, v1.kids) ⟨Nat.le_refl _, hF2, by simp⟩ ?_
 clear hF2
 rintro ⟨fu, g16, g17, g18, g19⟩ ⟨hl20, hF3, hn_g16⟩
 dsimp only at hl20 hF3 hn_g16 ⊢
 obtain _ | fu := fu
 · rw [m_spec_l1Dress_l2] at hF3; cases hF3
 rw [m_spec_l1Dress_l2] at hF3
 refine awp_seq (awp_seq (awp_region ?_))
 refine s_mv ?_
 refine s_fa yF27_4 ?_
 refine s_ld1 yA25 ?_
 refine s_lenA yU25 ?_
 refine s_lt ?_
 refine k_nil (k_seq ?_)
 refine w_cond hF3 ?_ ?_ <;> intro hc21 hF4
 refine awp_lenA 33 12009 (fun hb22 => ?_)
 refine awp_skip (k_seq (awp_seq (awp_block ?_)))
 refine awp_draw yMix (by kernel_rfl) ?_
 refine s_fa yF27_4 ?_
 refine s_ld1 yA25 ?_
 refine s_mv ?_
 refine s_mv ?_
 refine s_fa yF27_4 ?_
 refine s_ld1 yA25 ?_
 refine s_mv ?_
 obtain ⟨v23, hv23, hF5⟩ := bind_some' hF4
 refine s_ixA Form.row hv23 yE25 ?_
 refine s_lAN Form.row hv23 (Form.row_eq _) yA27 yS27 ?_
 obtain ⟨v24, hv24, hF6⟩ := bind_some' hF5
 refine s_call [(9000, 9000)] [] _ _ (ih_m_spec_l1Dress fu (by omega) _ _ _ hv24) ?_
 obtain ⟨v25, hv25, hF7⟩ := bind_some' hF6
 refine s_ixA Form.row hv25 yE25 ?_
 refine s_stA Form.row v24.1 hv25 (Form.row_eq _) (Form.row_eq _) yS27 yS27 ?_
 refine k_nilD (by kernel_rfl) ?_
 refine k_blk (k_seq (awp_region ?_))
 refine s_mv ?_
 refine s_add (winc2 hc21 hb22 hn_g16) ?_
 refine s_as ?_
 refine k_nil ?_
 exact s_rn (fu, (g16 + 1), v24.2.b, v24.2.p, (g19.set g16.toNat v24.1)) ⟨by first | omega | (dsimp only; omega), hF7, by first | omega | (dsimp only; omega)⟩
 refine awp_exit (k_seq_exit (k_rnd_exit2 (k_blk_exit (k_seq (awp_seq (awp_region ?_))))))
 refine s_ldW yA27 yS27 ?_
 refine s_stW yS27 ?_
 refine k_nil (k_seq (awp_ret (k_fin ?_)))
 cases hF4
 exact ends_gen _ [2009, 12009] (by rw [Tryz.results121]; exact (res_agg (by conv => lhs; whnf) (by conv => lhs; whnf) yA27 yS27 rfl res_nil))
end Go.Abs
