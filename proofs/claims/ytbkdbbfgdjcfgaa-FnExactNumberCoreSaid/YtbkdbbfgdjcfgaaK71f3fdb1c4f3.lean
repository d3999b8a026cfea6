/- A part of the proof: what the functions that the law calls answer, as pure values. -/
import Derived.Test.YtbkdbbfgdjcfgaaK095c9cd77914
import Derived.Test.YtbkdbbfgdjcfgaaK59f2f0d3f59e
import Derived.Test.YtbkdbbfgdjcfgaaK5fa8dee26284
import Derived.Test.YtbkdbbfgdjcfgaaK9526398f249b
import Derived.Test.YtbkdbbfgdjcfgaaKa66c5c62e785
import Derived.Test.YtbkdbbfgdjcfgaaKe176bb8ad65c
set_option linter.unusedSimpArgs false
set_option linter.unusedVariables false
set_option maxRecDepth 100000
set_option maxHeartbeats 4000000
namespace Go.Abs
open Go.Proofs
def m_laws_heldIntS_AC (fuel : Nat) : Prop := ∀ (x1 : (List Int)) (x2 : Int) (r : Int), m_laws_heldIntS fuel x1 x2 = some r → AC Try.prog 32 [.t (.sl (x1.map rI)), .t (.sc (.int .i64 x2))] noOb (.t (.sc (.int .i64 r))) noOb
theorem m_laws_heldIntS_ok (fuel : Nat) : m_laws_heldIntS_AC fuel := by
 intro x1 x2 r hF0
 unfold m_laws_heldIntS at hF0
 refine AC_i [.t (.sc (.int .i64 r))] Try.func32 rfl Try.ntmps32 ?_
 intro C hC
 refine awp_seq (awp_region ?_)
 refine s_as ?_
 refine k_nil (k_seq (awp_seq (awp_seq (awp_region ?_))))
 refine s_as ?_
 refine k_nil (k_seq (awp_block ?_))
 refine awp_fr (β := Int × Int) [1, 4, 5, 6, 7, 8, 9, 10, 11, 12, 13, 14, 15, 16, 17, 18, 19] [] [] (fun a => [(1, .t (.sc (.int .i64 a.2.1))), (5, .t (.sc (.int .i64 a.2.2)))]) (fun a => []) (fun a => a.1 ≤ fuel ∧ m_laws_heldIntS_l1 a.1 x1 a.2.1 a.2.2 = some r ∧ 0 ≤ a.2.2) (fuel, x2, 0) ⟨Nat.le_refl _, hF0, by simp⟩ ?_
 clear hF0
 rintro ⟨fu, g1, g2⟩ ⟨hl3, hF1, hn_g2⟩
 dsimp only at hl3 hF1 hn_g2 ⊢
 obtain _ | fu := fu
 · rw [m_laws_heldIntS_l1] at hF1; cases hF1
 rw [m_laws_heldIntS_l1] at hF1
 refine awp_seq (awp_seq (awp_region ?_))
 refine s_mv ?_
 refine s_mv ?_
 refine s_lenT yU22 ?_
 refine s_lt ?_
 refine k_nil (k_seq ?_)
 refine w_cond hF1 ?_ ?_ <;> intro hc4 hF2
 refine awp_lenT 0 (fun hb5 => ?_)
 refine awp_skip (k_seq (awp_seq (awp_block (awp_seq (awp_seq (awp_region ?_))))))
 refine s_mv ?_
 refine s_mv ?_
 obtain ⟨v6, hv6, hF3⟩ := bind_some' hF2
 refine s_ixT rI hv6 rfl yE22 ?_
 refine s_ld1 yA3 ?_
 refine s_mv ?_
 refine s_ne ?_
 refine k_nil (k_seq ?_)
 refine w_cond hF3 ?_ ?_ <;> intro hc7 hF4
 refine awp_seq (awp_region ?_)
 refine s_as ?_
 refine k_nil (k_seq (awp_ret (k_seq_ret (k_blk_ret (k_seq_ret (k_rnd_ret2 (k_blk_ret (k_seq_ret (k_fin ?_)))))))))
 cases hF4
 exact ends_a [] [] Try.results32
 refine awp_skip (k_seq (awp_region ?_))
 refine s_mv ?_
 refine s_add rfl ?_
 refine s_as ?_
 refine k_nil (k_blk (k_seq (awp_region ?_)))
 refine s_mv ?_
 refine s_add (winc2 hc4 hb5 hn_g2) ?_
 refine s_as ?_
 refine k_nil ?_
 exact s_rn (fu, (w64 (g1 + 1)), (g2 + 1)) ⟨by first | omega | (dsimp only; omega), hF4, by first | omega | (dsimp only; omega)⟩
 refine awp_exit (k_seq_exit (k_rnd_exit2 (k_blk_exit (k_seq (awp_seq (awp_region ?_))))))
 refine s_mv ?_
 refine s_as ?_
 refine k_nil (k_seq (awp_ret (k_fin ?_)))
 cases hF2
 exact ends_a [] [] Try.results32
def m_laws_heldFormS_AC (fuel : Nat) : Prop := ∀ (x1 : (List Form)) (x2 : Int) (r : Int), m_laws_heldFormS fuel x1 x2 = some r → AC Try.prog 39 [.t (.sl (x1.map Form.row)), .t (.sc (.int .i64 x2))] noOb (.t (.sc (.int .i64 r))) noOb
theorem m_laws_heldFormS_st (fu : Nat) (ih_m_laws_heldFormS : ∀ k, k ≤ fu → m_laws_heldFormS_AC k) : m_laws_heldFormS_AC (fu + 1) := by
 intro x1 x2 r hF0
 rw [m_laws_heldFormS] at hF0
 refine AC_i [.t (.sc (.int .i64 r))] Try.func39 rfl Try.ntmps39 ?_
 intro C hC
 refine awp_seq (awp_region ?_)
 refine s_as ?_
 refine k_nil (k_seq (awp_seq (awp_seq (awp_region ?_))))
 refine s_as ?_
 refine k_nil (k_seq (awp_block ?_))
 refine awp_fr (β := Int × Int) [1, 4, 5, 6, 7, 8, 9, 10, 11, 12, 13, 14, 15, 16, 17, 18, 19, 20, 21, 22, 23, 24, 25, 26, 27, 28, 29, 30, 31, 32, 33, 34, 35, 36, 37, 38, 39, 40, 41, 42, 43, 44, 45, 46, 47, 48, 49, 50, 51, 52, 53, 54, 55, 56, 57] [] [] (fun a => [(1, .t (.sc (.int .i64 a.2.1))), (5, .t (.sc (.int .i64 a.2.2)))]) (fun a => []) (fun a => a.1 ≤ fu ∧ m_laws_heldFormS_l1 a.1 x1 a.2.1 a.2.2 = some r ∧ 0 ≤ a.2.2) (fu, x2, 0) ⟨Nat.le_refl _, hF0, by simp⟩ ?_
 clear hF0
 rintro ⟨fu, g1, g2⟩ ⟨hl3, hF1, hn_g2⟩
 dsimp only at hl3 hF1 hn_g2 ⊢
 obtain _ | fu := fu
 · rw [m_laws_heldFormS_l1] at hF1; cases hF1
 rw [m_laws_heldFormS_l1] at hF1
 refine awp_seq (awp_seq (awp_region ?_))
 refine s_mv ?_
 refine s_mv ?_
 refine s_lenT yU32 ?_
 refine s_lt ?_
 refine k_nil (k_seq ?_)
 refine w_cond hF1 ?_ ?_ <;> intro hc4 hF2
 refine awp_lenT 0 (fun hb5 => ?_)
 refine awp_skip (k_seq (awp_seq (awp_block (awp_seq (awp_seq (awp_region ?_))))))
 refine s_mv ?_
 refine s_mv ?_
 obtain ⟨v6, hv6, hF3⟩ := bind_some' hF2
 refine s_ixT Form.row hv6 (Form.row_eq _) yE32 ?_
 refine s_fa yF34_0 ?_
 refine s_ld1 yA3 ?_
 refine s_mv ?_
 refine s_ne ?_
 refine k_nil (k_seq ?_)
 refine w_cond hF3 ?_ ?_ <;> intro hc7 hF4
 refine awp_seq (awp_region ?_)
 refine s_as ?_
 refine k_nil (k_seq (awp_ret (k_seq_ret (k_blk_ret (k_seq_ret (k_rnd_ret2 (k_blk_ret (k_seq_ret (k_fin ?_)))))))))
 cases hF4
 exact ends_a [] [] Try.results39
 refine awp_skip (k_seq (awp_seq (awp_region ?_)))
 refine s_mv ?_
 refine s_add rfl ?_
 refine s_as ?_
 refine k_nil (k_seq (awp_seq (awp_seq ?_)))
 refine awp_draw yMix (by kernel_rfl) ?_
 refine s_mv ?_
 refine s_mv ?_
 obtain ⟨v8, hv8, hF5⟩ := bind_some' hF4
 refine s_ixT Form.row hv8 (Form.row_eq _) yE32 ?_
 refine s_fa yF34_1 ?_
 refine s_ld1 yA9 ?_
 refine s_mv ?_
 obtain ⟨v9, hv9, hF6⟩ := bind_some' hF5
 refine s_pure [] (m_laws_markText_D_ok fu _ _ hv9) ?_
 refine s_neS ?_
 refine k_nilD (by kernel_rfl) ?_
 refine k_seq ?_
 refine w_cond hF6 ?_ ?_ <;> intro hc10 hF7
 refine awp_seq (awp_region ?_)
 refine s_as ?_
 refine k_nil (k_seq (awp_ret (k_seq_ret (k_blk_ret (k_seq_ret (k_rnd_ret2 (k_blk_ret (k_seq_ret (k_fin ?_)))))))))
 cases hF7
 exact ends_a [] [] Try.results39
 refine awp_skip (k_seq (awp_seq (awp_region ?_)))
 refine s_mv ?_
 refine s_add rfl ?_
 refine s_as ?_
 refine k_nil (k_seq (awp_seq (awp_seq (awp_region ?_))))
 refine s_mv ?_
 refine s_mv ?_
 obtain ⟨v11, hv11, hF8⟩ := bind_some' hF7
 refine s_ixT Form.row hv11 (Form.row_eq _) yE32 ?_
 refine s_fa yF34_2 ?_
 refine s_ld1 yA3 ?_
 refine s_mv ?_
 refine s_ne ?_
 refine k_nil (k_seq ?_)
 refine w_cond hF8 ?_ ?_ <;> intro hc12 hF9
 refine awp_seq (awp_region ?_)
 refine s_as ?_
 refine k_nil (k_seq (awp_ret (k_seq_ret (k_blk_ret (k_seq_ret (k_rnd_ret2 (k_blk_ret (k_seq_ret (k_fin ?_)))))))))
 cases hF9
 exact ends_a [] [] Try.results39
 refine awp_skip (k_seq (awp_seq (awp_region ?_)))
 refine s_mv ?_
 refine s_add rfl ?_
 refine s_as ?_
 refine k_nil (k_seq (awp_seq (awp_region ?_)))
 refine s_mv ?_
 refine s_mv ?_
 obtain ⟨v13, hv13, hF10⟩ := bind_some' hF9
 refine s_ixT Form.row hv13 (Form.row_eq _) yE32 ?_
 refine s_fa yF34_3 ?_
 refine s_ld1 yA22 ?_
 refine s_mv ?_
 obtain ⟨v14, hv14, hF11⟩ := bind_some' hF10
 refine s_pure [] (m_laws_heldIntS_ok fu _ _ _ hv14) ?_
 refine s_as ?_
 refine k_nil (k_seq (awp_seq (awp_seq (awp_region ?_))))
 refine s_mv ?_
 refine s_lt ?_
 refine k_nil (k_seq ?_)
 refine w_cond hF11 ?_ ?_ <;> intro hc15 hF12
 refine awp_seq (awp_region ?_)
 refine s_as ?_
 refine k_nil (k_seq (awp_ret (k_seq_ret (k_blk_ret (k_seq_ret (k_rnd_ret2 (k_blk_ret (k_seq_ret (k_fin ?_)))))))))
 cases hF12
 exact ends_a [] [] Try.results39
 refine awp_skip (k_seq (awp_seq (awp_region ?_)))
 refine s_mv ?_
 refine s_mv ?_
 obtain ⟨v16, hv16, hF13⟩ := bind_some' hF12
 refine s_ixT Form.row hv16 (Form.row_eq _) yE32 ?_
 refine s_fa yF34_4 ?_
 refine s_ld1 yA32 ?_
 refine s_mv ?_
 obtain ⟨v17, hv17, hF14⟩ := bind_some' hF13
 refine s_pure [] (ih_m_laws_heldFormS fu (by omega) _ _ _ hv17) ?_
 refine s_as ?_
 refine k_nil (k_seq (awp_seq (awp_region ?_)))
 refine s_mv ?_
 refine s_lt ?_
 refine k_nil (k_seq ?_)
 refine w_cond hF14 ?_ ?_ <;> intro hc18 hF15
 refine awp_seq (awp_region ?_)
 refine s_as ?_
 refine k_nil (k_seq (awp_ret (k_blk_ret (k_seq_ret (k_rnd_ret2 (k_blk_ret (k_seq_ret (k_fin ?_))))))))
 cases hF15
 exact ends_a [] [] Try.results39
 refine awp_skip (k_blk (k_seq (awp_region ?_)))
 refine s_mv ?_
 refine s_add (winc2 hc4 hb5 hn_g2) ?_
 refine s_as ?_
 refine k_nil ?_
 exact s_rn (fu, v17, (g2 + 1)) ⟨by first | omega | (dsimp only; omega), hF15, by first | omega | (dsimp only; omega)⟩
 refine awp_exit (k_seq_exit (k_rnd_exit2 (k_blk_exit (k_seq (awp_seq (awp_region ?_))))))
 refine s_mv ?_
 refine s_as ?_
 refine k_nil (k_seq (awp_ret (k_fin ?_)))
 cases hF2
 exact ends_a [] [] Try.results39
theorem m_laws_heldFormS_all (fuel : Nat) : m_laws_heldFormS_AC fuel := by
 induction fuel using Nat.strongRecOn with
 | _ N ih =>
   cases N with
   | zero => exact (by intro x1 x2 r h; rw [m_laws_heldFormS] at h; cases h)
   | succ fu => exact m_laws_heldFormS_st fu (fun k hk => (ih k (by omega)))
theorem m_laws_heldFormS_ok (fuel : Nat) : m_laws_heldFormS_AC fuel := (m_laws_heldFormS_all fuel)
def m_slices_Clone_int_AC (fuel : Nat) : Prop := ∀ (x1 : (List Int)) (r : (List Int)), m_slices_Clone_int fuel x1 = some r → AC Try.prog 136 [.t (.sl (x1.map rI))] (objs []) (.ar 9200) (objs [(9200, .arr (r.map rI) 3 true)])
theorem m_slices_Clone_int_ok (fuel : Nat) : m_slices_Clone_int_AC fuel := by
 intro x1 r hF0
 unfold m_slices_Clone_int at hF0
 refine AC_i [.ar 9200] Try.func136 rfl Try.ntmps136 ?_
 intro C hC
 refine awp_nil 0 (fun hz => ?_) ?_
 replace hz := List.map_eq_nil_iff.mp hz; subst hz; obtain ⟨_, hF1⟩ := chk_some hF0
 refine awp_seq (awp_region ?_)
 refine s_as ?_
 refine k_nil (k_seq (awp_seq (awp_seq (awp_region ?_))))
 refine s_mv ?_
 refine s_nil yU22 ?_
 refine k_nil (k_seq (awp_true rfl ?_))
 refine awp_unnil 0 ?_
 refine awp_unnil 3 ?_
 refine awp_seq (awp_region ?_)
 refine s_as ?_
 refine k_nil (k_seq ?_)
 refine awp_own 2 9200 3 yI3.choose_spec ?_
 refine awp_ret (k_seq_ret (k_fin ?_))
 cases hF1
 exact ends_a _ [] Try.results136
 refine awp_seq (awp_region ?_)
 refine s_as ?_
 refine k_nil (k_seq (awp_seq (awp_seq (awp_region ?_))))
 refine s_mv ?_
 refine s_nil yU22 ?_
 refine k_nil (k_seq (awp_false rfl ?_))
 refine awp_unnil 0 ?_
 refine awp_unnil 3 ?_
 refine awp_skip (k_seq (awp_seq (awp_region ?_)))
 refine s_bs rI ([] : List Int) yP22 yR3 ?_
 refine s_mv ?_
 obtain ⟨hk1, hF1⟩ := chk_some hF0
 refine s_apT rI (fun _ => rfl) hk1 yP22 ?_
 refine s_as ?_
 refine k_nil (k_seq ?_)
 refine awp_mv 2 7 9200 (by conv => lhs; whnf) (by conv => lhs; whnf) rfl ?_
 refine awp_ret (k_fin ?_)
 cases hF1
 exact ends_a _ [] Try.results136
def m_impl_copyForm_AC (fuel : Nat) : Prop := ∀ (x1 : Form) (r : Form), m_impl_copyForm fuel x1 = some r → AC Try.prog 89 [.ag [.t (.sc (.int .i64 x1.kind)), .t (.sc (.str x1.name)), .t (.sc (.int .i64 x1.n)), .t (.sl (x1.scopes.map rI)), .t (.sl (x1.kids.map Form.row))]] noOb (.ag [.t (.sc (.int .i64 r.kind)), .t (.sc (.str r.name)), .t (.sc (.int .i64 r.n)), .t (.sl (r.scopes.map rI)), .t (.sl (r.kids.map Form.row))]) noOb
theorem m_impl_copyForm_st (fu : Nat) (ih_m_impl_copyForm : ∀ k, k ≤ fu → m_impl_copyForm_AC k) : m_impl_copyForm_AC (fu + 1) := by
 intro x1 r hF0
 rw [m_impl_copyForm] at hF0
 refine AC_i [.ag [.t (.sc (.int .i64 r.kind)), .t (.sc (.str r.name)), .t (.sc (.int .i64 r.n)), .t (.sl (r.scopes.map rI)), .t (.sl (r.kids.map Form.row))]] Try.func89 rfl Try.ntmps89 ?_
 intro C hC
 refine awp_seq (awp_region ?_)
 refine s_box ?_
 refine s_alloc yZ34 ?_
 refine k_nil (k_seq (awp_seq ?_))
 refine awp_draw yMix (by kernel_rfl) ?_
 refine s_fa yF34_0 ?_
 refine s_ld1 yA3 ?_
 refine s_fa yF34_1 ?_
 refine s_ld1 yA9 ?_
 refine s_fa yF34_2 ?_
 refine s_ld1 yA3 ?_
 refine s_fa yF34_3 ?_
 refine s_ld1 yA22 ?_
 obtain ⟨v1, hv1, hF1⟩ := bind_some' hF0
 refine s_call [(9200, 2014)] [] _ _ (m_slices_Clone_int_ok fu _ _ hv1) ?_
 refine s_bld yZ34 yL34 ?_
 refine s_alloc yZ34 ?_
 refine s_stW yS34 ?_
 refine k_nilD (by kernel_rfl) ?_
 refine k_seq (awp_seq (awp_seq (awp_region ?_)))
 refine s_fa yF34_4 ?_
 refine s_ld1 yA32 ?_
 refine s_lenT yU32 ?_
 refine s_mv ?_
 refine k_nil (k_seq (awp_block ?_))
 refine awp_ownB 3 5020 34 [.t (.sc (.int .i64 x1.kind)), .t (.sc (.str x1.name)), .t (.sc (.int .i64 x1.n)), .ar 2014, .ar 5020] yI34.choose_spec ?_
 refine awp_frame2 [5, 19, 20, 21, 22, 23, 24, 25, 26, 27, 28, 29, 30] [3, 5020] [5, 27, 28] [5020] (fun a : Nat × Int × (List Form) => a.1) (fun a : Nat × Int × (List Form) => [(19, .t (.sc (.int .i64 a.2.1)))]) (fun a : Nat × Int × (List Form) => [(3, .box [.t (.sc (.int .i64 x1.kind)), .t (.sc (.str x1.name)), .t (.sc (.int .i64 x1.n)), .ar 2014, .ar 5020]), (5020, .arr (a.2.2.map Form.row) 34 true)]) (fun a : Nat × Int × (List Form) => a.1 ≤ fu ∧ m_impl_copyForm_l1 a.1 x1 v1 a.2.1 a.2.2 = some r ∧ 0 ≤ a.2.1) (fu, 0, ([] : List Form)) ⟨Nat.le_refl _, hF1, by simp⟩ (by rfl) (by rfl) (fun _ => rfl) (hasF_cons (by conv => lhs; whnf) (by rfl) hasF_nil) (hasO_cons (by conv => lhs; whnf) (by rfl) (hasO_cons (by conv => lhs; whnf) (by rfl) hasO_nil)) (fresh_C hC rfl) (by repeat (first | exact freshS_args rfl | refine freshS_upd rfl ?_ | refine freshS_frame rfl ?_)) (by repeat (first | exact freshM_no | exact objs_fresh rfl | refine freshM_upd rfl ?_ | refine freshM_frame rfl ?_)) ?_
 clear hF1
 rintro ⟨fu, g2, g3⟩ ⟨hl4, hF2, hn_g2⟩
 dsimp only at hl4 hF2 hn_g2 ⊢
 obtain _ | fu := fu
 · rw [m_impl_copyForm_l1] at hF2; cases hF2
 rw [m_impl_copyForm_l1] at hF2
 refine awp_seq (awp_region ?_)
 refine s_lt ?_
 refine k_nil (k_seq (awp_seq ?_))
 refine w_cond hF2 ?_ ?_ <;> intro hc5 hF3
 refine awp_lenT 17 (fun hb6 => ?_)
 refine awp_skip (k_seq (awp_seq (awp_block (awp_seq (awp_region ?_)))))
 obtain ⟨v7, hv7, hF4⟩ := bind_some' hF3
 refine s_ixT Form.row hv7 (Form.row_eq _) yE32 ?_
 refine s_ldN yA34 yS34 ?_
 refine s_alloc yZ34 ?_
 refine s_stW yS34 ?_
 refine k_nil (k_seq ?_)
 refine awp_draw yMix (by kernel_rfl) ?_
 refine s_fa yF34_4 ?_
 refine s_ld1 yA32 ?_
 refine s_ldW yA34 yS34 ?_
 obtain ⟨v8, hv8, hF5⟩ := bind_some' hF4
 refine s_pure [] (ih_m_impl_copyForm fu (by omega) _ _ hv8) ?_
 refine s_bs Form.row [v8] yP32 yR34 ?_
 obtain ⟨hk9, hF6⟩ := chk_some hF5
 refine s_apT Form.row (fun y => Form.row_len y) hk9 yP32 ?_
 refine s_fa yF34_4 ?_
 refine s_stP yS32 ?_
 refine k_nilD (by kernel_rfl) ?_
 refine k_blk (k_seq (awp_region ?_))
 refine s_add (winc2 hc5 hb6 hn_g2) ?_
 refine s_mv ?_
 refine k_nil ?_
 exact s_rn (fu, (g2 + 1), (g3 ++ [v8])) ⟨by first | omega | (dsimp only; omega), hF6, by first | omega | (dsimp only; omega)⟩ [(5020, 28)]
 refine awp_exit (k_seq_exit (k_rnd_exit2 (k_blk_exit (k_seq (awp_seq (awp_region ?_))))))
 refine s_ldW yA34 yS34 ?_
 refine s_stW yS34 ?_
 refine k_nil (k_seq (awp_ret (k_fin ?_)))
 cases hF3
 exact ends_gen [] [2014, 5020] (by rw [Try.results89]; exact (res_agg (by conv => lhs; whnf) (by conv => lhs; whnf) yA34 yS34 rfl res_nil))
theorem m_impl_copyForm_all (fuel : Nat) : m_impl_copyForm_AC fuel := by
 induction fuel using Nat.strongRecOn with
 | _ N ih =>
   cases N with
   | zero => exact (by intro x1 r h; rw [m_impl_copyForm] at h; cases h)
   | succ fu => exact m_impl_copyForm_st fu (fun k hk => (ih k (by omega)))
theorem m_impl_copyForm_ok (fuel : Nat) : m_impl_copyForm_AC fuel := (m_impl_copyForm_all fuel)
def m_laws_heldForm_AC (fuel : Nat) : Prop := ∀ (x1 : Form) (x2 : Int) (r : Int), m_laws_heldForm fuel x1 x2 = some r → AC Try.prog 61 [.ag [.t (.sc (.int .i64 x1.kind)), .t (.sc (.str x1.name)), .t (.sc (.int .i64 x1.n)), .t (.sl (x1.scopes.map rI)), .t (.sl (x1.kids.map Form.row))], .t (.sc (.int .i64 x2))] noOb (.t (.sc (.int .i64 r))) noOb
theorem m_laws_heldForm_ok (fuel : Nat) : m_laws_heldForm_AC fuel := by
 intro x1 x2 r hF0
 unfold m_laws_heldForm at hF0
 refine AC_i [.t (.sc (.int .i64 r))] Try.func61 rfl Try.ntmps61 ?_
 intro C hC
 refine awp_seq (awp_region ?_)
 refine s_box ?_
 refine s_as ?_
 refine k_nil (k_seq (awp_seq (awp_region ?_)))
 refine s_fa yF34_3 ?_
 refine s_ld1 yA22 ?_
 refine s_mv ?_
 obtain ⟨v1, hv1, hF1⟩ := bind_some' hF0
 refine s_pure [] (m_laws_heldIntS_ok fuel _ _ _ hv1) ?_
 refine s_as ?_
 refine k_nil (k_seq (awp_seq (awp_seq (awp_region ?_))))
 refine s_mv ?_
 refine s_lt ?_
 refine k_nil (k_seq ?_)
 refine w_cond hF1 ?_ ?_ <;> intro hc2 hF2
 refine awp_seq (awp_region ?_)
 refine s_as ?_
 refine k_nil (k_seq (awp_ret (k_seq_ret (k_fin ?_))))
 cases hF2
 exact ends_a [] [] Try.results61
 refine awp_skip (k_seq (awp_seq (awp_region ?_)))
 refine s_fa yF34_4 ?_
 refine s_ld1 yA32 ?_
 refine s_mv ?_
 obtain ⟨v3, hv3, hF3⟩ := bind_some' hF2
 refine s_pure [] (m_laws_heldFormS_ok fuel _ _ _ hv3) ?_
 refine s_as ?_
 refine k_nil (k_seq (awp_seq (awp_seq (awp_region ?_))))
 refine s_mv ?_
 refine s_lt ?_
 refine k_nil (k_seq ?_)
 refine w_cond hF3 ?_ ?_ <;> intro hc4 hF4
 refine awp_seq (awp_region ?_)
 refine s_as ?_
 refine k_nil (k_seq (awp_ret (k_seq_ret (k_fin ?_))))
 cases hF4
 exact ends_a [] [] Try.results61
 refine awp_skip (k_seq (awp_seq (awp_region ?_)))
 refine s_mv ?_
 refine s_as ?_
 refine k_nil (k_seq (awp_ret (k_fin ?_)))
 cases hF4
 exact ends_a [] [] Try.results61
def m_laws_szCore_AC (fuel : Nat) : Prop := ∀ (x1 : Core) (x2 : Int) (r : Int), m_laws_szCore fuel x1 x2 = some r → AC Try.prog 11 [.ag [.t (.sc (.int .i64 x1.kind)), .t (.sc (.int .i64 x1.id)), .t (.sc (.str x1.name)), .t (.sc (.int .i64 x1.n)), .t (.sl (x1.ids.map rI)), .t (.sc (.int .i64 x1.data.kind)), .t (.sc (.str x1.data.name)), .t (.sc (.int .i64 x1.data.n)), .t (.sl (x1.data.scopes.map rI)), .t (.sl (x1.data.kids.map Form.row)), .t (.sl (x1.kids.map Core.row))], .t (.sc (.int .i64 x2))] noOb (.t (.sc (.int .i64 r))) noOb
def m_laws_szCoreS_AC (fuel : Nat) : Prop := ∀ (x1 : (List Core)) (x2 : Int) (r : Int), m_laws_szCoreS fuel x1 x2 = some r → AC Try.prog 63 [.t (.sl (x1.map Core.row)), .t (.sc (.int .i64 x2))] noOb (.t (.sc (.int .i64 r))) noOb
theorem m_laws_szCore_st (fu : Nat) (ih_m_laws_szCore : ∀ k, k ≤ fu → m_laws_szCore_AC k) (ih_m_laws_szCoreS : ∀ k, k ≤ fu → m_laws_szCoreS_AC k) : m_laws_szCore_AC (fu + 1) := by
 intro x1 x2 r hF0
 rw [m_laws_szCore] at hF0
 refine AC_i [.t (.sc (.int .i64 r))] Try.func11 rfl Try.ntmps11 ?_
 intro C hC
 refine awp_seq (awp_region ?_)
 refine s_box ?_
 refine s_as ?_
 refine k_nil (k_seq (awp_seq (awp_region ?_)))
 refine s_mv ?_
 refine s_fa yF28_2 ?_
 refine s_ld1 yA9 ?_
 refine s_lenS yU9 ?_
 refine s_sub rfl ?_
 refine s_as ?_
 refine k_nil (k_seq (awp_seq (awp_seq (awp_region ?_))))
 refine s_mv ?_
 refine s_lt ?_
 refine k_nil (k_seq ?_)
 refine w_cond hF0 ?_ ?_ <;> intro hc1 hF1
 refine awp_seq (awp_region ?_)
 refine s_as ?_
 refine k_nil (k_seq (awp_ret (k_seq_ret (k_fin ?_))))
 cases hF1
 exact ends_a [] [] Try.results11
 refine awp_skip (k_seq (awp_seq (awp_region ?_)))
 refine s_fa yF28_4 ?_
 refine s_ld1 yA22 ?_
 refine s_mv ?_
 obtain ⟨v2, hv2, hF2⟩ := bind_some' hF1
 refine s_pure [] (m_laws_szIntS_ok fu _ _ _ hv2) ?_
 refine s_as ?_
 refine k_nil (k_seq (awp_seq (awp_seq (awp_region ?_))))
 refine s_mv ?_
 refine s_lt ?_
 refine k_nil (k_seq ?_)
 refine w_cond hF2 ?_ ?_ <;> intro hc3 hF3
 refine awp_seq (awp_region ?_)
 refine s_as ?_
 refine k_nil (k_seq (awp_ret (k_seq_ret (k_fin ?_))))
 cases hF3
 exact ends_a [] [] Try.results11
 refine awp_skip (k_seq (awp_seq (awp_region ?_)))
 refine s_fa yF28_5 ?_
 refine s_ldN yA25 yS25 ?_
 refine s_mv ?_
 obtain ⟨v4, hv4, hF4⟩ := bind_some' hF3
 refine s_pure [] (m_laws_szForm_ok fu _ _ _ hv4) ?_
 refine s_as ?_
 refine k_nil (k_seq (awp_seq (awp_seq (awp_region ?_))))
 refine s_mv ?_
 refine s_lt ?_
 refine k_nil (k_seq ?_)
 refine w_cond hF4 ?_ ?_ <;> intro hc5 hF5
 refine awp_seq (awp_region ?_)
 refine s_as ?_
 refine k_nil (k_seq (awp_ret (k_seq_ret (k_fin ?_))))
 cases hF5
 exact ends_a [] [] Try.results11
 refine awp_skip (k_seq (awp_seq (awp_region ?_)))
 refine s_fa yF28_6 ?_
 refine s_ld1 yA26 ?_
 refine s_mv ?_
 obtain ⟨v6, hv6, hF6⟩ := bind_some' hF5
 refine s_pure [] (ih_m_laws_szCoreS fu (by omega) _ _ _ hv6) ?_
 refine s_as ?_
 refine k_nil (k_seq (awp_seq (awp_seq (awp_region ?_))))
 refine s_mv ?_
 refine s_lt ?_
 refine k_nil (k_seq ?_)
 refine w_cond hF6 ?_ ?_ <;> intro hc7 hF7
 refine awp_seq (awp_region ?_)
 refine s_as ?_
 refine k_nil (k_seq (awp_ret (k_seq_ret (k_fin ?_))))
 cases hF7
 exact ends_a [] [] Try.results11
 refine awp_skip (k_seq (awp_seq (awp_region ?_)))
 refine s_mv ?_
 refine s_as ?_
 refine k_nil (k_seq (awp_ret (k_fin ?_)))
 cases hF7
 exact ends_a [] [] Try.results11
theorem m_laws_szCoreS_st (fu : Nat) (ih_m_laws_szCore : ∀ k, k ≤ fu → m_laws_szCore_AC k) (ih_m_laws_szCoreS : ∀ k, k ≤ fu → m_laws_szCoreS_AC k) : m_laws_szCoreS_AC (fu + 1) := by
 intro x1 x2 r hF0
 rw [m_laws_szCoreS] at hF0
 refine AC_i [.t (.sc (.int .i64 r))] Try.func63 rfl Try.ntmps63 ?_
 intro C hC
 refine awp_seq (awp_region ?_)
 refine s_as ?_
 refine k_nil (k_seq (awp_seq (awp_region ?_)))
 refine s_mv ?_
 refine s_mv ?_
 refine s_lenT yU26 ?_
 refine s_sub rfl ?_
 refine s_as ?_
 refine k_nil (k_seq (awp_seq (awp_seq (awp_region ?_))))
 refine s_mv ?_
 refine s_lt ?_
 refine k_nil (k_seq ?_)
 refine w_cond hF0 ?_ ?_ <;> intro hc1 hF1
 refine awp_seq (awp_region ?_)
 refine s_as ?_
 refine k_nil (k_seq (awp_ret (k_seq_ret (k_fin ?_))))
 cases hF1
 exact ends_a [] [] Try.results63
 refine awp_skip (k_seq (awp_seq (awp_seq (awp_region ?_))))
 refine s_as ?_
 refine k_nil (k_seq (awp_block ?_))
 refine awp_fr (β := Int × Int) [1, 4, 5, 12, 13, 14, 15, 16, 17, 18, 19, 20, 21, 22, 23, 24, 25] [] [] (fun a => [(1, .t (.sc (.int .i64 a.2.1))), (5, .t (.sc (.int .i64 a.2.2)))]) (fun a => []) (fun a => a.1 ≤ fu ∧ m_laws_szCoreS_l1 a.1 x1 a.2.1 a.2.2 = some r ∧ 0 ≤ a.2.2) (fu, (w64 (x2 - (x1.length : Int))), 0) ⟨Nat.le_refl _, hF1, by simp⟩ ?_
 clear hF1
 rintro ⟨fu, g2, g3⟩ ⟨hl4, hF2, hn_g3⟩
 dsimp only at hl4 hF2 hn_g3 ⊢
 obtain _ | fu := fu
 · rw [m_laws_szCoreS_l1] at hF2; cases hF2
 rw [m_laws_szCoreS_l1] at hF2
 refine awp_seq (awp_seq (awp_region ?_))
 refine s_mv ?_
 refine s_mv ?_
 refine s_lenT yU26 ?_
 refine s_lt ?_
 refine k_nil (k_seq ?_)
 refine w_cond hF2 ?_ ?_ <;> intro hc5 hF3
 refine awp_lenT 0 (fun hb6 => ?_)
 refine awp_skip (k_seq (awp_seq (awp_block (awp_seq (awp_region ?_)))))
 refine s_mv ?_
 refine s_mv ?_
 obtain ⟨v7, hv7, hF4⟩ := bind_some' hF3
 refine s_ixT Core.row hv7 (Core.row_eq _) yE26 ?_
 refine s_ldN yA28 yS28 ?_
 refine s_mv ?_
 obtain ⟨v8, hv8, hF5⟩ := bind_some' hF4
 refine s_pure [] (ih_m_laws_szCore fu (by omega) _ _ _ hv8) ?_
 refine s_as ?_
 refine k_nil (k_seq (awp_seq (awp_region ?_)))
 refine s_mv ?_
 refine s_lt ?_
 refine k_nil (k_seq ?_)
 refine w_cond hF5 ?_ ?_ <;> intro hc9 hF6
 refine awp_seq (awp_region ?_)
 refine s_as ?_
 refine k_nil (k_seq (awp_ret (k_blk_ret (k_seq_ret (k_rnd_ret2 (k_blk_ret (k_seq_ret (k_fin ?_))))))))
 cases hF6
 exact ends_a [] [] Try.results63
 refine awp_skip (k_blk (k_seq (awp_region ?_)))
 refine s_mv ?_
 refine s_add (winc2 hc5 hb6 hn_g3) ?_
 refine s_as ?_
 refine k_nil ?_
 exact s_rn (fu, v8, (g3 + 1)) ⟨by first | omega | (dsimp only; omega), hF6, by first | omega | (dsimp only; omega)⟩
 refine awp_exit (k_seq_exit (k_rnd_exit2 (k_blk_exit (k_seq (awp_seq (awp_region ?_))))))
 refine s_mv ?_
 refine s_as ?_
 refine k_nil (k_seq (awp_ret (k_fin ?_)))
 cases hF3
 exact ends_a [] [] Try.results63
theorem m_laws_szCore_all (fuel : Nat) : m_laws_szCore_AC fuel ∧ m_laws_szCoreS_AC fuel := by
 induction fuel using Nat.strongRecOn with
 | _ N ih =>
   cases N with
   | zero => exact ⟨(by intro x1 x2 r h; rw [m_laws_szCore] at h; cases h), (by intro x1 x2 r h; rw [m_laws_szCoreS] at h; cases h)⟩
   | succ fu => exact ⟨m_laws_szCore_st fu (fun k hk => (ih k (by omega)).1) (fun k hk => (ih k (by omega)).2), m_laws_szCoreS_st fu (fun k hk => (ih k (by omega)).1) (fun k hk => (ih k (by omega)).2)⟩
theorem m_laws_szCore_ok (fuel : Nat) : m_laws_szCore_AC fuel := (m_laws_szCore_all fuel).1
def m_laws_toCore_AC (fuel : Nat) : Prop := ∀ (x1 : Core) (r : Core), m_laws_toCore fuel x1 = some r → AC Try.prog 13 [.ag [.t (.sc (.int .i64 x1.kind)), .t (.sc (.int .i64 x1.id)), .t (.sc (.str x1.name)), .t (.sc (.int .i64 x1.n)), .t (.sl (x1.ids.map rI)), .t (.sc (.int .i64 x1.data.kind)), .t (.sc (.str x1.data.name)), .t (.sc (.int .i64 x1.data.n)), .t (.sl (x1.data.scopes.map rI)), .t (.sl (x1.data.kids.map Form.row)), .t (.sl (x1.kids.map Core.row))]] noOb (.ag [.t (.sc (.int .i64 r.kind)), .t (.sc (.int .i64 r.id)), .t (.sc (.str r.name)), .t (.sc (.int .i64 r.n)), .t (.sl (r.ids.map rI)), .t (.sc (.int .i64 r.data.kind)), .t (.sc (.str r.data.name)), .t (.sc (.int .i64 r.data.n)), .t (.sl (r.data.scopes.map rI)), .t (.sl (r.data.kids.map Form.row)), .t (.sl (r.kids.map Core.row))]) noOb
def m_laws_toCoreS_AC (fuel : Nat) : Prop := ∀ (x1 : (List Core)) (r : (List Core)), m_laws_toCoreS fuel x1 = some r → AC Try.prog 66 [.t (.sl (x1.map Core.row))] noOb (.t (.sl (r.map Core.row))) noOb
theorem m_laws_toCore_st (fu : Nat) (ih_m_laws_toCore : ∀ k, k ≤ fu → m_laws_toCore_AC k) (ih_m_laws_toCoreS : ∀ k, k ≤ fu → m_laws_toCoreS_AC k) : m_laws_toCore_AC (fu + 1) := by
 intro x1 r hF0
 rw [m_laws_toCore] at hF0
 refine AC_i [.ag [.t (.sc (.int .i64 r.kind)), .t (.sc (.int .i64 r.id)), .t (.sc (.str r.name)), .t (.sc (.int .i64 r.n)), .t (.sl (r.ids.map rI)), .t (.sc (.int .i64 r.data.kind)), .t (.sc (.str r.data.name)), .t (.sc (.int .i64 r.data.n)), .t (.sl (r.data.scopes.map rI)), .t (.sl (r.data.kids.map Form.row)), .t (.sl (r.kids.map Core.row))]] Try.func13 rfl Try.ntmps13 ?_
 intro C hC
 refine awp_seq (awp_region ?_)
 refine s_box ?_
 refine s_alloc yZ37 ?_
 refine k_nil (k_seq (awp_seq (awp_region ?_)))
 refine s_alloc yZ37 ?_
 refine k_nil (k_seq (awp_seq (awp_region ?_)))
 refine s_fa yF28_0 ?_
 refine s_ld1 yA3 ?_
 refine s_fa yF37_0 ?_
 refine s_stP yS3 ?_
 refine k_nil (k_seq (awp_seq (awp_region ?_)))
 refine s_fa yF28_1 ?_
 refine s_ld1 yA3 ?_
 refine s_fa yF37_1 ?_
 refine s_stP yS3 ?_
 refine k_nil (k_seq (awp_seq (awp_region ?_)))
 refine s_fa yF28_2 ?_
 refine s_ld1 yA9 ?_
 refine s_fa yF37_2 ?_
 refine s_stP yS9 ?_
 refine k_nil (k_seq (awp_seq (awp_region ?_)))
 refine s_fa yF28_3 ?_
 refine s_ld1 yA3 ?_
 refine s_fa yF37_3 ?_
 refine s_stP yS3 ?_
 refine k_nil (k_seq (awp_seq (awp_region ?_)))
 refine s_fa yF28_4 ?_
 refine s_ld1 yA22 ?_
 obtain ⟨v1, hv1, hF1⟩ := bind_some' hF0
 refine s_pure [] (m_laws_toIntS_ok fu _ _ hv1) ?_
 refine s_fa yF37_4 ?_
 refine s_stP yS22 ?_
 refine k_nil (k_seq (awp_seq (awp_region ?_)))
 refine s_fa yF28_5 ?_
 refine s_ldN yA25 yS25 ?_
 obtain ⟨v2, hv2, hF2⟩ := bind_some' hF1
 refine s_pure [] (m_laws_toForm_ok fu _ _ hv2) ?_
 refine s_fa yF37_5 ?_
 refine s_stP yS34 ?_
 refine k_nil (k_seq (awp_seq (awp_region ?_)))
 refine s_fa yF28_6 ?_
 refine s_ld1 yA26 ?_
 obtain ⟨v3, hv3, hF3⟩ := bind_some' hF2
 refine s_pure [] (ih_m_laws_toCoreS fu (by omega) _ _ hv3) ?_
 refine s_fa yF37_6 ?_
 refine s_stP yS35 ?_
 refine k_nil (k_seq (awp_seq (awp_region ?_)))
 refine s_ldW yA37 yS37 ?_
 refine s_stW yS37 ?_
 refine k_nil (k_seq (awp_ret (k_fin ?_)))
 cases hF3
 exact ends_gen [] [] (by rw [Try.results13]; exact (res_agg (by conv => lhs; whnf) (by conv => lhs; whnf) yA37 yS37 rfl res_nil))
theorem m_laws_toCoreS_st (fu : Nat) (ih_m_laws_toCore : ∀ k, k ≤ fu → m_laws_toCore_AC k) (ih_m_laws_toCoreS : ∀ k, k ≤ fu → m_laws_toCoreS_AC k) : m_laws_toCoreS_AC (fu + 1) := by
 intro x1 r hF0
 rw [m_laws_toCoreS] at hF0
 refine AC_i [.t (.sl (r.map Core.row))] Try.func66 rfl Try.ntmps66 ?_
 intro C hC
 refine awp_seq (awp_region ?_)
 refine s_as ?_
 refine k_nil (k_seq (awp_seq (awp_region ?_)))
 refine s_mv ?_
 refine s_lenT yU26 ?_
 obtain ⟨hk1, hF1⟩ := chk_some hF0
 refine s_mk Core.row (Core.mk 0 0 (⟨#[]⟩ : ByteArray) 0 ([] : List Int) (Form.mk 0 (⟨#[]⟩ : ByteArray) 0 ([] : List Int) ([] : List Form)) ([] : List Core)) (Core.row_eq _) hk1 yP35 yR37 ?_
 refine s_as ?_
 refine k_nil (k_seq (awp_seq (awp_seq (awp_region ?_))))
 refine s_as ?_
 refine k_nil (k_seq (awp_block ?_))
 refine awp_fr (β := Int × (List Core)) [4, 8, 9, 10, 11, 12, 13, 14, 15, 16, 17, 18, 19, 20, 21] [7] [] (fun a => [(4, .t (.sc (.int .i64 a.2.1)))]) (fun a => [(7, .arr (a.2.2.map Core.row) 37 true)]) (fun a => a.1 ≤ fu ∧ m_laws_toCoreS_l1 a.1 x1 a.2.1 a.2.2 = some r ∧ 0 ≤ a.2.1) (fu, 0, (List.replicate (x1.length : Int).toNat (Core.mk 0 0 (⟨#[]⟩ : ByteArray) 0 ([] : List Int) (Form.mk 0 (⟨#[]⟩ : ByteArray) 0 ([] : List Int) ([] : List Form)) ([] : List Core)))) ⟨Nat.le_refl _, hF1, by simp⟩ ?_
 clear hF1
 rintro ⟨fu, g2, g3⟩ ⟨hl4, hF2, hn_g2⟩
 dsimp only at hl4 hF2 hn_g2 ⊢
 obtain _ | fu := fu
 · rw [m_laws_toCoreS_l1] at hF2; cases hF2
 rw [m_laws_toCoreS_l1] at hF2
 refine awp_seq (awp_seq (awp_region ?_))
 refine s_mv ?_
 refine s_mv ?_
 refine s_lenT yU26 ?_
 refine s_lt ?_
 refine k_nil (k_seq ?_)
 refine w_cond hF2 ?_ ?_ <;> intro hc5 hF3
 refine awp_lenT 0 (fun hb6 => ?_)
 refine awp_skip (k_seq (awp_seq (awp_block (awp_region ?_))))
 iterate 4 refine s_mv ?_
 obtain ⟨v7, hv7, hF4⟩ := bind_some' hF3
 refine s_ixT Core.row hv7 (Core.row_eq _) yE26 ?_
 refine s_ldN yA28 yS28 ?_
 obtain ⟨v8, hv8, hF5⟩ := bind_some' hF4
 refine s_pure [] (ih_m_laws_toCore fu (by omega) _ _ hv8) ?_
 obtain ⟨v9, hv9, hF6⟩ := bind_some' hF5
 refine s_ixA Core.row hv9 yE35 ?_
 refine s_stA Core.row v8 hv9 (Core.row_eq _) (Core.row_eq _) yS37 yS37 ?_
 refine k_nil (k_blk (k_seq (awp_region ?_)))
 refine s_mv ?_
 refine s_add (winc2 hc5 hb6 hn_g2) ?_
 refine s_as ?_
 refine k_nil ?_
 exact s_rn (fu, (g2 + 1), (g3.set g2.toNat v8)) ⟨by first | omega | (dsimp only; omega), hF6, by first | omega | (dsimp only; omega)⟩
 refine awp_exit (k_seq_exit (k_rnd_exit2 (k_blk_exit (k_seq (awp_seq (awp_region ?_))))))
 refine s_mv ?_
 refine s_as ?_
 refine k_nil (k_seq (awp_ret (k_fin ?_)))
 cases hF3
 exact ends_a [] [7] Try.results66
theorem m_laws_toCore_all (fuel : Nat) : m_laws_toCore_AC fuel ∧ m_laws_toCoreS_AC fuel := by
 induction fuel using Nat.strongRecOn with
 | _ N ih =>
   cases N with
   | zero => exact ⟨(by intro x1 r h; rw [m_laws_toCore] at h; cases h), (by intro x1 r h; rw [m_laws_toCoreS] at h; cases h)⟩
   | succ fu => exact ⟨m_laws_toCore_st fu (fun k hk => (ih k (by omega)).1) (fun k hk => (ih k (by omega)).2), m_laws_toCoreS_st fu (fun k hk => (ih k (by omega)).1) (fun k hk => (ih k (by omega)).2)⟩
theorem m_laws_toCore_ok (fuel : Nat) : m_laws_toCore_AC fuel := (m_laws_toCore_all fuel).1
def m_spec_l6Kids_AC (fuel : Nat) : Prop := ∀ (x1 : Int) (x2 : Int) (r : Bool), m_spec_l6Kids fuel x1 x2 = some r → AC Try.prog 164 [.t (.sc (.int .i64 x1)), .t (.sc (.int .i64 x2))] noOb (.t (.sc (.bool r))) noOb
theorem m_spec_l6Kids_ok (fuel : Nat) : m_spec_l6Kids_AC fuel := by
 intro x1 x2 r hF0
 unfold m_spec_l6Kids at hF0
 refine AC_i [.t (.sc (.bool r))] Try.func164 rfl Try.ntmps164 ?_
 intro C hC
 refine awp_seq (awp_region ?_)
 refine s_as ?_
 refine k_nil (k_seq (awp_seq (awp_seq (awp_region ?_))))
 refine s_mv ?_
 refine k_nil (k_seq (awp_block ?_))
 refine awp_jn (α := Nat × Bool) [6, 7, 8, 9, 10] [] [] (fun a => [(6, .t (.sc (.bool a.2)))]) (fun a => []) (fun a => a.1 ≤ fuel ∧ m_spec_l6Kids_j1 a.1 x1 x2 a.2 = some r) ?_ ?_
 refine awp_seq (awp_region ?_)
 refine s_eq ?_
 refine s_as ?_
 refine k_nil (k_seq ?_)
 refine w_cond hF0 ?_ ?_ <;> intro hc1 hF1
 refine awp_skip ?_
 exact s_jn (fuel, (decide (x1 = 1))) ⟨by first | omega | (dsimp only; omega), hF1⟩
 refine awp_seq (awp_region ?_)
 refine s_eq ?_
 refine s_as ?_
 refine k_nil (k_seq ?_)
 refine w_cond hF1 ?_ ?_ <;> intro hc2 hF2
 refine awp_skip ?_
 exact s_jn (fuel, (decide (x1 = 2))) ⟨by first | omega | (dsimp only; omega), hF2⟩
 refine awp_seq (awp_region ?_)
 refine s_eq ?_
 refine s_as ?_
 refine k_nil (k_seq ?_)
 refine w_cond hF2 ?_ ?_ <;> intro hc3 hF3
 refine awp_skip ?_
 exact s_jn (fuel, (decide (x1 = 3))) ⟨by first | omega | (dsimp only; omega), hF3⟩
 refine awp_region ?_
 refine s_eq ?_
 refine s_as ?_
 refine k_nil ?_
 exact s_jn (fuel, (decide (x1 = 4))) ⟨by first | omega | (dsimp only; omega), hF3⟩
 clear hF0
 rintro ⟨fu, g4⟩ ⟨hl5, hF1⟩
 dsimp only at hl5 hF1 ⊢
 obtain _ | fu := fu
 · rw [m_spec_l6Kids_j1] at hF1; cases hF1
 rw [m_spec_l6Kids_j1] at hF1
 refine w_cond hF1 ?_ ?_ <;> intro hc6 hF2
 refine awp_seq (awp_region ?_)
 refine s_mv ?_
 refine s_eq ?_
 refine s_as ?_
 refine k_nil (k_seq (awp_ret (k_blk_ret (k_seq_ret (k_fin ?_)))))
 cases hF2
 exact ends_a [] [] Try.results164
 refine awp_seq (awp_region ?_)
 refine s_eq ?_
 refine s_as ?_
 refine k_nil (k_seq ?_)
 refine w_cond hF2 ?_ ?_ <;> intro hc7 hF3
 refine awp_seq (awp_region ?_)
 refine s_mv ?_
 refine s_eq ?_
 refine s_as ?_
 refine k_nil (k_seq (awp_ret (k_blk_ret (k_seq_ret (k_fin ?_)))))
 cases hF3
 exact ends_a [] [] Try.results164
 refine awp_seq (awp_region ?_)
 refine s_eq ?_
 refine s_as ?_
 refine k_nil (k_seq ?_)
 refine w_cond hF3 ?_ ?_ <;> intro hc8 hF4
 refine awp_seq (awp_region ?_)
 refine s_mv ?_
 refine s_ge ?_
 refine s_as ?_
 refine k_nil (k_seq (awp_ret (k_blk_ret (k_seq_ret (k_fin ?_)))))
 cases hF4
 exact ends_a [] [] Try.results164
 refine awp_skip (k_blk (k_seq (awp_seq (awp_region ?_))))
 refine s_mv ?_
 refine s_eq ?_
 refine s_mv ?_
 refine w_guard _ 23 hF4 ?_ ?_ <;> intro hc9 hF5
 refine s_mv ?_
 refine s_eq ?_
 refine s_pkt ?_
 refine s_as ?_
 refine k_nil (k_seq (awp_ret (k_fin ?_)))
 cases hF5
 exact ends_a [] [] Try.results164
 refine r_no rfl (r_no rfl ?_)
 refine s_pkf ?_
 refine s_as ?_
 refine k_nil (k_seq (awp_ret (k_fin ?_)))
 cases hF5
 exact ends_a [] [] Try.results164
def m_spec_StripForm_AC (fuel : Nat) : Prop := ∀ (x1 : Form) (r : Form), m_spec_StripForm fuel x1 = some r → AC Try.prog 181 [.ag [.t (.sc (.int .i64 x1.kind)), .t (.sc (.str x1.name)), .t (.sc (.int .i64 x1.n)), .t (.sl (x1.scopes.map rI)), .t (.sl (x1.kids.map Form.row))]] noOb (.ag [.t (.sc (.int .i64 r.kind)), .t (.sc (.str r.name)), .t (.sc (.int .i64 r.n)), .t (.sl (r.scopes.map rI)), .t (.sl (r.kids.map Form.row))]) noOb
theorem m_spec_StripForm_st (fu : Nat) (ih_m_spec_StripForm : ∀ k, k ≤ fu → m_spec_StripForm_AC k) : m_spec_StripForm_AC (fu + 1) := by
 intro x1 r hF0
 rw [m_spec_StripForm] at hF0
 refine AC_i [.ag [.t (.sc (.int .i64 r.kind)), .t (.sc (.str r.name)), .t (.sc (.int .i64 r.n)), .t (.sl (r.scopes.map rI)), .t (.sl (r.kids.map Form.row))]] Try.func181 rfl Try.ntmps181 ?_
 intro C hC
 refine awp_seq (awp_region ?_)
 refine s_box ?_
 refine s_alloc yZ34 ?_
 refine k_nil (k_seq (awp_seq (awp_region ?_)))
 refine s_fa yF34_0 ?_
 refine s_ld1 yA3 ?_
 refine s_fa yF34_1 ?_
 refine s_ld1 yA9 ?_
 refine s_fa yF34_2 ?_
 refine s_ld1 yA3 ?_
 refine s_bld yZ34 yL34 ?_
 refine s_alloc yZ34 ?_
 refine s_stW yS34 ?_
 refine k_nil (k_seq (awp_seq (awp_seq (awp_region ?_))))
 refine s_as ?_
 refine k_nil (k_seq (awp_block ?_))
 refine awp_ownB 3 5020 34 [.t (.sc (.int .i64 x1.kind)), .t (.sc (.str x1.name)), .t (.sc (.int .i64 x1.n)), .nl, .ar 5020] yI34.choose_spec ?_
 refine awp_frame2 [4, 12, 13, 14, 15, 16, 17, 18, 19, 20, 21, 22, 23, 24, 25, 26, 27, 28, 29] [3, 5020] [27, 28] [5020] (fun a : Nat × Int × (List Form) => a.1) (fun a : Nat × Int × (List Form) => [(4, .t (.sc (.int .i64 a.2.1)))]) (fun a : Nat × Int × (List Form) => [(3, .box [.t (.sc (.int .i64 x1.kind)), .t (.sc (.str x1.name)), .t (.sc (.int .i64 x1.n)), .nl, .ar 5020]), (5020, .arr (a.2.2.map Form.row) 34 true)]) (fun a : Nat × Int × (List Form) => a.1 ≤ fu ∧ m_spec_StripForm_l1 a.1 x1 a.2.1 a.2.2 = some r ∧ 0 ≤ a.2.1) (fu, 0, ([] : List Form)) ⟨Nat.le_refl _, hF0, by simp⟩ (by rfl) (by rfl) (fun _ => rfl) (hasF_cons (by conv => lhs; whnf) (by rfl) hasF_nil) (hasO_cons (by conv => lhs; whnf) (by rfl) (hasO_cons (by conv => lhs; whnf) (by rfl) hasO_nil)) (fresh_C hC rfl) (by repeat (first | exact freshS_args rfl | refine freshS_upd rfl ?_ | refine freshS_frame rfl ?_)) (by repeat (first | exact freshM_no | exact objs_fresh rfl | refine freshM_upd rfl ?_ | refine freshM_frame rfl ?_)) ?_
 clear hF0
 rintro ⟨fu, g1, g2⟩ ⟨hl3, hF1, hn_g1⟩
 dsimp only at hl3 hF1 hn_g1 ⊢
 obtain _ | fu := fu
 · rw [m_spec_StripForm_l1] at hF1; cases hF1
 rw [m_spec_StripForm_l1] at hF1
 refine awp_seq (awp_seq (awp_region ?_))
 refine s_mv ?_
 refine s_fa yF34_4 ?_
 refine s_ld1 yA32 ?_
 refine s_lenT yU32 ?_
 refine s_lt ?_
 refine k_nil (k_seq ?_)
 refine w_cond hF1 ?_ ?_ <;> intro hc4 hF2
 refine awp_lenT 14 (fun hb5 => ?_)
 refine awp_skip (k_seq (awp_seq (awp_block ?_)))
 refine awp_draw yMix (by kernel_rfl) ?_
 refine s_fa yF34_4 ?_
 refine s_ld1 yA32 ?_
 refine s_fa yF34_4 ?_
 refine s_ld1 yA32 ?_
 refine s_mv ?_
 obtain ⟨v6, hv6, hF3⟩ := bind_some' hF2
 refine s_ixT Form.row hv6 (Form.row_eq _) yE32 ?_
 refine s_ldN yA34 yS34 ?_
 obtain ⟨v7, hv7, hF4⟩ := bind_some' hF3
 refine s_pure [] (ih_m_spec_StripForm fu (by omega) _ _ hv7) ?_
 refine s_bs Form.row [v7] yP32 yR34 ?_
 obtain ⟨hk8, hF5⟩ := chk_some hF4
 refine s_apT Form.row (fun y => Form.row_len y) hk8 yP32 ?_
 refine s_fa yF34_4 ?_
 refine s_stP yS32 ?_
 refine k_nilD (by kernel_rfl) ?_
 refine k_blk (k_seq (awp_region ?_))
 refine s_mv ?_
 refine s_add (winc2 hc4 hb5 hn_g1) ?_
 refine s_as ?_
 refine k_nil ?_
 exact s_rn (fu, (g1 + 1), (g2 ++ [v7])) ⟨by first | omega | (dsimp only; omega), hF5, by first | omega | (dsimp only; omega)⟩ [(5020, 28)]
 refine awp_exit (k_seq_exit (k_rnd_exit2 (k_blk_exit (k_seq (awp_seq (awp_region ?_))))))
 refine s_ldW yA34 yS34 ?_
 refine s_stW yS34 ?_
 refine k_nil (k_seq (awp_ret (k_fin ?_)))
 cases hF2
 exact ends_gen [] [5020] (by rw [Try.results181]; exact (res_agg (by conv => lhs; whnf) (by conv => lhs; whnf) yA34 yS34 rfl res_nil))
theorem m_spec_StripForm_all (fuel : Nat) : m_spec_StripForm_AC fuel := by
 induction fuel using Nat.strongRecOn with
 | _ N ih =>
   cases N with
   | zero => exact (by intro x1 r h; rw [m_spec_StripForm] at h; cases h)
   | succ fu => exact m_spec_StripForm_st fu (fun k hk => (ih k (by omega)))
theorem m_spec_StripForm_ok (fuel : Nat) : m_spec_StripForm_AC fuel := (m_spec_StripForm_all fuel)
def m_spec_l6Fields_AC (fuel : Nat) : Prop := ∀ (x1 : Core) (r : Bool), m_spec_l6Fields fuel x1 = some r → AC Try.prog 165 [.ag [.t (.sc (.int .i64 x1.kind)), .t (.sc (.int .i64 x1.id)), .t (.sc (.str x1.name)), .t (.sc (.int .i64 x1.n)), .t (.sl (x1.ids.map rI)), .t (.sc (.int .i64 x1.data.kind)), .t (.sc (.str x1.data.name)), .t (.sc (.int .i64 x1.data.n)), .t (.sl (x1.data.scopes.map rI)), .t (.sl (x1.data.kids.map Form.row)), .t (.sl (x1.kids.map Core.row))]] noOb (.t (.sc (.bool r))) noOb
theorem m_spec_l6Fields_ok (fuel : Nat) : m_spec_l6Fields_AC fuel := by
 intro x1 r hF0
 unfold m_spec_l6Fields at hF0
 refine AC_i [.t (.sc (.bool r))] Try.func165 rfl Try.ntmps165 ?_
 intro C hC
 refine awp_seq (awp_region ?_)
 refine s_box ?_
 refine s_as ?_
 refine k_nil (k_seq ?_)
 refine awp_jn (α := Nat) [2, 3, 4, 5, 6, 7, 8, 9, 10, 11, 12, 13, 14, 15, 16, 17, 18, 19, 20, 21, 22, 23, 24, 25] [] [] (fun a => []) (fun a => []) (fun a => a ≤ fuel ∧ m_spec_l6Fields_j1 a x1  = some r) ?_ ?_
 refine awp_seq (awp_region ?_)
 refine s_fa yF37_0 ?_
 refine s_ld1 yA3 ?_
 refine s_eq ?_
 refine s_mv ?_
 refine w_guard _ 6 hF0 ?_ ?_ <;> intro hc1 hF1
 refine s_fa yF37_1 ?_
 refine s_ld1 yA3 ?_
 refine s_lt ?_
 refine s_mv ?_
 refine w_guard _ 10 hF1 ?_ ?_ <;> intro hc2 hF2
 iterate 3 refine r_no rfl ?_
 refine s_pkt ?_
 refine s_pkt ?_
 refine s_mv ?_
 iterate 8 refine r_no rfl ?_
 refine s_pkt ?_
 refine k_nil (k_seq (awp_true rfl (awp_seq (awp_region ?_))))
 refine s_as ?_
 refine k_nil (k_seq (awp_ret (k_jn_ret (k_fin ?_))))
 cases hF2
 exact ends_a [] [] Try.results165
 refine s_fa yF37_1 ?_
 refine s_ld1 yA3 ?_
 refine s_gt ?_
 refine s_pkf ?_
 refine s_pkt ?_
 refine s_mv ?_
 refine w_guard _ 16 hF2 ?_ ?_ <;> intro hc3 hF3
 iterate 8 refine r_no rfl ?_
 refine s_pkt ?_
 refine k_nil (k_seq (awp_true rfl (awp_seq (awp_region ?_))))
 refine s_as ?_
 refine k_nil (k_seq (awp_ret (k_jn_ret (k_fin ?_))))
 cases hF3
 exact ends_a [] [] Try.results165
 refine s_fa yF37_0 ?_
 refine s_ld1 yA3 ?_
 refine s_ne ?_
 refine s_mv ?_
 refine w_guard _ 20 hF3 ?_ ?_ <;> intro hc4 hF4
 refine s_fa yF37_1 ?_
 refine s_ld1 yA3 ?_
 refine s_ne ?_
 refine s_pkt ?_
 refine s_pkf ?_
 refine k_nil (k_seq ?_)
 refine w_cond hF4 ?_ ?_ <;> intro hc5 hF5
 refine awp_seq (awp_region ?_)
 refine s_as ?_
 refine k_nil (k_seq (awp_ret (k_jn_ret (k_fin ?_))))
 cases hF5
 exact ends_a [] [] Try.results165
 refine awp_skip ?_
 exact s_jn (fuel) ⟨by first | omega | (dsimp only; omega), hF5⟩
 iterate 3 refine r_no rfl ?_
 refine s_pkf ?_
 refine s_pkf ?_
 refine k_nil (k_seq (awp_false rfl (awp_skip ?_)))
 exact s_jn (fuel) ⟨by first | omega | (dsimp only; omega), hF4⟩
 iterate 8 refine r_no rfl ?_
 refine s_pkf ?_
 refine s_mv ?_
 refine s_fa yF37_0 ?_
 refine s_ld1 yA3 ?_
 refine s_ne ?_
 refine s_mv ?_
 refine w_guard _ 20 hF1 ?_ ?_ <;> intro hc6 hF2
 refine s_fa yF37_1 ?_
 refine s_ld1 yA3 ?_
 refine s_ne ?_
 refine s_pkt ?_
 refine s_pkf ?_
 refine k_nil (k_seq ?_)
 refine w_cond hF2 ?_ ?_ <;> intro hc7 hF3
 refine awp_seq (awp_region ?_)
 refine s_as ?_
 refine k_nil (k_seq (awp_ret (k_jn_ret (k_fin ?_))))
 cases hF3
 exact ends_a [] [] Try.results165
 refine awp_skip ?_
 exact s_jn (fuel) ⟨by first | omega | (dsimp only; omega), hF3⟩
 iterate 3 refine r_no rfl ?_
 refine s_pkf ?_
 refine s_pkf ?_
 refine k_nil (k_seq (awp_false rfl (awp_skip ?_)))
 exact s_jn (fuel) ⟨by first | omega | (dsimp only; omega), hF2⟩
 clear hF0
 rintro fu ⟨hl8, hF1⟩
 obtain _ | fu := fu
 · rw [m_spec_l6Fields_j1] at hF1; cases hF1
 rw [m_spec_l6Fields_j1] at hF1
 refine awp_jn (α := Nat) [2, 26, 27, 28, 29, 30, 31, 32, 33, 34, 35, 36, 37, 38, 39, 40, 41, 42, 43, 44] [] [] (fun a => []) (fun a => []) (fun a => a ≤ fu ∧ m_spec_l6Fields_j2 a x1  = some r) ?_ ?_
 refine awp_seq (awp_region ?_)
 refine s_fa yF37_0 ?_
 refine s_ld1 yA3 ?_
 refine s_eq ?_
 refine s_mv ?_
 refine w_guard _ 29 hF1 ?_ ?_ <;> intro hc9 hF2
 refine s_fa yF37_2 ?_
 refine s_ld1 yA9 ?_
 obtain ⟨v10, hv10, hF3⟩ := bind_some' hF2
 refine s_pure [] (m_spec_NameValid_ok fu _ _ hv10) ?_
 refine s_not ?_
 refine s_pkt ?_
 refine s_mv ?_
 refine w_guard _ 35 hF3 ?_ ?_ <;> intro hc11 hF4
 iterate 8 refine r_no rfl ?_
 refine s_pkt ?_
 refine k_nil (k_seq (awp_true rfl (awp_seq (awp_region ?_))))
 refine s_as ?_
 refine k_nil (k_seq (awp_ret (k_jn_ret (k_fin ?_))))
 cases hF4
 exact ends_a [] [] Try.results165
 refine s_fa yF37_0 ?_
 refine s_ld1 yA3 ?_
 refine s_ne ?_
 refine s_mv ?_
 refine w_guard _ 39 hF4 ?_ ?_ <;> intro hc12 hF5
 refine s_fa yF37_2 ?_
 refine s_ld1 yA9 ?_
 refine s_neS ?_
 refine s_pkt ?_
 refine s_pkf ?_
 refine k_nil (k_seq ?_)
 refine w_cond hF5 ?_ ?_ <;> intro hc13 hF6
 refine awp_seq (awp_region ?_)
 refine s_as ?_
 refine k_nil (k_seq (awp_ret (k_jn_ret (k_fin ?_))))
 cases hF6
 exact ends_a [] [] Try.results165
 refine awp_skip ?_
 exact s_jn (fu) ⟨by first | omega | (dsimp only; omega), hF6⟩
 iterate 3 refine r_no rfl ?_
 refine s_pkf ?_
 refine s_pkf ?_
 refine k_nil (k_seq (awp_false rfl (awp_skip ?_)))
 exact s_jn (fu) ⟨by first | omega | (dsimp only; omega), hF5⟩
 iterate 4 refine r_no rfl ?_
 refine s_pkf ?_
 refine s_mv ?_
 refine s_fa yF37_0 ?_
 refine s_ld1 yA3 ?_
 refine s_ne ?_
 refine s_mv ?_
 refine w_guard _ 39 hF2 ?_ ?_ <;> intro hc14 hF3
 refine s_fa yF37_2 ?_
 refine s_ld1 yA9 ?_
 refine s_neS ?_
 refine s_pkt ?_
 refine s_pkf ?_
 refine k_nil (k_seq ?_)
 refine w_cond hF3 ?_ ?_ <;> intro hc15 hF4
 refine awp_seq (awp_region ?_)
 refine s_as ?_
 refine k_nil (k_seq (awp_ret (k_jn_ret (k_fin ?_))))
 cases hF4
 exact ends_a [] [] Try.results165
 refine awp_skip ?_
 exact s_jn (fu) ⟨by first | omega | (dsimp only; omega), hF4⟩
 iterate 3 refine r_no rfl ?_
 refine s_pkf ?_
 refine s_pkf ?_
 refine k_nil (k_seq (awp_false rfl (awp_skip ?_)))
 exact s_jn (fu) ⟨by first | omega | (dsimp only; omega), hF3⟩
 clear hF1
 rintro fu ⟨hl16, hF2⟩
 obtain _ | fu := fu
 · rw [m_spec_l6Fields_j2] at hF2; cases hF2
 rw [m_spec_l6Fields_j2] at hF2
 refine awp_jn (α := Nat) [2, 45, 46, 47, 48, 49, 50, 51, 52, 53, 54, 55, 56, 57, 58, 59, 60, 61, 62, 63, 64, 65, 66, 67] [] [] (fun a => []) (fun a => []) (fun a => a ≤ fu ∧ m_spec_l6Fields_j3 a x1  = some r) ?_ ?_
 refine awp_seq (awp_region ?_)
 refine s_fa yF37_0 ?_
 refine s_ld1 yA3 ?_
 refine s_eq ?_
 refine s_mv ?_
 refine w_guard _ 48 hF2 ?_ ?_ <;> intro hc17 hF3
 refine s_fa yF37_3 ?_
 refine s_ld1 yA3 ?_
 refine s_lt ?_
 refine s_mv ?_
 refine w_guard _ 52 hF3 ?_ ?_ <;> intro hc18 hF4
 iterate 3 refine r_no rfl ?_
 refine s_pkt ?_
 refine s_pkt ?_
 refine s_mv ?_
 iterate 8 refine r_no rfl ?_
 refine s_pkt ?_
 refine k_nil (k_seq (awp_true rfl (awp_seq (awp_region ?_))))
 refine s_as ?_
 refine k_nil (k_seq (awp_ret (k_jn_ret (k_fin ?_))))
 cases hF4
 exact ends_a [] [] Try.results165
 refine s_fa yF37_3 ?_
 refine s_ld1 yA3 ?_
 refine s_gt ?_
 refine s_pkf ?_
 refine s_pkt ?_
 refine s_mv ?_
 refine w_guard _ 58 hF4 ?_ ?_ <;> intro hc19 hF5
 iterate 8 refine r_no rfl ?_
 refine s_pkt ?_
 refine k_nil (k_seq (awp_true rfl (awp_seq (awp_region ?_))))
 refine s_as ?_
 refine k_nil (k_seq (awp_ret (k_jn_ret (k_fin ?_))))
 cases hF5
 exact ends_a [] [] Try.results165
 refine s_fa yF37_0 ?_
 refine s_ld1 yA3 ?_
 refine s_ne ?_
 refine s_mv ?_
 refine w_guard _ 62 hF5 ?_ ?_ <;> intro hc20 hF6
 refine s_fa yF37_3 ?_
 refine s_ld1 yA3 ?_
 refine s_ne ?_
 refine s_pkt ?_
 refine s_pkf ?_
 refine k_nil (k_seq ?_)
 refine w_cond hF6 ?_ ?_ <;> intro hc21 hF7
 refine awp_seq (awp_region ?_)
 refine s_as ?_
 refine k_nil (k_seq (awp_ret (k_jn_ret (k_fin ?_))))
 cases hF7
 exact ends_a [] [] Try.results165
 refine awp_skip ?_
 exact s_jn (fu) ⟨by first | omega | (dsimp only; omega), hF7⟩
 iterate 3 refine r_no rfl ?_
 refine s_pkf ?_
 refine s_pkf ?_
 refine k_nil (k_seq (awp_false rfl (awp_skip ?_)))
 exact s_jn (fu) ⟨by first | omega | (dsimp only; omega), hF6⟩
 iterate 8 refine r_no rfl ?_
 refine s_pkf ?_
 refine s_mv ?_
 refine s_fa yF37_0 ?_
 refine s_ld1 yA3 ?_
 refine s_ne ?_
 refine s_mv ?_
 refine w_guard _ 62 hF3 ?_ ?_ <;> intro hc22 hF4
 refine s_fa yF37_3 ?_
 refine s_ld1 yA3 ?_
 refine s_ne ?_
 refine s_pkt ?_
 refine s_pkf ?_
 refine k_nil (k_seq ?_)
 refine w_cond hF4 ?_ ?_ <;> intro hc23 hF5
 refine awp_seq (awp_region ?_)
 refine s_as ?_
 refine k_nil (k_seq (awp_ret (k_jn_ret (k_fin ?_))))
 cases hF5
 exact ends_a [] [] Try.results165
 refine awp_skip ?_
 exact s_jn (fu) ⟨by first | omega | (dsimp only; omega), hF5⟩
 iterate 3 refine r_no rfl ?_
 refine s_pkf ?_
 refine s_pkf ?_
 refine k_nil (k_seq (awp_false rfl (awp_skip ?_)))
 exact s_jn (fu) ⟨by first | omega | (dsimp only; omega), hF4⟩
 clear hF2
 rintro fu ⟨hl24, hF3⟩
 obtain _ | fu := fu
 · rw [m_spec_l6Fields_j3] at hF3; cases hF3
 rw [m_spec_l6Fields_j3] at hF3
 refine awp_seq ?_
 refine awp_jn (α := Nat × Bool) [68, 69, 70, 71, 72, 73, 74, 75, 76, 77, 78, 79, 80, 81, 82, 83, 84, 85, 86, 87, 88, 89, 90, 91, 92, 93, 94, 95, 96, 97] [] [] (fun a => [(97, .t (.sc (.bool a.2)))]) (fun a => []) (fun a => a.1 ≤ fu ∧ m_spec_l6Fields_j4 a.1 x1 a.2 = some r) ?_ ?_
 refine awp_draw yMix (by kernel_rfl) ?_
 refine s_fa yF37_0 ?_
 refine s_ld1 yA3 ?_
 refine s_eq ?_
 refine s_mv ?_
 refine w_guard _ 71 hF3 ?_ ?_ <;> intro hc25 hF4
 refine s_fa yF37_5 ?_
 refine s_ldN yA34 yS34 ?_
 obtain ⟨v26, hv26, hF5⟩ := bind_some' hF4
 refine s_pure [] (m_spec_FormValid_ok fu _ _ hv26) ?_
 refine s_not ?_
 refine s_mv ?_
 refine w_guard _ 76 hF5 ?_ ?_ <;> intro hc27 hF6
 iterate 7 refine r_no rfl ?_
 refine s_pkt ?_
 refine s_pkt ?_
 refine s_mv ?_
 iterate 10 refine r_no rfl ?_
 refine s_pkt ?_
 refine k_nilD (by kernel_rfl) ?_
 exact s_jn (fu, true) ⟨by first | omega | (dsimp only; omega), hF6⟩
 refine s_fa yF37_5 ?_
 refine s_ldN yA34 yS34 ?_
 obtain ⟨v28, hv28, hF7⟩ := bind_some' hF6
 refine s_pure [] (m_spec_StripForm_ok fu _ _ hv28) ?_
 refine s_fa yF37_5 ?_
 refine s_ldN yA34 yS34 ?_
 obtain ⟨v29, hv29, hF8⟩ := bind_some' hF7
 refine s_pure [] (m_spec_FormSame_ok fu _ _ _ hv29) ?_
 refine s_not ?_
 refine s_pkf ?_
 refine s_pkt ?_
 refine s_mv ?_
 refine w_guard _ 86 hF8 ?_ ?_ <;> intro hc30 hF9
 iterate 10 refine r_no rfl ?_
 refine s_pkt ?_
 refine k_nilD (by kernel_rfl) ?_
 exact s_jn (fu, true) ⟨by first | omega | (dsimp only; omega), hF9⟩
 refine s_fa yF37_0 ?_
 refine s_ld1 yA3 ?_
 refine s_ne ?_
 refine s_mv ?_
 refine w_guard _ 90 hF9 ?_ ?_ <;> intro hc31 hF10
 refine s_fa yF37_5 ?_
 refine s_ldN yA34 yS34 ?_
 refine s_bld yZ34 yL34 ?_
 obtain ⟨v32, hv32, hF11⟩ := bind_some' hF10
 refine s_pure [] (m_spec_FormSame_ok fu _ _ _ hv32) ?_
 refine s_not ?_
 refine s_pkt ?_
 refine s_pkf ?_
 refine k_nilD (by kernel_rfl) ?_
 exact s_jn (fu, (!v32)) ⟨by first | omega | (dsimp only; omega), hF11⟩
 iterate 5 refine r_no rfl ?_
 refine s_pkf ?_
 refine s_pkf ?_
 refine k_nilD (by kernel_rfl) ?_
 exact s_jn (fu, false) ⟨by first | omega | (dsimp only; omega), hF10⟩
 iterate 13 refine r_no rfl ?_
 refine s_pkf ?_
 refine s_mv ?_
 refine s_fa yF37_0 ?_
 refine s_ld1 yA3 ?_
 refine s_ne ?_
 refine s_mv ?_
 refine w_guard _ 90 hF4 ?_ ?_ <;> intro hc33 hF5
 refine s_fa yF37_5 ?_
 refine s_ldN yA34 yS34 ?_
 refine s_bld yZ34 yL34 ?_
 obtain ⟨v34, hv34, hF6⟩ := bind_some' hF5
 refine s_pure [] (m_spec_FormSame_ok fu _ _ _ hv34) ?_
 refine s_not ?_
 refine s_pkt ?_
 refine s_pkf ?_
 refine k_nilD (by kernel_rfl) ?_
 exact s_jn (fu, (!v34)) ⟨by first | omega | (dsimp only; omega), hF6⟩
 iterate 5 refine r_no rfl ?_
 refine s_pkf ?_
 refine s_pkf ?_
 refine k_nilD (by kernel_rfl) ?_
 exact s_jn (fu, false) ⟨by first | omega | (dsimp only; omega), hF5⟩
 clear hF3
 rintro ⟨fu, g35⟩ ⟨hl36, hF4⟩
 dsimp only at hl36 hF4 ⊢
 obtain _ | fu := fu
 · rw [m_spec_l6Fields_j4] at hF4; cases hF4
 rw [m_spec_l6Fields_j4] at hF4
 refine w_cond hF4 ?_ ?_ <;> intro hc37 hF5
 refine awp_seq (awp_region ?_)
 refine s_as ?_
 refine k_nil (k_seq (awp_ret (k_seq_ret (k_fin ?_))))
 cases hF5
 exact ends_a [] [] Try.results165
 refine awp_skip (k_seq (awp_seq (awp_region ?_)))
 refine s_fa yF37_0 ?_
 refine s_ld1 yA3 ?_
 refine s_eq ?_
 refine s_mv ?_
 refine w_guard _ 101 hF5 ?_ ?_ <;> intro hc38 hF6
 iterate 4 refine r_no rfl ?_
 refine s_pkt ?_
 refine s_as ?_
 refine k_nil (k_seq (awp_ret (k_fin ?_)))
 cases hF6
 exact ends_a [] [] Try.results165
 refine s_fa yF37_4 ?_
 refine s_ld1 yA22 ?_
 refine s_lenT yU22 ?_
 refine s_eq ?_
 refine s_pkf ?_
 refine s_as ?_
 refine k_nil (k_seq (awp_ret (k_fin ?_)))
 cases hF6
 exact ends_a [] [] Try.results165
end Go.Abs
