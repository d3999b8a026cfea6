/- A part of the proof: what the functions that the law calls answer, as pure values. -/
import Derived.Test.YtcebadpiebamdaaK54486ae28f65
import Derived.Test.YtcebadpiebamdaaK68f778bbd61f
import Derived.Test.YtcebadpiebamdaaKd5f769f9ceb4
import Derived.Test.YtcebadpiebamdaaKfbb18fd52a0f
set_option linter.unusedSimpArgs false
set_option linter.unusedVariables false
set_option maxRecDepth 100000
set_option maxHeartbeats 4000000
namespace Go.Abs
open Go.Proofs
theorem m_impl_patternVars_all (fuel : Nat) : m_impl_patternVars_AC fuel := by
 induction fuel using Nat.strongRecOn with
 | _ N ih =>
   cases N with
   | zero => exact (by intro x1 x2 x3 o1 o2 r h; rw [m_impl_patternVars] at h; cases h)
   | succ fu => exact m_impl_patternVars_st fu (fun k hk => (ih k (by omega)))
theorem m_impl_patternVars_ok (fuel : Nat) : m_impl_patternVars_AC fuel := (m_impl_patternVars_all fuel)
def m_impl_varsOf_AC (fuel : Nat) : Prop := ∀ (x1 : Form) (x2 : (List Form)) (r : ((List Form) × (List Int))), m_impl_varsOf fuel x1 x2 = some r → AC Try.prog 21 [.ag [.t (.sc (.int .i64 x1.kind)), .t (.sc (.str x1.name)), .t (.sc (.int .i64 x1.n)), .t (.sl (x1.scopes.map rI)), .t (.sl (x1.kids.map Form.row))], .t (.sl (x2.map Form.row))] (objs []) (.tp [.ar 9200, .t (.sl (r.2.map rI))]) (objs [(9200, .arr (r.1.map Form.row) 31 true)])
theorem m_impl_varsOf_ok (fuel : Nat) : m_impl_varsOf_AC fuel := by
 intro x1 x2 r hF0
 unfold m_impl_varsOf at hF0
 refine AC_i [.ar 9200, .t (.sl (r.2.map rI))] Try.func21 rfl Try.ntmps21 ?_
 intro C hC
 refine awp_seq (awp_region ?_)
 refine s_box ?_
 refine s_as ?_
 refine s_as ?_
 refine k_nil (k_seq (awp_seq (awp_region ?_)))
 refine s_bs Form.row ([] : List Form) yP28 yR31 ?_
 refine s_bs rI ([] : List Int) yP22 yR3 ?_
 refine s_alloc yZ28 ?_
 refine s_alloc yZ22 ?_
 refine s_stW yS28 ?_
 refine s_stW yS22 ?_
 refine k_nil (k_seq (awp_seq (awp_region ?_)))
 refine s_ldW yA31 yS31 ?_
 refine s_mv ?_
 obtain ⟨v1, hv1, hF1⟩ := bind_some' hF0
 refine s_call [(9000, 6), (9001, 7), (9420, 8), (9440, 9), (10420, 42012), (10440, 52012)] [] _ _ (m_impl_patternVars_ok fuel _ _ _ _ _ _ hv1) ?_
 refine k_nil (k_seq (awp_seq ?_))
 refine awp_draw yMix (by kernel_rfl) ?_
 refine s_ld1 yA28 ?_
 refine s_ld1 yA22 ?_
 refine s_as ?_
 refine s_as ?_
 refine k_nilD (by kernel_rfl) ?_
 refine k_seq ?_
 refine awp_mv 4 42012 9200 (by conv => lhs; whnf) (by conv => lhs; whnf) rfl ?_
 refine awp_ret (k_fin ?_)
 cases hF1
 exact ends_a _ [52012] Try.results21
def m_impl_PatternValid_AC (fuel : Nat) : Prop := ∀ (x1 : Form) (x2 : (List Form)) (r : Bool), m_impl_PatternValid fuel x1 x2 = some r → AC Try.prog 20 [.ag [.t (.sc (.int .i64 x1.kind)), .t (.sc (.str x1.name)), .t (.sc (.int .i64 x1.n)), .t (.sl (x1.scopes.map rI)), .t (.sl (x1.kids.map Form.row))], .t (.sl (x2.map Form.row))] noOb (.t (.sc (.bool r))) noOb
theorem m_impl_PatternValid_ok (fuel : Nat) : m_impl_PatternValid_AC fuel := by
 intro x1 x2 r hF0
 unfold m_impl_PatternValid at hF0
 refine AC_i [.t (.sc (.bool r))] Try.func20 rfl Try.ntmps20 ?_
 intro C hC
 refine awp_seq (awp_region ?_)
 refine s_box ?_
 refine s_as ?_
 refine k_nil (k_seq (awp_seq (awp_seq (awp_region ?_))))
 refine s_ldW yA31 yS31 ?_
 obtain ⟨v1, hv1, hF1⟩ := bind_some' hF0
 refine s_pure [] (m_impl_FormValid_ok fuel _ _ hv1) ?_
 refine s_not ?_
 refine s_mv ?_
 refine w_guard _ 12 hF1 ?_ ?_ <;> intro hc2 hF2
 iterate 3 refine r_no rfl ?_
 refine s_pkt ?_
 refine s_mv ?_
 refine r_no rfl (r_no rfl ?_)
 refine s_pkt ?_
 refine s_mv ?_
 iterate 3 refine r_no rfl ?_
 refine s_pkt ?_
 refine k_nil (k_seq (awp_true rfl (awp_seq (awp_region ?_))))
 refine s_as ?_
 refine k_nil (k_seq (awp_ret (k_seq_ret (k_fin ?_))))
 cases hF2
 exact ends_a [] [] Try.results20
 refine s_mv ?_
 obtain ⟨v3, hv3, hF3⟩ := bind_some' hF2
 refine s_pure [] (m_impl_literalsOk_ok fuel _ _ hv3) ?_
 refine s_not ?_
 refine s_pkf ?_
 refine s_mv ?_
 refine w_guard _ 17 hF3 ?_ ?_ <;> intro hc4 hF4
 refine r_no rfl (r_no rfl ?_)
 refine s_pkt ?_
 refine s_mv ?_
 iterate 3 refine r_no rfl ?_
 refine s_pkt ?_
 refine k_nil (k_seq (awp_true rfl (awp_seq (awp_region ?_))))
 refine s_as ?_
 refine k_nil (k_seq (awp_ret (k_seq_ret (k_fin ?_))))
 cases hF4
 exact ends_a [] [] Try.results20
 refine s_ldW yA31 yS31 ?_
 obtain ⟨v5, hv5, hF5⟩ := bind_some' hF4
 refine s_pure [] (m_impl_named_ok fuel _ _ _ hv5) ?_
 refine s_pkf ?_
 refine s_mv ?_
 refine w_guard _ 21 hF5 ?_ ?_ <;> intro hc6 hF6
 iterate 3 refine r_no rfl ?_
 refine s_pkt ?_
 refine k_nil (k_seq (awp_true rfl (awp_seq (awp_region ?_))))
 refine s_as ?_
 refine k_nil (k_seq (awp_ret (k_seq_ret (k_fin ?_))))
 cases hF6
 exact ends_a [] [] Try.results20
 refine s_ldW yA31 yS31 ?_
 obtain ⟨v7, hv7, hF7⟩ := bind_some' hF6
 refine s_pure [] (m_impl_dotsOk_ok fuel _ _ _ hv7) ?_
 refine s_not ?_
 refine s_pkf ?_
 refine k_nil (k_seq ?_)
 refine w_cond hF7 ?_ ?_ <;> intro hc8 hF8
 refine awp_seq (awp_region ?_)
 refine s_as ?_
 refine k_nil (k_seq (awp_ret (k_seq_ret (k_fin ?_))))
 cases hF8
 exact ends_a [] [] Try.results20
 refine awp_skip (k_seq (awp_seq (awp_region ?_)))
 refine s_ldW yA31 yS31 ?_
 refine s_mv ?_
 obtain ⟨v9, hv9, hF9⟩ := bind_some' hF8
 refine s_call [(9200, 2029)] [] _ _ (m_impl_varsOf_ok fuel _ _ _ hv9) ?_
 refine s_mv ?_
 refine s_ext ?_
 refine s_ext ?_
 refine s_as ?_
 refine s_as ?_
 refine k_nil (k_seq (awp_seq (awp_seq (awp_region ?_))))
 refine s_mv ?_
 refine s_lenA yU28 ?_
 refine s_mv ?_
 refine k_nil (k_seq (awp_block ?_))
 refine awp_frz 2029 (by conv => lhs; whnf) ?_
 refine awp_fr (β := Int × (List Form)) [4, 7, 8, 34, 35, 36, 37, 38, 39, 40, 41, 42, 43, 44, 45, 46, 47, 48, 49, 50, 51] [2029] [8] (fun a => [(34, .t (.sc (.int .i64 a.2.1)))]) (fun a => [(2029, .arr (a.2.2.map Form.row) 31 false)]) (fun a => a.1 ≤ fuel ∧ m_impl_PatternValid_l1 a.1 v9 a.2.1 a.2.2 = some r) (fuel, 0, v9.1) ⟨Nat.le_refl _, hF9⟩ ?_
 clear hF9
 rintro ⟨fu, g10, g11⟩ ⟨hl12, hF10⟩
 dsimp only at hl12 hF10 ⊢
 obtain _ | fu := fu
 · rw [m_impl_PatternValid_l1] at hF10; cases hF10
 rw [m_impl_PatternValid_l1] at hF10
 refine awp_seq (awp_region ?_)
 refine s_lt ?_
 refine k_nil (k_seq (awp_seq ?_))
 refine w_cond hF10 ?_ ?_ <;> intro hc13 hF11
 refine awp_skip (k_seq (awp_seq (awp_block (awp_seq (awp_region ?_)))))
 refine s_mv ?_
 obtain ⟨v14, hv14, hF12⟩ := bind_some' hF11
 refine s_ixA Form.row hv14 yE28 ?_
 refine s_lAN Form.row hv14 (Form.row_eq _) yA31 yS31 ?_
 refine s_alloc yZ31 ?_
 refine s_as ?_
 refine s_stW yS31 ?_
 refine k_nil (k_seq (awp_seq ?_))
 refine awp_draw yMix (by kernel_rfl) ?_
 refine s_mv0 ?_
 refine s_mv ?_
 obtain ⟨v15, hv15, hF13⟩ := bind_some' hF12
 refine s_sl01 Form.row (fun y => Form.row_len y) hv15 yU28 yE28 ?_
 refine s_ldW yA31 yS31 ?_
 obtain ⟨v16, hv16, hF14⟩ := bind_some' hF13
 refine s_pure [] (m_impl_isIn_ok fu _ _ _ hv16) ?_
 refine s_mv ?_
 refine w_guard _ 44 hF14 ?_ ?_ <;> intro hc17 hF15
 iterate 5 refine r_no rfl ?_
 refine s_pkt ?_
 refine k_nilD (by kernel_rfl) ?_
 refine k_seq (awp_true rfl (awp_seq (awp_region ?_)))
 refine s_as ?_
 refine k_nil (k_seq (awp_ret (k_blk_ret (k_seq_ret (k_rnd_ret2 (k_blk_ret (k_seq_ret (k_fin ?_))))))))
 cases hF15
 exact ends_a [] [] Try.results20
 refine s_mv ?_
 refine s_mv ?_
 obtain ⟨v18, hv18, hF16⟩ := bind_some' hF15
 refine s_ixT rI hv18 rfl yE22 ?_
 refine s_ld1 yA3 ?_
 refine s_gt ?_
 refine s_pkf ?_
 refine k_nilD (by kernel_rfl) ?_
 refine k_seq ?_
 refine w_cond hF16 ?_ ?_ <;> intro hc19 hF17
 refine awp_seq (awp_region ?_)
 refine s_as ?_
 refine k_nil (k_seq (awp_ret (k_blk_ret (k_seq_ret (k_rnd_ret2 (k_blk_ret (k_seq_ret (k_fin ?_))))))))
 cases hF17
 exact ends_a [] [] Try.results20
 refine awp_skip (k_blk (k_seq (awp_region ?_)))
 refine s_add rfl ?_
 refine s_mv ?_
 refine k_nil ?_
 exact s_rn (fu, (w64 (g10 + 1)), g11) ⟨by first | omega | (dsimp only; omega), hF17⟩
 refine awp_exit (k_seq_exit (k_rnd_exit2 (k_blk_exit (k_seq (awp_seq (awp_region ?_))))))
 refine s_mv ?_
 refine s_lenA yU28 ?_
 refine s_le ?_
 refine s_as ?_
 refine k_nil (k_seq (awp_ret (k_fin ?_)))
 cases hF11
 exact ends_a [] [] Try.results20
def m_slices_Clone_int_D_AC (fuel : Nat) : Prop := ∀ (x1 : (List Int)) (r : (List Int)), m_slices_Clone_int fuel x1 = some r → AC Try.prog 40 [.t (.sl (x1.map rI))] (objs []) (.ar 9200) (objs [(9200, .arr (r.map rI) 3 true)])
theorem m_slices_Clone_int_D_ok (fuel : Nat) : m_slices_Clone_int_D_AC fuel := by
 intro x1 r hF0
 unfold m_slices_Clone_int at hF0
 refine AC_i [.ar 9200] Try.func40 rfl Try.ntmps40 ?_
 intro C hC
 refine awp_nil 0 (fun hz => ?_) ?_
 replace hz := List.map_eq_nil_iff.mp hz; subst hz; obtain ⟨_, hF1⟩ := chk_some hF0
 refine awp_seq (awp_region ?_)
 refine s_as ?_
 refine k_nil (k_seq (awp_seq (awp_seq (awp_region ?_))))
 refine s_mv ?_
 refine s_nil yU22 ?_
 refine k_nil (k_seq (awp_true rfl ?_))
 refine awp_unnil 0 ?_
 refine awp_unnil 3 ?_
 refine awp_seq (awp_region ?_)
 refine s_as ?_
 refine k_nil (k_seq ?_)
 refine awp_own 2 9200 3 yI3.choose_spec ?_
 refine awp_ret (k_seq_ret (k_fin ?_))
 cases hF1
 exact ends_a _ [] Try.results40
 refine awp_seq (awp_region ?_)
 refine s_as ?_
 refine k_nil (k_seq (awp_seq (awp_seq (awp_region ?_))))
 refine s_mv ?_
 refine s_nil yU22 ?_
 refine k_nil (k_seq (awp_false rfl ?_))
 refine awp_unnil 0 ?_
 refine awp_unnil 3 ?_
 refine awp_skip (k_seq (awp_seq (awp_region ?_)))
 refine s_bs rI ([] : List Int) yP22 yR3 ?_
 refine s_mv ?_
 obtain ⟨hk1, hF1⟩ := chk_some hF0
 refine s_apT rI (fun _ => rfl) hk1 yP22 ?_
 refine s_as ?_
 refine k_nil (k_seq ?_)
 refine awp_mv 2 7 9200 (by conv => lhs; whnf) (by conv => lhs; whnf) rfl ?_
 refine awp_ret (k_fin ?_)
 cases hF1
 exact ends_a _ [] Try.results40
def m_impl_copyForm_D_AC (fuel : Nat) : Prop := ∀ (x1 : Form) (r : Form), m_impl_copyForm fuel x1 = some r → AC Try.prog 22 [.ag [.t (.sc (.int .i64 x1.kind)), .t (.sc (.str x1.name)), .t (.sc (.int .i64 x1.n)), .t (.sl (x1.scopes.map rI)), .t (.sl (x1.kids.map Form.row))]] (objs []) (.ag [.t (.sc (.int .i64 r.kind)), .t (.sc (.str r.name)), .t (.sc (.int .i64 r.n)), .ar 9203, .ar 9204]) (objs [(9203, .arr (r.scopes.map rI) 3 true), (9204, .dar (r.kids.map (Form.rowD 3 31)) 31)])
theorem m_impl_copyForm_D_st (fu : Nat) (ih_m_impl_copyForm_D : ∀ k, k ≤ fu → m_impl_copyForm_D_AC k) : m_impl_copyForm_D_AC (fu + 1) := by
 intro x1 r hF0
 rw [m_impl_copyForm] at hF0
 refine AC_i [.ag [.t (.sc (.int .i64 r.kind)), .t (.sc (.str r.name)), .t (.sc (.int .i64 r.n)), .ar 9203, .ar 9204]] Try.func22 rfl Try.ntmps22 ?_
 intro C hC
 refine awp_seq (awp_region ?_)
 refine s_box ?_
 refine s_alloc yZ31 ?_
 refine k_nil (k_seq (awp_seq ?_))
 refine awp_draw yMix (by kernel_rfl) ?_
 refine s_fa yF31_0 ?_
 refine s_ld1 yA3 ?_
 refine s_fa yF31_1 ?_
 refine s_ld1 yA9 ?_
 refine s_fa yF31_2 ?_
 refine s_ld1 yA3 ?_
 refine s_fa yF31_3 ?_
 refine s_ld1 yA22 ?_
 obtain ⟨v1, hv1, hF1⟩ := bind_some' hF0
 refine s_call [(9200, 2014)] [] _ _ (m_slices_Clone_int_D_ok fu _ _ hv1) ?_
 refine s_bld yZ31 yL31 ?_
 refine s_alloc yZ31 ?_
 refine s_stW yS31 ?_
 refine k_nilD (by kernel_rfl) ?_
 refine k_seq (awp_seq (awp_seq (awp_region ?_)))
 refine s_fa yF31_4 ?_
 refine s_ld1 yA28 ?_
 refine s_lenT yU28 ?_
 refine s_mv ?_
 refine k_nil (k_seq (awp_block ?_))
 refine awp_ownB 3 5020 31 [.t (.sc (.int .i64 x1.kind)), .t (.sc (.str x1.name)), .t (.sc (.int .i64 x1.n)), .ar 2014, .ar 5020] yI31.choose_spec ?_
 refine awp_toD 5020 (Form.rowD 3 31) (es := ([] : List Form).map Form.row) (by (conv => lhs; whnf) <;> rfl) rfl ?_
 refine awp_frame2 [5, 19, 20, 21, 22, 23, 24, 25, 26, 27, 28, 29, 30] [3, 5020] [5, 27, 28, 2026, 12026] [5020] (fun a : Nat × Int × (List Form) => a.1) (fun a : Nat × Int × (List Form) => [(19, .t (.sc (.int .i64 a.2.1)))]) (fun a : Nat × Int × (List Form) => [(3, .box [.t (.sc (.int .i64 x1.kind)), .t (.sc (.str x1.name)), .t (.sc (.int .i64 x1.n)), .ar 2014, .ar 5020]), (5020, .dar (a.2.2.map (Form.rowD 3 31)) 31)]) (fun a : Nat × Int × (List Form) => a.1 ≤ fu ∧ m_impl_copyForm_l1 a.1 x1 v1 a.2.1 a.2.2 = some r ∧ 0 ≤ a.2.1) (fu, 0, ([] : List Form)) ⟨Nat.le_refl _, hF1, by simp⟩ (by rfl) (by rfl) (fun _ => rfl) (hasF_cons (by conv => lhs; whnf) (by rfl) hasF_nil) (hasO_cons (by conv => lhs; whnf) (by rfl) (hasO_cons (by conv => lhs; whnf) (by rfl) hasO_nil)) (fresh_C hC rfl) (by repeat (first | exact freshS_args rfl | refine freshS_upd rfl ?_ | refine freshS_frame rfl ?_)) (by repeat (first | exact freshM_no | exact objs_fresh rfl | refine freshM_upd rfl ?_ | refine freshM_frame rfl ?_)) ?_
 clear hF1
 rintro ⟨fu, g2, g3⟩ ⟨hl4, hF2, hn_g2⟩
 dsimp only at hl4 hF2 hn_g2 ⊢
 obtain _ | fu := fu
 · rw [m_impl_copyForm_l1] at hF2; cases hF2
 rw [m_impl_copyForm_l1] at hF2
 refine awp_seq (awp_region ?_)
 refine s_lt ?_
 refine k_nil (k_seq (awp_seq ?_))
 refine w_cond hF2 ?_ ?_ <;> intro hc5 hF3
 refine awp_lenT 17 (fun hb6 => ?_)
 refine awp_skip (k_seq (awp_seq (awp_block (awp_seq (awp_region ?_)))))
 obtain ⟨v7, hv7, hF4⟩ := bind_some' hF3
 refine s_ixT Form.row hv7 (Form.row_eq _) yE28 ?_
 refine s_ldN yA31 yS31 ?_
 refine s_alloc yZ31 ?_
 refine s_stW yS31 ?_
 refine k_nil (k_seq ?_)
 refine awp_draw yMix (by kernel_rfl) ?_
 refine s_fa yF31_4 ?_
 refine s_ld1 yA28 ?_
 refine s_ldW yA31 yS31 ?_
 obtain ⟨v8, hv8, hF5⟩ := bind_some' hF4
 refine s_call [(9203, 2026), (9204, 12026)] [] _ _ (ih_m_impl_copyForm_D fu (by omega) _ _ hv8) ?_
 refine s_bsD [.sc (.int .i64 v8.kind), .sc (.str v8.name), .sc (.int .i64 v8.n), .any, .any] [(0, 3, 2026), (0, 4, 12026)] yP28 ?_
 obtain ⟨hk9, hF6⟩ := chk_some hF5
 refine s_apH (Form.rowD 3 31) [(g3.length, 3, 2026), (g3.length, 4, 12026)] hk9 yP28 ?_
 refine s_fa yF31_4 ?_
 refine s_stP yS28 ?_
 refine k_nilD (by kernel_rfl) ?_
 refine k_blk (k_seq ?_)
 refine awp_jaA 28 2026 [.sc (.int .i64 v8.kind), .sc (.str v8.name), .sc (.int .i64 v8.n), .ow 3 (v8.scopes.map rI), .any] ?_
 refine awp_jaD 28 12026 [.sc (.int .i64 v8.kind), .sc (.str v8.name), .sc (.int .i64 v8.n), .ow 3 (v8.scopes.map rI), .ow 31 (v8.kids.map (Form.rowD 3 31))] ?_
 refine awp_naH 28 (row := (Form.rowD 3 31)) (fs := [.sc (.int .i64 v8.kind), .sc (.str v8.name), .sc (.int .i64 v8.n), .ow 3 (v8.scopes.map rI), .ow 31 (v8.kids.map (Form.rowD 3 31))]) v8 (Form.rowDE _ _ _) ?_
 refine awp_region ?_
 refine s_add (winc2 hc5 hb6 hn_g2) ?_
 refine s_mv ?_
 refine k_nil ?_
 exact s_rn (fu, (g2 + 1), (g3 ++ [v8])) ⟨by first | omega | (dsimp only; omega), hF6, by first | omega | (dsimp only; omega)⟩ [(5020, 28)]
 refine awp_exit (k_seq_exit (k_rnd_exit2 (k_blk_exit (k_seq (awp_seq (awp_region ?_))))))
 refine s_ldW yA31 yS31 ?_
 refine s_stW yS31 ?_
 refine k_nil (k_seq ?_)
 refine awp_mvB 2 2014 9203 [.t (.sc (.int .i64 x1.kind)), .t (.sc (.str x1.name)), .t (.sc (.int .i64 x1.n)), .ar 9203, .ar 5020] ?_
 refine awp_mvBO 2 5020 9204 [.t (.sc (.int .i64 x1.kind)), .t (.sc (.str x1.name)), .t (.sc (.int .i64 x1.n)), .ar 9203, .ar 9204] ?_
 refine awp_ret (k_fin ?_)
 cases hF3
 exact ends_gen _ [] (by rw [Try.results22]; exact (res_agg (by conv => lhs; whnf) (by conv => lhs; whnf) yA31 yS31 rfl res_nil))
theorem m_impl_copyForm_D_all (fuel : Nat) : m_impl_copyForm_D_AC fuel := by
 induction fuel using Nat.strongRecOn with
 | _ N ih =>
   cases N with
   | zero => exact (by intro x1 r h; rw [m_impl_copyForm] at h; cases h)
   | succ fu => exact m_impl_copyForm_D_st fu (fun k hk => (ih k (by omega)))
theorem m_impl_copyForm_D_ok (fuel : Nat) : m_impl_copyForm_D_AC fuel := (m_impl_copyForm_D_all fuel)
def m_impl_PatternVars_D_AC (fuel : Nat) : Prop := ∀ (x1 : Form) (x2 : (List Form)) (r : (List Form)), m_impl_PatternVars fuel x1 x2 = some r → AC Try.prog 9 [.ag [.t (.sc (.int .i64 x1.kind)), .t (.sc (.str x1.name)), .t (.sc (.int .i64 x1.n)), .t (.sl (x1.scopes.map rI)), .t (.sl (x1.kids.map Form.row))], .t (.sl (x2.map Form.row))] (objs []) (.ar 9200) (objs [(9200, .dar (r.map (Form.rowD 3 31)) 31)])
theorem m_impl_PatternVars_D_ok (fuel : Nat) : m_impl_PatternVars_D_AC fuel := by
 intro x1 x2 r hF0
 unfold m_impl_PatternVars at hF0
 refine AC_i [.ar 9200] Try.func9 rfl Try.ntmps9 ?_
 intro C hC
 refine awp_seq (awp_region ?_)
 refine s_box ?_
 refine s_as ?_
 refine k_nil (k_seq (awp_seq (awp_seq (awp_region ?_))))
 refine s_ldW yA31 yS31 ?_
 refine s_mv ?_
 obtain ⟨v1, hv1, hF1⟩ := bind_some' hF0
 refine s_pure [] (m_impl_PatternValid_ok fuel _ _ _ hv1) ?_
 refine s_not ?_
 refine k_nil (k_seq ?_)
 refine w_cond hF1 ?_ ?_ <;> intro hc2 hF2
 refine awp_seq (awp_region ?_)
 refine s_as ?_
 refine k_nil (k_seq ?_)
 refine awp_own 4 9200 31 yI31.choose_spec ?_
 refine awp_toD 9200 (Form.rowD 3 31) (es := ([] : List Form).map Form.row) (by (conv => lhs; whnf) <;> rfl) rfl ?_
 refine awp_ret (k_seq_ret (k_fin ?_))
 cases hF2
 exact ends_a _ [] Try.results9
 refine awp_skip (k_seq (awp_seq (awp_region ?_)))
 refine s_ldW yA31 yS31 ?_
 refine s_mv ?_
 obtain ⟨v3, hv3, hF3⟩ := bind_some' hF2
 refine s_call [(9200, 2015)] [] _ _ (m_impl_varsOf_ok fuel _ _ _ hv3) ?_
 refine s_mv ?_
 refine s_ext ?_
 refine s_ext ?_
 refine s_as ?_
 refine s_as ?_
 refine k_nil (k_seq (awp_seq (awp_seq (awp_region ?_))))
 refine s_mv ?_
 refine s_lenA yU28 ?_
 refine s_mv ?_
 refine k_nil (k_seq (awp_block ?_))
 refine awp_mix0 2015 (r0 := Form.row) (Form.rowD 3 31) v3.1 ?_
 refine awp_fr (β := Int × (List Form)) [7, 20, 21, 22, 23, 24, 25, 26, 27, 28, 29, 30, 31] [2015] [2029, 12029] (fun a => [(20, .t (.sc (.int .i64 a.2.1)))]) (fun a => [(2015, .dar (mixR Form.row (Form.rowD 3 31) (a.2.1).toNat a.2.2) 31)]) (fun a => a.1 ≤ fuel ∧ m_impl_PatternVars_l1 a.1 v3 a.2.1 a.2.2 = some r ∧ a.2.2.length = v3.1.length) (fuel, 0, v3.1) ⟨Nat.le_refl _, hF3, rfl⟩ ?_
 clear hF3
 rintro ⟨fu, g4, g5⟩ ⟨hl6, hF4, hx_g5⟩
 dsimp only at hl6 hF4 hx_g5 ⊢
 obtain _ | fu := fu
 · rw [m_impl_PatternVars_l1] at hF4; cases hF4
 rw [m_impl_PatternVars_l1] at hF4
 refine awp_seq (awp_region ?_)
 refine s_lt ?_
 refine k_nil (k_seq (awp_seq ?_))
 refine w_cond hF4 ?_ ?_ <;> intro hc7 hF5
 refine awp_skip (k_seq (awp_seq (awp_block (awp_seq (awp_region ?_)))))
 refine s_mv ?_
 refine s_as ?_
 refine k_nil (k_seq (awp_region ?_))
 iterate 4 refine s_mv ?_
 obtain ⟨v8, hv8, hF6⟩ := bind_some' hF5
 refine s_ixM Form.row (Form.rowD 3 31) hv8 yE28 ?_
 refine s_ldM Form.row (Form.rowD 3 31) [.sc (.int .i64 v8.kind), .sc (.str v8.name), .sc (.int .i64 v8.n), .sl (v8.scopes.map rI), .sl (v8.kids.map Form.row)] [.t (.sc (.int .i64 v8.kind)), .t (.sc (.str v8.name)), .t (.sc (.int .i64 v8.n)), .t (.sl (v8.scopes.map rI)), .t (.sl (v8.kids.map Form.row))] (Form.row_eq _) hv8 yA31 yS31 yS31 ?_
 obtain ⟨v9, hv9, hF7⟩ := bind_some' hF6
 refine s_call [(9203, 2029), (9204, 12029)] [] _ _ (m_impl_copyForm_D_ok fu _ _ hv9) ?_
 obtain ⟨v10, hv10, hF8⟩ := bind_some' hF7
 refine s_ixM Form.row (Form.rowD 3 31) hv10 yE28 ?_
 refine s_stM Form.row (Form.rowD 3 31) [.sc (.int .i64 v9.kind), .sc (.str v9.name), .sc (.int .i64 v9.n), .any, .any] [(g4.toNat, 3, 2029), (g4.toNat, 4, 12029)] hv10 yS31 yS31 ?_
 refine k_nil (k_blk (k_seq ?_))
 refine awp_jmA 2015 2029 [.sc (.int .i64 v9.kind), .sc (.str v9.name), .sc (.int .i64 v9.n), .ow 3 (v9.scopes.map rI), .any] hv10 ?_
 refine awp_jmD 2015 12029 [.sc (.int .i64 v9.kind), .sc (.str v9.name), .sc (.int .i64 v9.n), .ow 3 (v9.scopes.map rI), .ow 31 (v9.kids.map (Form.rowD 3 31))] hv10 ?_
 refine awp_nmH 2015 (r0 := Form.row) (r1 := (Form.rowD 3 31)) (fs := [.sc (.int .i64 v9.kind), .sc (.str v9.name), .sc (.int .i64 v9.n), .ow 3 (v9.scopes.map rI), .ow 31 (v9.kids.map (Form.rowD 3 31))]) v9 (Form.rowDE _ _ _) hv10 ?_
 refine awp_region ?_
 refine s_add rfl ?_
 refine s_mv ?_
 refine k_nil ?_
 exact s_rn (fu, (w64 (g4 + 1)), (g5.set g4.toNat v9)) ⟨by first | omega | (dsimp only; omega), hF8, by first | exact hx_g5 | (dsimp only; rw [List.length_set]; exact hx_g5)⟩
 refine awp_exit (k_seq_exit (k_rnd_exit2 (k_blk_exit (k_seq ?_))))
 refine awp_mixE 2015 (r0 := Form.row) (Form.rowD 3 31) g5 (k := (g4).toNat) (by have h1 := of_decide_eq_false ‹decide (g4 < (v3.1.length : Int)) = false›; omega) ?_
 refine awp_seq (awp_region ?_)
 refine s_mv ?_
 refine s_as ?_
 refine k_nil (k_seq ?_)
 refine awp_mvD 4 2015 9200 (by conv => lhs; whnf) (by conv => lhs; whnf) rfl ?_
 refine awp_ret (k_fin ?_)
 cases hF5
 exact ends_a _ [] Try.results9
def m_laws_eqIntS_AC (fuel : Nat) : Prop := ∀ (x1 : (List Int)) (x2 : (List Int)) (r : Bool), m_laws_eqIntS fuel x1 x2 = some r → AC Try.prog 23 [.t (.sl (x1.map rI)), .t (.sl (x2.map rI))] noOb (.t (.sc (.bool r))) noOb
theorem m_laws_eqIntS_ok (fuel : Nat) : m_laws_eqIntS_AC fuel := by
 intro x1 x2 r hF0
 unfold m_laws_eqIntS at hF0
 refine AC_i [.t (.sc (.bool r))] Try.func23 rfl Try.ntmps23 ?_
 intro C hC
 refine awp_seq (awp_region ?_)
 refine s_as ?_
 refine k_nil (k_seq (awp_seq (awp_seq (awp_region ?_))))
 refine s_mv ?_
 refine s_lenT yU22 ?_
 refine s_mv ?_
 refine s_lenT yU22 ?_
 refine s_ne ?_
 refine k_nil (k_seq ?_)
 refine w_cond hF0 ?_ ?_ <;> intro hc1 hF1
 refine awp_seq (awp_region ?_)
 refine s_as ?_
 refine k_nil (k_seq (awp_ret (k_seq_ret (k_fin ?_))))
 cases hF1
 exact ends_a [] [] Try.results23
 refine awp_skip (k_seq (awp_seq (awp_seq (awp_region ?_))))
 refine s_as ?_
 refine k_nil (k_seq (awp_block ?_))
 refine awp_fr (β := Int) [4, 5, 11, 12, 13, 14, 15, 16, 17, 18, 19, 20, 21, 22, 23, 24, 25] [] [] (fun a => [(5, .t (.sc (.int .i64 a.2)))]) (fun a => []) (fun a => a.1 ≤ fuel ∧ m_laws_eqIntS_l1 a.1 x1 x2 a.2 = some r ∧ 0 ≤ a.2) (fuel, 0) ⟨Nat.le_refl _, hF1, by simp⟩ ?_
 clear hF1
 rintro ⟨fu, g2⟩ ⟨hl3, hF2, hn_g2⟩
 dsimp only at hl3 hF2 hn_g2 ⊢
 obtain _ | fu := fu
 · rw [m_laws_eqIntS_l1] at hF2; cases hF2
 rw [m_laws_eqIntS_l1] at hF2
 refine awp_seq (awp_seq (awp_region ?_))
 refine s_mv ?_
 refine s_mv ?_
 refine s_lenT yU22 ?_
 refine s_lt ?_
 refine k_nil (k_seq ?_)
 refine w_cond hF2 ?_ ?_ <;> intro hc4 hF3
 refine awp_lenT 0 (fun hb5 => ?_)
 refine awp_skip (k_seq (awp_seq (awp_block (awp_seq ?_))))
 refine awp_draw yMix (by kernel_rfl) ?_
 refine s_mv ?_
 refine s_mv ?_
 obtain ⟨v6, hv6, hF4⟩ := bind_some' hF3
 refine s_ixT rI hv6 rfl yE22 ?_
 refine s_ld1 yA3 ?_
 refine s_mv ?_
 refine s_mv ?_
 obtain ⟨v7, hv7, hF5⟩ := bind_some' hF4
 refine s_ixT rI hv7 rfl yE22 ?_
 refine s_ld1 yA3 ?_
 refine s_ne ?_
 refine k_nilD (by kernel_rfl) ?_
 refine k_seq ?_
 refine w_cond hF5 ?_ ?_ <;> intro hc8 hF6
 refine awp_seq (awp_region ?_)
 refine s_as ?_
 refine k_nil (k_seq (awp_ret (k_blk_ret (k_seq_ret (k_rnd_ret2 (k_blk_ret (k_seq_ret (k_fin ?_))))))))
 cases hF6
 exact ends_a [] [] Try.results23
 refine awp_skip (k_blk (k_seq (awp_region ?_)))
 refine s_mv ?_
 refine s_add (winc2 hc4 hb5 hn_g2) ?_
 refine s_as ?_
 refine k_nil ?_
 exact s_rn (fu, (g2 + 1)) ⟨by first | omega | (dsimp only; omega), hF6, by first | omega | (dsimp only; omega)⟩
 refine awp_exit (k_seq_exit (k_rnd_exit2 (k_blk_exit (k_seq (awp_seq (awp_region ?_))))))
 refine s_as ?_
 refine k_nil (k_seq (awp_ret (k_fin ?_)))
 cases hF3
 exact ends_a [] [] Try.results23
def m_laws_eqForm_AC (fuel : Nat) : Prop := ∀ (x1 : Form) (x2 : Form) (r : Bool), m_laws_eqForm fuel x1 x2 = some r → AC Try.prog 11 [.ag [.t (.sc (.int .i64 x1.kind)), .t (.sc (.str x1.name)), .t (.sc (.int .i64 x1.n)), .t (.sl (x1.scopes.map rI)), .t (.sl (x1.kids.map Form.row))], .ag [.t (.sc (.int .i64 x2.kind)), .t (.sc (.str x2.name)), .t (.sc (.int .i64 x2.n)), .t (.sl (x2.scopes.map rI)), .t (.sl (x2.kids.map Form.row))]] noOb (.t (.sc (.bool r))) noOb
def m_laws_eqFormS_AC (fuel : Nat) : Prop := ∀ (x1 : (List Form)) (x2 : (List Form)) (r : Bool), m_laws_eqFormS fuel x1 x2 = some r → AC Try.prog 10 [.t (.sl (x1.map Form.row)), .t (.sl (x2.map Form.row))] noOb (.t (.sc (.bool r))) noOb
theorem m_laws_eqForm_st (fu : Nat) (ih_m_laws_eqForm : ∀ k, k ≤ fu → m_laws_eqForm_AC k) (ih_m_laws_eqFormS : ∀ k, k ≤ fu → m_laws_eqFormS_AC k) : m_laws_eqForm_AC (fu + 1) := by
 intro x1 x2 r hF0
 rw [m_laws_eqForm] at hF0
 refine AC_i [.t (.sc (.bool r))] Try.func11 rfl Try.ntmps11 ?_
 intro C hC
 refine awp_seq (awp_region ?_)
 refine s_box ?_
 refine s_box ?_
 refine s_as ?_
 refine k_nil (k_seq (awp_seq (awp_seq (awp_region ?_))))
 refine s_fa yF31_0 ?_
 refine s_ld1 yA3 ?_
 refine s_fa yF31_0 ?_
 refine s_ld1 yA3 ?_
 refine s_ne ?_
 refine k_nil (k_seq ?_)
 refine w_cond hF0 ?_ ?_ <;> intro hc1 hF1
 refine awp_seq (awp_region ?_)
 refine s_as ?_
 refine k_nil (k_seq (awp_ret (k_seq_ret (k_fin ?_))))
 cases hF1
 exact ends_a [] [] Try.results11
 refine awp_skip (k_seq (awp_seq (awp_seq (awp_region ?_))))
 refine s_fa yF31_1 ?_
 refine s_ld1 yA9 ?_
 refine s_fa yF31_1 ?_
 refine s_ld1 yA9 ?_
 refine s_neS ?_
 refine k_nil (k_seq ?_)
 refine w_cond hF1 ?_ ?_ <;> intro hc2 hF2
 refine awp_seq (awp_region ?_)
 refine s_as ?_
 refine k_nil (k_seq (awp_ret (k_seq_ret (k_fin ?_))))
 cases hF2
 exact ends_a [] [] Try.results11
 refine awp_skip (k_seq (awp_seq (awp_seq (awp_region ?_))))
 refine s_fa yF31_2 ?_
 refine s_ld1 yA3 ?_
 refine s_fa yF31_2 ?_
 refine s_ld1 yA3 ?_
 refine s_ne ?_
 refine k_nil (k_seq ?_)
 refine w_cond hF2 ?_ ?_ <;> intro hc3 hF3
 refine awp_seq (awp_region ?_)
 refine s_as ?_
 refine k_nil (k_seq (awp_ret (k_seq_ret (k_fin ?_))))
 cases hF3
 exact ends_a [] [] Try.results11
 refine awp_skip (k_seq (awp_seq (awp_seq (awp_region ?_))))
 refine s_fa yF31_3 ?_
 refine s_ld1 yA22 ?_
 refine s_fa yF31_3 ?_
 refine s_ld1 yA22 ?_
 obtain ⟨v4, hv4, hF4⟩ := bind_some' hF3
 refine s_pure [] (m_laws_eqIntS_ok fu _ _ _ hv4) ?_
 refine s_not ?_
 refine k_nil (k_seq ?_)
 refine w_cond hF4 ?_ ?_ <;> intro hc5 hF5
 refine awp_seq (awp_region ?_)
 refine s_as ?_
 refine k_nil (k_seq (awp_ret (k_seq_ret (k_fin ?_))))
 cases hF5
 exact ends_a [] [] Try.results11
 refine awp_skip (k_seq (awp_seq (awp_seq (awp_region ?_))))
 refine s_fa yF31_4 ?_
 refine s_ld1 yA28 ?_
 refine s_fa yF31_4 ?_
 refine s_ld1 yA28 ?_
 obtain ⟨v6, hv6, hF6⟩ := bind_some' hF5
 refine s_pure [] (ih_m_laws_eqFormS fu (by omega) _ _ _ hv6) ?_
 refine s_not ?_
 refine k_nil (k_seq ?_)
 refine w_cond hF6 ?_ ?_ <;> intro hc7 hF7
 refine awp_seq (awp_region ?_)
 refine s_as ?_
 refine k_nil (k_seq (awp_ret (k_seq_ret (k_fin ?_))))
 cases hF7
 exact ends_a [] [] Try.results11
 refine awp_skip (k_seq (awp_seq (awp_region ?_)))
 refine s_as ?_
 refine k_nil (k_seq (awp_ret (k_fin ?_)))
 cases hF7
 exact ends_a [] [] Try.results11
theorem m_laws_eqFormS_st (fu : Nat) (ih_m_laws_eqForm : ∀ k, k ≤ fu → m_laws_eqForm_AC k) (ih_m_laws_eqFormS : ∀ k, k ≤ fu → m_laws_eqFormS_AC k) : m_laws_eqFormS_AC (fu + 1) := by
 intro x1 x2 r hF0
 rw [m_laws_eqFormS] at hF0
 refine AC_i [.t (.sc (.bool r))] Try.func10 rfl Try.ntmps10 ?_
 intro C hC
 refine awp_seq (awp_region ?_)
 refine s_as ?_
 refine k_nil (k_seq (awp_seq (awp_seq (awp_region ?_))))
 refine s_mv ?_
 refine s_lenT yU28 ?_
 refine s_mv ?_
 refine s_lenT yU28 ?_
 refine s_ne ?_
 refine k_nil (k_seq ?_)
 refine w_cond hF0 ?_ ?_ <;> intro hc1 hF1
 refine awp_seq (awp_region ?_)
 refine s_as ?_
 refine k_nil (k_seq (awp_ret (k_seq_ret (k_fin ?_))))
 cases hF1
 exact ends_a [] [] Try.results10
 refine awp_skip (k_seq (awp_seq (awp_seq (awp_region ?_))))
 refine s_as ?_
 refine k_nil (k_seq (awp_block ?_))
 refine awp_fr (β := Int) [4, 5, 11, 12, 13, 14, 15, 16, 17, 18, 19, 20, 21, 22, 23, 24, 25, 26] [] [] (fun a => [(5, .t (.sc (.int .i64 a.2)))]) (fun a => []) (fun a => a.1 ≤ fu ∧ m_laws_eqFormS_l1 a.1 x1 x2 a.2 = some r ∧ 0 ≤ a.2) (fu, 0) ⟨Nat.le_refl _, hF1, by simp⟩ ?_
 clear hF1
 rintro ⟨fu, g2⟩ ⟨hl3, hF2, hn_g2⟩
 dsimp only at hl3 hF2 hn_g2 ⊢
 obtain _ | fu := fu
 · rw [m_laws_eqFormS_l1] at hF2; cases hF2
 rw [m_laws_eqFormS_l1] at hF2
 refine awp_seq (awp_seq (awp_region ?_))
 refine s_mv ?_
 refine s_mv ?_
 refine s_lenT yU28 ?_
 refine s_lt ?_
 refine k_nil (k_seq ?_)
 refine w_cond hF2 ?_ ?_ <;> intro hc4 hF3
 refine awp_lenT 0 (fun hb5 => ?_)
 refine awp_skip (k_seq (awp_seq (awp_block (awp_seq ?_))))
 refine awp_draw yMix (by kernel_rfl) ?_
 refine s_mv ?_
 refine s_mv ?_
 obtain ⟨v6, hv6, hF4⟩ := bind_some' hF3
 refine s_ixT Form.row hv6 (Form.row_eq _) yE28 ?_
 refine s_ldN yA31 yS31 ?_
 refine s_mv ?_
 refine s_mv ?_
 obtain ⟨v7, hv7, hF5⟩ := bind_some' hF4
 refine s_ixT Form.row hv7 (Form.row_eq _) yE28 ?_
 refine s_ldN yA31 yS31 ?_
 obtain ⟨v8, hv8, hF6⟩ := bind_some' hF5
 refine s_pure [] (ih_m_laws_eqForm fu (by omega) _ _ _ hv8) ?_
 refine s_not ?_
 refine k_nilD (by kernel_rfl) ?_
 refine k_seq ?_
 refine w_cond hF6 ?_ ?_ <;> intro hc9 hF7
 refine awp_seq (awp_region ?_)
 refine s_as ?_
 refine k_nil (k_seq (awp_ret (k_blk_ret (k_seq_ret (k_rnd_ret2 (k_blk_ret (k_seq_ret (k_fin ?_))))))))
 cases hF7
 exact ends_a [] [] Try.results10
 refine awp_skip (k_blk (k_seq (awp_region ?_)))
 refine s_mv ?_
 refine s_add (winc2 hc4 hb5 hn_g2) ?_
 refine s_as ?_
 refine k_nil ?_
 exact s_rn (fu, (g2 + 1)) ⟨by first | omega | (dsimp only; omega), hF7, by first | omega | (dsimp only; omega)⟩
 refine awp_exit (k_seq_exit (k_rnd_exit2 (k_blk_exit (k_seq (awp_seq (awp_region ?_))))))
 refine s_as ?_
 refine k_nil (k_seq (awp_ret (k_fin ?_)))
 cases hF3
 exact ends_a [] [] Try.results10
theorem m_laws_eqForm_all (fuel : Nat) : m_laws_eqForm_AC fuel ∧ m_laws_eqFormS_AC fuel := by
 induction fuel using Nat.strongRecOn with
 | _ N ih =>
   cases N with
   | zero => exact ⟨(by intro x1 x2 r h; rw [m_laws_eqForm] at h; cases h), (by intro x1 x2 r h; rw [m_laws_eqFormS] at h; cases h)⟩
   | succ fu => exact ⟨m_laws_eqForm_st fu (fun k hk => (ih k (by omega)).1) (fun k hk => (ih k (by omega)).2), m_laws_eqFormS_st fu (fun k hk => (ih k (by omega)).1) (fun k hk => (ih k (by omega)).2)⟩
theorem m_laws_eqForm_ok (fuel : Nat) : m_laws_eqForm_AC fuel := (m_laws_eqForm_all fuel).1
theorem m_laws_eqFormS_ok (fuel : Nat) : m_laws_eqFormS_AC fuel := (m_laws_eqForm_all fuel).2
def m_laws_markIntS_D_AC (fuel : Nat) : Prop := ∀ (x1 : (List Int)) (x2 : Int) (r : (Int × (List Int))), m_laws_markIntS fuel x1 x2 = some r → AC Try.prog 24 [.ar 9300, .t (.sc (.int .i64 x2))] (objs [(9300, .arr (x1.map rI) 3 true)]) (.t (.sc (.int .i64 r.1))) (objs [(9300, .arr (r.2.map rI) 3 true)])
theorem m_laws_markIntS_D_ok (fuel : Nat) : m_laws_markIntS_D_AC fuel := by
 intro x1 x2 r hF0
 unfold m_laws_markIntS at hF0
 refine AC_i [.t (.sc (.int .i64 r.1))] Try.func24 rfl Try.ntmps24 ?_
 intro C hC
 refine awp_seq (awp_region ?_)
 refine s_as ?_
 refine k_nil (k_seq (awp_seq (awp_seq (awp_region ?_))))
 refine s_as ?_
 refine k_nil (k_seq (awp_block ?_))
 refine awp_fr (β := Int × Int × (List Int)) [1, 5, 6, 7, 8, 9, 10, 11, 12, 13, 14, 15, 16, 17] [9300] [] (fun a => [(1, .t (.sc (.int .i64 a.2.1))), (5, .t (.sc (.int .i64 a.2.2.1)))]) (fun a => [(9300, .arr (a.2.2.2.map rI) 3 true)]) (fun a => a.1 ≤ fuel ∧ m_laws_markIntS_l1 a.1  a.2.1 a.2.2.1 a.2.2.2 = some r ∧ 0 ≤ a.2.2.1) (fuel, x2, 0, x1) ⟨Nat.le_refl _, hF0, by simp⟩ ?_
 clear hF0
 rintro ⟨fu, g1, g2, g3⟩ ⟨hl4, hF1, hn_g2⟩
 dsimp only at hl4 hF1 hn_g2 ⊢
 obtain _ | fu := fu
 · rw [m_laws_markIntS_l1] at hF1; cases hF1
 rw [m_laws_markIntS_l1] at hF1
 refine awp_seq (awp_seq (awp_region ?_))
 refine s_mv ?_
 refine s_mv ?_
 refine s_lenA yU22 ?_
 refine s_lt ?_
 refine k_nil (k_seq ?_)
 refine w_cond hF1 ?_ ?_ <;> intro hc5 hF2
 refine awp_lenA 0 9300 (fun hb6 => ?_)
 refine awp_skip (k_seq (awp_seq (awp_block (awp_seq (awp_region ?_)))))
 iterate 3 refine s_mv ?_
 obtain ⟨v7, hv7, hF3⟩ := bind_some' hF2
 refine s_ixA rI hv7 yE22 ?_
 refine s_stA rI g1 hv7 rfl rfl yS3 yS3 ?_
 refine k_nil (k_seq (awp_region ?_))
 refine s_mv ?_
 refine s_add rfl ?_
 refine s_as ?_
 refine k_nil (k_blk (k_seq (awp_region ?_)))
 refine s_mv ?_
 refine s_add (winc2 hc5 hb6 hn_g2) ?_
 refine s_as ?_
 refine k_nil ?_
 exact s_rn (fu, (w64 (g1 + 1)), (g2 + 1), (g3.set g2.toNat g1)) ⟨by first | omega | (dsimp only; omega), hF3, by first | omega | (dsimp only; omega)⟩
 refine awp_exit (k_seq_exit (k_rnd_exit2 (k_blk_exit (k_seq (awp_seq (awp_region ?_))))))
 refine s_mv ?_
 refine s_as ?_
 refine k_nil (k_seq (awp_ret (k_fin ?_)))
 cases hF2
 exact ends_a _ [] Try.results24
def m_laws_markText_D_AC (fuel : Nat) : Prop := ∀ (x1 : Int) (r : ByteArray), m_laws_markText fuel x1 = some r → AC Try.prog 25 [.t (.sc (.int .i64 x1))] noOb (.t (.sc (.str r))) noOb
theorem m_laws_markText_D_ok (fuel : Nat) : m_laws_markText_D_AC fuel := by
 intro x1 r hF0
 unfold m_laws_markText at hF0
 refine AC_i [.t (.sc (.str r))] Try.func25 rfl Try.ntmps25 ?_
 intro C hC
 refine awp_seq (awp_region ?_)
 refine s_as ?_
 refine k_nil (k_seq (awp_seq (awp_seq (awp_region ?_))))
 refine s_mv ?_
 refine s_le ?_
 refine k_nil (k_seq ?_)
 refine w_cond hF0 ?_ ?_ <;> intro hc1 hF1
 refine awp_seq (awp_region ?_)
 refine s_as ?_
 refine k_nil (k_seq (awp_ret (k_seq_ret (k_fin ?_))))
 cases hF1
 exact ends_a [] [] Try.results25
 refine awp_skip (k_seq (awp_seq (awp_region ?_)))
 refine s_as ?_
 refine k_nil (k_seq (awp_seq (awp_block ?_)))
 refine awp_fr (β := Int × ByteArray) [0, 3, 6, 7, 8, 9, 10, 11, 12, 13, 14, 15, 16, 17] [] [12] (fun a => [(0, .t (.sc (.int .i64 a.2.1))), (3, .t (.sc (.str a.2.2)))]) (fun a => []) (fun a => a.1 ≤ fuel ∧ m_laws_markText_l1 a.1  a.2.1 a.2.2 = some r) (fuel, x1, (⟨#[]⟩ : ByteArray)) ⟨Nat.le_refl _, hF1⟩ ?_
 clear hF1
 rintro ⟨fu, g2, g3⟩ ⟨hl4, hF2⟩
 dsimp only at hl4 hF2 ⊢
 obtain _ | fu := fu
 · rw [m_laws_markText_l1] at hF2; cases hF2
 rw [m_laws_markText_l1] at hF2
 refine awp_seq (awp_seq (awp_region ?_))
 refine s_mv ?_
 refine s_gt ?_
 refine k_nil (k_seq ?_)
 refine w_cond hF2 ?_ ?_ <;> intro hc5 hF3
 refine awp_skip (k_seq (awp_block (awp_seq (awp_region ?_))))
 refine s_mv ?_
 refine s_rem ?_
 refine s_add rfl ?_
 refine s_int yU3 yU5 rfl ?_
 refine s_bs rB [(w8 (w64 (48 + (g2.tmod 10))))] yP58 yR5 ?_
 refine s_bst (l := [(w8 (w64 (48 + (g2.tmod 10))))]) yU58 yU9 yE58 yU5 ?_
 refine s_mv ?_
 obtain ⟨v6, hv6, hF4⟩ := bind_some' hF3
 refine s_cat hv6 ?_
 refine s_as ?_
 refine k_nil (k_seq (awp_region ?_))
 refine s_mv ?_
 refine s_quo rfl ?_
 refine s_as ?_
 refine k_nil (k_blk ?_)
 exact s_rn (fu, (w64 (g2.tdiv 10)), v6) ⟨by first | omega | (dsimp only; omega), hF4⟩
 refine awp_exit (k_seq_exit (k_rnd_exit2 (k_blk_exit (k_seq (awp_seq (awp_region ?_))))))
 refine s_mv ?_
 obtain ⟨v7, hv7, hF4⟩ := bind_some' hF3
 refine s_cat hv7 ?_
 refine s_as ?_
 refine k_nil (k_seq (awp_ret (k_fin ?_)))
 cases hF4
 exact ends_a [] [] Try.results25
def m_laws_markFormS_D_AC (fuel : Nat) : Prop := ∀ (x1 : (List Form)) (x2 : Int) (r : (Int × (List Form))), m_laws_markFormS fuel x1 x2 = some r → AC Try.prog 13 [.ar 9300, .t (.sc (.int .i64 x2))] (objs [(9300, .dar (x1.map (Form.rowD 3 31)) 31)]) (.t (.sc (.int .i64 r.1))) (objs [(9300, .dar (r.2.map (Form.rowD 3 31)) 31)])
theorem m_laws_markFormS_D_st (fu : Nat) (ih_m_laws_markFormS_D : ∀ k, k ≤ fu → m_laws_markFormS_D_AC k) : m_laws_markFormS_D_AC (fu + 1) := by
 intro x1 x2 r hF0
 rw [m_laws_markFormS] at hF0
 refine AC_i [.t (.sc (.int .i64 r.1))] Try.func13 rfl Try.ntmps13 ?_
 intro C hC
 refine awp_seq (awp_region ?_)
 refine s_as ?_
 refine k_nil (k_seq (awp_seq (awp_seq (awp_region ?_))))
 refine s_as ?_
 refine k_nil (k_seq (awp_block ?_))
 refine awp_fr (β := Int × Int × (List Form)) [1, 5, 6, 7, 8, 9, 10, 11, 12, 13, 14, 15, 16, 17, 18, 19, 20, 21, 22, 23, 24, 25, 26, 27, 28, 29, 30, 31, 32, 33, 34, 35, 36, 37, 38, 39, 40, 41, 42, 43, 44, 45, 46, 47] [9300] [38, 45] (fun a => [(1, .t (.sc (.int .i64 a.2.1))), (5, .t (.sc (.int .i64 a.2.2.1)))]) (fun a => [(9300, .dar (a.2.2.2.map (Form.rowD 3 31)) 31)]) (fun a => a.1 ≤ fu ∧ m_laws_markFormS_l1 a.1  a.2.1 a.2.2.1 a.2.2.2 = some r) (fu, x2, 0, x1) ⟨Nat.le_refl _, hF0⟩ ?_
 clear hF0
 rintro ⟨fu, g1, g2, g3⟩ ⟨hl4, hF1⟩
 dsimp only at hl4 hF1 ⊢
 obtain _ | fu := fu
 · rw [m_laws_markFormS_l1] at hF1; cases hF1
 rw [m_laws_markFormS_l1] at hF1
 refine awp_seq (awp_seq (awp_region ?_))
 refine s_mv ?_
 refine s_mv ?_
 refine s_lenD yU28 ?_
 refine s_lt ?_
 refine k_nil (k_seq ?_)
 refine w_cond hF1 ?_ ?_ <;> intro hc5 hF2
 refine awp_skip (k_seq (awp_seq (awp_block (awp_seq (awp_region ?_)))))
 iterate 3 refine s_mv ?_
 obtain ⟨v6, hv6, hF3⟩ := bind_some' hF2
 refine s_ixD (Form.rowD 3 31) hv6 yE28 ?_
 refine s_fa yF31_0 ?_
 refine s_stC (q := 9300) (off := 0) (u := .sc (.int .i64 g1)) (Form.rowD 3 31) (Form.mk g1 v6.name v6.n v6.scopes v6.kids) hv6 (by rw [(Form.rowDE _ _ _), (Form.rowDE _ _ _)]; rfl) yS3 yS31 (hw := by rw [(Form.rowDE _ _ _)]; rfl) ?_
 refine k_nil (k_seq (awp_seq (awp_region ?_)))
 refine s_mv ?_
 refine s_add rfl ?_
 refine s_as ?_
 refine k_nil (k_seq (awp_seq (awp_region ?_)))
 iterate 3 refine s_mv ?_
 obtain ⟨v7, hv7, hF4⟩ := bind_some' hF3
 refine s_pure [] (m_laws_markText_D_ok fu _ _ hv7) ?_
 obtain ⟨v8, hv8, hF5⟩ := bind_some' hF4
 refine s_ixD (Form.rowD 3 31) hv8 yE28 ?_
 refine s_fa yF31_1 ?_
 refine s_stC (q := 9300) (off := 1) (u := .sc (.str v7)) (Form.rowD 3 31) (Form.mk v8.kind v7 v8.n v8.scopes v8.kids) hv8 (by rw [(Form.rowDE _ _ _), (Form.rowDE _ _ _)]; rfl) yS9 yS31 (hw := by rw [(Form.rowDE _ _ _)]; rfl) ?_
 refine k_nil (k_seq (awp_seq (awp_region ?_)))
 refine s_mv ?_
 refine s_add rfl ?_
 refine s_as ?_
 refine k_nil (k_seq (awp_seq (awp_region ?_)))
 iterate 3 refine s_mv ?_
 obtain ⟨v9, hv9, hF6⟩ := bind_some' hF5
 refine s_ixD (Form.rowD 3 31) hv9 yE28 ?_
 refine s_fa yF31_2 ?_
 refine s_stC (q := 9300) (off := 2) (u := .sc (.int .i64 (w64 ((w64 (g1 + 1)) + 1)))) (Form.rowD 3 31) (Form.mk v9.kind v9.name (w64 ((w64 (g1 + 1)) + 1)) v9.scopes v9.kids) hv9 (by rw [(Form.rowDE _ _ _), (Form.rowDE _ _ _)]; rfl) yS3 yS31 (hw := by rw [(Form.rowDE _ _ _)]; rfl) ?_
 refine k_nil (k_seq (awp_seq (awp_region ?_)))
 refine s_mv ?_
 refine s_add rfl ?_
 refine s_as ?_
 refine k_nil (k_seq (awp_seq (awp_region ?_)))
 refine s_mv ?_
 refine s_mv ?_
 obtain ⟨v10, hv10, hF7⟩ := bind_some' hF6
 refine s_ixD (Form.rowD 3 31) hv10 yE28 ?_
 refine s_fa yF31_3 ?_
 refine s_ldHA (Form.rowD 3 31) rI v10.scopes plain_rI hv10 yA22 yS31 (hw := by rw [(Form.rowDE _ _ _)]; rfl) ?_
 refine s_mv ?_
 obtain ⟨v11, hv11, hF8⟩ := bind_some' hF7
 refine s_call [(9300, 38)] [] _ _ (m_laws_markIntS_D_ok fu _ _ _ hv11) ?_
 refine s_as ?_
 refine k_nil (k_seq ?_)
 refine awp_jsA 9300 38 [.sc (.int .i64 v10.kind), .sc (.str v10.name), .sc (.int .i64 v10.n), .ow 3 (v11.2.map rI), .ow 31 (v10.kids.map (Form.rowD 3 31))] hv10 (row := (Form.rowD 3 31)) (hj := by rw [(Form.rowDE _ _ _)]; rfl) (hf := by rw [(Form.rowDE _ _ _)]; rfl) ?_
 refine awp_nsH 9300 (row := (Form.rowD 3 31)) (fs := [.sc (.int .i64 v10.kind), .sc (.str v10.name), .sc (.int .i64 v10.n), .ow 3 (v11.2.map rI), .ow 31 (v10.kids.map (Form.rowD 3 31))]) (Form.mk v10.kind v10.name v10.n v11.2 v10.kids) (Form.rowDE _ _ _) ?_
 refine awp_region ?_
 refine s_mv ?_
 refine s_mv ?_
 obtain ⟨v12, hv12, hF9⟩ := bind_some' hF8
 refine s_ixD (Form.rowD 3 31) hv12 yE28 ?_
 refine s_fa yF31_4 ?_
 refine s_ldHD (Form.rowD 3 31) (Form.rowD 3 31) v12.kids hv12 yA28 yS31 (hw := by rw [(Form.rowDE _ _ _)]; rfl) ?_
 refine s_mv ?_
 obtain ⟨v13, hv13, hF10⟩ := bind_some' hF9
 refine s_call [(9300, 45)] [] _ _ (ih_m_laws_markFormS_D fu (by omega) _ _ _ hv13) ?_
 refine s_as ?_
 refine k_nil (k_blk (k_seq ?_))
 refine awp_jsD 9300 45 [.sc (.int .i64 v12.kind), .sc (.str v12.name), .sc (.int .i64 v12.n), .ow 3 (v12.scopes.map rI), .ow 31 (v13.2.map (Form.rowD 3 31))] hv12 (row := (Form.rowD 3 31)) (hj := by rw [(Form.rowDE _ _ _)]; rfl) (hf := by rw [(Form.rowDE _ _ _)]; rfl) ?_
 refine awp_nsH 9300 (row := (Form.rowD 3 31)) (fs := [.sc (.int .i64 v12.kind), .sc (.str v12.name), .sc (.int .i64 v12.n), .ow 3 (v12.scopes.map rI), .ow 31 (v13.2.map (Form.rowD 3 31))]) (Form.mk v12.kind v12.name v12.n v12.scopes v13.2) (Form.rowDE _ _ _) ?_
 refine awp_region ?_
 refine s_mv ?_
 refine s_add rfl ?_
 refine s_as ?_
 refine k_nil ?_
 exact s_rn (fu, v13.1, (w64 (g2 + 1)), (((((g3.set g2.toNat (Form.mk g1 v6.name v6.n v6.scopes v6.kids)).set g2.toNat (Form.mk v8.kind v7 v8.n v8.scopes v8.kids)).set g2.toNat (Form.mk v9.kind v9.name (w64 ((w64 (g1 + 1)) + 1)) v9.scopes v9.kids)).set g2.toNat (Form.mk v10.kind v10.name v10.n v11.2 v10.kids)).set g2.toNat (Form.mk v12.kind v12.name v12.n v12.scopes v13.2))) ⟨by first | omega | (dsimp only; omega), hF10⟩
 refine awp_exit (k_seq_exit (k_rnd_exit2 (k_blk_exit (k_seq (awp_seq (awp_region ?_))))))
 refine s_mv ?_
 refine s_as ?_
 refine k_nil (k_seq (awp_ret (k_fin ?_)))
 cases hF2
 exact ends_a _ [] Try.results13
end Go.Abs
