/- A part of the proof: what the functions that the law calls answer, as pure values. -/
import Derived.Test.YtpmhanibecniaaaDoorK343b1103bcc9
import Derived.Test.YtpmhanibecniaaaDoorKb1e540662a4f
import Derived.Test.YtpmhanibecniaaaDoorKcd046980a63b
set_option linter.unusedSimpArgs false
set_option linter.unusedVariables false
set_option maxRecDepth 100000
set_option maxHeartbeats 4000000
namespace Go.Abs
open Go.Proofs
theorem m_impl_number_ok (fuel : Nat) : m_impl_number_AC fuel := by
 intro x1 x2 r h
 obtain ⟨h0, h⟩ := chk_some h
 obtain rfl := Option.some.inj h
 have hw := fun w ht => number_walk x1 x2 w (of_decide_eq_true h0) ht
 cases h : Lib.atoiAll x1.data.toList <;> simp only [h] at hw ⊢
 all_goals exact ac_two_t (a := .str x1) (b := .int .i64 x2) [.int .i64 _, .bool _] ⟨_, Tryd.func34, by kernel_rfl, by kernel_rfl⟩ hw
def m_strings_CutPrefix_AC (fuel : Nat) : Prop := ∀ (x1 : ByteArray) (x2 : ByteArray) (r : ByteArray × Bool), m_strings_CutPrefix fuel x1 x2 = some r → AC Tryd.prog 35 [.t (.sc (.str x1)), .t (.sc (.str x2))] noOb (.tp [.t (.sc (.str r.1)), .t (.sc (.bool r.2))]) noOb
theorem m_strings_CutPrefix_ok (fuel : Nat) : m_strings_CutPrefix_AC fuel := by
 intro x1 x2 r h
 obtain rfl := Option.some.inj h
 exact ac_two_t (a := .str x1) (b := .str x2) [.str _, .bool _] ⟨_, Tryd.func35, by kernel_rfl, by kernel_rfl⟩ (fun w _ => (Tryd.strings_CutPrefix x1 x2 w).mono fun e w' ⟨h1, h2⟩ => ⟨h1, h2 ▸ Go.RowKit.Below.refl _ _⟩)
def m_strings_Cut_AC (fuel : Nat) : Prop := ∀ (x1 : ByteArray) (x2 : ByteArray) (r : ByteArray × ByteArray × Bool), m_strings_Cut fuel x1 x2 = some r → AC Tryd.prog 36 [.t (.sc (.str x1)), .t (.sc (.str x2))] noOb (.tp [.t (.sc (.str r.1)), .t (.sc (.str r.2.1)), .t (.sc (.bool r.2.2))]) noOb
theorem m_strings_Cut_ok (fuel : Nat) : m_strings_Cut_AC fuel := by
 intro x1 x2 r h
 obtain ⟨h0, h⟩ := chk_some h
 obtain rfl := Option.some.inj h
 exact ac_two_t (a := .str x1) (b := .str x2) [.str _, .str _, .bool _] ⟨_, Tryd.func36, by kernel_rfl, by kernel_rfl⟩ (fun w ht => by
   obtain ⟨z, hz⟩ := tabW_maxLen ht (g := 0) (by kernel_rfl) (by kernel_rfl)
   exact (Tryd.strings_Cut x1 x2 z w (of_decide_eq_true h0) hz).mono fun e w' ⟨h1, n, h2⟩ => ⟨h1, h2 ▸ below_drewN w n⟩)
def m_strings_Split_AC (fuel : Nat) : Prop := ∀ (x1 : ByteArray) (x2 : ByteArray) (r : (List ByteArray)), m_strings_Split fuel x1 x2 = some r → AC Tryd.prog 37 [.t (.sc (.str x1)), .t (.sc (.str x2))] noOb (.t (.sl (r.map rS))) noOb
theorem m_strings_Split_ok (fuel : Nat) : m_strings_Split_AC fuel := by
 intro x1 x2 r h
 obtain ⟨h0, h⟩ := chk_some h
 obtain ⟨h1, h⟩ := chk_some h
 obtain ⟨h2, h⟩ := chk_some h
 obtain ⟨h3, h⟩ := chk_some h
 obtain rfl := Option.some.inj h
 exact ac_split _ ⟨_, Tryd.func37, by kernel_rfl, by kernel_rfl⟩ (g := 0) (by kernel_rfl) (by kernel_rfl) (of_decide_eq_true h3) (fun w z hz => by rw [of_decide_eq_true h2]; exact Tryd.strings_Split x1 x2 z w (of_decide_eq_true h0) hz (of_decide_eq_true h1))
def m_impl_scan_form_AC (fuel : Nat) : Prop := ∀ (o1 : scan) (x2 : Int) (r : (Form × Bool × scan)), m_impl_scan_form fuel o1 x2 = some r → AC Tryd.prog 18 [.rf 9000 0, .t (.sc (.int .i64 x2))] (objs [(9000, .box [.t (.sc (.str o1.s)), .t (.sc (.bool o1.bad))])]) (.tp [.ag [.t (.sc (.int .i64 r.1.kind)), .t (.sc (.str r.1.name)), .t (.sc (.int .i64 r.1.n)), .t (.sl (r.1.scopes.map rI)), .t (.sl (r.1.kids.map Form.row))], .t (.sc (.bool r.2.1))]) (objs [(9000, .box [.t (.sc (.str r.2.2.s)), .t (.sc (.bool r.2.2.bad))])])
theorem m_impl_scan_form_st (fu : Nat) (ih_m_impl_scan_form : ∀ k, k ≤ fu → m_impl_scan_form_AC k) : m_impl_scan_form_AC (fu + 1) := by
 intro o1 x2 r hF0
 rw [m_impl_scan_form] at hF0
 refine AC_i [.ag [.t (.sc (.int .i64 r.1.kind)), .t (.sc (.str r.1.name)), .t (.sc (.int .i64 r.1.n)), .t (.sl (r.1.scopes.map rI)), .t (.sl (r.1.kids.map Form.row))], .t (.sc (.bool r.2.1))] Tryd.func18 rfl Tryd.ntmps18 ?_
 intro C hC
 refine awp_seq (awp_region ?_)
 refine s_alloc yZ28 ?_
 refine s_as ?_
 refine k_nil (k_seq (awp_seq (awp_region ?_)))
 refine s_mv ?_
 obtain ⟨v1, hv1, hF1⟩ := bind_some' hF0
 refine s_call [(9000, 9000)] [] _ _ (m_impl_scan_blanks_ok fu _ _ hv1) ?_
 refine k_nil (k_seq (awp_seq ?_))
 refine awp_jn (α := Nat × Bool) [24, 25, 26, 27, 28, 29, 30, 31, 32] [] [] (fun a => [(32, .t (.sc (.bool a.2)))]) (fun a => []) (fun a => a.1 ≤ fu ∧ m_impl_scan_form_j1 a.1 x2 v1 a.2 = some r) ?_ ?_
 refine awp_region ?_
 refine s_mv ?_
 refine s_nc ?_
 refine s_fa yF43_0 ?_
 refine s_ld1 yA9 ?_
 refine s_eqS ?_
 refine s_mv ?_
 refine w_guard _ 29 hF1 ?_ ?_ <;> intro hc2 hF2
 refine r_no rfl (r_no rfl ?_)
 refine s_pkt ?_
 refine k_nil ?_
 exact s_jn (fu, true) ⟨by first | omega | (dsimp only; omega), hF2⟩
 refine s_mv ?_
 refine s_gt ?_
 refine s_pkf ?_
 refine k_nil ?_
 exact s_jn (fu, (decide (40 < x2))) ⟨by first | omega | (dsimp only; omega), hF2⟩
 clear hF1
 rintro ⟨fu, g3⟩ ⟨hl4, hF2⟩
 dsimp only at hl4 hF2 ⊢
 obtain _ | fu := fu
 · rw [m_impl_scan_form_j1] at hF2; cases hF2
 rw [m_impl_scan_form_j1] at hF2
 refine w_cond hF2 ?_ ?_ <;> intro hc5 hF3
 refine awp_seq (awp_region ?_)
 refine s_mv ?_
 refine s_nc ?_
 refine s_fa yF43_1 ?_
 refine s_stP yS4 ?_
 refine k_nil (k_seq (awp_seq (awp_region ?_)))
 refine s_bld yZ28 yL28 ?_
 refine s_stW yS28 ?_
 refine s_as ?_
 refine k_nil (k_seq (awp_ret (k_seq_ret (k_fin ?_))))
 cases hF3
 exact ends_gen _ [] (by rw [Tryd.results18]; exact (res_agg (by conv => lhs; whnf) (by conv => lhs; whnf) yA28 yS28 rfl (res_tmp (by conv => lhs; whnf) res_nil)))
 refine awp_skip (k_seq (awp_seq (awp_seq (awp_region ?_))))
 refine s_mv ?_
 refine s_nc ?_
 refine s_fa yF43_0 ?_
 refine s_ld1 yA9 ?_
 obtain ⟨v6, hv6, hF4⟩ := bind_some' hF3
 refine s_ixS hv6 yU9 ?_
 refine s_eq ?_
 refine k_nil (k_seq ?_)
 refine w_cond hF4 ?_ ?_ <;> intro hc7 hF5
 refine awp_seq (awp_region ?_)
 refine s_mv ?_
 refine s_mv ?_
 refine s_nc ?_
 refine s_fa yF43_0 ?_
 refine s_ld1 yA9 ?_
 obtain ⟨v8, hv8, hF6⟩ := bind_some' hF5
 refine s_ss10 hv8 yU9 ?_
 refine s_nc ?_
 refine s_fa yF43_0 ?_
 refine s_stP yS9 ?_
 refine k_nil (k_seq (awp_seq (awp_region ?_)))
 refine s_bld yZ28 yL28 ?_
 refine s_alloc yZ28 ?_
 refine s_stW yS28 ?_
 refine s_as ?_
 refine k_nil (k_seq (awp_block ?_))
 refine awp_ownB 6 5040 28 [.t (.sc (.int .i64 3)), .t (.sc (.str (⟨#[]⟩ : ByteArray))), .t (.sc (.int .i64 0)), .nl, .ar 5040] yI28.choose_spec ?_
 refine awp_frame2 [5, 7, 8, 9, 52, 53, 54, 55, 56, 57, 58, 59, 60, 61, 62, 63, 64, 65, 66, 67, 68, 69, 70, 71, 72, 73, 74, 75, 76, 77, 78, 79, 80, 81, 82, 83, 84, 85, 86, 87, 88, 89, 90, 91, 92, 93, 94, 95, 96, 97, 98, 99, 100, 101, 102, 103, 104, 105, 106, 107, 108, 109, 110, 111, 112, 113, 114] [6, 5040, 9000] [8, 111, 112] [5040] (fun a : Nat × Bool × ByteArray × Bool × (List Form) => a.1) (fun a : Nat × Bool × ByteArray × Bool × (List Form) => [(7, .t (.sc (.bool a.2.1)))]) (fun a : Nat × Bool × ByteArray × Bool × (List Form) => [(6, .box [.t (.sc (.int .i64 3)), .t (.sc (.str (⟨#[]⟩ : ByteArray))), .t (.sc (.int .i64 0)), .nl, .ar 5040]), (5040, .arr (a.2.2.2.2.map Form.row) 28 true), (9000, .box [.t (.sc (.str a.2.2.1)), .t (.sc (.bool a.2.2.2.1))])]) (fun a : Nat × Bool × ByteArray × Bool × (List Form) => a.1 ≤ fu ∧ m_impl_scan_form_l2 a.1 x2 a.2.1 a.2.2.1 a.2.2.2.1 a.2.2.2.2 = some r) (fu, true, v8, v1.2.bad, ([] : List Form)) ⟨Nat.le_refl _, hF6⟩ (by rfl) (by rfl) (fun _ => rfl) (hasF_cons (by conv => lhs; whnf) (by rfl) hasF_nil) (hasO_cons (by conv => lhs; whnf) (by rfl) (hasO_cons (by conv => lhs; whnf) (by rfl) (hasO_cons (by conv => lhs; whnf) (by rfl) hasO_nil))) (fresh_C hC rfl) (by repeat (first | exact freshS_args rfl | refine freshS_upd rfl ?_ | refine freshS_frame rfl ?_)) (by repeat (first | exact freshM_no | exact objs_fresh rfl | refine freshM_upd rfl ?_ | refine freshM_frame rfl ?_)) ?_
 clear hF6
 rintro ⟨fu, g9, g10, g11, g12⟩ ⟨hl13, hF7⟩
 dsimp only at hl13 hF7 ⊢
 obtain _ | fu := fu
 · rw [m_impl_scan_form_l2] at hF7; cases hF7
 rw [m_impl_scan_form_l2] at hF7
 refine awp_block ?_
 refine awp_jn (α := Nat × Bool × ByteArray × Bool) [7, 52, 53, 54, 55, 56] [9000] [] (fun a => [(7, .t (.sc (.bool a.2.1)))]) (fun a => [(9000, .box [.t (.sc (.str a.2.2.1)), .t (.sc (.bool a.2.2.2))])]) (fun a => a.1 ≤ fu ∧ m_impl_scan_form_j3 a.1 x2 g12 a.2.1 a.2.2.1 a.2.2.2 = some r) ?_ ?_
 refine awp_region ?_
 refine s_mv ?_
 obtain ⟨v14, hv14, hF8⟩ := bind_some' hF7
 refine s_call [(9000, 9000)] [] _ _ (m_impl_scan_blanks_ok fu _ _ hv14) ?_
 refine s_mv ?_
 refine w_guard _ 54 hF8 ?_ ?_ <;> intro hc15 hF9
 refine r_no rfl ?_
 refine s_pkt ?_
 refine s_as ?_
 refine k_nil ?_
 exact s_jn (fu, true, v14.2.s, v14.2.bad) ⟨by first | omega | (dsimp only; omega), hF9⟩
 refine s_mv ?_
 refine s_pkf ?_
 refine s_as ?_
 refine k_nil ?_
 exact s_jn (fu, g9, v14.2.s, v14.2.bad) ⟨by first | omega | (dsimp only; omega), hF9⟩
 clear hF7
 rintro ⟨fu, g16, g17, g18⟩ ⟨hl19, hF8⟩
 dsimp only at hl19 hF8 ⊢
 obtain _ | fu := fu
 · rw [m_impl_scan_form_j3] at hF8; cases hF8
 rw [m_impl_scan_form_j3] at hF8
 refine awp_seq ?_
 refine awp_jn (α := Nat × Bool) [57, 58, 59, 60, 61, 62, 63, 64, 65, 66, 67] [] [] (fun a => [(67, .t (.sc (.bool a.2)))]) (fun a => []) (fun a => a.1 ≤ fu ∧ m_impl_scan_form_j4 a.1 x2 g12 g16 g17 g18 a.2 = some r) ?_ ?_
 refine awp_region ?_
 refine s_mv ?_
 refine s_nc ?_
 refine s_fa yF43_1 ?_
 refine s_ld1 yA4 ?_
 refine s_mv ?_
 refine w_guard _ 61 hF8 ?_ ?_ <;> intro hc20 hF9
 iterate 5 refine r_no rfl ?_
 refine s_pkt ?_
 refine k_nil ?_
 exact s_jn (fu, true) ⟨by first | omega | (dsimp only; omega), hF9⟩
 refine s_mv ?_
 refine s_nc ?_
 refine s_fa yF43_0 ?_
 refine s_ld1 yA9 ?_
 refine s_eqS ?_
 refine s_pkf ?_
 refine k_nil ?_
 exact s_jn (fu, (decide (g17 = (⟨#[]⟩ : ByteArray)))) ⟨by first | omega | (dsimp only; omega), hF9⟩
 clear hF8
 rintro ⟨fu, g21⟩ ⟨hl22, hF9⟩
 dsimp only at hl22 hF9 ⊢
 obtain _ | fu := fu
 · rw [m_impl_scan_form_j4] at hF9; cases hF9
 rw [m_impl_scan_form_j4] at hF9
 refine w_cond hF9 ?_ ?_ <;> intro hc23 hF10
 refine awp_seq (awp_region ?_)
 refine s_mv ?_
 refine s_nc ?_
 refine s_fa yF43_1 ?_
 refine s_stP yS4 ?_
 refine k_nil (k_seq (awp_seq (awp_region ?_)))
 refine s_bld yZ28 yL28 ?_
 refine s_stW yS28 ?_
 refine s_as ?_
 refine k_nil (k_seq (awp_ret (k_seq_ret (k_blk_ret (k_rnd_ret2 (k_blk_ret (k_seq_ret (k_fin ?_))))))))
 cases hF10
 exact ends_gen _ [] (by rw [Tryd.results18]; exact (res_agg (by conv => lhs; whnf) (by conv => lhs; whnf) yA28 yS28 rfl (res_tmp (by conv => lhs; whnf) res_nil)))
 refine awp_skip (k_seq (awp_seq (awp_seq (awp_region ?_))))
 refine s_mv ?_
 refine s_nc ?_
 refine s_fa yF43_0 ?_
 refine s_ld1 yA9 ?_
 obtain ⟨v24, hv24, hF11⟩ := bind_some' hF10
 refine s_ixS hv24 yU9 ?_
 refine s_eq ?_
 refine k_nil (k_seq ?_)
 refine w_cond hF11 ?_ ?_ <;> intro hc25 hF12
 refine awp_seq (awp_region ?_)
 refine s_mv ?_
 refine s_mv ?_
 refine s_nc ?_
 refine s_fa yF43_0 ?_
 refine s_ld1 yA9 ?_
 obtain ⟨v26, hv26, hF13⟩ := bind_some' hF12
 refine s_ss10 hv26 yU9 ?_
 refine s_nc ?_
 refine s_fa yF43_0 ?_
 refine s_stP yS9 ?_
 refine k_nil (k_seq (awp_seq (awp_region ?_)))
 refine s_ldW yA28 yS28 ?_
 refine s_stW yS28 ?_
 refine s_as ?_
 refine k_nil (k_seq (awp_ret (k_seq_ret (k_blk_ret (k_rnd_ret2 (k_blk_ret (k_seq_ret (k_fin ?_))))))))
 cases hF13
 exact ends_gen _ [5040] (by rw [Tryd.results18]; exact (res_agg (by conv => lhs; whnf) (by conv => lhs; whnf) yA28 yS28 rfl (res_tmp (by conv => lhs; whnf) res_nil)))
 refine awp_skip (k_seq (awp_seq ?_))
 refine awp_jn (α := Nat × Bool) [87, 88, 89, 90, 91, 92, 93, 94, 95, 96] [] [] (fun a => [(96, .t (.sc (.bool a.2)))]) (fun a => []) (fun a => a.1 ≤ fu ∧ m_impl_scan_form_j5 a.1 x2 g12 g17 g18 a.2 = some r) ?_ ?_
 refine awp_region ?_
 refine s_mv ?_
 refine s_not ?_
 refine s_mv ?_
 refine w_guard _ 89 hF12 ?_ ?_ <;> intro hc27 hF13
 refine s_mv ?_
 refine s_nc ?_
 refine s_fa yF43_0 ?_
 refine s_ld1 yA9 ?_
 obtain ⟨v28, hv28, hF14⟩ := bind_some' hF13
 refine s_ixS hv28 yU9 ?_
 refine s_ne ?_
 refine s_pkt ?_
 refine k_nil ?_
 exact s_jn (fu, (decide (v28 ≠ 40))) ⟨by first | omega | (dsimp only; omega), hF14⟩
 iterate 6 refine r_no rfl ?_
 refine s_pkf ?_
 refine k_nil ?_
 exact s_jn (fu, false) ⟨by first | omega | (dsimp only; omega), hF13⟩
 clear hF12
 rintro ⟨fu, g29⟩ ⟨hl30, hF13⟩
 dsimp only at hl30 hF13 ⊢
 obtain _ | fu := fu
 · rw [m_impl_scan_form_j5] at hF13; cases hF13
 rw [m_impl_scan_form_j5] at hF13
 refine w_cond hF13 ?_ ?_ <;> intro hc31 hF14
 refine awp_seq (awp_region ?_)
 refine s_mv ?_
 refine s_nc ?_
 refine s_fa yF43_1 ?_
 refine s_stP yS4 ?_
 refine k_nil (k_seq (awp_seq (awp_region ?_)))
 refine s_bld yZ28 yL28 ?_
 refine s_stW yS28 ?_
 refine s_as ?_
 refine k_nil (k_seq (awp_ret (k_seq_ret (k_blk_ret (k_rnd_ret2 (k_blk_ret (k_seq_ret (k_fin ?_))))))))
 cases hF14
 exact ends_gen _ [] (by rw [Tryd.results18]; exact (res_agg (by conv => lhs; whnf) (by conv => lhs; whnf) yA28 yS28 rfl (res_tmp (by conv => lhs; whnf) res_nil)))
 refine awp_skip (k_seq (awp_seq (awp_region ?_)))
 refine s_mv ?_
 refine s_mv ?_
 refine s_add rfl ?_
 obtain ⟨v32, hv32, hF15⟩ := bind_some' hF14
 refine s_call [(9000, 9000)] [] _ _ (ih_m_impl_scan_form fu (by omega) _ _ _ hv32) ?_
 refine s_mv ?_
 refine s_ext ?_
 refine s_ext ?_
 refine s_alloc yZ28 ?_
 refine s_stW yS28 ?_
 refine s_as ?_
 refine k_nil (k_seq (awp_seq (awp_region ?_)))
 refine s_fa yF28_4 ?_
 refine s_ld1 yA26 ?_
 refine s_ldW yA28 yS28 ?_
 refine s_bs Form.row [v32.1] yP26 yR28 ?_
 obtain ⟨hk33, hF16⟩ := chk_some hF15
 refine s_apT Form.row (fun y => Form.row_len y) hk33 yP26 ?_
 refine s_fa yF28_4 ?_
 refine s_stP yS26 ?_
 refine k_nil (k_seq (awp_region ?_))
 refine s_mv ?_
 refine s_as ?_
 refine k_nil (k_blk ?_)
 exact s_rn (fu, v32.2.1, v32.2.2.s, v32.2.2.bad, (g12 ++ [v32.1])) ⟨by first | omega | (dsimp only; omega), hF16⟩ [(5040, 112)]
 refine awp_skip (k_seq (awp_seq (awp_region ?_)))
 refine s_mv ?_
 obtain ⟨v34, hv34, hF6⟩ := bind_some' hF5
 refine s_call [(9000, 9000)] [] _ _ (m_impl_scan_word_ok fu _ _ hv34) ?_
 refine s_as ?_
 refine k_nil (k_seq (awp_seq (awp_seq (awp_region ?_))))
 refine s_mv ?_
 obtain ⟨v35, hv35, hF7⟩ := bind_some' hF6
 refine s_pure [] (m_impl_number_ok fu _ _ _ hv35) ?_
 refine s_mv ?_
 refine s_ext ?_
 refine s_ext ?_
 refine s_as ?_
 refine s_as ?_
 refine k_nil (k_seq (awp_seq (awp_region ?_)))
 refine s_mv ?_
 refine k_nil (k_seq ?_)
 refine w_cond hF7 ?_ ?_ <;> intro hc36 hF8
 refine awp_seq (awp_region ?_)
 refine s_mv ?_
 refine s_bld yZ28 yL28 ?_
 refine s_stW yS28 ?_
 refine s_as ?_
 refine k_nil (k_seq (awp_ret (k_seq_ret (k_fin ?_))))
 cases hF8
 exact ends_gen _ [] (by rw [Tryd.results18]; exact (res_agg (by conv => lhs; whnf) (by conv => lhs; whnf) yA28 yS28 rfl (res_tmp (by conv => lhs; whnf) res_nil)))
 refine awp_skip (k_seq (awp_seq (awp_region ?_)))
 refine s_mv ?_
 refine s_bld yZ28 yL28 ?_
 refine s_alloc yZ28 ?_
 refine s_stW yS28 ?_
 refine k_nil (k_seq (awp_seq (awp_seq (awp_region ?_))))
 refine s_mv ?_
 obtain ⟨v37, hv37, hF9⟩ := bind_some' hF8
 refine s_pure [] (m_impl_NameValid_ok fu _ _ hv37) ?_
 refine s_not ?_
 refine k_nil (k_seq ?_)
 refine w_cond hF9 ?_ ?_ <;> intro hc38 hF10
 refine awp_seq (awp_region ?_)
 refine s_mv ?_
 refine s_nc ?_
 refine s_fa yF43_1 ?_
 refine s_stP yS4 ?_
 refine k_nil (k_seq (awp_seq (awp_region ?_)))
 refine s_bld yZ28 yL28 ?_
 refine s_stW yS28 ?_
 refine s_as ?_
 refine k_nil (k_seq (awp_ret (k_seq_ret (k_fin ?_))))
 cases hF10
 exact ends_gen _ [] (by rw [Tryd.results18]; exact (res_agg (by conv => lhs; whnf) (by conv => lhs; whnf) yA28 yS28 rfl (res_tmp (by conv => lhs; whnf) res_nil)))
 refine awp_skip (k_seq (awp_seq (awp_region ?_)))
 refine s_mv ?_
 refine s_nc ?_
 refine s_fa yF43_0 ?_
 refine s_ld1 yA9 ?_
 obtain ⟨v39, hv39, hF11⟩ := bind_some' hF10
 refine s_pure [] (m_strings_CutPrefix_ok fu _ _ _ hv39) ?_
 refine s_mv ?_
 refine s_ext ?_
 refine s_ext ?_
 refine s_as ?_
 refine s_as ?_
 refine k_nil (k_seq (awp_seq (awp_seq (awp_region ?_))))
 refine s_mv ?_
 refine s_not ?_
 refine k_nil (k_seq ?_)
 refine w_cond hF11 ?_ ?_ <;> intro hc40 hF12
 refine awp_seq (awp_region ?_)
 refine s_ldW yA28 yS28 ?_
 refine s_stW yS28 ?_
 refine s_as ?_
 refine k_nil (k_seq (awp_ret (k_seq_ret (k_fin ?_))))
 cases hF12
 exact ends_gen _ [] (by rw [Tryd.results18]; exact (res_agg (by conv => lhs; whnf) (by conv => lhs; whnf) yA28 yS28 rfl (res_tmp (by conv => lhs; whnf) res_nil)))
 refine awp_skip (k_seq (awp_seq (awp_region ?_)))
 refine s_mv ?_
 obtain ⟨v41, hv41, hF13⟩ := bind_some' hF12
 refine s_pure [] (m_strings_Cut_ok fu _ _ _ hv41) ?_
 refine s_mv ?_
 iterate 3 refine s_ext ?_
 iterate 3 refine s_as ?_
 refine k_nil (k_seq ?_)
 refine awp_jn (α := Nat × Bool) [151, 152, 153, 154, 155, 156, 157, 158, 159, 160, 161] [9000] [] (fun a => []) (fun a => [(9000, .box [.t (.sc (.str v34.2.s)), .t (.sc (.bool a.2))])]) (fun a => a.1 ≤ fu ∧ m_impl_scan_form_j6 a.1 v34 v41 a.2 = some r) ?_ ?_
 refine awp_region ?_
 refine s_mv ?_
 refine s_mv ?_
 refine s_nc ?_
 refine s_fa yF43_1 ?_
 refine s_ld1 yA4 ?_
 refine s_mv ?_
 refine w_guard _ 156 hF13 ?_ ?_ <;> intro hc42 hF14
 refine r_no rfl (r_no rfl ?_)
 refine s_pkt ?_
 refine s_nc ?_
 refine s_fa yF43_1 ?_
 refine s_stP yS4 ?_
 refine k_nil ?_
 exact s_jn (fu, true) ⟨by first | omega | (dsimp only; omega), hF14⟩
 refine s_mv ?_
 refine s_not ?_
 refine s_pkf ?_
 refine s_nc ?_
 refine s_fa yF43_1 ?_
 refine s_stP yS4 ?_
 refine k_nil ?_
 exact s_jn (fu, (!v41.2.2)) ⟨by first | omega | (dsimp only; omega), hF14⟩
 clear hF13
 rintro ⟨fu, g43⟩ ⟨hl44, hF14⟩
 dsimp only at hl44 hF14 ⊢
 obtain _ | fu := fu
 · rw [m_impl_scan_form_j6] at hF14; cases hF14
 rw [m_impl_scan_form_j6] at hF14
 refine awp_seq (awp_region ?_)
 refine s_mv ?_
 refine s_mv ?_
 refine s_nc ?_
 refine s_fa yF43_0 ?_
 refine s_stP yS9 ?_
 refine k_nil (k_seq (awp_seq (awp_seq (awp_region ?_))))
 refine s_mv ?_
 obtain ⟨v45, hv45, hF15⟩ := bind_some' hF14
 refine s_pure [] (m_strings_Split_ok fu _ _ _ hv45) ?_
 refine s_lenT yU38 ?_
 refine s_mv ?_
 refine k_nil (k_seq (awp_block ?_))
 refine awp_ownB 13 5140 3 [.t (.sc (.int .i64 1)), .t (.sc (.str v34.1)), .t (.sc (.int .i64 0)), .ar 5140, .nl] yI3.choose_spec ?_
 refine awp_frame2 [19, 20, 21, 169, 170, 171, 172, 173, 174, 175, 176, 177, 178, 179, 180, 181, 182, 183, 184, 185, 186, 187, 188, 189, 190, 191, 192, 193, 194, 195] [13, 5140, 9000] [192, 193] [5140] (fun a : Nat × Int × Bool × (List Int) => a.1) (fun a : Nat × Int × Bool × (List Int) => [(169, .t (.sc (.int .i64 a.2.1)))]) (fun a : Nat × Int × Bool × (List Int) => [(13, .box [.t (.sc (.int .i64 1)), .t (.sc (.str v34.1)), .t (.sc (.int .i64 0)), .ar 5140, .nl]), (5140, .arr (a.2.2.2.map rI) 3 true), (9000, .box [.t (.sc (.str v41.2.1)), .t (.sc (.bool a.2.2.1))])]) (fun a : Nat × Int × Bool × (List Int) => a.1 ≤ fu ∧ m_impl_scan_form_l7 a.1 v34 v41 v45 a.2.1 a.2.2.1 a.2.2.2 = some r ∧ 0 ≤ a.2.1) (fu, 0, g43, ([] : List Int)) ⟨Nat.le_refl _, hF15, by simp⟩ (by rfl) (by rfl) (fun _ => rfl) (hasF_cons (by conv => lhs; whnf) (by rfl) hasF_nil) (hasO_cons (by conv => lhs; whnf) (by rfl) (hasO_cons (by conv => lhs; whnf) (by rfl) (hasO_cons (by conv => lhs; whnf) (by rfl) hasO_nil))) (fresh_C hC rfl) (by repeat (first | exact freshS_args rfl | refine freshS_upd rfl ?_ | refine freshS_frame rfl ?_)) (by repeat (first | exact freshM_no | exact objs_fresh rfl | refine freshM_upd rfl ?_ | refine freshM_frame rfl ?_)) ?_
 clear hF15
 rintro ⟨fu, g46, g47, g48⟩ ⟨hl49, hF16, hn_g46⟩
 dsimp only at hl49 hF16 hn_g46 ⊢
 obtain _ | fu := fu
 · rw [m_impl_scan_form_l7] at hF16; cases hF16
 rw [m_impl_scan_form_l7] at hF16
 refine awp_seq (awp_region ?_)
 refine s_lt ?_
 refine k_nil (k_seq (awp_seq ?_))
 refine w_cond hF16 ?_ ?_ <;> intro hc50 hF17
 refine awp_lenT 167 (fun hb51 => ?_)
 refine awp_skip (k_seq (awp_seq (awp_block (awp_seq (awp_region ?_)))))
 obtain ⟨v52, hv52, hF18⟩ := bind_some' hF17
 refine s_ixT rS hv52 rfl yE38 ?_
 refine s_ld1 yA9 ?_
 refine s_as ?_
 refine k_nil (k_seq (awp_seq (awp_region ?_)))
 refine s_mv ?_
 obtain ⟨v53, hv53, hF19⟩ := bind_some' hF18
 refine s_pure [] (m_impl_number_ok fu _ _ _ hv53) ?_
 refine s_mv ?_
 refine s_ext ?_
 refine s_ext ?_
 refine s_as ?_
 refine s_as ?_
 refine k_nil (k_seq ?_)
 refine awp_jn (α := Nat × Bool) [178, 179, 180, 181, 182, 183, 184, 185, 186, 187, 188] [9000] [] (fun a => []) (fun a => [(9000, .box [.t (.sc (.str v41.2.1)), .t (.sc (.bool a.2))])]) (fun a => a.1 ≤ fu ∧ m_impl_scan_form_j8 a.1 v34 v41 v45 g46 g48 v53 a.2 = some r) ?_ ?_
 refine awp_region ?_
 refine s_mv ?_
 refine s_mv ?_
 refine s_nc ?_
 refine s_fa yF43_1 ?_
 refine s_ld1 yA4 ?_
 refine s_mv ?_
 refine w_guard _ 183 hF19 ?_ ?_ <;> intro hc54 hF20
 refine r_no rfl (r_no rfl ?_)
 refine s_pkt ?_
 refine s_nc ?_
 refine s_fa yF43_1 ?_
 refine s_stP yS4 ?_
 refine k_nil ?_
 exact s_jn (fu, true) ⟨by first | omega | (dsimp only; omega), hF20⟩
 refine s_mv ?_
 refine s_not ?_
 refine s_pkf ?_
 refine s_nc ?_
 refine s_fa yF43_1 ?_
 refine s_stP yS4 ?_
 refine k_nil ?_
 exact s_jn (fu, (!v53.2)) ⟨by first | omega | (dsimp only; omega), hF20⟩
 clear hF19
 rintro ⟨fu, g55⟩ ⟨hl56, hF20⟩
 dsimp only at hl56 hF20 ⊢
 obtain _ | fu := fu
 · rw [m_impl_scan_form_j8] at hF20; cases hF20
 rw [m_impl_scan_form_j8] at hF20
 refine awp_region ?_
 refine s_fa yF28_3 ?_
 refine s_ld1 yA25 ?_
 refine s_mv ?_
 refine s_bs rI [v53.1] yP25 yR3 ?_
 obtain ⟨hk57, hF21⟩ := chk_some hF20
 refine s_apT rI (fun _ => rfl) hk57 yP25 ?_
 refine s_fa yF28_3 ?_
 refine s_stP yS25 ?_
 refine k_nil (k_blk (k_seq (awp_region ?_)))
 refine s_add (winc2 hc50 hb51 hn_g46) ?_
 refine s_mv ?_
 refine k_nil ?_
 exact s_rn (fu, (g46 + 1), g55, (g48 ++ [v53.1])) ⟨by first | omega | (dsimp only; omega), hF21, by first | omega | (dsimp only; omega)⟩ [(5140, 193)]
 refine awp_exit (k_seq_exit (k_rnd_exit2 (k_blk_exit (k_seq (awp_seq (awp_region ?_))))))
 refine s_ldW yA28 yS28 ?_
 refine s_stW yS28 ?_
 refine s_as ?_
 refine k_nil (k_seq (awp_ret (k_fin ?_)))
 cases hF17
 exact ends_gen _ [5140] (by rw [Tryd.results18]; exact (res_agg (by conv => lhs; whnf) (by conv => lhs; whnf) yA28 yS28 rfl (res_tmp (by conv => lhs; whnf) res_nil)))
theorem m_impl_scan_form_all (fuel : Nat) : m_impl_scan_form_AC fuel := by
 induction fuel using Nat.strongRecOn with
 | _ N ih =>
   cases N with
   | zero => exact (by intro o1 x2 r h; rw [m_impl_scan_form] at h; cases h)
   | succ fu => exact m_impl_scan_form_st fu (fun k hk => (ih k (by omega)))
theorem m_impl_scan_form_ok (fuel : Nat) : m_impl_scan_form_AC fuel := (m_impl_scan_form_all fuel)
def m_impl_scopesOk_AC (fuel : Nat) : Prop := ∀ (x1 : (List Int)) (r : Bool), m_impl_scopesOk fuel x1 = some r → AC Tryd.prog 55 [.t (.sl (x1.map rI))] noOb (.t (.sc (.bool r))) noOb
theorem m_impl_scopesOk_ok (fuel : Nat) : m_impl_scopesOk_AC fuel := by
 intro x1 r hF0
 unfold m_impl_scopesOk at hF0
 refine AC_i [.t (.sc (.bool r))] Tryd.func55 rfl Tryd.ntmps55 ?_
 intro C hC
 refine awp_seq (awp_region ?_)
 refine s_as ?_
 refine k_nil (k_seq (awp_seq (awp_seq (awp_region ?_))))
 refine s_mv ?_
 refine s_lenT yU25 ?_
 refine s_mv ?_
 refine k_nil (k_seq (awp_block ?_))
 refine awp_fr (β := Int) [2, 3, 4, 7, 8, 9, 10, 11, 12, 13, 14, 15, 16, 17, 18, 19, 20, 21, 22, 23, 24, 25, 26, 27, 28] [] [] (fun a => [(7, .t (.sc (.int .i64 a.2)))]) (fun a => []) (fun a => a.1 ≤ fuel ∧ m_impl_scopesOk_l1 a.1 x1 a.2 = some r ∧ 0 ≤ a.2) (fuel, 0) ⟨Nat.le_refl _, hF0, by simp⟩ ?_
 clear hF0
 rintro ⟨fu, g1⟩ ⟨hl2, hF1, hn_g1⟩
 dsimp only at hl2 hF1 hn_g1 ⊢
 obtain _ | fu := fu
 · rw [m_impl_scopesOk_l1] at hF1; cases hF1
 rw [m_impl_scopesOk_l1] at hF1
 refine awp_seq (awp_region ?_)
 refine s_lt ?_
 refine k_nil (k_seq (awp_seq ?_))
 refine w_cond hF1 ?_ ?_ <;> intro hc3 hF2
 refine awp_lenT 0 (fun hb4 => ?_)
 refine awp_skip (k_seq (awp_seq (awp_block (awp_seq (awp_region ?_)))))
 refine s_mv ?_
 obtain ⟨v5, hv5, hF3⟩ := bind_some' hF2
 refine s_ixT rI hv5 rfl yE25 ?_
 refine s_ld1 yA3 ?_
 refine s_as ?_
 refine s_as ?_
 refine k_nil (k_seq (awp_seq (awp_region ?_)))
 refine s_mv ?_
 obtain ⟨v6, hv6, hF4⟩ := bind_some' hF3
 refine s_pure [] (m_impl_within_ok fu _ _ _ _ hv6) ?_
 refine s_not ?_
 refine s_mv ?_
 refine w_guard _ 15 hF4 ?_ ?_ <;> intro hc7 hF5
 iterate 11 refine r_no rfl ?_
 refine s_pkt ?_
 refine k_nil (k_seq (awp_true rfl (awp_seq (awp_region ?_))))
 refine s_as ?_
 refine k_nil (k_seq (awp_ret (k_blk_ret (k_seq_ret (k_rnd_ret2 (k_blk_ret (k_seq_ret (k_fin ?_))))))))
 cases hF5
 exact ends_a [] [] Tryd.results55
 refine s_mv ?_
 refine s_gt ?_
 refine s_mv ?_
 refine w_guard _ 18 hF5 ?_ ?_ <;> intro hc8 hF6
 refine s_mv ?_
 refine s_mv ?_
 refine s_sub rfl ?_
 obtain ⟨v9, hv9, hF7⟩ := bind_some' hF6
 refine s_ixT rI hv9 rfl yE25 ?_
 refine s_ld1 yA3 ?_
 refine s_mv ?_
 refine s_ge ?_
 refine s_pkt ?_
 refine s_pkf ?_
 refine k_nil (k_seq ?_)
 refine w_cond hF7 ?_ ?_ <;> intro hc10 hF8
 refine awp_seq (awp_region ?_)
 refine s_as ?_
 refine k_nil (k_seq (awp_ret (k_blk_ret (k_seq_ret (k_rnd_ret2 (k_blk_ret (k_seq_ret (k_fin ?_))))))))
 cases hF8
 exact ends_a [] [] Tryd.results55
 refine awp_skip (k_blk (k_seq (awp_region ?_)))
 refine s_add (winc2 hc3 hb4 hn_g1) ?_
 refine s_mv ?_
 refine k_nil ?_
 exact s_rn (fu, (g1 + 1)) ⟨by first | omega | (dsimp only; omega), hF8, by first | omega | (dsimp only; omega)⟩
 iterate 7 refine r_no rfl ?_
 refine s_pkf ?_
 refine s_pkf ?_
 refine k_nil (k_seq (awp_false rfl (awp_skip (k_blk (k_seq (awp_region ?_))))))
 refine s_add (winc2 hc3 hb4 hn_g1) ?_
 refine s_mv ?_
 refine k_nil ?_
 exact s_rn (fu, (g1 + 1)) ⟨by first | omega | (dsimp only; omega), hF6, by first | omega | (dsimp only; omega)⟩
 refine awp_exit (k_seq_exit (k_rnd_exit2 (k_blk_exit (k_seq (awp_seq (awp_region ?_))))))
 refine s_mv ?_
 refine s_lenT yU25 ?_
 refine s_le ?_
 refine s_as ?_
 refine k_nil (k_seq (awp_ret (k_fin ?_)))
 cases hF2
 exact ends_a [] [] Tryd.results55
def m_impl_formOk_AC (fuel : Nat) : Prop := ∀ (x1 : Form) (x2 : Int) (o1 : Int) (r : (Bool × Int)), m_impl_formOk fuel x1 x2 o1 = some r → AC Tryd.prog 39 [.ag [.t (.sc (.int .i64 x1.kind)), .t (.sc (.str x1.name)), .t (.sc (.int .i64 x1.n)), .t (.sl (x1.scopes.map rI)), .t (.sl (x1.kids.map Form.row))], .t (.sc (.int .i64 x2)), .rf 9000 0] (objs [(9000, .box [.t (.sc (.int .i64 o1))])]) (.t (.sc (.bool r.1))) (objs [(9000, .box [.t (.sc (.int .i64 r.2))])])
theorem m_impl_formOk_st (fu : Nat) (ih_m_impl_formOk : ∀ k, k ≤ fu → m_impl_formOk_AC k) : m_impl_formOk_AC (fu + 1) := by
 intro x1 x2 o1 r hF0
 rw [m_impl_formOk] at hF0
 refine AC_i [.t (.sc (.bool r.1))] Tryd.func39 rfl Tryd.ntmps39 ?_
 intro C hC
 refine awp_seq (awp_region ?_)
 refine s_box ?_
 refine s_as ?_
 refine k_nil (k_seq (awp_seq (awp_region ?_)))
 refine s_mv ?_
 refine s_nc ?_
 refine s_ld1 yA3 ?_
 refine s_sub rfl ?_
 refine s_nc ?_
 refine s_stW yS3 ?_
 refine k_nil (k_seq (awp_seq (awp_seq (awp_region ?_))))
 refine s_mv ?_
 refine s_nc ?_
 refine s_ld1 yA3 ?_
 refine s_lt ?_
 refine s_mv ?_
 refine w_guard _ 18 hF0 ?_ ?_ <;> intro hc1 hF1
 refine r_no rfl (r_no rfl ?_)
 refine s_pkt ?_
 refine k_nil (k_seq (awp_true rfl (awp_seq (awp_region ?_))))
 refine s_as ?_
 refine k_nil (k_seq (awp_ret (k_seq_ret (k_fin ?_))))
 cases hF1
 exact ends_a _ [] Tryd.results39
 refine s_mv ?_
 refine s_gt ?_
 refine s_pkf ?_
 refine k_nil (k_seq ?_)
 refine w_cond hF1 ?_ ?_ <;> intro hc2 hF2
 refine awp_seq (awp_region ?_)
 refine s_as ?_
 refine k_nil (k_seq (awp_ret (k_seq_ret (k_fin ?_))))
 cases hF2
 exact ends_a _ [] Tryd.results39
 refine awp_skip (k_seq (awp_seq (awp_seq (awp_region ?_))))
 refine s_fa yF28_0 ?_
 refine s_ld1 yA3 ?_
 refine k_nil (k_seq (awp_block (awp_seq (awp_region ?_))))
 refine s_eq ?_
 refine s_as ?_
 refine k_nil (k_seq ?_)
 refine w_cond hF2 ?_ ?_ <;> intro hc3 hF3
 refine awp_seq (awp_region ?_)
 refine s_fa yF28_1 ?_
 refine s_ld1 yA9 ?_
 obtain ⟨v4, hv4, hF4⟩ := bind_some' hF3
 refine s_pure [] (m_impl_NameValid_ok fu _ _ hv4) ?_
 refine s_mv ?_
 refine w_guard _ 29 hF4 ?_ ?_ <;> intro hc5 hF5
 refine s_fa yF28_2 ?_
 refine s_ld1 yA3 ?_
 refine s_eq ?_
 refine s_pkt ?_
 refine s_mv ?_
 refine w_guard _ 34 hF5 ?_ ?_ <;> intro hc6 hF6
 refine s_fa yF28_3 ?_
 refine s_ld1 yA25 ?_
 obtain ⟨v7, hv7, hF7⟩ := bind_some' hF6
 refine s_pure [] (m_impl_scopesOk_ok fu _ _ hv7) ?_
 refine s_pkt ?_
 refine s_mv ?_
 refine w_guard _ 39 hF7 ?_ ?_ <;> intro hc8 hF8
 refine s_fa yF28_4 ?_
 refine s_ld1 yA26 ?_
 refine s_lenT yU26 ?_
 refine s_eq ?_
 refine s_pkt ?_
 refine s_as ?_
 refine k_nil (k_seq (awp_ret (k_blk_ret (k_seq_ret (k_fin ?_)))))
 cases hF8
 exact ends_a _ [] Tryd.results39
 iterate 4 refine r_no rfl ?_
 refine s_pkf ?_
 refine s_as ?_
 refine k_nil (k_seq (awp_ret (k_blk_ret (k_seq_ret (k_fin ?_)))))
 cases hF8
 exact ends_a _ [] Tryd.results39
 iterate 3 refine r_no rfl ?_
 refine s_pkf ?_
 refine s_mv ?_
 iterate 4 refine r_no rfl ?_
 refine s_pkf ?_
 refine s_as ?_
 refine k_nil (k_seq (awp_ret (k_blk_ret (k_seq_ret (k_fin ?_)))))
 cases hF6
 exact ends_a _ [] Tryd.results39
 iterate 3 refine r_no rfl ?_
 refine s_pkf ?_
 refine s_mv ?_
 iterate 3 refine r_no rfl ?_
 refine s_pkf ?_
 refine s_mv ?_
 iterate 4 refine r_no rfl ?_
 refine s_pkf ?_
 refine s_as ?_
 refine k_nil (k_seq (awp_ret (k_blk_ret (k_seq_ret (k_fin ?_)))))
 cases hF5
 exact ends_a _ [] Tryd.results39
 refine awp_seq (awp_region ?_)
 refine s_eq ?_
 refine s_as ?_
 refine k_nil (k_seq ?_)
 refine w_cond hF3 ?_ ?_ <;> intro hc9 hF4
 refine awp_seq (awp_region ?_)
 refine s_fa yF28_1 ?_
 refine s_ld1 yA9 ?_
 refine s_eqS ?_
 refine s_mv ?_
 refine w_guard _ 50 hF4 ?_ ?_ <;> intro hc10 hF5
 refine s_fa yF28_2 ?_
 refine s_ld1 yA3 ?_
 obtain ⟨v11, hv11, hF6⟩ := bind_some' hF5
 refine s_pure [] (m_impl_within_ok fu _ _ _ _ hv11) ?_
 refine s_pkt ?_
 refine s_mv ?_
 refine w_guard _ 55 hF6 ?_ ?_ <;> intro hc12 hF7
 refine s_fa yF28_3 ?_
 refine s_ld1 yA25 ?_
 refine s_lenT yU25 ?_
 refine s_eq ?_
 refine s_pkt ?_
 refine s_mv ?_
 refine w_guard _ 61 hF7 ?_ ?_ <;> intro hc13 hF8
 refine s_fa yF28_4 ?_
 refine s_ld1 yA26 ?_
 refine s_lenT yU26 ?_
 refine s_eq ?_
 refine s_pkt ?_
 refine s_as ?_
 refine k_nil (k_seq (awp_ret (k_blk_ret (k_seq_ret (k_fin ?_)))))
 cases hF8
 exact ends_a _ [] Tryd.results39
 iterate 4 refine r_no rfl ?_
 refine s_pkf ?_
 refine s_as ?_
 refine k_nil (k_seq (awp_ret (k_blk_ret (k_seq_ret (k_fin ?_)))))
 cases hF8
 exact ends_a _ [] Tryd.results39
 iterate 4 refine r_no rfl ?_
 refine s_pkf ?_
 refine s_mv ?_
 iterate 4 refine r_no rfl ?_
 refine s_pkf ?_
 refine s_as ?_
 refine k_nil (k_seq (awp_ret (k_blk_ret (k_seq_ret (k_fin ?_)))))
 cases hF7
 exact ends_a _ [] Tryd.results39
 iterate 3 refine r_no rfl ?_
 refine s_pkf ?_
 refine s_mv ?_
 iterate 4 refine r_no rfl ?_
 refine s_pkf ?_
 refine s_mv ?_
 iterate 4 refine r_no rfl ?_
 refine s_pkf ?_
 refine s_as ?_
 refine k_nil (k_seq (awp_ret (k_blk_ret (k_seq_ret (k_fin ?_)))))
 cases hF5
 exact ends_a _ [] Tryd.results39
 refine awp_seq (awp_region ?_)
 refine s_eq ?_
 refine s_as ?_
 refine k_nil (k_seq ?_)
 refine w_cond hF4 ?_ ?_ <;> intro hc14 hF5
 refine awp_seq (awp_seq (awp_region ?_))
 refine s_fa yF28_1 ?_
 refine s_ld1 yA9 ?_
 refine s_neS ?_
 refine s_mv ?_
 refine w_guard _ 72 hF5 ?_ ?_ <;> intro hc15 hF6
 iterate 3 refine r_no rfl ?_
 refine s_pkt ?_
 refine s_mv ?_
 iterate 4 refine r_no rfl ?_
 refine s_pkt ?_
 refine k_nil (k_seq (awp_true rfl (awp_seq (awp_region ?_))))
 refine s_as ?_
 refine k_nil (k_seq (awp_ret (k_seq_ret (k_blk_ret (k_seq_ret (k_fin ?_))))))
 cases hF6
 exact ends_a _ [] Tryd.results39
 refine s_fa yF28_2 ?_
 refine s_ld1 yA3 ?_
 refine s_ne ?_
 refine s_pkf ?_
 refine s_mv ?_
 refine w_guard _ 77 hF6 ?_ ?_ <;> intro hc16 hF7
 iterate 4 refine r_no rfl ?_
 refine s_pkt ?_
 refine k_nil (k_seq (awp_true rfl (awp_seq (awp_region ?_))))
 refine s_as ?_
 refine k_nil (k_seq (awp_ret (k_seq_ret (k_blk_ret (k_seq_ret (k_fin ?_))))))
 cases hF7
 exact ends_a _ [] Tryd.results39
 refine s_fa yF28_3 ?_
 refine s_ld1 yA25 ?_
 refine s_lenT yU25 ?_
 refine s_gt ?_
 refine s_pkf ?_
 refine k_nil (k_seq ?_)
 refine w_cond hF7 ?_ ?_ <;> intro hc17 hF8
 refine awp_lenT 79 (fun hb18 => ?_)
 refine awp_seq (awp_region ?_)
 refine s_as ?_
 refine k_nil (k_seq (awp_ret (k_seq_ret (k_blk_ret (k_seq_ret (k_fin ?_))))))
 cases hF8
 exact ends_a _ [] Tryd.results39
 refine awp_skip (k_seq (awp_seq (awp_seq (awp_region ?_))))
 refine s_fa yF28_4 ?_
 refine s_ld1 yA26 ?_
 refine s_lenT yU26 ?_
 refine s_mv ?_
 refine k_nil (k_seq (awp_block ?_))
 refine awp_fr (β := Int × Int) [6, 8, 86, 87, 88, 89, 90, 91, 92, 93, 94, 95, 96] [9000] [8] (fun a => [(86, .t (.sc (.int .i64 a.2.1)))]) (fun a => [(9000, .box [.t (.sc (.int .i64 a.2.2))])]) (fun a => a.1 ≤ fu ∧ m_impl_formOk_l1 a.1 x1 x2 a.2.1 a.2.2 = some r ∧ 0 ≤ a.2.1) (fu, 0, (w64 (o1 - 1))) ⟨Nat.le_refl _, hF8, by simp⟩ ?_
 clear hF8
 rintro ⟨fu, g19, g20⟩ ⟨hl21, hF9, hn_g19⟩
 dsimp only at hl21 hF9 hn_g19 ⊢
 obtain _ | fu := fu
 · rw [m_impl_formOk_l1] at hF9; cases hF9
 rw [m_impl_formOk_l1] at hF9
 refine awp_seq (awp_region ?_)
 refine s_lt ?_
 refine k_nil (k_seq (awp_seq ?_))
 refine w_cond hF9 ?_ ?_ <;> intro hc22 hF10
 refine awp_lenT 84 (fun hb23 => ?_)
 refine awp_skip (k_seq (awp_seq (awp_block (awp_seq (awp_region ?_)))))
 obtain ⟨v24, hv24, hF11⟩ := bind_some' hF10
 refine s_ixT Form.row hv24 (Form.row_eq _) yE26 ?_
 refine s_ldN yA28 yS28 ?_
 refine s_alloc yZ28 ?_
 refine s_stW yS28 ?_
 refine k_nil (k_seq (awp_seq (awp_region ?_)))
 refine s_ldW yA28 yS28 ?_
 refine s_mv ?_
 refine s_add rfl ?_
 refine s_mv ?_
 obtain ⟨v25, hv25, hF12⟩ := bind_some' hF11
 refine s_call [(9000, 9000)] [] _ _ (ih_m_impl_formOk fu (by omega) _ _ _ _ hv25) ?_
 refine s_not ?_
 refine k_nil (k_seq ?_)
 refine w_cond hF12 ?_ ?_ <;> intro hc26 hF13
 refine awp_seq (awp_region ?_)
 refine s_as ?_
 refine k_nil (k_seq (awp_ret (k_blk_ret (k_seq_ret (k_rnd_ret2 (k_blk_ret (k_seq_ret (k_blk_ret (k_seq_ret (k_fin ?_))))))))))
 cases hF13
 exact ends_a _ [] Tryd.results39
 refine awp_skip (k_blk (k_seq (awp_region ?_)))
 refine s_add (winc2 hc22 hb23 hn_g19) ?_
 refine s_mv ?_
 refine k_nil ?_
 exact s_rn (fu, (g19 + 1), v25.2) ⟨by first | omega | (dsimp only; omega), hF13, by first | omega | (dsimp only; omega)⟩
 refine awp_exit (k_seq_exit (k_rnd_exit2 (k_blk_exit (k_seq (awp_seq (awp_region ?_))))))
 refine s_as ?_
 refine k_nil (k_seq (awp_ret (k_blk_ret (k_seq_ret (k_fin ?_)))))
 cases hF10
 exact ends_a _ [] Tryd.results39
 refine awp_skip (k_blk (k_seq (awp_seq (awp_region ?_))))
 refine s_as ?_
 refine k_nil (k_seq (awp_ret (k_fin ?_)))
 cases hF5
 exact ends_a _ [] Tryd.results39
theorem m_impl_formOk_all (fuel : Nat) : m_impl_formOk_AC fuel := by
 induction fuel using Nat.strongRecOn with
 | _ N ih =>
   cases N with
   | zero => exact (by intro x1 x2 o1 r h; rw [m_impl_formOk] at h; cases h)
   | succ fu => exact m_impl_formOk_st fu (fun k hk => (ih k (by omega)))
theorem m_impl_formOk_ok (fuel : Nat) : m_impl_formOk_AC fuel := (m_impl_formOk_all fuel)
def m_impl_FormValid_AC (fuel : Nat) : Prop := ∀ (x1 : Form) (r : Bool), m_impl_FormValid fuel x1 = some r → AC Tryd.prog 20 [.ag [.t (.sc (.int .i64 x1.kind)), .t (.sc (.str x1.name)), .t (.sc (.int .i64 x1.n)), .t (.sl (x1.scopes.map rI)), .t (.sl (x1.kids.map Form.row))]] noOb (.t (.sc (.bool r))) noOb
theorem m_impl_FormValid_ok (fuel : Nat) : m_impl_FormValid_AC fuel := by
 intro x1 r hF0
 unfold m_impl_FormValid at hF0
 refine AC_i [.t (.sc (.bool r))] Tryd.func20 rfl Tryd.ntmps20 ?_
 intro C hC
 refine awp_seq (awp_region ?_)
 refine s_box ?_
 refine s_as ?_
 refine k_nil (k_seq (awp_seq (awp_region ?_)))
 refine s_alloc yZ3 ?_
 refine s_stW yS3 ?_
 refine k_nil (k_seq (awp_seq (awp_region ?_)))
 refine s_ldW yA28 yS28 ?_
 obtain ⟨v1, hv1, hF1⟩ := bind_some' hF0
 refine s_call [(9000, 3)] [] _ _ (m_impl_formOk_ok fuel _ _ _ _ hv1) ?_
 refine s_as ?_
 refine k_nil (k_seq (awp_ret (k_fin ?_)))
 cases hF1
 exact ends_a [] [] Tryd.results20
def m_impl_ParseForm_AC (fuel : Nat) : Prop := ∀ (x1 : ByteArray) (r : (Form × Bool)), m_impl_ParseForm fuel x1 = some r → AC Tryd.prog 7 [.t (.sc (.str x1))] noOb (.tp [.ag [.t (.sc (.int .i64 r.1.kind)), .t (.sc (.str r.1.name)), .t (.sc (.int .i64 r.1.n)), .t (.sl (r.1.scopes.map rI)), .t (.sl (r.1.kids.map Form.row))], .t (.sc (.bool r.2))]) noOb
theorem m_impl_ParseForm_ok (fuel : Nat) : m_impl_ParseForm_AC fuel := by
 intro x1 r hF0
 unfold m_impl_ParseForm at hF0
 refine AC_i [.ag [.t (.sc (.int .i64 r.1.kind)), .t (.sc (.str r.1.name)), .t (.sc (.int .i64 r.1.n)), .t (.sl (r.1.scopes.map rI)), .t (.sl (r.1.kids.map Form.row))], .t (.sc (.bool r.2))] Tryd.func7 rfl Tryd.ntmps7 ?_
 intro C hC
 refine awp_seq (awp_region ?_)
 refine s_alloc yZ28 ?_
 refine s_as ?_
 refine k_nil (k_seq (awp_seq (awp_region ?_)))
 refine s_mv ?_
 refine s_bld yZ43 yL43 ?_
 refine s_box ?_
 refine s_as ?_
 refine k_nil (k_seq (awp_seq (awp_region ?_)))
 refine s_mv ?_
 obtain ⟨v1, hv1, hF1⟩ := bind_some' hF0
 refine s_call [(9000, 9)] [] _ _ (m_impl_scan_form_ok fuel _ _ _ hv1) ?_
 refine s_mv ?_
 refine s_ext ?_
 refine s_ext ?_
 refine s_alloc yZ28 ?_
 refine s_stW yS28 ?_
 refine s_as ?_
 refine k_nil (k_seq (awp_seq (awp_region ?_)))
 refine s_mv ?_
 obtain ⟨v2, hv2, hF2⟩ := bind_some' hF1
 refine s_call [(9000, 9)] [] _ _ (m_impl_scan_blanks_ok fuel _ _ hv2) ?_
 refine k_nil (k_seq (awp_seq (awp_seq (awp_region ?_))))
 refine s_mv ?_
 refine s_nc ?_
 refine s_fa yF43_1 ?_
 refine s_ld1 yA4 ?_
 refine s_mv ?_
 refine w_guard _ 21 hF2 ?_ ?_ <;> intro hc3 hF3
 iterate 5 refine r_no rfl ?_
 refine s_pkt ?_
 refine s_mv ?_
 iterate 3 refine r_no rfl ?_
 refine s_pkt ?_
 refine k_nil (k_seq (awp_true rfl (awp_seq (awp_region ?_))))
 refine s_bld yZ28 yL28 ?_
 refine s_stW yS28 ?_
 refine s_as ?_
 refine k_nil (k_seq (awp_ret (k_seq_ret (k_fin ?_))))
 cases hF3
 exact ends_gen [] [] (by rw [Tryd.results7]; exact (res_agg (by conv => lhs; whnf) (by conv => lhs; whnf) yA28 yS28 rfl (res_tmp (by conv => lhs; whnf) res_nil)))
 refine s_mv ?_
 refine s_nc ?_
 refine s_fa yF43_0 ?_
 refine s_ld1 yA9 ?_
 refine s_neS ?_
 refine s_pkf ?_
 refine s_mv ?_
 refine w_guard _ 28 hF3 ?_ ?_ <;> intro hc4 hF4
 iterate 3 refine r_no rfl ?_
 refine s_pkt ?_
 refine k_nil (k_seq (awp_true rfl (awp_seq (awp_region ?_))))
 refine s_bld yZ28 yL28 ?_
 refine s_stW yS28 ?_
 refine s_as ?_
 refine k_nil (k_seq (awp_ret (k_seq_ret (k_fin ?_))))
 cases hF4
 exact ends_gen [] [] (by rw [Tryd.results7]; exact (res_agg (by conv => lhs; whnf) (by conv => lhs; whnf) yA28 yS28 rfl (res_tmp (by conv => lhs; whnf) res_nil)))
 refine s_ldW yA28 yS28 ?_
 obtain ⟨v5, hv5, hF5⟩ := bind_some' hF4
 refine s_pure [] (m_impl_FormValid_ok fuel _ _ hv5) ?_
 refine s_not ?_
 refine s_pkf ?_
 refine k_nil (k_seq ?_)
 refine w_cond hF5 ?_ ?_ <;> intro hc6 hF6
 refine awp_seq (awp_region ?_)
 refine s_bld yZ28 yL28 ?_
 refine s_stW yS28 ?_
 refine s_as ?_
 refine k_nil (k_seq (awp_ret (k_seq_ret (k_fin ?_))))
 cases hF6
 exact ends_gen [] [] (by rw [Tryd.results7]; exact (res_agg (by conv => lhs; whnf) (by conv => lhs; whnf) yA28 yS28 rfl (res_tmp (by conv => lhs; whnf) res_nil)))
 refine awp_skip (k_seq (awp_seq (awp_region ?_)))
 refine s_ldW yA28 yS28 ?_
 refine s_stW yS28 ?_
 refine s_as ?_
 refine k_nil (k_seq (awp_ret (k_fin ?_)))
 cases hF6
 exact ends_gen [] [] (by rw [Tryd.results7]; exact (res_agg (by conv => lhs; whnf) (by conv => lhs; whnf) yA28 yS28 rfl (res_tmp (by conv => lhs; whnf) res_nil)))
def m_spec_l1Letter_AC (fuel : Nat) : Prop := ∀ (x1 : Int) (x2 : Bool) (r : Bool), m_spec_l1Letter fuel x1 x2 = some r → AC Tryd.prog 21 [.t (.sc (.int .u8 x1)), .t (.sc (.bool x2))] noOb (.t (.sc (.bool r))) noOb
theorem m_spec_l1Letter_ok (fuel : Nat) : m_spec_l1Letter_AC fuel := by
 intro x1 x2 r hF0
 unfold m_spec_l1Letter at hF0
 refine AC_i [.t (.sc (.bool r))] Tryd.func21 rfl Tryd.ntmps21 ?_
 intro C hC
 refine awp_seq (awp_region ?_)
 refine s_as ?_
 refine k_nil (k_seq (awp_seq (awp_seq (awp_region ?_))))
 refine s_mv ?_
 refine s_ge ?_
 refine s_mv ?_
 refine w_guard _ 7 hF0 ?_ ?_ <;> intro hc1 hF1
 refine s_mv ?_
 refine s_le ?_
 refine s_pkt ?_
 refine s_mv ?_
 refine w_guard _ 11 hF1 ?_ ?_ <;> intro hc2 hF2
 refine r_no rfl (r_no rfl ?_)
 refine s_pkt ?_
 refine s_mv ?_
 refine r_no rfl (r_no rfl ?_)
 refine s_pkt ?_
 refine s_mv ?_
 refine r_no rfl (r_no rfl ?_)
 refine s_pkt ?_
 refine s_mv ?_
 refine r_no rfl (r_no rfl ?_)
 refine s_pkt ?_
 refine s_mv ?_
 refine r_no rfl (r_no rfl ?_)
 refine s_pkt ?_
 refine k_nil (k_seq (awp_true rfl (awp_seq (awp_region ?_))))
 refine s_as ?_
 refine k_nil (k_seq (awp_ret (k_seq_ret (k_fin ?_))))
 cases hF2
 exact ends_a [] [] Tryd.results21
 refine s_mv ?_
 refine s_eq ?_
 refine s_pkf ?_
 refine s_mv ?_
 refine w_guard _ 15 hF2 ?_ ?_ <;> intro hc3 hF3
 refine r_no rfl (r_no rfl ?_)
 refine s_pkt ?_
 refine s_mv ?_
 refine r_no rfl (r_no rfl ?_)
 refine s_pkt ?_
 refine s_mv ?_
 refine r_no rfl (r_no rfl ?_)
 refine s_pkt ?_
 refine s_mv ?_
 refine r_no rfl (r_no rfl ?_)
 refine s_pkt ?_
 refine k_nil (k_seq (awp_true rfl (awp_seq (awp_region ?_))))
 refine s_as ?_
 refine k_nil (k_seq (awp_ret (k_seq_ret (k_fin ?_))))
 cases hF3
 exact ends_a [] [] Tryd.results21
 refine s_mv ?_
 refine s_eq ?_
 refine s_pkf ?_
 refine s_mv ?_
 refine w_guard _ 19 hF3 ?_ ?_ <;> intro hc4 hF4
 refine r_no rfl (r_no rfl ?_)
 refine s_pkt ?_
 refine s_mv ?_
 refine r_no rfl (r_no rfl ?_)
 refine s_pkt ?_
 refine s_mv ?_
 refine r_no rfl (r_no rfl ?_)
 refine s_pkt ?_
 refine k_nil (k_seq (awp_true rfl (awp_seq (awp_region ?_))))
 refine s_as ?_
 refine k_nil (k_seq (awp_ret (k_seq_ret (k_fin ?_))))
 cases hF4
 exact ends_a [] [] Tryd.results21
 refine s_mv ?_
 refine s_eq ?_
 refine s_pkf ?_
 refine s_mv ?_
 refine w_guard _ 23 hF4 ?_ ?_ <;> intro hc5 hF5
 refine r_no rfl (r_no rfl ?_)
 refine s_pkt ?_
 refine s_mv ?_
 refine r_no rfl (r_no rfl ?_)
 refine s_pkt ?_
 refine k_nil (k_seq (awp_true rfl (awp_seq (awp_region ?_))))
 refine s_as ?_
 refine k_nil (k_seq (awp_ret (k_seq_ret (k_fin ?_))))
 cases hF5
 exact ends_a [] [] Tryd.results21
 refine s_mv ?_
 refine s_eq ?_
 refine s_pkf ?_
 refine s_mv ?_
 refine w_guard _ 27 hF5 ?_ ?_ <;> intro hc6 hF6
 refine r_no rfl (r_no rfl ?_)
 refine s_pkt ?_
 refine k_nil (k_seq (awp_true rfl (awp_seq (awp_region ?_))))
 refine s_as ?_
 refine k_nil (k_seq (awp_ret (k_seq_ret (k_fin ?_))))
 cases hF6
 exact ends_a [] [] Tryd.results21
 refine s_mv ?_
 refine s_eq ?_
 refine s_pkf ?_
 refine k_nil (k_seq ?_)
 refine w_cond hF6 ?_ ?_ <;> intro hc7 hF7
 refine awp_seq (awp_region ?_)
 refine s_as ?_
 refine k_nil (k_seq (awp_ret (k_seq_ret (k_fin ?_))))
 cases hF7
 exact ends_a [] [] Tryd.results21
 refine awp_skip (k_seq (awp_seq (awp_region ?_)))
 refine s_mv ?_
 refine s_not ?_
 refine s_mv ?_
 refine w_guard _ 33 hF7 ?_ ?_ <;> intro hc8 hF8
 refine s_mv ?_
 refine s_ge ?_
 refine s_mv ?_
 refine w_guard _ 36 hF8 ?_ ?_ <;> intro hc9 hF9
 refine s_mv ?_
 refine s_le ?_
 refine s_pkt ?_
 refine s_mv ?_
 refine w_guard _ 40 hF9 ?_ ?_ <;> intro hc10 hF10
 refine r_no rfl (r_no rfl ?_)
 refine s_pkt ?_
 refine s_pkt ?_
 refine s_as ?_
 refine k_nil (k_seq (awp_ret (k_fin ?_)))
 cases hF10
 exact ends_a [] [] Tryd.results21
 refine s_mv ?_
 refine s_eq ?_
 refine s_pkf ?_
 refine s_pkt ?_
 refine s_as ?_
 refine k_nil (k_seq (awp_ret (k_fin ?_)))
 cases hF10
 exact ends_a [] [] Tryd.results21
 refine r_no rfl (r_no rfl ?_)
 refine s_pkf ?_
 refine s_mv ?_
 refine s_mv ?_
 refine s_eq ?_
 refine s_pkf ?_
 refine s_pkt ?_
 refine s_as ?_
 refine k_nil (k_seq (awp_ret (k_fin ?_)))
 cases hF9
 exact ends_a [] [] Tryd.results21
 iterate 10 refine r_no rfl ?_
 refine s_pkf ?_
 refine s_as ?_
 refine k_nil (k_seq (awp_ret (k_fin ?_)))
 cases hF8
 exact ends_a [] [] Tryd.results21
 refine r_no rfl (r_no rfl ?_)
 refine s_pkf ?_
 refine s_mv ?_
 refine s_mv ?_
 refine s_eq ?_
 refine s_pkf ?_
 refine s_mv ?_
 refine w_guard _ 15 hF1 ?_ ?_ <;> intro hc11 hF2
 refine r_no rfl (r_no rfl ?_)
 refine s_pkt ?_
 refine s_mv ?_
 refine r_no rfl (r_no rfl ?_)
 refine s_pkt ?_
 refine s_mv ?_
 refine r_no rfl (r_no rfl ?_)
 refine s_pkt ?_
 refine s_mv ?_
 refine r_no rfl (r_no rfl ?_)
 refine s_pkt ?_
 refine k_nil (k_seq (awp_true rfl (awp_seq (awp_region ?_))))
 refine s_as ?_
 refine k_nil (k_seq (awp_ret (k_seq_ret (k_fin ?_))))
 cases hF2
 exact ends_a [] [] Tryd.results21
 refine s_mv ?_
 refine s_eq ?_
 refine s_pkf ?_
 refine s_mv ?_
 refine w_guard _ 19 hF2 ?_ ?_ <;> intro hc12 hF3
 refine r_no rfl (r_no rfl ?_)
 refine s_pkt ?_
 refine s_mv ?_
 refine r_no rfl (r_no rfl ?_)
 refine s_pkt ?_
 refine s_mv ?_
 refine r_no rfl (r_no rfl ?_)
 refine s_pkt ?_
 refine k_nil (k_seq (awp_true rfl (awp_seq (awp_region ?_))))
 refine s_as ?_
 refine k_nil (k_seq (awp_ret (k_seq_ret (k_fin ?_))))
 cases hF3
 exact ends_a [] [] Tryd.results21
 refine s_mv ?_
 refine s_eq ?_
 refine s_pkf ?_
 refine s_mv ?_
 refine w_guard _ 23 hF3 ?_ ?_ <;> intro hc13 hF4
 refine r_no rfl (r_no rfl ?_)
 refine s_pkt ?_
 refine s_mv ?_
 refine r_no rfl (r_no rfl ?_)
 refine s_pkt ?_
 refine k_nil (k_seq (awp_true rfl (awp_seq (awp_region ?_))))
 refine s_as ?_
 refine k_nil (k_seq (awp_ret (k_seq_ret (k_fin ?_))))
 cases hF4
 exact ends_a [] [] Tryd.results21
 refine s_mv ?_
 refine s_eq ?_
 refine s_pkf ?_
 refine s_mv ?_
 refine w_guard _ 27 hF4 ?_ ?_ <;> intro hc14 hF5
 refine r_no rfl (r_no rfl ?_)
 refine s_pkt ?_
 refine k_nil (k_seq (awp_true rfl (awp_seq (awp_region ?_))))
 refine s_as ?_
 refine k_nil (k_seq (awp_ret (k_seq_ret (k_fin ?_))))
 cases hF5
 exact ends_a [] [] Tryd.results21
 refine s_mv ?_
 refine s_eq ?_
 refine s_pkf ?_
 refine k_nil (k_seq ?_)
 refine w_cond hF5 ?_ ?_ <;> intro hc15 hF6
 refine awp_seq (awp_region ?_)
 refine s_as ?_
 refine k_nil (k_seq (awp_ret (k_seq_ret (k_fin ?_))))
 cases hF6
 exact ends_a [] [] Tryd.results21
 refine awp_skip (k_seq (awp_seq (awp_region ?_)))
 refine s_mv ?_
 refine s_not ?_
 refine s_mv ?_
 refine w_guard _ 33 hF6 ?_ ?_ <;> intro hc16 hF7
 refine s_mv ?_
 refine s_ge ?_
 refine s_mv ?_
 refine w_guard _ 36 hF7 ?_ ?_ <;> intro hc17 hF8
 refine s_mv ?_
 refine s_le ?_
 refine s_pkt ?_
 refine s_mv ?_
 refine w_guard _ 40 hF8 ?_ ?_ <;> intro hc18 hF9
 refine r_no rfl (r_no rfl ?_)
 refine s_pkt ?_
 refine s_pkt ?_
 refine s_as ?_
 refine k_nil (k_seq (awp_ret (k_fin ?_)))
 cases hF9
 exact ends_a [] [] Tryd.results21
 refine s_mv ?_
 refine s_eq ?_
 refine s_pkf ?_
 refine s_pkt ?_
 refine s_as ?_
 refine k_nil (k_seq (awp_ret (k_fin ?_)))
 cases hF9
 exact ends_a [] [] Tryd.results21
 refine r_no rfl (r_no rfl ?_)
 refine s_pkf ?_
 refine s_mv ?_
 refine s_mv ?_
 refine s_eq ?_
 refine s_pkf ?_
 refine s_pkt ?_
 refine s_as ?_
 refine k_nil (k_seq (awp_ret (k_fin ?_)))
 cases hF8
 exact ends_a [] [] Tryd.results21
 iterate 10 refine r_no rfl ?_
 refine s_pkf ?_
 refine s_as ?_
 refine k_nil (k_seq (awp_ret (k_fin ?_)))
 cases hF7
 exact ends_a [] [] Tryd.results21
end Go.Abs
