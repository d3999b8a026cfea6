/- A part of the proof: what the functions that the law calls answer, as pure values. -/
import Derived.Test.YtidbdmpbcpanjaaGreatDoorK10a31c29eeb6
import Derived.Test.YtidbdmpbcpanjaaGreatDoorK3aa03bdccf4b
import Derived.Test.YtidbdmpbcpanjaaGreatDoorK48591414590f
import Derived.Test.YtidbdmpbcpanjaaGreatDoorK5189e2bb4b1a
import Derived.Test.YtidbdmpbcpanjaaGreatDoorK9741f5a7a172
import Derived.Test.YtidbdmpbcpanjaaGreatDoorKbc1d9005afa6
import Derived.Test.YtidbdmpbcpanjaaGreatDoorKcff3435a29be
set_option linter.unusedSimpArgs false
set_option linter.unusedVariables false
set_option maxRecDepth 100000
set_option maxHeartbeats 4000000
namespace Go.Abs
open Go.Proofs
def m_spec_l1Atom_AC (fuel : Nat) : Prop := ∀ (x1 : ByteArray) (x2 : Int) (r : (Form × Int)), m_spec_l1Atom fuel x1 x2 = some r → AC Tryz.prog 50 [.t (.sc (.str x1)), .t (.sc (.int .i64 x2))] noOb (.tp [.ag [.t (.sc (.int .i64 r.1.kind)), .t (.sc (.str r.1.name)), .t (.sc (.int .i64 r.1.n)), .t (.sl (r.1.scopes.map rI)), .t (.sl (r.1.kids.map Form.row))], .t (.sc (.int .i64 r.2))]) noOb
theorem m_spec_l1Atom_ok (fuel : Nat) : m_spec_l1Atom_AC fuel := by
 intro x1 x2 r hF0
 unfold m_spec_l1Atom at hF0
 refine AC_i [.ag [.t (.sc (.int .i64 r.1.kind)), .t (.sc (.str r.1.name)), .t (.sc (.int .i64 r.1.n)), .t (.sl (r.1.scopes.map rI)), .t (.sl (r.1.kids.map Form.row))], .t (.sc (.int .i64 r.2))] Tryz.func50 rfl Tryz.ntmps50 ?_
 intro C hC
 refine awp_seq (awp_region ?_)
 refine s_alloc yZ26 ?_
 refine s_as ?_
 refine k_nil (k_seq (awp_seq (awp_region ?_)))
 refine s_mv ?_
 refine s_mv ?_
 obtain ⟨v1, hv1, hF1⟩ := bind_some' hF0
 refine s_pure [] (m_spec_l1Word_ok fuel _ _ _ hv1) ?_
 refine s_as ?_
 refine k_nil (k_seq (awp_seq (awp_region ?_)))
 iterate 3 refine s_mv ?_
 obtain ⟨v2, hv2, hF2⟩ := bind_some' hF1
 refine s_ss11 hv2 yU9 ?_
 refine s_as ?_
 refine k_nil (k_seq (awp_seq (awp_region ?_)))
 refine s_mv ?_
 obtain ⟨v3, hv3, hF3⟩ := bind_some' hF2
 refine s_pure [] (m_spec_l15Num_ok fuel _ _ hv3) ?_
 refine s_mv ?_
 refine s_ext ?_
 refine s_ext ?_
 refine s_as ?_
 refine s_as ?_
 refine k_nil (k_seq (awp_seq (awp_seq (awp_region ?_))))
 refine s_mv ?_
 refine k_nil (k_seq ?_)
 refine w_cond hF3 ?_ ?_ <;> intro hc4 hF4
 refine awp_seq (awp_region ?_)
 refine s_mv ?_
 refine s_bld yZ26 yL26 ?_
 refine s_mv ?_
 refine s_stW yS26 ?_
 refine s_as ?_
 refine k_nil (k_seq (awp_ret (k_seq_ret (k_fin ?_))))
 cases hF4
 exact ends_gen [] [] (by rw [Tryz.results50]; exact (res_agg (by conv => lhs; whnf) (by conv => lhs; whnf) yA26 yS26 rfl (res_tmp (by conv => lhs; whnf) res_nil)))
 refine awp_skip (k_seq (awp_seq (awp_seq (awp_region ?_))))
 refine s_mv ?_
 refine s_eqS ?_
 refine k_nil (k_seq ?_)
 refine w_cond hF4 ?_ ?_ <;> intro hc5 hF5
 refine awp_seq (awp_region ?_)
 refine s_bld yZ26 yL26 ?_
 refine s_stW yS26 ?_
 refine s_as ?_
 refine k_nil (k_seq (awp_ret (k_seq_ret (k_fin ?_))))
 cases hF5
 exact ends_gen [] [] (by rw [Tryz.results50]; exact (res_agg (by conv => lhs; whnf) (by conv => lhs; whnf) yA26 yS26 rfl (res_tmp (by conv => lhs; whnf) res_nil)))
 refine awp_skip (k_seq (awp_seq (awp_region ?_)))
 refine s_mv ?_
 refine s_mv ?_
 obtain ⟨v6, hv6, hF6⟩ := bind_some' hF5
 refine s_pure [] (m_spec_l1Sets_ok fuel _ _ _ hv6) ?_
 refine s_mv ?_
 refine s_ext ?_
 refine s_ext ?_
 refine s_as ?_
 refine s_as ?_
 refine k_nil (k_seq (awp_seq (awp_region ?_)))
 refine s_mv ?_
 refine s_mv ?_
 refine s_bld yZ26 yL26 ?_
 refine s_mv ?_
 refine s_stW yS26 ?_
 refine s_as ?_
 refine k_nil (k_seq (awp_ret (k_fin ?_)))
 cases hF6
 exact ends_gen [] [] (by rw [Tryz.results50]; exact (res_agg (by conv => lhs; whnf) (by conv => lhs; whnf) yA26 yS26 rfl (res_tmp (by conv => lhs; whnf) res_nil)))
def m_spec_l1Read_AC (fuel : Nat) : Prop := ∀ (x1 : ByteArray) (x2 : Int) (x3 : Int) (r : (Form × Int)), m_spec_l1Read fuel x1 x2 x3 = some r → AC Tryz.prog 28 [.t (.sc (.str x1)), .t (.sc (.int .i64 x2)), .t (.sc (.int .i64 x3))] noOb (.tp [.ag [.t (.sc (.int .i64 r.1.kind)), .t (.sc (.str r.1.name)), .t (.sc (.int .i64 r.1.n)), .t (.sl (r.1.scopes.map rI)), .t (.sl (r.1.kids.map Form.row))], .t (.sc (.int .i64 r.2))]) noOb
theorem m_spec_l1Read_st (fu : Nat) (ih_m_spec_l1Read : ∀ k, k ≤ fu → m_spec_l1Read_AC k) : m_spec_l1Read_AC (fu + 1) := by
 intro x1 x2 x3 r hF0
 rw [m_spec_l1Read] at hF0
 refine AC_i [.ag [.t (.sc (.int .i64 r.1.kind)), .t (.sc (.str r.1.name)), .t (.sc (.int .i64 r.1.n)), .t (.sl (r.1.scopes.map rI)), .t (.sl (r.1.kids.map Form.row))], .t (.sc (.int .i64 r.2))] Tryz.func28 rfl Tryz.ntmps28 ?_
 intro C hC
 refine awp_seq (awp_region ?_)
 refine s_alloc yZ26 ?_
 refine s_as ?_
 refine k_nil (k_seq (awp_seq (awp_region ?_)))
 refine s_mv ?_
 refine s_mv ?_
 obtain ⟨v1, hv1, hF1⟩ := bind_some' hF0
 refine s_pure [] (m_spec_l1Skip_ok fu _ _ _ hv1) ?_
 refine s_as ?_
 refine k_nil (k_seq (awp_seq ?_))
 refine awp_jn (α := Nat × Bool) [14, 15, 16, 17, 18, 19, 20, 21] [] [] (fun a => [(21, .t (.sc (.bool a.2)))]) (fun a => []) (fun a => a.1 ≤ fu ∧ m_spec_l1Read_j1 a.1 x1 x3 v1 a.2 = some r) ?_ ?_
 refine awp_region ?_
 refine s_mv ?_
 refine s_mv ?_
 refine s_lenS yU9 ?_
 refine s_ge ?_
 refine s_mv ?_
 refine w_guard _ 18 hF1 ?_ ?_ <;> intro hc2 hF2
 refine r_no rfl (r_no rfl ?_)
 refine s_pkt ?_
 refine k_nil ?_
 exact s_jn (fu, true) ⟨by first | omega | (dsimp only; omega), hF2⟩
 refine s_mv ?_
 refine s_eq ?_
 refine s_pkf ?_
 refine k_nil ?_
 exact s_jn (fu, (decide (x3 = 0))) ⟨by first | omega | (dsimp only; omega), hF2⟩
 clear hF1
 rintro ⟨fu, g3⟩ ⟨hl4, hF2⟩
 dsimp only at hl4 hF2 ⊢
 obtain _ | fu := fu
 · rw [m_spec_l1Read_j1] at hF2; cases hF2
 rw [m_spec_l1Read_j1] at hF2
 refine w_cond hF2 ?_ ?_ <;> intro hc5 hF3
 refine awp_seq (awp_region ?_)
 refine s_bld yZ26 yL26 ?_
 refine s_stW yS26 ?_
 refine s_as ?_
 refine k_nil (k_seq (awp_ret (k_seq_ret (k_fin ?_))))
 cases hF3
 exact ends_gen [] [] (by rw [Tryz.results28]; exact (res_agg (by conv => lhs; whnf) (by conv => lhs; whnf) yA26 yS26 rfl (res_tmp (by conv => lhs; whnf) res_nil)))
 refine awp_skip (k_seq (awp_seq (awp_seq (awp_region ?_))))
 refine s_mv ?_
 refine s_mv ?_
 obtain ⟨v6, hv6, hF4⟩ := bind_some' hF3
 refine s_ixS hv6 yU9 ?_
 refine s_ne ?_
 refine k_nil (k_seq ?_)
 refine w_cond hF4 ?_ ?_ <;> intro hc7 hF5
 refine awp_seq (awp_region ?_)
 refine s_mv ?_
 refine s_mv ?_
 obtain ⟨v8, hv8, hF6⟩ := bind_some' hF5
 refine s_pure [] (m_spec_l1Atom_ok fu _ _ _ hv8) ?_
 refine s_ext ?_
 refine s_ext ?_
 refine s_stW yS26 ?_
 refine s_as ?_
 refine k_nil (k_seq (awp_ret (k_seq_ret (k_fin ?_))))
 cases hF6
 exact ends_gen [] [] (by rw [Tryz.results28]; exact (res_agg (by conv => lhs; whnf) (by conv => lhs; whnf) yA26 yS26 rfl (res_tmp (by conv => lhs; whnf) res_nil)))
 refine awp_skip (k_seq (awp_seq (awp_region ?_)))
 refine s_bld yZ26 yL26 ?_
 refine s_alloc yZ26 ?_
 refine s_stW yS26 ?_
 refine k_nil (k_seq (awp_seq (awp_region ?_)))
 refine s_mv ?_
 refine s_mv ?_
 refine s_add rfl ?_
 obtain ⟨v9, hv9, hF6⟩ := bind_some' hF5
 refine s_pure [] (m_spec_l1Skip_ok fu _ _ _ hv9) ?_
 refine s_as ?_
 refine k_nil (k_seq ?_)
 refine awp_jn (α := Nat × Int × (List Form)) [1, 7, 9, 10, 37, 38, 39, 40, 41, 42, 43, 44, 45, 46, 47, 48, 49, 50, 51, 52, 53, 54, 55, 56, 57, 58, 59, 60, 61, 62, 63, 64, 65, 66, 67, 68, 69, 70, 71, 72] [8, 5060] [] (fun a => [(1, .t (.sc (.int .i64 a.2.1)))]) (fun a => [(8, .box [.t (.sc (.int .i64 3)), .t (.sc (.str (⟨#[]⟩ : ByteArray))), .t (.sc (.int .i64 0)), .nl, .ar 5060]), (5060, .arr (a.2.2.map Form.row) 26 true)]) (fun a => a.1 ≤ fu ∧ m_spec_l1Read_j2 a.1 x1 a.2.1 a.2.2 = some r) ?_ ?_
 refine awp_block ?_
 refine awp_ownB 8 5060 26 [.t (.sc (.int .i64 3)), .t (.sc (.str (⟨#[]⟩ : ByteArray))), .t (.sc (.int .i64 0)), .nl, .ar 5060] yI26.choose_spec ?_
 refine awp_frame2 [1, 7, 9, 10, 37, 38, 39, 40, 41, 42, 43, 44, 45, 46, 47, 48, 49, 50, 51, 52, 53, 54, 55, 56, 57, 58, 59, 60, 61, 62, 63, 64, 65, 66, 67, 68, 69, 70, 71, 72] [8, 5060] [9, 67, 68] [5060] (fun a : Nat × Int × (List Form) => a.1) (fun a : Nat × Int × (List Form) => [(1, .t (.sc (.int .i64 a.2.1)))]) (fun a : Nat × Int × (List Form) => [(8, .box [.t (.sc (.int .i64 3)), .t (.sc (.str (⟨#[]⟩ : ByteArray))), .t (.sc (.int .i64 0)), .nl, .ar 5060]), (5060, .arr (a.2.2.map Form.row) 26 true)]) (fun a : Nat × Int × (List Form) => a.1 ≤ fu ∧ m_spec_l1Read_l3 a.1 x1 x3 a.2.1 a.2.2 = some r) (fu, v9, ([] : List Form)) ⟨Nat.le_refl _, hF6⟩ (by rfl) (by rfl) (fun _ => rfl) (hasF_cons (by conv => lhs; whnf) (by rfl) hasF_nil) (hasO_cons (by conv => lhs; whnf) (by rfl) (hasO_cons (by conv => lhs; whnf) (by rfl) hasO_nil)) (fresh_C hC rfl) (by repeat (first | exact freshS_args rfl | refine freshS_upd rfl ?_ | refine freshS_frame rfl ?_)) (by repeat (first | exact freshM_no | exact objs_fresh rfl | refine freshM_upd rfl ?_ | refine freshM_frame rfl ?_)) ?_
 clear hF6
 rintro ⟨fu, g10, g11⟩ ⟨hl12, hF7⟩
 dsimp only at hl12 hF7 ⊢
 obtain _ | fu := fu
 · rw [m_spec_l1Read_l3] at hF7; cases hF7
 rw [m_spec_l1Read_l3] at hF7
 refine awp_seq ?_
 refine awp_jn (α := Nat × Bool) [37, 38, 39, 40, 41, 42, 43, 44, 45, 46, 47, 48, 49, 50, 51, 52] [] [] (fun a => [(52, .t (.sc (.bool a.2)))]) (fun a => []) (fun a => a.1 ≤ fu ∧ m_spec_l1Read_j4 a.1 x1 x3 g10 g11 a.2 = some r) ?_ ?_
 refine awp_region ?_
 refine s_mv ?_
 refine s_mv ?_
 refine s_lenS yU9 ?_
 refine s_lt ?_
 refine s_mv ?_
 refine w_guard _ 41 hF7 ?_ ?_ <;> intro hc13 hF8
 refine s_mv ?_
 refine s_mv ?_
 obtain ⟨v14, hv14, hF9⟩ := bind_some' hF8
 refine s_ixS hv14 yU9 ?_
 refine s_ne ?_
 refine s_pkt ?_
 refine s_mv ?_
 refine w_guard _ 47 hF9 ?_ ?_ <;> intro hc15 hF10
 refine s_fa yF26_4 ?_
 refine s_ld1 yA24 ?_
 refine s_lenA yU24 ?_
 refine s_lt ?_
 refine s_pkt ?_
 refine k_nil ?_
 exact s_jn (fu, (decide ((g11.length : Int) < 400))) ⟨by first | omega | (dsimp only; omega), hF10⟩
 iterate 4 refine r_no rfl ?_
 refine s_pkf ?_
 refine k_nil ?_
 exact s_jn (fu, false) ⟨by first | omega | (dsimp only; omega), hF10⟩
 iterate 4 refine r_no rfl ?_
 refine s_pkf ?_
 refine s_mv ?_
 iterate 4 refine r_no rfl ?_
 refine s_pkf ?_
 refine k_nil ?_
 exact s_jn (fu, false) ⟨by first | omega | (dsimp only; omega), hF8⟩
 clear hF7
 rintro ⟨fu, g16⟩ ⟨hl17, hF8⟩
 dsimp only at hl17 hF8 ⊢
 obtain _ | fu := fu
 · rw [m_spec_l1Read_j4] at hF8; cases hF8
 rw [m_spec_l1Read_j4] at hF8
 refine w_cond hF8 ?_ ?_ <;> intro hc18 hF9
 refine awp_skip (k_seq (awp_block (awp_seq (awp_region ?_))))
 iterate 3 refine s_mv ?_
 refine s_sub rfl ?_
 obtain ⟨v19, hv19, hF10⟩ := bind_some' hF9
 refine s_pure [] (ih_m_spec_l1Read fu (by omega) _ _ _ _ hv19) ?_
 refine s_mv ?_
 refine s_ext ?_
 refine s_ext ?_
 refine s_alloc yZ26 ?_
 refine s_stW yS26 ?_
 refine s_as ?_
 refine k_nil (k_seq (awp_seq (awp_seq (awp_region ?_))))
 refine s_mv ?_
 refine s_lt ?_
 refine k_nil (k_seq ?_)
 refine w_cond hF10 ?_ ?_ <;> intro hc20 hF11
 refine awp_seq (awp_region ?_)
 refine s_ldW yA26 yS26 ?_
 refine s_stW yS26 ?_
 refine s_as ?_
 refine k_nil (k_seq (awp_ret (k_seq_ret (k_blk_ret (k_rnd_ret2 (k_blk_ret (k_jn_ret (k_fin ?_))))))))
 cases hF11
 exact ends_gen [] [5060] (by rw [Tryz.results28]; exact (res_agg (by conv => lhs; whnf) (by conv => lhs; whnf) yA26 yS26 rfl (res_tmp (by conv => lhs; whnf) res_nil)))
 refine awp_skip (k_seq (awp_seq (awp_region ?_)))
 refine s_fa yF26_4 ?_
 refine s_ld1 yA24 ?_
 refine s_ldW yA26 yS26 ?_
 refine s_bs Form.row [v19.1] yP24 yR26 ?_
 obtain ⟨hk21, hF12⟩ := chk_some hF11
 refine s_apT Form.row (fun y => Form.row_len y) hk21 yP24 ?_
 refine s_fa yF26_4 ?_
 refine s_stP yS24 ?_
 refine k_nil (k_seq (awp_region ?_))
 refine s_mv ?_
 refine s_mv ?_
 obtain ⟨v22, hv22, hF13⟩ := bind_some' hF12
 refine s_pure [] (m_spec_l1Skip_ok fu _ _ _ hv22) ?_
 refine s_as ?_
 refine k_nil (k_blk ?_)
 exact s_rn (fu, v22, (g11 ++ [v19.1])) ⟨by first | omega | (dsimp only; omega), hF13⟩ [(5060, 68)]
 refine awp_exit (k_seq_exit (k_rnd_exit2 (k_blk_exit ?_)))
 exact s_jn (fu, g10, g11) ⟨by first | omega | (dsimp only; omega), hF9⟩
 clear hF6
 rintro ⟨fu, g23, g24⟩ ⟨hl25, hF7⟩
 dsimp only at hl25 hF7 ⊢
 obtain _ | fu := fu
 · rw [m_spec_l1Read_j2] at hF7; cases hF7
 rw [m_spec_l1Read_j2] at hF7
 refine awp_seq ?_
 refine awp_jn (α := Nat × Bool) [73, 74, 75, 76, 77, 78, 79, 80, 81, 82] [] [] (fun a => [(82, .t (.sc (.bool a.2)))]) (fun a => []) (fun a => a.1 ≤ fu ∧ m_spec_l1Read_j5 a.1 g23 g24 a.2 = some r) ?_ ?_
 refine awp_region ?_
 refine s_mv ?_
 refine s_mv ?_
 refine s_lenS yU9 ?_
 refine s_ge ?_
 refine s_mv ?_
 refine w_guard _ 77 hF7 ?_ ?_ <;> intro hc26 hF8
 iterate 4 refine r_no rfl ?_
 refine s_pkt ?_
 refine k_nil ?_
 exact s_jn (fu, true) ⟨by first | omega | (dsimp only; omega), hF8⟩
 refine s_mv ?_
 refine s_mv ?_
 obtain ⟨v27, hv27, hF9⟩ := bind_some' hF8
 refine s_ixS hv27 yU9 ?_
 refine s_ne ?_
 refine s_pkf ?_
 refine k_nil ?_
 exact s_jn (fu, (decide (v27 ≠ 41))) ⟨by first | omega | (dsimp only; omega), hF9⟩
 clear hF7
 rintro ⟨fu, g28⟩ ⟨hl29, hF8⟩
 dsimp only at hl29 hF8 ⊢
 obtain _ | fu := fu
 · rw [m_spec_l1Read_j5] at hF8; cases hF8
 rw [m_spec_l1Read_j5] at hF8
 refine w_cond hF8 ?_ ?_ <;> intro hc30 hF9
 refine awp_seq (awp_region ?_)
 refine s_ldW yA26 yS26 ?_
 refine s_stW yS26 ?_
 refine s_as ?_
 refine k_nil (k_seq (awp_ret (k_seq_ret (k_fin ?_))))
 cases hF9
 exact ends_gen [] [5060] (by rw [Tryz.results28]; exact (res_agg (by conv => lhs; whnf) (by conv => lhs; whnf) yA26 yS26 rfl (res_tmp (by conv => lhs; whnf) res_nil)))
 refine awp_skip (k_seq (awp_seq (awp_region ?_)))
 refine s_ldW yA26 yS26 ?_
 refine s_mv ?_
 refine s_add rfl ?_
 refine s_stW yS26 ?_
 refine s_as ?_
 refine k_nil (k_seq (awp_ret (k_fin ?_)))
 cases hF9
 exact ends_gen [] [5060] (by rw [Tryz.results28]; exact (res_agg (by conv => lhs; whnf) (by conv => lhs; whnf) yA26 yS26 rfl (res_tmp (by conv => lhs; whnf) res_nil)))
theorem m_spec_l1Read_all (fuel : Nat) : m_spec_l1Read_AC fuel := by
 induction fuel using Nat.strongRecOn with
 | _ N ih =>
   cases N with
   | zero => exact (by intro x1 x2 x3 r h; rw [m_spec_l1Read] at h; cases h)
   | succ fu => exact m_spec_l1Read_st fu (fun k hk => (ih k (by omega)))
theorem m_spec_l1Read_ok (fuel : Nat) : m_spec_l1Read_AC fuel := (m_spec_l1Read_all fuel)
def m_spec_ParseForm_AC (fuel : Nat) : Prop := ∀ (x1 : ByteArray) (r : (Form × Bool)), m_spec_ParseForm fuel x1 = some r → AC Tryz.prog 13 [.t (.sc (.str x1))] noOb (.tp [.ag [.t (.sc (.int .i64 r.1.kind)), .t (.sc (.str r.1.name)), .t (.sc (.int .i64 r.1.n)), .t (.sl (r.1.scopes.map rI)), .t (.sl (r.1.kids.map Form.row))], .t (.sc (.bool r.2))]) noOb
theorem m_spec_ParseForm_ok (fuel : Nat) : m_spec_ParseForm_AC fuel := by
 intro x1 r hF0
 unfold m_spec_ParseForm at hF0
 refine AC_i [.ag [.t (.sc (.int .i64 r.1.kind)), .t (.sc (.str r.1.name)), .t (.sc (.int .i64 r.1.n)), .t (.sl (r.1.scopes.map rI)), .t (.sl (r.1.kids.map Form.row))], .t (.sc (.bool r.2))] Tryz.func13 rfl Tryz.ntmps13 ?_
 intro C hC
 refine awp_seq (awp_region ?_)
 refine s_alloc yZ26 ?_
 refine s_as ?_
 refine k_nil (k_seq (awp_seq (awp_region ?_)))
 refine s_mv ?_
 obtain ⟨v1, hv1, hF1⟩ := bind_some' hF0
 refine s_pure [] (m_spec_l1Read_ok fuel _ _ _ _ hv1) ?_
 refine s_mv ?_
 refine s_ext ?_
 refine s_ext ?_
 refine s_alloc yZ26 ?_
 refine s_stW yS26 ?_
 refine s_as ?_
 refine k_nil (k_seq (awp_seq (awp_seq (awp_region ?_))))
 refine s_mv ?_
 refine s_lt ?_
 refine s_mv ?_
 refine w_guard _ 13 hF1 ?_ ?_ <;> intro hc2 hF2
 iterate 6 refine r_no rfl ?_
 refine s_pkt ?_
 refine s_mv ?_
 iterate 3 refine r_no rfl ?_
 refine s_pkt ?_
 refine k_nil (k_seq (awp_true rfl (awp_seq (awp_region ?_))))
 refine s_bld yZ26 yL26 ?_
 refine s_stW yS26 ?_
 refine s_as ?_
 refine k_nil (k_seq (awp_ret (k_seq_ret (k_fin ?_))))
 cases hF2
 exact ends_gen [] [] (by rw [Tryz.results13]; exact (res_agg (by conv => lhs; whnf) (by conv => lhs; whnf) yA26 yS26 rfl (res_tmp (by conv => lhs; whnf) res_nil)))
 refine s_mv ?_
 refine s_mv ?_
 obtain ⟨v3, hv3, hF3⟩ := bind_some' hF2
 refine s_pure [] (m_spec_l1Skip_ok fuel _ _ _ hv3) ?_
 refine s_mv ?_
 refine s_lenS yU9 ?_
 refine s_ne ?_
 refine s_pkf ?_
 refine s_mv ?_
 refine w_guard _ 21 hF3 ?_ ?_ <;> intro hc4 hF4
 iterate 3 refine r_no rfl ?_
 refine s_pkt ?_
 refine k_nil (k_seq (awp_true rfl (awp_seq (awp_region ?_))))
 refine s_bld yZ26 yL26 ?_
 refine s_stW yS26 ?_
 refine s_as ?_
 refine k_nil (k_seq (awp_ret (k_seq_ret (k_fin ?_))))
 cases hF4
 exact ends_gen [] [] (by rw [Tryz.results13]; exact (res_agg (by conv => lhs; whnf) (by conv => lhs; whnf) yA26 yS26 rfl (res_tmp (by conv => lhs; whnf) res_nil)))
 refine s_ldW yA26 yS26 ?_
 obtain ⟨v5, hv5, hF5⟩ := bind_some' hF4
 refine s_pure [] (m_spec_FormValid_ok fuel _ _ hv5) ?_
 refine s_not ?_
 refine s_pkf ?_
 refine k_nil (k_seq ?_)
 refine w_cond hF5 ?_ ?_ <;> intro hc6 hF6
 refine awp_seq (awp_region ?_)
 refine s_bld yZ26 yL26 ?_
 refine s_stW yS26 ?_
 refine s_as ?_
 refine k_nil (k_seq (awp_ret (k_seq_ret (k_fin ?_))))
 cases hF6
 exact ends_gen [] [] (by rw [Tryz.results13]; exact (res_agg (by conv => lhs; whnf) (by conv => lhs; whnf) yA26 yS26 rfl (res_tmp (by conv => lhs; whnf) res_nil)))
 refine awp_skip (k_seq (awp_seq (awp_region ?_)))
 refine s_ldW yA26 yS26 ?_
 refine s_stW yS26 ?_
 refine s_as ?_
 refine k_nil (k_seq (awp_ret (k_fin ?_)))
 cases hF6
 exact ends_gen [] [] (by rw [Tryz.results13]; exact (res_agg (by conv => lhs; whnf) (by conv => lhs; whnf) yA26 yS26 rfl (res_tmp (by conv => lhs; whnf) res_nil)))
def m_laws_FnFormText_AC (fuel : Nat) : Prop := ∀ (x1 : (List Int)) (x2 : (List Int)) (r : Bool), m_laws_FnFormText fuel x1 x2 = some r → AC Tryz.prog 3 [.t (.sl (x1.map rB)), .t (.sl (x2.map rB))] noOb (.t (.sc (.bool r))) noOb
theorem m_laws_FnFormText_ok (fuel : Nat) : m_laws_FnFormText_AC fuel := by
 intro x1 x2 r hF0
 unfold m_laws_FnFormText at hF0
 refine AC_i [.t (.sc (.bool r))] Tryz.func3 rfl Tryz.ntmps3 ?_
 intro C hC
 refine awp_seq (awp_region ?_)
 refine s_as ?_
 refine k_nil (k_seq (awp_seq ?_))
 refine awp_jn (α := Nat × Bool) [17, 18, 19, 20, 21, 22, 23, 24] [] [] (fun a => [(24, .t (.sc (.bool a.2)))]) (fun a => []) (fun a => a.1 ≤ fuel ∧ m_laws_FnFormText_j1 a.1 x1 x2 a.2 = some r) ?_ ?_
 refine awp_region ?_
 refine s_mv ?_
 refine s_lenT yU22 ?_
 refine s_gt ?_
 refine s_mv ?_
 refine w_guard _ 20 hF0 ?_ ?_ <;> intro hc1 hF1
 iterate 3 refine r_no rfl ?_
 refine s_pkt ?_
 refine k_nil ?_
 exact s_jn (fuel, true) ⟨by first | omega | (dsimp only; omega), hF1⟩
 refine s_mv ?_
 refine s_lenT yU22 ?_
 refine s_gt ?_
 refine s_pkf ?_
 refine k_nil ?_
 exact s_jn (fuel, (decide (1048576 < (x2.length : Int)))) ⟨by first | omega | (dsimp only; omega), hF1⟩
 clear hF0
 rintro ⟨fu, g2⟩ ⟨hl3, hF1⟩
 dsimp only at hl3 hF1 ⊢
 obtain _ | fu := fu
 · rw [m_laws_FnFormText_j1] at hF1; cases hF1
 rw [m_laws_FnFormText_j1] at hF1
 refine w_cond hF1 ?_ ?_ <;> intro hc4 hF2
 refine awp_seq (awp_region ?_)
 refine s_as ?_
 refine k_nil (k_seq (awp_ret (k_seq_ret (k_fin ?_))))
 cases hF2
 exact ends_a [] [] Tryz.results3
 refine awp_skip (k_seq (awp_seq (awp_region ?_)))
 refine s_mv ?_
 obtain ⟨v5, hv5, hF3⟩ := bind_some' hF2
 refine s_pure [] (m_spec_DrawFormatForm_ok fu _ _ hv5) ?_
 refine s_alloc yZ26 ?_
 refine s_stW yS26 ?_
 refine k_nil (k_seq (awp_seq (awp_region ?_)))
 refine s_ldW yA26 yS26 ?_
 obtain ⟨v6, hv6, hF4⟩ := bind_some' hF3
 refine s_pure [] (m_impl_FormatForm_ok fu _ _ hv6) ?_
 refine s_as ?_
 refine k_nil (k_seq (awp_seq (awp_region ?_)))
 refine s_mv ?_
 obtain ⟨v7, hv7, hF5⟩ := bind_some' hF4
 refine s_pure [] (m_impl_ParseForm_ok fu _ _ hv7) ?_
 refine s_mv ?_
 refine s_ext ?_
 refine s_ext ?_
 refine s_alloc yZ26 ?_
 refine s_stW yS26 ?_
 refine s_as ?_
 refine k_nil (k_seq (awp_seq (awp_region ?_)))
 refine s_ldW yA26 yS26 ?_
 obtain ⟨v8, hv8, hF6⟩ := bind_some' hF5
 refine s_pure [] (m_impl_FormValid_ok fu _ _ hv8) ?_
 refine s_as ?_
 refine k_nil (k_seq ?_)
 refine awp_jn (α := Nat) [4, 36, 37, 38, 39, 40, 41, 42, 43, 44, 45, 46, 47, 48, 49, 50, 51, 52, 53, 54, 55, 56, 57, 58, 59] [] [] (fun a => []) (fun a => []) (fun a => a ≤ fu ∧ m_laws_FnFormText_j2 a x2  = some r) ?_ ?_
 refine awp_seq (awp_region ?_)
 refine s_mv ?_
 refine s_ldW yA26 yS26 ?_
 obtain ⟨v9, hv9, hF7⟩ := bind_some' hF6
 refine s_pure [] (m_spec_FormatForm_ok fu _ _ hv9) ?_
 refine s_neS ?_
 refine s_mv ?_
 refine w_guard _ 40 hF7 ?_ ?_ <;> intro hc10 hF8
 iterate 4 refine r_no rfl ?_
 refine s_pkt ?_
 refine s_mv ?_
 iterate 3 refine r_no rfl ?_
 refine s_pkt ?_
 refine s_mv ?_
 iterate 7 refine r_no rfl ?_
 refine s_pkt ?_
 refine k_nil (k_seq (awp_true rfl (awp_seq (awp_region ?_))))
 refine s_as ?_
 refine k_nil (k_seq (awp_ret (k_jn_ret (k_fin ?_))))
 cases hF8
 exact ends_a [] [] Tryz.results3
 refine s_mv ?_
 refine s_ldW yA26 yS26 ?_
 obtain ⟨v11, hv11, hF9⟩ := bind_some' hF8
 refine s_pure [] (m_spec_FormValid_ok fu _ _ hv11) ?_
 refine s_neB yU4 ?_
 refine s_pkf ?_
 refine s_mv ?_
 refine w_guard _ 46 hF9 ?_ ?_ <;> intro hc12 hF10
 iterate 3 refine r_no rfl ?_
 refine s_pkt ?_
 refine s_mv ?_
 iterate 7 refine r_no rfl ?_
 refine s_pkt ?_
 refine k_nil (k_seq (awp_true rfl (awp_seq (awp_region ?_))))
 refine s_as ?_
 refine k_nil (k_seq (awp_ret (k_jn_ret (k_fin ?_))))
 cases hF10
 exact ends_a [] [] Tryz.results3
 refine s_mv ?_
 refine s_mv ?_
 refine s_neB yU4 ?_
 refine s_pkf ?_
 refine s_mv ?_
 refine w_guard _ 51 hF10 ?_ ?_ <;> intro hc13 hF11
 iterate 7 refine r_no rfl ?_
 refine s_pkt ?_
 refine k_nil (k_seq (awp_true rfl (awp_seq (awp_region ?_))))
 refine s_as ?_
 refine k_nil (k_seq (awp_ret (k_jn_ret (k_fin ?_))))
 cases hF11
 exact ends_a [] [] Tryz.results3
 refine s_mv ?_
 refine s_mv ?_
 refine w_guard _ 53 hF11 ?_ ?_ <;> intro hc14 hF12
 refine s_ldW yA26 yS26 ?_
 refine s_ldW yA26 yS26 ?_
 obtain ⟨v15, hv15, hF13⟩ := bind_some' hF12
 refine s_pure [] (m_impl_FormSame_ok fu _ _ _ hv15) ?_
 refine s_not ?_
 refine s_pkt ?_
 refine s_pkf ?_
 refine k_nil (k_seq ?_)
 refine w_cond hF13 ?_ ?_ <;> intro hc16 hF14
 refine awp_seq (awp_region ?_)
 refine s_as ?_
 refine k_nil (k_seq (awp_ret (k_jn_ret (k_fin ?_))))
 cases hF14
 exact ends_a [] [] Tryz.results3
 refine awp_skip ?_
 exact s_jn (fu) ⟨by first | omega | (dsimp only; omega), hF14⟩
 iterate 4 refine r_no rfl ?_
 refine s_pkf ?_
 refine s_pkf ?_
 refine k_nil (k_seq (awp_false rfl (awp_skip ?_)))
 exact s_jn (fu) ⟨by first | omega | (dsimp only; omega), hF12⟩
 clear hF6
 rintro fu ⟨hl17, hF7⟩
 obtain _ | fu := fu
 · rw [m_laws_FnFormText_j2] at hF7; cases hF7
 rw [m_laws_FnFormText_j2] at hF7
 refine awp_seq (awp_region ?_)
 refine s_mv ?_
 obtain ⟨v18, hv18, hF8⟩ := bind_some' hF7
 refine s_pure [] (m_spec_DrawParseForm_ok fu _ _ hv18) ?_
 refine s_as ?_
 refine k_nil (k_seq (awp_seq (awp_region ?_)))
 refine s_mv ?_
 obtain ⟨v19, hv19, hF9⟩ := bind_some' hF8
 refine s_pure [] (m_impl_ParseForm_ok fu _ _ hv19) ?_
 refine s_mv ?_
 refine s_ext ?_
 refine s_ext ?_
 refine s_alloc yZ26 ?_
 refine s_stW yS26 ?_
 refine s_as ?_
 refine k_nil (k_seq (awp_seq (awp_region ?_)))
 refine s_mv ?_
 obtain ⟨v20, hv20, hF10⟩ := bind_some' hF9
 refine s_pure [] (m_spec_ParseForm_ok fu _ _ hv20) ?_
 refine s_mv ?_
 refine s_ext ?_
 refine s_ext ?_
 refine s_alloc yZ26 ?_
 refine s_stW yS26 ?_
 refine s_as ?_
 refine k_nil (k_seq (awp_seq ?_))
 refine awp_jn (α := Nat × Bool) [72, 73, 74, 75, 76, 77, 78, 79, 80, 81, 82, 83, 84] [] [] (fun a => [(84, .t (.sc (.bool a.2)))]) (fun a => []) (fun a => a.1 ≤ fu ∧ m_laws_FnFormText_j3 a.1 v19 v20 a.2 = some r) ?_ ?_
 refine awp_region ?_
 refine s_ldW yA26 yS26 ?_
 refine s_ldW yA26 yS26 ?_
 obtain ⟨v21, hv21, hF11⟩ := bind_some' hF10
 refine s_pure [] (m_impl_FormSame_ok fu _ _ _ hv21) ?_
 refine s_not ?_
 refine s_mv ?_
 refine w_guard _ 76 hF11 ?_ ?_ <;> intro hc22 hF12
 iterate 3 refine r_no rfl ?_
 refine s_pkt ?_
 refine s_mv ?_
 refine r_no rfl (r_no rfl ?_)
 refine s_pkt ?_
 refine k_nil ?_
 exact s_jn (fu, true) ⟨by first | omega | (dsimp only; omega), hF12⟩
 refine s_mv ?_
 refine s_mv ?_
 refine s_neB yU4 ?_
 refine s_pkf ?_
 refine s_mv ?_
 refine w_guard _ 81 hF12 ?_ ?_ <;> intro hc23 hF13
 refine r_no rfl (r_no rfl ?_)
 refine s_pkt ?_
 refine k_nil ?_
 exact s_jn (fu, true) ⟨by first | omega | (dsimp only; omega), hF13⟩
 refine s_mv ?_
 refine s_not ?_
 refine s_pkf ?_
 refine k_nil ?_
 exact s_jn (fu, (!v19.2)) ⟨by first | omega | (dsimp only; omega), hF13⟩
 clear hF10
 rintro ⟨fu, g24⟩ ⟨hl25, hF11⟩
 dsimp only at hl25 hF11 ⊢
 obtain _ | fu := fu
 · rw [m_laws_FnFormText_j3] at hF11; cases hF11
 rw [m_laws_FnFormText_j3] at hF11
 refine w_cond hF11 ?_ ?_ <;> intro hc26 hF12
 refine awp_jn (α := Nat × Bool) [4, 85, 86, 87, 88, 89, 90, 91, 92] [] [] (fun a => [(4, .t (.sc (.bool a.2)))]) (fun a => []) (fun a => a.1 ≤ fu ∧ m_laws_FnFormText_j4 a.1  a.2 = some r) ?_ ?_
 refine awp_region ?_
 refine s_ldW yA26 yS26 ?_
 refine s_ldW yA26 yS26 ?_
 obtain ⟨v27, hv27, hF13⟩ := bind_some' hF12
 refine s_pure [] (m_impl_FormSame_ok fu _ _ _ hv27) ?_
 refine s_mv ?_
 refine w_guard _ 88 hF13 ?_ ?_ <;> intro hc28 hF14
 refine s_mv ?_
 refine s_mv ?_
 refine s_eqB yU4 ?_
 refine s_pkt ?_
 refine s_as ?_
 refine k_nil ?_
 exact s_jn (fu, (decide (v19.2 = v20.2))) ⟨by first | omega | (dsimp only; omega), hF14⟩
 iterate 3 refine r_no rfl ?_
 refine s_pkf ?_
 refine s_as ?_
 refine k_nil ?_
 exact s_jn (fu, false) ⟨by first | omega | (dsimp only; omega), hF14⟩
 clear hF12
 rintro ⟨fu, g29⟩ ⟨hl30, hF13⟩
 dsimp only at hl30 hF13 ⊢
 obtain _ | fu := fu
 · rw [m_laws_FnFormText_j4] at hF13; cases hF13
 rw [m_laws_FnFormText_j4] at hF13
 refine awp_ret (k_seq_ret (k_fin ?_))
 cases hF13
 exact ends_a [] [] Tryz.results3
 refine awp_skip (k_seq (awp_seq (awp_region ?_)))
 refine s_ldW yA26 yS26 ?_
 obtain ⟨v31, hv31, hF13⟩ := bind_some' hF12
 refine s_pure [] (m_impl_FormatForm_ok fu _ _ hv31) ?_
 obtain ⟨v32, hv32, hF14⟩ := bind_some' hF13
 refine s_pure [] (m_impl_ParseForm_ok fu _ _ hv32) ?_
 refine s_mv ?_
 refine s_ext ?_
 refine s_ext ?_
 refine s_alloc yZ26 ?_
 refine s_stW yS26 ?_
 refine s_as ?_
 refine k_nil (k_seq (awp_seq (awp_region ?_)))
 refine s_mv ?_
 refine s_mv ?_
 refine w_guard _ 100 hF14 ?_ ?_ <;> intro hc33 hF15
 refine s_ldW yA26 yS26 ?_
 refine s_ldW yA26 yS26 ?_
 obtain ⟨v34, hv34, hF16⟩ := bind_some' hF15
 refine s_pure [] (m_impl_FormSame_ok fu _ _ _ hv34) ?_
 refine s_pkt ?_
 refine s_as ?_
 refine k_nil (k_seq (awp_ret (k_fin ?_)))
 cases hF16
 exact ends_a [] [] Tryz.results3
 iterate 3 refine r_no rfl ?_
 refine s_pkf ?_
 refine s_as ?_
 refine k_nil (k_seq (awp_ret (k_fin ?_)))
 cases hF15
 exact ends_a [] [] Tryz.results3
end Go.Abs
