/- A part of the proof: what the functions that the law calls answer, as pure values. -/
import Derived.Test.YtjjjnhpghhamkaaGreatK35a552f26911
import Derived.Test.YtjjjnhpghhamkaaGreatK7db75e138112
import Derived.Test.YtjjjnhpghhamkaaGreatKc011f3581fd7
import Derived.Test.YtjjjnhpghhamkaaGreatKc64556009615
import Derived.Test.YtjjjnhpghhamkaaGreatKff06b70fb889
set_option linter.unusedSimpArgs false
set_option linter.unusedVariables false
set_option maxRecDepth 100000
set_option maxHeartbeats 4000000
namespace Go.Abs
open Go.Proofs
theorem m_spec_l4Vars_all (fuel : Nat) : m_spec_l4Vars_AC fuel := by
 induction fuel using Nat.strongRecOn with
 | _ N ih =>
   cases N with
   | zero => exact (by intro x1 x2 x3 r h; rw [m_spec_l4Vars] at h; cases h)
   | succ fu => exact m_spec_l4Vars_st fu (fun k hk => (ih k (by omega)))
theorem m_spec_l4Vars_ok (fuel : Nat) : m_spec_l4Vars_AC fuel := (m_spec_l4Vars_all fuel)
def m_spec_l4Depths_AC (fuel : Nat) : Prop := ∀ (x1 : (List Int)) (x2 : Form) (x3 : (List Form)) (x4 : Int) (r : (List Int)), m_spec_l4Depths fuel x1 x2 x3 x4 = some r → AC Tryz.prog 132 [.ar 9300, .ag [.t (.sc (.int .i64 x2.kind)), .t (.sc (.str x2.name)), .t (.sc (.int .i64 x2.n)), .t (.sl (x2.scopes.map rI)), .t (.sl (x2.kids.map Form.row))], .t (.sl (x3.map Form.row)), .t (.sc (.int .i64 x4))] (objs [(9300, .arr (x1.map rI) 3 true)]) (.ar 9200) (objs [(9300, .dead), (9200, .arr (r.map rI) 3 true)])
theorem m_spec_l4Depths_st (fu : Nat) (ih_m_spec_l4Depths : ∀ k, k ≤ fu → m_spec_l4Depths_AC k) : m_spec_l4Depths_AC (fu + 1) := by
 intro x1 x2 x3 x4 r hF0
 rw [m_spec_l4Depths] at hF0
 refine AC_i [.ar 9200] Tryz.func132 rfl Tryz.ntmps132 ?_
 intro C hC
 refine awp_seq (awp_region ?_)
 refine s_box ?_
 refine s_as ?_
 refine k_nil (k_seq (awp_seq (awp_seq (awp_region ?_))))
 refine s_ldW yA27 yS27 ?_
 refine s_mv ?_
 obtain ⟨v1, hv1, hF1⟩ := bind_some' hF0
 refine s_pure [] (m_spec_l4Var_ok fu _ _ _ hv1) ?_
 refine k_nil (k_seq ?_)
 refine w_cond hF1 ?_ ?_ <;> intro hc2 hF2
 refine awp_region ?_
 refine s_mv ?_
 refine s_mv ?_
 refine s_bs rI [x4] yP24 yR3 ?_
 obtain ⟨hk3, hF3⟩ := chk_some hF2
 refine s_apT rI (fun _ => rfl) hk3 yP24 ?_
 refine s_as ?_
 refine k_nil (k_seq (awp_seq (awp_seq (awp_region ?_))))
 refine s_as ?_
 refine k_nil (k_seq (awp_block ?_))
 refine awp_mv 0 17 5020 (by conv => lhs; whnf) (by conv => lhs; whnf) rfl ?_
 refine awp_frame2 [0, 9, 10, 18, 19, 20, 21, 22, 23, 24, 25, 26, 27, 28, 29, 30, 31, 32, 33, 34, 35, 36, 37, 38, 39, 40, 41, 42, 43, 44, 45, 46, 47, 48, 49, 50, 51] [5020] [12051] [5020] (fun a : Nat × (List Int) × Int => a.1) (fun a : Nat × (List Int) × Int => [(0, .ar 5020), (9, .t (.sc (.int .i64 a.2.2)))]) (fun a : Nat × (List Int) × Int => [(5020, .arr (a.2.1.map rI) 3 true)]) (fun a : Nat × (List Int) × Int => a.1 ≤ fu ∧ m_spec_l4Depths_l1 a.1 x2 x3 x4 a.2.1 a.2.2 = some r ∧ 0 ≤ a.2.2) (fu, (x1 ++ [x4]), 0) ⟨Nat.le_refl _, hF3, by simp⟩ (by rfl) (by rfl) (fun _ => rfl) (hasF_cons (by conv => lhs; whnf) (by rfl) (hasF_cons (by conv => lhs; whnf) (by rfl) hasF_nil)) (hasO_cons (by conv => lhs; whnf) (by rfl) hasO_nil) (fresh_C hC rfl) (by repeat (first | exact freshS_args rfl | refine freshS_upd rfl ?_ | refine freshS_frame rfl ?_)) (by repeat (first | exact freshM_no | exact objs_fresh rfl | refine freshM_upd rfl ?_ | refine freshM_frame rfl ?_)) ?_
 clear hF3
 rintro ⟨fu, g4, g5⟩ ⟨hl6, hF4, hn_g5⟩
 dsimp only at hl6 hF4 hn_g5 ⊢
 obtain _ | fu := fu
 · rw [m_spec_l4Depths_l1] at hF4; cases hF4
 rw [m_spec_l4Depths_l1] at hF4
 refine awp_seq (awp_seq (awp_region ?_))
 refine s_mv ?_
 refine s_fa yF27_4 ?_
 refine s_ld1 yA25 ?_
 refine s_lenT yU25 ?_
 refine s_lt ?_
 refine k_nil (k_seq ?_)
 refine w_cond hF4 ?_ ?_ <;> intro hc7 hF5
 refine awp_lenT 20 (fun hb8 => ?_)
 refine awp_skip (k_seq (awp_seq (awp_block (awp_seq (awp_region ?_)))))
 refine s_mv ?_
 refine s_as ?_
 refine k_nil (k_seq (awp_seq (awp_seq (awp_region ?_))))
 refine s_mv ?_
 refine s_add (winc2 hc7 hb8 hn_g5) ?_
 refine s_fa yF27_4 ?_
 refine s_ld1 yA25 ?_
 refine s_lenT yU25 ?_
 refine s_lt ?_
 refine s_mv ?_
 refine w_guard _ 32 hF5 ?_ ?_ <;> intro hc9 hF6
 refine s_fa yF27_4 ?_
 refine s_ld1 yA25 ?_
 refine s_mv ?_
 refine s_add (winc2 hc7 hb8 hn_g5) ?_
 obtain ⟨v10, hv10, hF7⟩ := bind_some' hF6
 refine s_ixT Form.row hv10 (Form.row_eq _) yE25 ?_
 refine s_ldN yA27 yS27 ?_
 obtain ⟨v11, hv11, hF8⟩ := bind_some' hF7
 refine s_pure [] (m_spec_l4Dots_ok fu _ _ hv11) ?_
 refine s_pkt ?_
 refine k_nil (k_seq ?_)
 refine w_cond hF8 ?_ ?_ <;> intro hc12 hF9
 refine awp_region ?_
 refine s_mv ?_
 refine s_add rfl ?_
 refine s_as ?_
 refine k_nil (k_seq (awp_region ?_))
 refine s_mv ?_
 refine s_fa yF27_4 ?_
 refine s_ld1 yA25 ?_
 refine s_mv ?_
 obtain ⟨v13, hv13, hF10⟩ := bind_some' hF9
 refine s_ixT Form.row hv13 (Form.row_eq _) yE25 ?_
 refine s_ldN yA27 yS27 ?_
 refine s_mv ?_
 refine s_mv ?_
 obtain ⟨v14, hv14, hF11⟩ := bind_some' hF10
 refine s_call [(9300, 5020), (9200, 12051)] [] _ _ (ih_m_spec_l4Depths fu (by omega) _ _ _ _ _ hv14) ?_
 refine s_as ?_
 refine k_nil (k_blk (k_seq (awp_region ?_)))
 refine s_mv ?_
 refine s_add (winc2 hc7 hb8 hn_g5) ?_
 refine s_as ?_
 refine k_nil ?_
 exact s_rn (fu, v14, (g5 + 1)) ⟨by first | omega | (dsimp only; omega), hF11, by first | omega | (dsimp only; omega)⟩ [(5020, 12051)]
 refine awp_skip (k_seq (awp_region ?_))
 refine s_mv ?_
 refine s_fa yF27_4 ?_
 refine s_ld1 yA25 ?_
 refine s_mv ?_
 obtain ⟨v15, hv15, hF10⟩ := bind_some' hF9
 refine s_ixT Form.row hv15 (Form.row_eq _) yE25 ?_
 refine s_ldN yA27 yS27 ?_
 refine s_mv ?_
 refine s_mv ?_
 obtain ⟨v16, hv16, hF11⟩ := bind_some' hF10
 refine s_call [(9300, 5020), (9200, 12051)] [] _ _ (ih_m_spec_l4Depths fu (by omega) _ _ _ _ _ hv16) ?_
 refine s_as ?_
 refine k_nil (k_blk (k_seq (awp_region ?_)))
 refine s_mv ?_
 refine s_add (winc2 hc7 hb8 hn_g5) ?_
 refine s_as ?_
 refine k_nil ?_
 exact s_rn (fu, v16, (g5 + 1)) ⟨by first | omega | (dsimp only; omega), hF11, by first | omega | (dsimp only; omega)⟩ [(5020, 12051)]
 iterate 7 refine r_no rfl ?_
 refine s_pkf ?_
 refine k_nil (k_seq (awp_false rfl (awp_skip (k_seq (awp_region ?_)))))
 refine s_mv ?_
 refine s_fa yF27_4 ?_
 refine s_ld1 yA25 ?_
 refine s_mv ?_
 obtain ⟨v17, hv17, hF7⟩ := bind_some' hF6
 refine s_ixT Form.row hv17 (Form.row_eq _) yE25 ?_
 refine s_ldN yA27 yS27 ?_
 refine s_mv ?_
 refine s_mv ?_
 obtain ⟨v18, hv18, hF8⟩ := bind_some' hF7
 refine s_call [(9300, 5020), (9200, 12051)] [] _ _ (ih_m_spec_l4Depths fu (by omega) _ _ _ _ _ hv18) ?_
 refine s_as ?_
 refine k_nil (k_blk (k_seq (awp_region ?_)))
 refine s_mv ?_
 refine s_add (winc2 hc7 hb8 hn_g5) ?_
 refine s_as ?_
 refine k_nil ?_
 exact s_rn (fu, v18, (g5 + 1)) ⟨by first | omega | (dsimp only; omega), hF8, by first | omega | (dsimp only; omega)⟩ [(5020, 12051)]
 refine awp_exit (k_seq_exit (k_rnd_exit2 (k_blk_exit (k_seq (awp_seq (awp_region ?_))))))
 refine s_mv ?_
 refine s_as ?_
 refine k_nil (k_seq ?_)
 refine awp_mv 8 5020 9200 (by conv => lhs; whnf) (by conv => lhs; whnf) rfl ?_
 refine awp_ret (k_fin ?_)
 cases hF5
 exact ends_a _ [] Tryz.results132
 refine awp_skip (k_seq (awp_seq (awp_seq (awp_region ?_))))
 refine s_as ?_
 refine k_nil (k_seq (awp_block ?_))
 refine awp_mv 0 9300 5040 (by conv => lhs; whnf) (by conv => lhs; whnf) rfl ?_
 refine awp_frame2 [0, 9, 10, 18, 19, 20, 21, 22, 23, 24, 25, 26, 27, 28, 29, 30, 31, 32, 33, 34, 35, 36, 37, 38, 39, 40, 41, 42, 43, 44, 45, 46, 47, 48, 49, 50, 51] [5040] [12051] [5040] (fun a : Nat × (List Int) × Int => a.1) (fun a : Nat × (List Int) × Int => [(0, .ar 5040), (9, .t (.sc (.int .i64 a.2.2)))]) (fun a : Nat × (List Int) × Int => [(5040, .arr (a.2.1.map rI) 3 true)]) (fun a : Nat × (List Int) × Int => a.1 ≤ fu ∧ m_spec_l4Depths_l1 a.1 x2 x3 x4 a.2.1 a.2.2 = some r ∧ 0 ≤ a.2.2) (fu, x1, 0) ⟨Nat.le_refl _, hF2, by simp⟩ (by rfl) (by rfl) (fun _ => rfl) (hasF_cons (by conv => lhs; whnf) (by rfl) (hasF_cons (by conv => lhs; whnf) (by rfl) hasF_nil)) (hasO_cons (by conv => lhs; whnf) (by rfl) hasO_nil) (fresh_C hC rfl) (by repeat (first | exact freshS_args rfl | refine freshS_upd rfl ?_ | refine freshS_frame rfl ?_)) (by repeat (first | exact freshM_no | exact objs_fresh rfl | refine freshM_upd rfl ?_ | refine freshM_frame rfl ?_)) ?_
 clear hF2
 rintro ⟨fu, g19, g20⟩ ⟨hl21, hF3, hn_g20⟩
 dsimp only at hl21 hF3 hn_g20 ⊢
 obtain _ | fu := fu
 · rw [m_spec_l4Depths_l1] at hF3; cases hF3
 rw [m_spec_l4Depths_l1] at hF3
 refine awp_seq (awp_seq (awp_region ?_))
 refine s_mv ?_
 refine s_fa yF27_4 ?_
 refine s_ld1 yA25 ?_
 refine s_lenT yU25 ?_
 refine s_lt ?_
 refine k_nil (k_seq ?_)
 refine w_cond hF3 ?_ ?_ <;> intro hc22 hF4
 refine awp_lenT 20 (fun hb23 => ?_)
 refine awp_skip (k_seq (awp_seq (awp_block (awp_seq (awp_region ?_)))))
 refine s_mv ?_
 refine s_as ?_
 refine k_nil (k_seq (awp_seq (awp_seq (awp_region ?_))))
 refine s_mv ?_
 refine s_add (winc2 hc22 hb23 hn_g20) ?_
 refine s_fa yF27_4 ?_
 refine s_ld1 yA25 ?_
 refine s_lenT yU25 ?_
 refine s_lt ?_
 refine s_mv ?_
 refine w_guard _ 32 hF4 ?_ ?_ <;> intro hc24 hF5
 refine s_fa yF27_4 ?_
 refine s_ld1 yA25 ?_
 refine s_mv ?_
 refine s_add (winc2 hc22 hb23 hn_g20) ?_
 obtain ⟨v25, hv25, hF6⟩ := bind_some' hF5
 refine s_ixT Form.row hv25 (Form.row_eq _) yE25 ?_
 refine s_ldN yA27 yS27 ?_
 obtain ⟨v26, hv26, hF7⟩ := bind_some' hF6
 refine s_pure [] (m_spec_l4Dots_ok fu _ _ hv26) ?_
 refine s_pkt ?_
 refine k_nil (k_seq ?_)
 refine w_cond hF7 ?_ ?_ <;> intro hc27 hF8
 refine awp_region ?_
 refine s_mv ?_
 refine s_add rfl ?_
 refine s_as ?_
 refine k_nil (k_seq (awp_region ?_))
 refine s_mv ?_
 refine s_fa yF27_4 ?_
 refine s_ld1 yA25 ?_
 refine s_mv ?_
 obtain ⟨v28, hv28, hF9⟩ := bind_some' hF8
 refine s_ixT Form.row hv28 (Form.row_eq _) yE25 ?_
 refine s_ldN yA27 yS27 ?_
 refine s_mv ?_
 refine s_mv ?_
 obtain ⟨v29, hv29, hF10⟩ := bind_some' hF9
 refine s_call [(9300, 5040), (9200, 12051)] [] _ _ (ih_m_spec_l4Depths fu (by omega) _ _ _ _ _ hv29) ?_
 refine s_as ?_
 refine k_nil (k_blk (k_seq (awp_region ?_)))
 refine s_mv ?_
 refine s_add (winc2 hc22 hb23 hn_g20) ?_
 refine s_as ?_
 refine k_nil ?_
 exact s_rn (fu, v29, (g20 + 1)) ⟨by first | omega | (dsimp only; omega), hF10, by first | omega | (dsimp only; omega)⟩ [(5040, 12051)]
 refine awp_skip (k_seq (awp_region ?_))
 refine s_mv ?_
 refine s_fa yF27_4 ?_
 refine s_ld1 yA25 ?_
 refine s_mv ?_
 obtain ⟨v30, hv30, hF9⟩ := bind_some' hF8
 refine s_ixT Form.row hv30 (Form.row_eq _) yE25 ?_
 refine s_ldN yA27 yS27 ?_
 refine s_mv ?_
 refine s_mv ?_
 obtain ⟨v31, hv31, hF10⟩ := bind_some' hF9
 refine s_call [(9300, 5040), (9200, 12051)] [] _ _ (ih_m_spec_l4Depths fu (by omega) _ _ _ _ _ hv31) ?_
 refine s_as ?_
 refine k_nil (k_blk (k_seq (awp_region ?_)))
 refine s_mv ?_
 refine s_add (winc2 hc22 hb23 hn_g20) ?_
 refine s_as ?_
 refine k_nil ?_
 exact s_rn (fu, v31, (g20 + 1)) ⟨by first | omega | (dsimp only; omega), hF10, by first | omega | (dsimp only; omega)⟩ [(5040, 12051)]
 iterate 7 refine r_no rfl ?_
 refine s_pkf ?_
 refine k_nil (k_seq (awp_false rfl (awp_skip (k_seq (awp_region ?_)))))
 refine s_mv ?_
 refine s_fa yF27_4 ?_
 refine s_ld1 yA25 ?_
 refine s_mv ?_
 obtain ⟨v32, hv32, hF6⟩ := bind_some' hF5
 refine s_ixT Form.row hv32 (Form.row_eq _) yE25 ?_
 refine s_ldN yA27 yS27 ?_
 refine s_mv ?_
 refine s_mv ?_
 obtain ⟨v33, hv33, hF7⟩ := bind_some' hF6
 refine s_call [(9300, 5040), (9200, 12051)] [] _ _ (ih_m_spec_l4Depths fu (by omega) _ _ _ _ _ hv33) ?_
 refine s_as ?_
 refine k_nil (k_blk (k_seq (awp_region ?_)))
 refine s_mv ?_
 refine s_add (winc2 hc22 hb23 hn_g20) ?_
 refine s_as ?_
 refine k_nil ?_
 exact s_rn (fu, v33, (g20 + 1)) ⟨by first | omega | (dsimp only; omega), hF7, by first | omega | (dsimp only; omega)⟩ [(5040, 12051)]
 refine awp_exit (k_seq_exit (k_rnd_exit2 (k_blk_exit (k_seq (awp_seq (awp_region ?_))))))
 refine s_mv ?_
 refine s_as ?_
 refine k_nil (k_seq ?_)
 refine awp_mv 8 5040 9200 (by conv => lhs; whnf) (by conv => lhs; whnf) rfl ?_
 refine awp_ret (k_fin ?_)
 cases hF4
 exact ends_a _ [] Tryz.results132
theorem m_spec_l4Depths_all (fuel : Nat) : m_spec_l4Depths_AC fuel := by
 induction fuel using Nat.strongRecOn with
 | _ N ih =>
   cases N with
   | zero => exact (by intro x1 x2 x3 x4 r h; rw [m_spec_l4Depths] at h; cases h)
   | succ fu => exact m_spec_l4Depths_st fu (fun k hk => (ih k (by omega)))
theorem m_spec_l4Depths_ok (fuel : Nat) : m_spec_l4Depths_AC fuel := (m_spec_l4Depths_all fuel)
def m_spec_l4Is_AC (fuel : Nat) : Prop := ∀ (x1 : Form) (x2 : (List Form)) (r : Bool), m_spec_l4Is fuel x1 x2 = some r → AC Tryz.prog 63 [.ag [.t (.sc (.int .i64 x1.kind)), .t (.sc (.str x1.name)), .t (.sc (.int .i64 x1.n)), .t (.sl (x1.scopes.map rI)), .t (.sl (x1.kids.map Form.row))], .t (.sl (x2.map Form.row))] noOb (.t (.sc (.bool r))) noOb
theorem m_spec_l4Is_ok (fuel : Nat) : m_spec_l4Is_AC fuel := by
 intro x1 x2 r hF0
 unfold m_spec_l4Is at hF0
 refine AC_i [.t (.sc (.bool r))] Tryz.func63 rfl Tryz.ntmps63 ?_
 intro C hC
 refine awp_seq (awp_region ?_)
 refine s_box ?_
 refine s_as ?_
 refine k_nil (k_seq (awp_seq (awp_seq (awp_region ?_))))
 refine s_ldW yA27 yS27 ?_
 obtain ⟨v1, hv1, hF1⟩ := bind_some' hF0
 refine s_pure [] (m_spec_FormValid_ok fuel _ _ hv1) ?_
 refine s_not ?_
 refine s_mv ?_
 refine w_guard _ 12 hF1 ?_ ?_ <;> intro hc2 hF2
 iterate 3 refine r_no rfl ?_
 refine s_pkt ?_
 refine s_mv ?_
 iterate 3 refine r_no rfl ?_
 refine s_pkt ?_
 refine k_nil (k_seq (awp_true rfl (awp_seq (awp_region ?_))))
 refine s_as ?_
 refine k_nil (k_seq (awp_ret (k_seq_ret (k_fin ?_))))
 cases hF2
 exact ends_a [] [] Tryz.results63
 refine s_mv ?_
 obtain ⟨v3, hv3, hF3⟩ := bind_some' hF2
 refine s_pure [] (m_spec_l4Literals_ok fuel _ _ hv3) ?_
 refine s_not ?_
 refine s_pkf ?_
 refine s_mv ?_
 refine w_guard _ 17 hF3 ?_ ?_ <;> intro hc4 hF4
 iterate 3 refine r_no rfl ?_
 refine s_pkt ?_
 refine k_nil (k_seq (awp_true rfl (awp_seq (awp_region ?_))))
 refine s_as ?_
 refine k_nil (k_seq (awp_ret (k_seq_ret (k_fin ?_))))
 cases hF4
 exact ends_a [] [] Tryz.results63
 refine s_ldW yA27 yS27 ?_
 obtain ⟨v5, hv5, hF5⟩ := bind_some' hF4
 refine s_pure [] (m_spec_l4Shape_ok fuel _ _ hv5) ?_
 refine s_not ?_
 refine s_pkf ?_
 refine k_nil (k_seq ?_)
 refine w_cond hF5 ?_ ?_ <;> intro hc6 hF6
 refine awp_seq (awp_region ?_)
 refine s_as ?_
 refine k_nil (k_seq (awp_ret (k_seq_ret (k_fin ?_))))
 cases hF6
 exact ends_a [] [] Tryz.results63
 refine awp_skip (k_seq (awp_seq (awp_region ?_)))
 refine s_bs Form.row ([] : List Form) yP25 yR27 ?_
 refine s_ldW yA27 yS27 ?_
 refine s_mv ?_
 obtain ⟨v7, hv7, hF7⟩ := bind_some' hF6
 refine s_call [(9300, 22), (9200, 12025)] [] _ _ (m_spec_l4Vars_ok fuel _ _ _ _ hv7) ?_
 refine s_as ?_
 refine k_nil (k_seq (awp_seq (awp_seq (awp_region ?_))))
 refine s_as ?_
 refine k_nil (k_seq (awp_block ?_))
 refine awp_frz 12025 (by conv => lhs; whnf) ?_
 refine awp_fr (β := Int × (List Form)) [4, 6, 26, 27, 28, 29, 30, 31, 32, 33, 34, 35, 36, 37, 38, 39] [12025] [] (fun a => [(6, .t (.sc (.int .i64 a.2.1)))]) (fun a => [(12025, .arr (a.2.2.map Form.row) 27 false)]) (fun a => a.1 ≤ fuel ∧ m_spec_l4Is_l1 a.1 x1 x2 a.2.1 a.2.2 = some r ∧ 0 ≤ a.2.1) (fuel, 0, v7) ⟨Nat.le_refl _, hF7, by simp⟩ ?_
 clear hF7
 rintro ⟨fu, g8, g9⟩ ⟨hl10, hF8, hn_g8⟩
 dsimp only at hl10 hF8 hn_g8 ⊢
 obtain _ | fu := fu
 · rw [m_spec_l4Is_l1] at hF8; cases hF8
 rw [m_spec_l4Is_l1] at hF8
 refine awp_seq (awp_seq (awp_region ?_))
 refine s_mv ?_
 refine s_mv ?_
 refine s_lenA yU25 ?_
 refine s_lt ?_
 refine k_nil (k_seq ?_)
 refine w_cond hF8 ?_ ?_ <;> intro hc11 hF9
 refine awp_lenA 5 12025 (fun hb12 => ?_)
 refine awp_skip (k_seq (awp_seq (awp_block (awp_seq ?_))))
 refine awp_draw yMix (by kernel_rfl) ?_
 refine s_mv ?_
 refine s_mv ?_
 obtain ⟨v13, hv13, hF10⟩ := bind_some' hF9
 refine s_sl01 Form.row (fun y => Form.row_len y) hv13 yU25 yE25 ?_
 refine s_mv ?_
 refine s_mv ?_
 obtain ⟨v14, hv14, hF11⟩ := bind_some' hF10
 refine s_ixA Form.row hv14 yE25 ?_
 refine s_lAN Form.row hv14 (Form.row_eq _) yA27 yS27 ?_
 obtain ⟨v15, hv15, hF12⟩ := bind_some' hF11
 refine s_pure [] (m_spec_l4In_ok fu _ _ _ hv15) ?_
 refine k_nilD (by kernel_rfl) ?_
 refine k_seq ?_
 refine w_cond hF12 ?_ ?_ <;> intro hc16 hF13
 refine awp_seq (awp_region ?_)
 refine s_as ?_
 refine k_nil (k_seq (awp_ret (k_blk_ret (k_seq_ret (k_rnd_ret2 (k_blk_ret (k_seq_ret (k_fin ?_))))))))
 cases hF13
 exact ends_a [] [] Tryz.results63
 refine awp_skip (k_blk (k_seq (awp_region ?_)))
 refine s_mv ?_
 refine s_add (winc2 hc11 hb12 hn_g8) ?_
 refine s_as ?_
 refine k_nil ?_
 exact s_rn (fu, (g8 + 1), g9) ⟨by first | omega | (dsimp only; omega), hF13, by first | omega | (dsimp only; omega)⟩
 refine awp_exit (k_seq_exit (k_rnd_exit2 (k_blk_exit (k_seq (awp_seq (awp_region ?_))))))
 refine s_bs rI ([] : List Int) yP24 yR3 ?_
 refine s_ldW yA27 yS27 ?_
 refine s_mv ?_
 obtain ⟨v17, hv17, hF10⟩ := bind_some' hF9
 refine s_call [(9300, 40), (9200, 12043)] [] _ _ (m_spec_l4Depths_ok fu _ _ _ _ _ hv17) ?_
 refine s_as ?_
 refine k_nil (k_seq (awp_seq (awp_seq (awp_region ?_))))
 refine s_as ?_
 refine k_nil (k_seq (awp_block ?_))
 refine awp_fr (β := Int) [4, 8, 44, 45, 46, 47, 48, 49, 50, 51, 52, 53, 54] [] [] (fun a => [(8, .t (.sc (.int .i64 a.2)))]) (fun a => []) (fun a => a.1 ≤ fu ∧ m_spec_l4Is_l2 a.1 g9 v17 a.2 = some r ∧ 0 ≤ a.2) (fu, 0) ⟨Nat.le_refl _, hF10, by simp⟩ ?_
 clear hF10
 rintro ⟨fu, g18⟩ ⟨hl19, hF11, hn_g18⟩
 dsimp only at hl19 hF11 hn_g18 ⊢
 obtain _ | fu := fu
 · rw [m_spec_l4Is_l2] at hF11; cases hF11
 rw [m_spec_l4Is_l2] at hF11
 refine awp_seq (awp_seq (awp_region ?_))
 refine s_mv ?_
 refine s_mv ?_
 refine s_lenA yU24 ?_
 refine s_lt ?_
 refine k_nil (k_seq ?_)
 refine w_cond hF11 ?_ ?_ <;> intro hc20 hF12
 refine awp_lenA 7 12043 (fun hb21 => ?_)
 refine awp_skip (k_seq (awp_seq (awp_block (awp_seq (awp_region ?_)))))
 refine s_mv ?_
 refine s_mv ?_
 obtain ⟨v22, hv22, hF13⟩ := bind_some' hF12
 refine s_ixA rI hv22 yE24 ?_
 refine s_lA1 rI hv22 rfl yA3 ?_
 refine s_gt ?_
 refine k_nil (k_seq ?_)
 refine w_cond hF13 ?_ ?_ <;> intro hc23 hF14
 refine awp_seq (awp_region ?_)
 refine s_as ?_
 refine k_nil (k_seq (awp_ret (k_blk_ret (k_seq_ret (k_rnd_ret2 (k_blk_ret (k_seq_ret (k_fin ?_))))))))
 cases hF14
 exact ends_a [] [] Tryz.results63
 refine awp_skip (k_blk (k_seq (awp_region ?_)))
 refine s_mv ?_
 refine s_add (winc2 hc20 hb21 hn_g18) ?_
 refine s_as ?_
 refine k_nil ?_
 exact s_rn (fu, (g18 + 1)) ⟨by first | omega | (dsimp only; omega), hF14, by first | omega | (dsimp only; omega)⟩
 refine awp_exit (k_seq_exit (k_rnd_exit2 (k_blk_exit (k_seq (awp_seq (awp_region ?_))))))
 refine s_mv ?_
 refine s_lenA yU25 ?_
 refine s_le ?_
 refine s_as ?_
 refine k_nil (k_seq (awp_ret (k_fin ?_)))
 cases hF12
 exact ends_a [] [] Tryz.results63
def m_spec_l2Has_AC (fuel : Nat) : Prop := ∀ (x1 : (List Int)) (x2 : Int) (r : Bool), m_spec_l2Has fuel x1 x2 = some r → AC Tryz.prog 212 [.t (.sl (x1.map rI)), .t (.sc (.int .i64 x2))] noOb (.t (.sc (.bool r))) noOb
theorem m_spec_l2Has_ok (fuel : Nat) : m_spec_l2Has_AC fuel := by
 intro x1 x2 r hF0
 unfold m_spec_l2Has at hF0
 refine AC_i [.t (.sc (.bool r))] Tryz.func212 rfl Tryz.ntmps212 ?_
 intro C hC
 refine awp_seq (awp_region ?_)
 refine s_as ?_
 refine k_nil (k_seq (awp_seq (awp_seq (awp_region ?_))))
 refine s_as ?_
 refine k_nil (k_seq (awp_block ?_))
 refine awp_fr (β := Int) [4, 5, 6, 7, 8, 9, 10, 11, 12, 13, 14, 15, 16, 17] [] [] (fun a => [(5, .t (.sc (.int .i64 a.2)))]) (fun a => []) (fun a => a.1 ≤ fuel ∧ m_spec_l2Has_l1 a.1 x1 x2 a.2 = some r ∧ 0 ≤ a.2) (fuel, 0) ⟨Nat.le_refl _, hF0, by simp⟩ ?_
 clear hF0
 rintro ⟨fu, g1⟩ ⟨hl2, hF1, hn_g1⟩
 dsimp only at hl2 hF1 hn_g1 ⊢
 obtain _ | fu := fu
 · rw [m_spec_l2Has_l1] at hF1; cases hF1
 rw [m_spec_l2Has_l1] at hF1
 refine awp_seq (awp_seq (awp_region ?_))
 refine s_mv ?_
 refine s_mv ?_
 refine s_lenT yU24 ?_
 refine s_lt ?_
 refine k_nil (k_seq ?_)
 refine w_cond hF1 ?_ ?_ <;> intro hc3 hF2
 refine awp_lenT 0 (fun hb4 => ?_)
 refine awp_skip (k_seq (awp_seq (awp_block (awp_seq (awp_region ?_)))))
 refine s_mv ?_
 refine s_mv ?_
 obtain ⟨v5, hv5, hF3⟩ := bind_some' hF2
 refine s_ixT rI hv5 rfl yE24 ?_
 refine s_ld1 yA3 ?_
 refine s_mv ?_
 refine s_eq ?_
 refine k_nil (k_seq ?_)
 refine w_cond hF3 ?_ ?_ <;> intro hc6 hF4
 refine awp_seq (awp_region ?_)
 refine s_as ?_
 refine k_nil (k_seq (awp_ret (k_blk_ret (k_seq_ret (k_rnd_ret2 (k_blk_ret (k_seq_ret (k_fin ?_))))))))
 cases hF4
 exact ends_a [] [] Tryz.results212
 refine awp_skip (k_blk (k_seq (awp_region ?_)))
 refine s_mv ?_
 refine s_add (winc2 hc3 hb4 hn_g1) ?_
 refine s_as ?_
 refine k_nil ?_
 exact s_rn (fu, (g1 + 1)) ⟨by first | omega | (dsimp only; omega), hF4, by first | omega | (dsimp only; omega)⟩
 refine awp_exit (k_seq_exit (k_rnd_exit2 (k_blk_exit (k_seq (awp_seq (awp_region ?_))))))
 refine s_as ?_
 refine k_nil (k_seq (awp_ret (k_fin ?_)))
 cases hF2
 exact ends_a [] [] Tryz.results212
def m_spec_ScopesWithin_AC (fuel : Nat) : Prop := ∀ (x1 : (List Int)) (x2 : (List Int)) (r : Bool), m_spec_ScopesWithin fuel x1 x2 = some r → AC Tryz.prog 202 [.t (.sl (x1.map rI)), .t (.sl (x2.map rI))] noOb (.t (.sc (.bool r))) noOb
theorem m_spec_ScopesWithin_ok (fuel : Nat) : m_spec_ScopesWithin_AC fuel := by
 intro x1 x2 r hF0
 unfold m_spec_ScopesWithin at hF0
 refine AC_i [.t (.sc (.bool r))] Tryz.func202 rfl Tryz.ntmps202 ?_
 intro C hC
 refine awp_seq (awp_region ?_)
 refine s_as ?_
 refine k_nil (k_seq (awp_seq (awp_seq (awp_region ?_))))
 refine s_as ?_
 refine k_nil (k_seq (awp_block ?_))
 refine awp_fr (β := Int) [4, 5, 6, 7, 8, 9, 10, 11, 12, 13, 14, 15, 16, 17, 18] [] [] (fun a => [(5, .t (.sc (.int .i64 a.2)))]) (fun a => []) (fun a => a.1 ≤ fuel ∧ m_spec_ScopesWithin_l1 a.1 x1 x2 a.2 = some r ∧ 0 ≤ a.2) (fuel, 0) ⟨Nat.le_refl _, hF0, by simp⟩ ?_
 clear hF0
 rintro ⟨fu, g1⟩ ⟨hl2, hF1, hn_g1⟩
 dsimp only at hl2 hF1 hn_g1 ⊢
 obtain _ | fu := fu
 · rw [m_spec_ScopesWithin_l1] at hF1; cases hF1
 rw [m_spec_ScopesWithin_l1] at hF1
 refine awp_seq (awp_seq (awp_region ?_))
 refine s_mv ?_
 refine s_mv ?_
 refine s_lenT yU24 ?_
 refine s_lt ?_
 refine k_nil (k_seq ?_)
 refine w_cond hF1 ?_ ?_ <;> intro hc3 hF2
 refine awp_lenT 0 (fun hb4 => ?_)
 refine awp_skip (k_seq (awp_seq (awp_block (awp_seq (awp_region ?_)))))
 iterate 3 refine s_mv ?_
 obtain ⟨v5, hv5, hF3⟩ := bind_some' hF2
 refine s_ixT rI hv5 rfl yE24 ?_
 refine s_ld1 yA3 ?_
 obtain ⟨v6, hv6, hF4⟩ := bind_some' hF3
 refine s_pure [] (m_spec_l2Has_ok fu _ _ _ hv6) ?_
 refine s_not ?_
 refine k_nil (k_seq ?_)
 refine w_cond hF4 ?_ ?_ <;> intro hc7 hF5
 refine awp_seq (awp_region ?_)
 refine s_as ?_
 refine k_nil (k_seq (awp_ret (k_blk_ret (k_seq_ret (k_rnd_ret2 (k_blk_ret (k_seq_ret (k_fin ?_))))))))
 cases hF5
 exact ends_a [] [] Tryz.results202
 refine awp_skip (k_blk (k_seq (awp_region ?_)))
 refine s_mv ?_
 refine s_add (winc2 hc3 hb4 hn_g1) ?_
 refine s_as ?_
 refine k_nil ?_
 exact s_rn (fu, (g1 + 1)) ⟨by first | omega | (dsimp only; omega), hF5, by first | omega | (dsimp only; omega)⟩
 refine awp_exit (k_seq_exit (k_rnd_exit2 (k_blk_exit (k_seq (awp_seq (awp_region ?_))))))
 refine s_as ?_
 refine k_nil (k_seq (awp_ret (k_fin ?_)))
 cases hF2
 exact ends_a [] [] Tryz.results202
def m_spec_l3Fitting_AC (fuel : Nat) : Prop := ∀ (x1 : (List Bind)) (x2 : Form) (r : (List Int)), m_spec_l3Fitting fuel x1 x2 = some r → AC Tryz.prog 201 [.t (.sl (x1.map Bind.row)), .ag [.t (.sc (.int .i64 x2.kind)), .t (.sc (.str x2.name)), .t (.sc (.int .i64 x2.n)), .t (.sl (x2.scopes.map rI)), .t (.sl (x2.kids.map Form.row))]] noOb (.t (.sl (r.map rI))) noOb
theorem m_spec_l3Fitting_ok (fuel : Nat) : m_spec_l3Fitting_AC fuel := by
 intro x1 x2 r hF0
 unfold m_spec_l3Fitting at hF0
 refine AC_i [.t (.sl (r.map rI))] Tryz.func201 rfl Tryz.ntmps201 ?_
 intro C hC
 refine awp_seq (awp_region ?_)
 refine s_box ?_
 refine s_as ?_
 refine k_nil (k_seq (awp_seq (awp_region ?_)))
 refine s_bs rI ([] : List Int) yP24 yR3 ?_
 refine s_as ?_
 refine k_nil (k_seq (awp_seq (awp_seq (awp_region ?_))))
 refine s_as ?_
 refine k_nil (k_seq (awp_block ?_))
 refine awp_mv 5 7 5020 (by conv => lhs; whnf) (by conv => lhs; whnf) rfl ?_
 refine awp_frame2 [5, 6, 8, 9, 10, 11, 12, 13, 14, 15, 16, 17, 18, 19, 20, 21, 22, 23, 24, 25, 26, 27, 28, 29, 30, 31, 32, 33, 34, 35] [5020] [34, 35] [5020] (fun a : Nat × (List Int) × Int => a.1) (fun a : Nat × (List Int) × Int => [(5, .ar 5020), (6, .t (.sc (.int .i64 a.2.2)))]) (fun a : Nat × (List Int) × Int => [(5020, .arr (a.2.1.map rI) 3 true)]) (fun a : Nat × (List Int) × Int => a.1 ≤ fuel ∧ m_spec_l3Fitting_l1 a.1 x1 x2 a.2.1 a.2.2 = some r ∧ 0 ≤ a.2.2) (fuel, ([] : List Int), 0) ⟨Nat.le_refl _, hF0, by simp⟩ (by rfl) (by rfl) (fun _ => rfl) (hasF_cons (by conv => lhs; whnf) (by rfl) (hasF_cons (by conv => lhs; whnf) (by rfl) hasF_nil)) (hasO_cons (by conv => lhs; whnf) (by rfl) hasO_nil) (fresh_C hC rfl) (by repeat (first | exact freshS_args rfl | refine freshS_upd rfl ?_ | refine freshS_frame rfl ?_)) (by repeat (first | exact freshM_no | exact objs_fresh rfl | refine freshM_upd rfl ?_ | refine freshM_frame rfl ?_)) ?_
 clear hF0
 rintro ⟨fu, g1, g2⟩ ⟨hl3, hF1, hn_g2⟩
 dsimp only at hl3 hF1 hn_g2 ⊢
 obtain _ | fu := fu
 · rw [m_spec_l3Fitting_l1] at hF1; cases hF1
 rw [m_spec_l3Fitting_l1] at hF1
 refine awp_seq (awp_seq (awp_region ?_))
 refine s_mv ?_
 refine s_mv ?_
 refine s_lenT yU23 ?_
 refine s_lt ?_
 refine k_nil (k_seq ?_)
 refine w_cond hF1 ?_ ?_ <;> intro hc4 hF2
 refine awp_lenT 0 (fun hb5 => ?_)
 refine awp_skip (k_seq (awp_seq (awp_block ?_)))
 refine awp_jn (α := Nat × Bool) [14, 15, 16, 17, 18, 19, 20, 21, 22, 23, 24, 25, 26, 27, 28, 29, 30, 31] [] [] (fun a => [(31, .t (.sc (.bool a.2)))]) (fun a => []) (fun a => a.1 ≤ fu ∧ m_spec_l3Fitting_j2 a.1 x1 x2 g1 g2 a.2 = some r) ?_ ?_
 refine awp_draw yMix (by kernel_rfl) ?_
 refine s_mv ?_
 refine s_mv ?_
 obtain ⟨v6, hv6, hF3⟩ := bind_some' hF2
 refine s_ixT Bind.row hv6 (Bind.row_eq _) yE23 ?_
 refine s_fa yF93_0 ?_
 refine s_ld1 yA9 ?_
 refine s_fa yF27_1 ?_
 refine s_ld1 yA9 ?_
 refine s_eqS ?_
 refine s_mv ?_
 refine w_guard _ 22 hF3 ?_ ?_ <;> intro hc7 hF4
 refine s_mv ?_
 refine s_mv ?_
 obtain ⟨v8, hv8, hF5⟩ := bind_some' hF4
 refine s_ixT Bind.row hv8 (Bind.row_eq _) yE23 ?_
 refine s_fa yF93_1 ?_
 refine s_ld1 yA24 ?_
 refine s_fa yF27_3 ?_
 refine s_ld1 yA24 ?_
 obtain ⟨v9, hv9, hF6⟩ := bind_some' hF5
 refine s_pure [] (m_spec_ScopesWithin_ok fu _ _ _ hv9) ?_
 refine s_pkt ?_
 refine k_nilD (by kernel_rfl) ?_
 exact s_jn (fu, v9) ⟨by first | omega | (dsimp only; omega), hF6⟩
 iterate 8 refine r_no rfl ?_
 refine s_pkf ?_
 refine k_nilD (by kernel_rfl) ?_
 exact s_jn (fu, false) ⟨by first | omega | (dsimp only; omega), hF4⟩
 clear hF2
 rintro ⟨fu, g10⟩ ⟨hl11, hF3⟩
 dsimp only at hl11 hF3 ⊢
 obtain _ | fu := fu
 · rw [m_spec_l3Fitting_j2] at hF3; cases hF3
 rw [m_spec_l3Fitting_j2] at hF3
 refine w_cond hF3 ?_ ?_ <;> intro hc12 hF4
 refine awp_region ?_
 refine s_mv ?_
 refine s_mv ?_
 refine s_bs rI [g2] yP24 yR3 ?_
 obtain ⟨hk13, hF5⟩ := chk_some hF4
 refine s_apT rI (fun _ => rfl) hk13 yP24 ?_
 refine s_as ?_
 refine k_nil (k_blk (k_seq (awp_region ?_)))
 refine s_mv ?_
 refine s_add (winc2 hc4 hb5 hn_g2) ?_
 refine s_as ?_
 refine k_nil ?_
 exact s_rn (fu, (g1 ++ [g2]), (g2 + 1)) ⟨by first | omega | (dsimp only; omega), hF5, by first | omega | (dsimp only; omega)⟩ [(5020, 35)]
 refine awp_skip (k_blk (k_seq (awp_region ?_)))
 refine s_mv ?_
 refine s_add (winc2 hc4 hb5 hn_g2) ?_
 refine s_as ?_
 refine k_nil ?_
 exact s_rn (fu, g1, (g2 + 1)) ⟨by first | omega | (dsimp only; omega), hF4, by first | omega | (dsimp only; omega)⟩
 refine awp_exit (k_seq_exit (k_rnd_exit2 (k_blk_exit (k_seq (awp_seq (awp_region ?_))))))
 refine s_mv ?_
 refine s_as ?_
 refine k_nil (k_seq (awp_ret (k_fin ?_)))
 cases hF2
 exact ends_a [] [5020] Tryz.results201
def m_spec_l3Find_AC (fuel : Nat) : Prop := ∀ (x1 : (List Bind)) (x2 : Form) (r : (Int × Int)), m_spec_l3Find fuel x1 x2 = some r → AC Tryz.prog 183 [.t (.sl (x1.map Bind.row)), .ag [.t (.sc (.int .i64 x2.kind)), .t (.sc (.str x2.name)), .t (.sc (.int .i64 x2.n)), .t (.sl (x2.scopes.map rI)), .t (.sl (x2.kids.map Form.row))]] noOb (.tp [.t (.sc (.int .i64 r.1)), .t (.sc (.int .i64 r.2))]) noOb
theorem m_spec_l3Find_ok (fuel : Nat) : m_spec_l3Find_AC fuel := by
 intro x1 x2 r hF0
 unfold m_spec_l3Find at hF0
 refine AC_i [.t (.sc (.int .i64 r.1)), .t (.sc (.int .i64 r.2))] Tryz.func183 rfl Tryz.ntmps183 ?_
 intro C hC
 refine awp_seq (awp_region ?_)
 refine s_box ?_
 refine s_as ?_
 refine s_as ?_
 refine k_nil (k_seq (awp_seq (awp_region ?_)))
 refine s_mv ?_
 refine s_ldW yA27 yS27 ?_
 obtain ⟨v1, hv1, hF1⟩ := bind_some' hF0
 refine s_pure [] (m_spec_l3Fitting_ok fuel _ _ _ hv1) ?_
 refine s_as ?_
 refine k_nil (k_seq (awp_seq (awp_seq (awp_region ?_))))
 refine s_as ?_
 refine k_nil (k_seq (awp_block ?_))
 refine awp_fr (β := Int) [4, 5, 7, 8, 9, 13, 14, 15, 16, 17, 18, 19, 20, 21, 22, 23, 24, 25, 26, 27, 28, 29, 30, 31, 32, 33, 34, 35, 36, 37, 38, 39, 40, 41, 42, 43, 44, 45, 46, 47, 48, 49] [] [] (fun a => [(7, .t (.sc (.int .i64 a.2)))]) (fun a => []) (fun a => a.1 ≤ fuel ∧ m_spec_l3Find_l1 a.1 x1 v1 a.2 = some r ∧ 0 ≤ a.2) (fuel, 0) ⟨Nat.le_refl _, hF1, by simp⟩ ?_
 clear hF1
 rintro ⟨fu, g2⟩ ⟨hl3, hF2, hn_g2⟩
 dsimp only at hl3 hF2 hn_g2 ⊢
 obtain _ | fu := fu
 · rw [m_spec_l3Find_l1] at hF2; cases hF2
 rw [m_spec_l3Find_l1] at hF2
 refine awp_seq (awp_seq (awp_region ?_))
 refine s_mv ?_
 refine s_mv ?_
 refine s_lenT yU24 ?_
 refine s_lt ?_
 refine k_nil (k_seq ?_)
 refine w_cond hF2 ?_ ?_ <;> intro hc4 hF3
 refine awp_lenT 6 (fun hb5 => ?_)
 refine awp_skip (k_seq (awp_seq (awp_block (awp_seq (awp_region ?_)))))
 refine s_as ?_
 refine k_nil (k_seq ?_)
 refine awp_jn (α := Nat × Bool) [8, 9, 19, 20, 21, 22, 23, 24, 25, 26, 27, 28, 29, 30, 31, 32, 33, 34, 35, 36, 37, 38, 39, 40, 41, 42, 43, 44] [] [] (fun a => [(8, .t (.sc (.bool a.2)))]) (fun a => []) (fun a => a.1 ≤ fu ∧ m_spec_l3Find_j2 a.1 x1 v1 g2 a.2 = some r) ?_ ?_
 refine awp_seq (awp_region ?_)
 refine s_as ?_
 refine k_nil (k_seq (awp_block ?_))
 refine awp_fr (β := Bool × Int) [8, 9, 19, 20, 21, 22, 23, 24, 25, 26, 27, 28, 29, 30, 31, 32, 33, 34, 35, 36, 37, 38, 39, 40, 41, 42, 43, 44] [] [] (fun a => [(8, .t (.sc (.bool a.2.1))), (9, .t (.sc (.int .i64 a.2.2)))]) (fun a => []) (fun a => a.1 ≤ fu ∧ m_spec_l3Find_l3 a.1 x1 v1 g2 a.2.1 a.2.2 = some r ∧ 0 ≤ a.2.2) (fu, true, 0) ⟨Nat.le_refl _, hF3, by simp⟩ ?_
 clear hF3
 rintro ⟨fu, g6, g7⟩ ⟨hl8, hF4, hn_g7⟩
 dsimp only at hl8 hF4 hn_g7 ⊢
 obtain _ | fu := fu
 · rw [m_spec_l3Find_l3] at hF4; cases hF4
 rw [m_spec_l3Find_l3] at hF4
 refine awp_seq (awp_seq (awp_region ?_))
 refine s_mv ?_
 refine s_mv ?_
 refine s_lenT yU24 ?_
 refine s_lt ?_
 refine k_nil (k_seq ?_)
 refine w_cond hF4 ?_ ?_ <;> intro hc9 hF5
 refine awp_skip (k_seq ?_)
 refine awp_jn (α := Nat × Bool) [8, 25, 26, 27, 28, 29, 30, 31, 32, 33, 34, 35, 36, 37, 38, 39, 40, 41, 42, 43, 44] [] [] (fun a => [(8, .t (.sc (.bool a.2)))]) (fun a => []) (fun a => a.1 ≤ fu ∧ m_spec_l3Find_j4 a.1 x1 v1 g2 g7 a.2 = some r) ?_ ?_
 refine awp_block ?_
 refine awp_draw yMix (by kernel_rfl) ?_
 refine s_mv ?_
 refine s_mv ?_
 refine w_guard _ 26 hF5 ?_ ?_ <;> intro hc10 hF6
 iterate 3 refine s_mv ?_
 obtain ⟨v11, hv11, hF7⟩ := bind_some' hF6
 refine s_ixT rI hv11 rfl yE24 ?_
 refine s_ld1 yA3 ?_
 obtain ⟨v12, hv12, hF8⟩ := bind_some' hF7
 refine s_ixT Bind.row hv12 (Bind.row_eq _) yE23 ?_
 refine s_fa yF93_1 ?_
 refine s_ld1 yA24 ?_
 iterate 3 refine s_mv ?_
 obtain ⟨v13, hv13, hF9⟩ := bind_some' hF8
 refine s_ixT rI hv13 rfl yE24 ?_
 refine s_ld1 yA3 ?_
 obtain ⟨v14, hv14, hF10⟩ := bind_some' hF9
 refine s_ixT Bind.row hv14 (Bind.row_eq _) yE23 ?_
 refine s_fa yF93_1 ?_
 refine s_ld1 yA24 ?_
 obtain ⟨v15, hv15, hF11⟩ := bind_some' hF10
 refine s_pure [] (m_spec_ScopesWithin_ok fu _ _ _ hv15) ?_
 refine s_pkt ?_
 refine s_as ?_
 refine k_nilD (by kernel_rfl) ?_
 refine k_blk ?_
 exact s_jn (fu, v15) ⟨by first | omega | (dsimp only; omega), hF11⟩
 iterate 17 refine r_no rfl ?_
 refine s_pkf ?_
 refine s_as ?_
 refine k_nilD (by kernel_rfl) ?_
 refine k_blk ?_
 exact s_jn (fu, false) ⟨by first | omega | (dsimp only; omega), hF6⟩
 clear hF5
 rintro ⟨fu, g16⟩ ⟨hl17, hF6⟩
 dsimp only at hl17 hF6 ⊢
 obtain _ | fu := fu
 · rw [m_spec_l3Find_j4] at hF6; cases hF6
 rw [m_spec_l3Find_j4] at hF6
 refine awp_region ?_
 refine s_mv ?_
 refine s_add (winc2 hc9 hb5 hn_g7) ?_
 refine s_as ?_
 refine k_nil ?_
 exact s_rn (fu, g16, (g7 + 1)) ⟨by first | omega | (dsimp only; omega), hF6, by first | omega | (dsimp only; omega)⟩
 refine awp_exit (k_seq_exit (k_rnd_exit2 (k_blk_exit ?_)))
 exact s_jn (fu, g6) ⟨by first | omega | (dsimp only; omega), hF5⟩
 clear hF3
 rintro ⟨fu, g18⟩ ⟨hl19, hF4⟩
 dsimp only at hl19 hF4 ⊢
 obtain _ | fu := fu
 · rw [m_spec_l3Find_j2] at hF4; cases hF4
 rw [m_spec_l3Find_j2] at hF4
 refine awp_seq (awp_region ?_)
 refine s_mv ?_
 refine k_nil (k_seq ?_)
 refine w_cond hF4 ?_ ?_ <;> intro hc20 hF5
 refine awp_seq (awp_region ?_)
 refine s_mv ?_
 refine s_mv ?_
 obtain ⟨v21, hv21, hF6⟩ := bind_some' hF5
 refine s_ixT rI hv21 rfl yE24 ?_
 refine s_ld1 yA3 ?_
 refine s_as ?_
 refine s_as ?_
 refine k_nil (k_seq (awp_ret (k_blk_ret (k_seq_ret (k_rnd_ret2 (k_blk_ret (k_seq_ret (k_fin ?_))))))))
 cases hF6
 exact ends_a [] [] Tryz.results183
 refine awp_skip (k_blk (k_seq (awp_region ?_)))
 refine s_mv ?_
 refine s_add (winc2 hc4 hb5 hn_g2) ?_
 refine s_as ?_
 refine k_nil ?_
 exact s_rn (fu, (g2 + 1)) ⟨by first | omega | (dsimp only; omega), hF5, by first | omega | (dsimp only; omega)⟩
 refine awp_exit (k_seq_exit (k_rnd_exit2 (k_blk_exit (k_seq (awp_seq (awp_seq (awp_region ?_)))))))
 refine s_mv ?_
 refine s_lenT yU24 ?_
 refine s_gt ?_
 refine k_nil (k_seq ?_)
 refine w_cond hF3 ?_ ?_ <;> intro hc22 hF4
 refine awp_lenT 6 (fun hb23 => ?_)
 refine awp_seq (awp_region ?_)
 refine s_as ?_
 refine s_as ?_
 refine k_nil (k_seq (awp_ret (k_seq_ret (k_fin ?_))))
 cases hF4
 exact ends_a [] [] Tryz.results183
 refine awp_skip (k_seq (awp_seq (awp_region ?_)))
 refine s_as ?_
 refine s_as ?_
 refine k_nil (k_seq (awp_ret (k_fin ?_)))
 cases hF4
 exact ends_a [] [] Tryz.results183
def m_spec_l3Same_AC (fuel : Nat) : Prop := ∀ (x1 : (List Bind)) (x2 : Form) (x3 : Form) (r : Bool), m_spec_l3Same fuel x1 x2 x3 = some r → AC Tryz.prog 135 [.t (.sl (x1.map Bind.row)), .ag [.t (.sc (.int .i64 x2.kind)), .t (.sc (.str x2.name)), .t (.sc (.int .i64 x2.n)), .t (.sl (x2.scopes.map rI)), .t (.sl (x2.kids.map Form.row))], .ag [.t (.sc (.int .i64 x3.kind)), .t (.sc (.str x3.name)), .t (.sc (.int .i64 x3.n)), .t (.sl (x3.scopes.map rI)), .t (.sl (x3.kids.map Form.row))]] noOb (.t (.sc (.bool r))) noOb
theorem m_spec_l3Same_ok (fuel : Nat) : m_spec_l3Same_AC fuel := by
 intro x1 x2 x3 r hF0
 unfold m_spec_l3Same at hF0
 refine AC_i [.t (.sc (.bool r))] Tryz.func135 rfl Tryz.ntmps135 ?_
 intro C hC
 refine awp_seq (awp_region ?_)
 refine s_box ?_
 refine s_box ?_
 refine s_as ?_
 refine k_nil (k_seq (awp_seq (awp_region ?_)))
 refine s_mv ?_
 refine s_ldW yA27 yS27 ?_
 obtain ⟨v1, hv1, hF1⟩ := bind_some' hF0
 refine s_pure [] (m_spec_l3Find_ok fuel _ _ _ hv1) ?_
 refine s_mv ?_
 refine s_ext ?_
 refine s_ext ?_
 refine s_as ?_
 refine s_as ?_
 refine k_nil (k_seq (awp_seq (awp_region ?_)))
 refine s_mv ?_
 refine s_ldW yA27 yS27 ?_
 obtain ⟨v2, hv2, hF2⟩ := bind_some' hF1
 refine s_pure [] (m_spec_l3Find_ok fuel _ _ _ hv2) ?_
 refine s_mv ?_
 refine s_ext ?_
 refine s_ext ?_
 refine s_as ?_
 refine s_as ?_
 refine k_nil (k_seq (awp_seq ?_))
 refine awp_jn (α := Nat × Bool) [23, 24, 25, 26, 27, 28, 29] [] [] (fun a => [(29, .t (.sc (.bool a.2)))]) (fun a => []) (fun a => a.1 ≤ fuel ∧ m_spec_l3Same_j1 a.1 x1 x2 x3 v1 v2 a.2 = some r) ?_ ?_
 refine awp_region ?_
 refine s_mv ?_
 refine s_mv ?_
 refine s_ne ?_
 refine s_mv ?_
 refine w_guard _ 26 hF2 ?_ ?_ <;> intro hc3 hF3
 refine r_no rfl (r_no rfl ?_)
 refine s_pkt ?_
 refine k_nil ?_
 exact s_jn (fuel, true) ⟨by first | omega | (dsimp only; omega), hF3⟩
 refine s_mv ?_
 refine s_eq ?_
 refine s_pkf ?_
 refine k_nil ?_
 exact s_jn (fuel, (decide (v1.2 = 2))) ⟨by first | omega | (dsimp only; omega), hF3⟩
 clear hF2
 rintro ⟨fu, g4⟩ ⟨hl5, hF3⟩
 dsimp only at hl5 hF3 ⊢
 obtain _ | fu := fu
 · rw [m_spec_l3Same_j1] at hF3; cases hF3
 rw [m_spec_l3Same_j1] at hF3
 refine w_cond hF3 ?_ ?_ <;> intro hc6 hF4
 refine awp_seq (awp_region ?_)
 refine s_as ?_
 refine k_nil (k_seq (awp_ret (k_seq_ret (k_fin ?_))))
 cases hF4
 exact ends_a [] [] Tryz.results135
 refine awp_skip (k_seq (awp_seq (awp_seq (awp_region ?_))))
 refine s_mv ?_
 refine s_eq ?_
 refine k_nil (k_seq ?_)
 refine w_cond hF4 ?_ ?_ <;> intro hc7 hF5
 refine awp_seq (awp_region ?_)
 refine s_fa yF27_1 ?_
 refine s_ld1 yA9 ?_
 refine s_fa yF27_1 ?_
 refine s_ld1 yA9 ?_
 refine s_eqS ?_
 refine s_as ?_
 refine k_nil (k_seq (awp_ret (k_seq_ret (k_fin ?_))))
 cases hF5
 exact ends_a [] [] Tryz.results135
 refine awp_skip (k_seq (awp_seq ?_))
 refine awp_draw yMix (by kernel_rfl) ?_
 refine s_mv ?_
 refine s_mv ?_
 obtain ⟨v8, hv8, hF6⟩ := bind_some' hF5
 refine s_ixT Bind.row hv8 (Bind.row_eq _) yE23 ?_
 refine s_fa yF93_2 ?_
 refine s_ld1 yA3 ?_
 refine s_mv ?_
 refine s_mv ?_
 obtain ⟨v9, hv9, hF7⟩ := bind_some' hF6
 refine s_ixT Bind.row hv9 (Bind.row_eq _) yE23 ?_
 refine s_fa yF93_2 ?_
 refine s_ld1 yA3 ?_
 refine s_eq ?_
 refine s_as ?_
 refine k_nilD (by kernel_rfl) ?_
 refine k_seq (awp_ret (k_fin ?_))
 cases hF7
 exact ends_a [] [] Tryz.results135
def m_spec_l4Row_AC (fuel : Nat) : Prop := ∀ (x1 : Form) (x2 : (List Form)) (x3 : (List (List Hit))) (r : (List Hit)), m_spec_l4Row fuel x1 x2 x3 = some r → AC Tryz.prog 184 [.ag [.t (.sc (.int .i64 x1.kind)), .t (.sc (.str x1.name)), .t (.sc (.int .i64 x1.n)), .t (.sl (x1.scopes.map rI)), .t (.sl (x1.kids.map Form.row))], .t (.sl (x2.map Form.row)), .t (.sl (x3.map (rL Hit.row)))] noOb (.t (.sl (r.map Hit.row))) noOb
theorem m_spec_l4Row_ok (fuel : Nat) : m_spec_l4Row_AC fuel := by
 intro x1 x2 x3 r hF0
 unfold m_spec_l4Row at hF0
 refine AC_i [.t (.sl (r.map Hit.row))] Tryz.func184 rfl Tryz.ntmps184 ?_
 intro C hC
 refine awp_seq (awp_region ?_)
 refine s_box ?_
 refine s_as ?_
 refine k_nil (k_seq (awp_seq (awp_region ?_)))
 refine s_bs Hit.row ([] : List Hit) yP30 yR40 ?_
 refine s_as ?_
 refine k_nil (k_seq (awp_seq (awp_region ?_)))
 refine s_bs Form.row ([] : List Form) yP25 yR27 ?_
 refine s_ldW yA27 yS27 ?_
 refine s_mv ?_
 obtain ⟨v1, hv1, hF1⟩ := bind_some' hF0
 refine s_call [(9300, 14), (9200, 12017)] [] _ _ (m_spec_l4Vars_ok fuel _ _ _ _ hv1) ?_
 refine s_as ?_
 refine k_nil (k_seq (awp_seq (awp_region ?_)))
 refine s_bs rI ([] : List Int) yP24 yR3 ?_
 refine s_ldW yA27 yS27 ?_
 refine s_mv ?_
 obtain ⟨v2, hv2, hF2⟩ := bind_some' hF1
 refine s_call [(9300, 18), (9200, 12021)] [] _ _ (m_spec_l4Depths_ok fuel _ _ _ _ _ hv2) ?_
 refine s_as ?_
 refine k_nil (k_seq (awp_seq (awp_seq (awp_region ?_))))
 refine s_as ?_
 refine k_nil (k_seq (awp_block ?_))
 refine awp_mv 7 13 5020 (by conv => lhs; whnf) (by conv => lhs; whnf) rfl ?_
 refine awp_frame2 [7, 10, 11, 12, 22, 23, 24, 25, 26, 27, 28, 29, 30, 31, 32, 33, 34, 35, 36, 37, 38, 39, 40, 41, 42, 43, 44, 45, 46, 47, 48, 49, 50, 51, 52, 53, 54, 55, 56, 57, 58, 59] [5020] [11, 58, 59, 5040] [5020] (fun a : Nat × (List Hit) × Int => a.1) (fun a : Nat × (List Hit) × Int => [(7, .ar 5020), (10, .t (.sc (.int .i64 a.2.2)))]) (fun a : Nat × (List Hit) × Int => [(5020, .arr (a.2.1.map Hit.row) 40 true)]) (fun a : Nat × (List Hit) × Int => a.1 ≤ fuel ∧ m_spec_l4Row_l1 a.1 x3 v1 v2 a.2.1 a.2.2 = some r) (fuel, ([] : List Hit), 0) ⟨Nat.le_refl _, hF2⟩ (by rfl) (by rfl) (fun _ => rfl) (hasF_cons (by conv => lhs; whnf) (by rfl) (hasF_cons (by conv => lhs; whnf) (by rfl) hasF_nil)) (hasO_cons (by conv => lhs; whnf) (by rfl) hasO_nil) (fresh_C hC rfl) (by repeat (first | exact freshS_args rfl | refine freshS_upd rfl ?_ | refine freshS_frame rfl ?_)) (by repeat (first | exact freshM_no | exact objs_fresh rfl | refine freshM_upd rfl ?_ | refine freshM_frame rfl ?_)) ?_
 clear hF2
 rintro ⟨fu, g3, g4⟩ ⟨hl5, hF3⟩
 dsimp only at hl5 hF3 ⊢
 obtain _ | fu := fu
 · rw [m_spec_l4Row_l1] at hF3; cases hF3
 rw [m_spec_l4Row_l1] at hF3
 refine awp_seq (awp_seq (awp_region ?_))
 refine s_mv ?_
 refine s_mv ?_
 refine s_lenA yU25 ?_
 refine s_lt ?_
 refine k_nil (k_seq ?_)
 refine w_cond hF3 ?_ ?_ <;> intro hc6 hF4
 refine awp_lenA 8 12017 (fun hb7 => ?_)
 refine awp_skip (k_seq (awp_seq (awp_block (awp_seq ?_))))
 refine awp_draw yMix (by kernel_rfl) ?_
 refine s_mv ?_
 refine s_mv ?_
 obtain ⟨v8, hv8, hF5⟩ := bind_some' hF4
 refine s_ixA Form.row hv8 yE25 ?_
 refine s_lAN Form.row hv8 (Form.row_eq _) yA27 yS27 ?_
 refine s_mv ?_
 refine s_mv ?_
 obtain ⟨v9, hv9, hF6⟩ := bind_some' hF5
 refine s_ixA rI hv9 yE24 ?_
 refine s_lA1 rI hv9 rfl yA3 ?_
 refine s_add rfl ?_
 refine s_bld yZ40 yL40 ?_
 refine s_alloc yZ40 ?_
 refine s_stW yS40 ?_
 refine k_nilD (by kernel_rfl) ?_
 refine k_seq (awp_seq (awp_seq (awp_region ?_)))
 refine s_as ?_
 refine k_nil (k_seq (awp_block ?_))
 refine awp_ownB 11 5040 40 [.t (.sc (.int .i64 v8.kind)), .t (.sc (.str v8.name)), .t (.sc (.int .i64 v8.n)), .t (.sl (v8.scopes.map rI)), .t (.sl (v8.kids.map Form.row)), .t (.sc (.int .i64 (w64 (v9 + 1)))), .t (.sc (.int .i64 0)), .t (.sc (.str (⟨#[]⟩ : ByteArray))), .t (.sc (.int .i64 0)), .nl, .nl, .ar 5040] yI40.choose_spec ?_
 refine awp_frame2 [12, 38, 39, 40, 41, 42, 43, 44, 45, 46, 47, 48, 49, 50, 51, 52, 53, 54, 55] [11, 5040] [53, 54] [5040] (fun a : Nat × Int × (List Hit) => a.1) (fun a : Nat × Int × (List Hit) => [(12, .t (.sc (.int .i64 a.2.1)))]) (fun a : Nat × Int × (List Hit) => [(11, .box [.t (.sc (.int .i64 v8.kind)), .t (.sc (.str v8.name)), .t (.sc (.int .i64 v8.n)), .t (.sl (v8.scopes.map rI)), .t (.sl (v8.kids.map Form.row)), .t (.sc (.int .i64 (w64 (v9 + 1)))), .t (.sc (.int .i64 0)), .t (.sc (.str (⟨#[]⟩ : ByteArray))), .t (.sc (.int .i64 0)), .nl, .nl, .ar 5040]), (5040, .arr (a.2.2.map Hit.row) 40 true)]) (fun a : Nat × Int × (List Hit) => a.1 ≤ fu ∧ m_spec_l4Row_l2 a.1 x3 v1 v2 g3 g4 v8 v9 a.2.1 a.2.2 = some r ∧ 0 ≤ a.2.1) (fu, 0, ([] : List Hit)) ⟨Nat.le_refl _, hF6, by simp⟩ (by rfl) (by rfl) (fun _ => rfl) (hasF_cons (by conv => lhs; whnf) (by rfl) hasF_nil) (hasO_cons (by conv => lhs; whnf) (by rfl) (hasO_cons (by conv => lhs; whnf) (by rfl) hasO_nil)) (fresh_C hC rfl) (by repeat (first | exact freshS_args rfl | refine freshS_upd rfl ?_ | refine freshS_frame rfl ?_)) (by repeat (first | exact freshM_no | exact objs_fresh rfl | refine freshM_upd rfl ?_ | refine freshM_frame rfl ?_)) ?_
 clear hF6
 rintro ⟨fu, g10, g11⟩ ⟨hl12, hF7, hn_g10⟩
 dsimp only at hl12 hF7 hn_g10 ⊢
 obtain _ | fu := fu
 · rw [m_spec_l4Row_l2] at hF7; cases hF7
 rw [m_spec_l4Row_l2] at hF7
 refine awp_seq (awp_seq (awp_region ?_))
 refine s_mv ?_
 refine s_mv ?_
 refine s_lenT yU182 ?_
 refine s_lt ?_
 refine k_nil (k_seq ?_)
 refine w_cond hF7 ?_ ?_ <;> intro hc13 hF8
 refine awp_lenT 2 (fun hb14 => ?_)
 refine awp_skip (k_seq (awp_seq (awp_block ?_)))
 refine awp_draw yMix (by kernel_rfl) ?_
 refine s_fa yF40_3 ?_
 refine s_ld1 yA30 ?_
 refine s_mv ?_
 refine s_mv ?_
 obtain ⟨v15, hv15, hF9⟩ := bind_some' hF8
 refine s_ixT (rL Hit.row) hv15 rfl yE182 ?_
 refine s_ld1 yA30 ?_
 refine s_mv ?_
 obtain ⟨v16, hv16, hF10⟩ := bind_some' hF9
 refine s_ixT Hit.row hv16 (Hit.row_eq _) yE30 ?_
 refine s_ldN yA40 yS40 ?_
 refine s_bs Hit.row [v16] yP30 yR40 ?_
 obtain ⟨hk17, hF11⟩ := chk_some hF10
 refine s_apT Hit.row (fun y => Hit.row_len y) hk17 yP30 ?_
 refine s_fa yF40_3 ?_
 refine s_stP yS30 ?_
 refine k_nilD (by kernel_rfl) ?_
 refine k_blk (k_seq (awp_region ?_))
 refine s_mv ?_
 refine s_add (winc2 hc13 hb14 hn_g10) ?_
 refine s_as ?_
 refine k_nil ?_
 exact s_rn (fu, (g10 + 1), (g11 ++ [v16])) ⟨by first | omega | (dsimp only; omega), hF11, by first | omega | (dsimp only; omega)⟩ [(5040, 54)]
 refine awp_exit (k_seq_exit (k_rnd_exit2 (k_blk_exit (k_seq (awp_region ?_)))))
 refine s_mv ?_
 refine s_ldW yA40 yS40 ?_
 refine s_bs Hit.row [(Hit.mk v8 (w64 (v9 + 1)) (Form.mk 0 (⟨#[]⟩ : ByteArray) 0 ([] : List Int) ([] : List Form)) g11)] yP30 yR40 ?_
 obtain ⟨hk18, hF9⟩ := chk_some hF8
 refine s_apT Hit.row (fun y => Hit.row_len y) hk18 yP30 ?_
 refine s_as ?_
 refine k_nil (k_blk (k_seq (awp_region ?_)))
 refine s_mv ?_
 refine s_add rfl ?_
 refine s_as ?_
 refine k_nil ?_
 exact s_rn (fu, (g3 ++ [(Hit.mk v8 (w64 (v9 + 1)) (Form.mk 0 (⟨#[]⟩ : ByteArray) 0 ([] : List Int) ([] : List Form)) g11)]), (w64 (g4 + 1))) ⟨by first | omega | (dsimp only; omega), hF9⟩ [(5020, 59)]
 refine awp_exit (k_seq_exit (k_rnd_exit2 (k_blk_exit (k_seq (awp_seq (awp_region ?_))))))
 refine s_mv ?_
 refine s_as ?_
 refine k_nil (k_seq (awp_ret (k_fin ?_)))
 cases hF4
 exact ends_a [] [5020] Tryz.results184
end Go.Abs
