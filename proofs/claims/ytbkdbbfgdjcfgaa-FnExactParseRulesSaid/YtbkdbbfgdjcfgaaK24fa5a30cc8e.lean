/- A part of the proof: what the functions that the law calls answer, as pure values. -/
import Derived.Test.YtbkdbbfgdjcfgaaK0b7d7560d506
import Derived.Test.YtbkdbbfgdjcfgaaK4fd39b116326
import Derived.Test.YtbkdbbfgdjcfgaaK61500c1b4fa0
import Derived.Test.YtbkdbbfgdjcfgaaK737adf4b85c3
import Derived.Test.YtbkdbbfgdjcfgaaKa51fa71ca298
set_option linter.unusedSimpArgs false
set_option linter.unusedVariables false
set_option maxRecDepth 100000
set_option maxHeartbeats 4000000
namespace Go.Abs
open Go.Proofs
theorem m_spec_l4Depths_all (fuel : Nat) : m_spec_l4Depths_AC fuel := by
 induction fuel using Nat.strongRecOn with
 | _ N ih =>
   cases N with
   | zero => exact (by intro x1 x2 x3 x4 r h; rw [m_spec_l4Depths] at h; cases h)
   | succ fu => exact m_spec_l4Depths_st fu (fun k hk => (ih k (by omega)))
theorem m_spec_l4Depths_ok (fuel : Nat) : m_spec_l4Depths_AC fuel := (m_spec_l4Depths_all fuel)
def m_spec_l4Is_AC (fuel : Nat) : Prop := ∀ (x1 : Form) (x2 : (List Form)) (r : Bool), m_spec_l4Is fuel x1 x2 = some r → AC Try.prog 85 [.ag [.t (.sc (.int .i64 x1.kind)), .t (.sc (.str x1.name)), .t (.sc (.int .i64 x1.n)), .t (.sl (x1.scopes.map rI)), .t (.sl (x1.kids.map Form.row))], .t (.sl (x2.map Form.row))] noOb (.t (.sc (.bool r))) noOb
theorem m_spec_l4Is_ok (fuel : Nat) : m_spec_l4Is_AC fuel := by
 intro x1 x2 r hF0
 unfold m_spec_l4Is at hF0
 refine AC_i [.t (.sc (.bool r))] Try.func85 rfl Try.ntmps85 ?_
 intro C hC
 refine awp_seq (awp_region ?_)
 refine s_box ?_
 refine s_as ?_
 refine k_nil (k_seq (awp_seq (awp_seq (awp_region ?_))))
 refine s_ldW yA34 yS34 ?_
 obtain ⟨v1, hv1, hF1⟩ := bind_some' hF0
 refine s_pure [] (m_spec_FormValid_ok fuel _ _ hv1) ?_
 refine s_not ?_
 refine s_mv ?_
 refine w_guard _ 12 hF1 ?_ ?_ <;> intro hc2 hF2
 iterate 3 refine r_no rfl ?_
 refine s_pkt ?_
 refine s_mv ?_
 iterate 3 refine r_no rfl ?_
 refine s_pkt ?_
 refine k_nil (k_seq (awp_true rfl (awp_seq (awp_region ?_))))
 refine s_as ?_
 refine k_nil (k_seq (awp_ret (k_seq_ret (k_fin ?_))))
 cases hF2
 exact ends_a [] [] Try.results85
 refine s_mv ?_
 obtain ⟨v3, hv3, hF3⟩ := bind_some' hF2
 refine s_pure [] (m_spec_l4Literals_ok fuel _ _ hv3) ?_
 refine s_not ?_
 refine s_pkf ?_
 refine s_mv ?_
 refine w_guard _ 17 hF3 ?_ ?_ <;> intro hc4 hF4
 iterate 3 refine r_no rfl ?_
 refine s_pkt ?_
 refine k_nil (k_seq (awp_true rfl (awp_seq (awp_region ?_))))
 refine s_as ?_
 refine k_nil (k_seq (awp_ret (k_seq_ret (k_fin ?_))))
 cases hF4
 exact ends_a [] [] Try.results85
 refine s_ldW yA34 yS34 ?_
 obtain ⟨v5, hv5, hF5⟩ := bind_some' hF4
 refine s_pure [] (m_spec_l4Shape_ok fuel _ _ hv5) ?_
 refine s_not ?_
 refine s_pkf ?_
 refine k_nil (k_seq ?_)
 refine w_cond hF5 ?_ ?_ <;> intro hc6 hF6
 refine awp_seq (awp_region ?_)
 refine s_as ?_
 refine k_nil (k_seq (awp_ret (k_seq_ret (k_fin ?_))))
 cases hF6
 exact ends_a [] [] Try.results85
 refine awp_skip (k_seq (awp_seq (awp_region ?_)))
 refine s_bs Form.row ([] : List Form) yP32 yR34 ?_
 refine s_ldW yA34 yS34 ?_
 refine s_mv ?_
 obtain ⟨v7, hv7, hF7⟩ := bind_some' hF6
 refine s_call [(9300, 22), (9200, 12025)] [] _ _ (m_spec_l4Vars_ok fuel _ _ _ _ hv7) ?_
 refine s_as ?_
 refine k_nil (k_seq (awp_seq (awp_seq (awp_region ?_))))
 refine s_as ?_
 refine k_nil (k_seq (awp_block ?_))
 refine awp_frz 12025 (by conv => lhs; whnf) ?_
 refine awp_fr (β := Int × (List Form)) [4, 6, 26, 27, 28, 29, 30, 31, 32, 33, 34, 35, 36, 37, 38, 39] [12025] [] (fun a => [(6, .t (.sc (.int .i64 a.2.1)))]) (fun a => [(12025, .arr (a.2.2.map Form.row) 34 false)]) (fun a => a.1 ≤ fuel ∧ m_spec_l4Is_l1 a.1 x1 x2 a.2.1 a.2.2 = some r ∧ 0 ≤ a.2.1) (fuel, 0, v7) ⟨Nat.le_refl _, hF7, by simp⟩ ?_
 clear hF7
 rintro ⟨fu, g8, g9⟩ ⟨hl10, hF8, hn_g8⟩
 dsimp only at hl10 hF8 hn_g8 ⊢
 obtain _ | fu := fu
 · rw [m_spec_l4Is_l1] at hF8; cases hF8
 rw [m_spec_l4Is_l1] at hF8
 refine awp_seq (awp_seq (awp_region ?_))
 refine s_mv ?_
 refine s_mv ?_
 refine s_lenA yU32 ?_
 refine s_lt ?_
 refine k_nil (k_seq ?_)
 refine w_cond hF8 ?_ ?_ <;> intro hc11 hF9
 refine awp_lenA 5 12025 (fun hb12 => ?_)
 refine awp_skip (k_seq (awp_seq (awp_block (awp_seq ?_))))
 refine awp_draw yMix (by kernel_rfl) ?_
 refine s_mv0 ?_
 refine s_mv ?_
 obtain ⟨v13, hv13, hF10⟩ := bind_some' hF9
 refine s_sl01 Form.row (fun y => Form.row_len y) hv13 yU32 yE32 ?_
 refine s_mv0 ?_
 refine s_mv ?_
 obtain ⟨v14, hv14, hF11⟩ := bind_some' hF10
 refine s_ixA Form.row hv14 yE32 ?_
 refine s_lAN Form.row hv14 (Form.row_eq _) yA34 yS34 ?_
 obtain ⟨v15, hv15, hF12⟩ := bind_some' hF11
 refine s_pure [] (m_spec_l4In_ok fu _ _ _ hv15) ?_
 refine k_nilD (by kernel_rfl) ?_
 refine k_seq ?_
 refine w_cond hF12 ?_ ?_ <;> intro hc16 hF13
 refine awp_seq (awp_region ?_)
 refine s_as ?_
 refine k_nil (k_seq (awp_ret (k_blk_ret (k_seq_ret (k_rnd_ret2 (k_blk_ret (k_seq_ret (k_fin ?_))))))))
 cases hF13
 exact ends_a [] [] Try.results85
 refine awp_skip (k_blk (k_seq (awp_region ?_)))
 refine s_mv ?_
 refine s_add (winc2 hc11 hb12 hn_g8) ?_
 refine s_as ?_
 refine k_nil ?_
 exact s_rn (fu, (g8 + 1), g9) ⟨by first | omega | (dsimp only; omega), hF13, by first | omega | (dsimp only; omega)⟩
 refine awp_exit (k_seq_exit (k_rnd_exit2 (k_blk_exit (k_seq (awp_seq (awp_region ?_))))))
 refine s_bs rI ([] : List Int) yP22 yR3 ?_
 refine s_ldW yA34 yS34 ?_
 refine s_mv ?_
 obtain ⟨v17, hv17, hF10⟩ := bind_some' hF9
 refine s_call [(9300, 40), (9200, 12043)] [] _ _ (m_spec_l4Depths_ok fu _ _ _ _ _ hv17) ?_
 refine s_as ?_
 refine k_nil (k_seq (awp_seq (awp_seq (awp_region ?_))))
 refine s_as ?_
 refine k_nil (k_seq (awp_block ?_))
 refine awp_fr (β := Int) [4, 8, 44, 45, 46, 47, 48, 49, 50, 51, 52, 53, 54] [] [] (fun a => [(8, .t (.sc (.int .i64 a.2)))]) (fun a => []) (fun a => a.1 ≤ fu ∧ m_spec_l4Is_l2 a.1 g9 v17 a.2 = some r ∧ 0 ≤ a.2) (fu, 0) ⟨Nat.le_refl _, hF10, by simp⟩ ?_
 clear hF10
 rintro ⟨fu, g18⟩ ⟨hl19, hF11, hn_g18⟩
 dsimp only at hl19 hF11 hn_g18 ⊢
 obtain _ | fu := fu
 · rw [m_spec_l4Is_l2] at hF11; cases hF11
 rw [m_spec_l4Is_l2] at hF11
 refine awp_seq (awp_seq (awp_region ?_))
 refine s_mv ?_
 refine s_mv ?_
 refine s_lenA yU22 ?_
 refine s_lt ?_
 refine k_nil (k_seq ?_)
 refine w_cond hF11 ?_ ?_ <;> intro hc20 hF12
 refine awp_lenA 7 12043 (fun hb21 => ?_)
 refine awp_skip (k_seq (awp_seq (awp_block (awp_seq (awp_region ?_)))))
 refine s_mv ?_
 refine s_mv ?_
 obtain ⟨v22, hv22, hF13⟩ := bind_some' hF12
 refine s_ixA rI hv22 yE22 ?_
 refine s_lA1 rI hv22 rfl yA3 ?_
 refine s_gt ?_
 refine k_nil (k_seq ?_)
 refine w_cond hF13 ?_ ?_ <;> intro hc23 hF14
 refine awp_seq (awp_region ?_)
 refine s_as ?_
 refine k_nil (k_seq (awp_ret (k_blk_ret (k_seq_ret (k_rnd_ret2 (k_blk_ret (k_seq_ret (k_fin ?_))))))))
 cases hF14
 exact ends_a [] [] Try.results85
 refine awp_skip (k_blk (k_seq (awp_region ?_)))
 refine s_mv ?_
 refine s_add (winc2 hc20 hb21 hn_g18) ?_
 refine s_as ?_
 refine k_nil ?_
 exact s_rn (fu, (g18 + 1)) ⟨by first | omega | (dsimp only; omega), hF14, by first | omega | (dsimp only; omega)⟩
 refine awp_exit (k_seq_exit (k_rnd_exit2 (k_blk_exit (k_seq (awp_seq (awp_region ?_))))))
 refine s_mv ?_
 refine s_lenA yU32 ?_
 refine s_le ?_
 refine s_as ?_
 refine k_nil (k_seq (awp_ret (k_fin ?_)))
 cases hF12
 exact ends_a [] [] Try.results85
def m_spec_l5Shape_AC (fuel : Nat) : Prop := ∀ (x1 : Form) (x2 : (List Form)) (r : (List Hit)), m_spec_l5Shape fuel x1 x2 = some r → AC Try.prog 157 [.ag [.t (.sc (.int .i64 x1.kind)), .t (.sc (.str x1.name)), .t (.sc (.int .i64 x1.n)), .t (.sl (x1.scopes.map rI)), .t (.sl (x1.kids.map Form.row))], .t (.sl (x2.map Form.row))] noOb (.t (.sl (r.map Hit.row))) noOb
theorem m_spec_l5Shape_ok (fuel : Nat) : m_spec_l5Shape_AC fuel := by
 intro x1 x2 r hF0
 unfold m_spec_l5Shape at hF0
 refine AC_i [.t (.sl (r.map Hit.row))] Try.func157 rfl Try.ntmps157 ?_
 intro C hC
 refine awp_seq (awp_region ?_)
 refine s_box ?_
 refine s_as ?_
 refine k_nil (k_seq (awp_seq (awp_region ?_)))
 refine s_bs Hit.row ([] : List Hit) yP63 yR65 ?_
 refine s_as ?_
 refine k_nil (k_seq (awp_seq (awp_region ?_)))
 refine s_bs Form.row ([] : List Form) yP32 yR34 ?_
 refine s_ldW yA34 yS34 ?_
 refine s_mv ?_
 obtain ⟨v1, hv1, hF1⟩ := bind_some' hF0
 refine s_call [(9300, 11), (9200, 12014)] [] _ _ (m_spec_l4Vars_ok fuel _ _ _ _ hv1) ?_
 refine s_as ?_
 refine k_nil (k_seq (awp_seq (awp_region ?_)))
 refine s_bs rI ([] : List Int) yP22 yR3 ?_
 refine s_ldW yA34 yS34 ?_
 refine s_mv ?_
 obtain ⟨v2, hv2, hF2⟩ := bind_some' hF1
 refine s_call [(9300, 15), (9200, 12018)] [] _ _ (m_spec_l4Depths_ok fuel _ _ _ _ _ hv2) ?_
 refine s_as ?_
 refine k_nil (k_seq (awp_seq (awp_seq (awp_region ?_))))
 refine s_as ?_
 refine k_nil (k_seq (awp_block ?_))
 refine awp_mv 5 10 5020 (by conv => lhs; whnf) (by conv => lhs; whnf) rfl ?_
 refine awp_frame2 [5, 8, 9, 19, 20, 21, 22, 23, 24, 25, 26, 27, 28, 29, 30, 31, 32, 33, 34, 35, 36, 37, 38, 39, 40, 41, 42, 43, 44, 45] [5020] [9, 44, 45] [5020] (fun a : Nat × (List Hit) × Int => a.1) (fun a : Nat × (List Hit) × Int => [(5, .ar 5020), (8, .t (.sc (.int .i64 a.2.2)))]) (fun a : Nat × (List Hit) × Int => [(5020, .arr (a.2.1.map Hit.row) 65 true)]) (fun a : Nat × (List Hit) × Int => a.1 ≤ fuel ∧ m_spec_l5Shape_l1 a.1 v1 v2 a.2.1 a.2.2 = some r ∧ 0 ≤ a.2.2) (fuel, ([] : List Hit), 0) ⟨Nat.le_refl _, hF2, by simp⟩ (by rfl) (by rfl) (fun _ => rfl) (hasF_cons (by conv => lhs; whnf) (by rfl) (hasF_cons (by conv => lhs; whnf) (by rfl) hasF_nil)) (hasO_cons (by conv => lhs; whnf) (by rfl) hasO_nil) (fresh_C hC rfl) (by repeat (first | exact freshS_args rfl | refine freshS_upd rfl ?_ | refine freshS_frame rfl ?_)) (by repeat (first | exact freshM_no | exact objs_fresh rfl | refine freshM_upd rfl ?_ | refine freshM_frame rfl ?_)) ?_
 clear hF2
 rintro ⟨fu, g3, g4⟩ ⟨hl5, hF3, hn_g4⟩
 dsimp only at hl5 hF3 hn_g4 ⊢
 obtain _ | fu := fu
 · rw [m_spec_l5Shape_l1] at hF3; cases hF3
 rw [m_spec_l5Shape_l1] at hF3
 refine awp_seq (awp_seq (awp_region ?_))
 refine s_mv ?_
 refine s_mv ?_
 refine s_lenA yU32 ?_
 refine s_lt ?_
 refine k_nil (k_seq ?_)
 refine w_cond hF3 ?_ ?_ <;> intro hc6 hF4
 refine awp_lenA 6 12014 (fun hb7 => ?_)
 refine awp_skip (k_seq (awp_seq (awp_block (awp_seq ?_))))
 refine awp_draw yMix (by kernel_rfl) ?_
 refine s_mv0 ?_
 refine s_mv ?_
 obtain ⟨v8, hv8, hF5⟩ := bind_some' hF4
 refine s_ixA Form.row hv8 yE32 ?_
 refine s_lAN Form.row hv8 (Form.row_eq _) yA34 yS34 ?_
 refine s_mv0 ?_
 refine s_mv ?_
 obtain ⟨v9, hv9, hF6⟩ := bind_some' hF5
 refine s_ixA rI hv9 yE22 ?_
 refine s_lA1 rI hv9 rfl yA3 ?_
 refine s_bld yZ65 yL65 ?_
 refine s_alloc yZ65 ?_
 refine s_stW yS65 ?_
 refine k_nilD (by kernel_rfl) ?_
 refine k_seq (awp_seq (awp_seq (awp_region ?_)))
 refine s_fa yF65_1 ?_
 refine s_ld1 yA3 ?_
 refine s_eq ?_
 refine k_nil (k_seq ?_)
 refine w_cond hF6 ?_ ?_ <;> intro hc10 hF7
 refine awp_region ?_
 refine s_mv ?_
 refine s_mv ?_
 obtain ⟨v11, hv11, hF8⟩ := bind_some' hF7
 refine s_ixA Form.row hv11 yE32 ?_
 refine s_lAN Form.row hv11 (Form.row_eq _) yA34 yS34 ?_
 refine s_fa yF65_2 ?_
 refine s_stP yS34 ?_
 refine k_nil (k_seq (awp_region ?_))
 refine s_mv ?_
 refine s_ldW yA65 yS65 ?_
 refine s_bs Hit.row [(Hit.mk v8 v9 v11 ([] : List Hit))] yP63 yR65 ?_
 obtain ⟨hk12, hF9⟩ := chk_some hF8
 refine s_apT Hit.row (fun y => Hit.row_len y) hk12 yP63 ?_
 refine s_as ?_
 refine k_nil (k_blk (k_seq (awp_region ?_)))
 refine s_mv ?_
 refine s_add (winc2 hc6 hb7 hn_g4) ?_
 refine s_as ?_
 refine k_nil ?_
 exact s_rn (fu, (g3 ++ [(Hit.mk v8 v9 v11 ([] : List Hit))]), (g4 + 1)) ⟨by first | omega | (dsimp only; omega), hF9, by first | omega | (dsimp only; omega)⟩ [(5020, 45)]
 refine awp_skip (k_seq (awp_region ?_))
 refine s_mv ?_
 refine s_ldW yA65 yS65 ?_
 refine s_bs Hit.row [(Hit.mk v8 v9 (Form.mk 0 (⟨#[]⟩ : ByteArray) 0 ([] : List Int) ([] : List Form)) ([] : List Hit))] yP63 yR65 ?_
 obtain ⟨hk13, hF8⟩ := chk_some hF7
 refine s_apT Hit.row (fun y => Hit.row_len y) hk13 yP63 ?_
 refine s_as ?_
 refine k_nil (k_blk (k_seq (awp_region ?_)))
 refine s_mv ?_
 refine s_add (winc2 hc6 hb7 hn_g4) ?_
 refine s_as ?_
 refine k_nil ?_
 exact s_rn (fu, (g3 ++ [(Hit.mk v8 v9 (Form.mk 0 (⟨#[]⟩ : ByteArray) 0 ([] : List Int) ([] : List Form)) ([] : List Hit))]), (g4 + 1)) ⟨by first | omega | (dsimp only; omega), hF8, by first | omega | (dsimp only; omega)⟩ [(5020, 45)]
 refine awp_exit (k_seq_exit (k_rnd_exit2 (k_blk_exit (k_seq (awp_seq (awp_region ?_))))))
 refine s_mv ?_
 refine s_as ?_
 refine k_nil (k_seq (awp_ret (k_fin ?_)))
 cases hF4
 exact ends_a [] [5020] Try.results157
def m_spec_l4Find_AC (fuel : Nat) : Prop := ∀ (x1 : (List Hit)) (x2 : Form) (r : Int), m_spec_l4Find fuel x1 x2 = some r → AC Try.prog 90 [.t (.sl (x1.map Hit.row)), .ag [.t (.sc (.int .i64 x2.kind)), .t (.sc (.str x2.name)), .t (.sc (.int .i64 x2.n)), .t (.sl (x2.scopes.map rI)), .t (.sl (x2.kids.map Form.row))]] noOb (.t (.sc (.int .i64 r))) noOb
theorem m_spec_l4Find_ok (fuel : Nat) : m_spec_l4Find_AC fuel := by
 intro x1 x2 r hF0
 unfold m_spec_l4Find at hF0
 refine AC_i [.t (.sc (.int .i64 r))] Try.func90 rfl Try.ntmps90 ?_
 intro C hC
 refine awp_seq (awp_region ?_)
 refine s_box ?_
 refine s_as ?_
 refine k_nil (k_seq (awp_seq (awp_seq (awp_region ?_))))
 refine s_as ?_
 refine k_nil (k_seq (awp_block ?_))
 refine awp_fr (β := Int) [4, 5, 6, 7, 8, 9, 10, 11, 12, 13, 14, 15, 16, 17, 18, 19] [] [] (fun a => [(5, .t (.sc (.int .i64 a.2)))]) (fun a => []) (fun a => a.1 ≤ fuel ∧ m_spec_l4Find_l1 a.1 x1 x2 a.2 = some r ∧ 0 ≤ a.2) (fuel, 0) ⟨Nat.le_refl _, hF0, by simp⟩ ?_
 clear hF0
 rintro ⟨fu, g1⟩ ⟨hl2, hF1, hn_g1⟩
 dsimp only at hl2 hF1 hn_g1 ⊢
 obtain _ | fu := fu
 · rw [m_spec_l4Find_l1] at hF1; cases hF1
 rw [m_spec_l4Find_l1] at hF1
 refine awp_seq (awp_seq (awp_region ?_))
 refine s_mv ?_
 refine s_mv ?_
 refine s_lenT yU63 ?_
 refine s_lt ?_
 refine k_nil (k_seq ?_)
 refine w_cond hF1 ?_ ?_ <;> intro hc3 hF2
 refine awp_lenT 0 (fun hb4 => ?_)
 refine awp_skip (k_seq (awp_seq (awp_block (awp_seq ?_))))
 refine awp_draw yMix (by kernel_rfl) ?_
 refine s_mv ?_
 refine s_mv ?_
 obtain ⟨v5, hv5, hF3⟩ := bind_some' hF2
 refine s_ixT Hit.row hv5 (Hit.row_eq _) yE63 ?_
 refine s_fa yF65_0 ?_
 refine s_ldN yA34 yS34 ?_
 refine s_ldW yA34 yS34 ?_
 obtain ⟨v6, hv6, hF4⟩ := bind_some' hF3
 refine s_pure [] (m_spec_FormSame_ok fu _ _ _ hv6) ?_
 refine k_nilD (by kernel_rfl) ?_
 refine k_seq ?_
 refine w_cond hF4 ?_ ?_ <;> intro hc7 hF5
 refine awp_seq (awp_region ?_)
 refine s_mv ?_
 refine s_as ?_
 refine k_nil (k_seq (awp_ret (k_blk_ret (k_seq_ret (k_rnd_ret2 (k_blk_ret (k_seq_ret (k_fin ?_))))))))
 cases hF5
 exact ends_a [] [] Try.results90
 refine awp_skip (k_blk (k_seq (awp_region ?_)))
 refine s_mv ?_
 refine s_add (winc2 hc3 hb4 hn_g1) ?_
 refine s_as ?_
 refine k_nil ?_
 exact s_rn (fu, (g1 + 1)) ⟨by first | omega | (dsimp only; omega), hF5, by first | omega | (dsimp only; omega)⟩
 refine awp_exit (k_seq_exit (k_rnd_exit2 (k_blk_exit (k_seq (awp_seq (awp_region ?_))))))
 refine s_as ?_
 refine k_nil (k_seq (awp_ret (k_fin ?_)))
 cases hF2
 exact ends_a [] [] Try.results90
def m_spec_l5Depth_AC (fuel : Nat) : Prop := ∀ (x1 : (List Hit)) (x2 : Form) (r : Int), m_spec_l5Depth fuel x1 x2 = some r → AC Try.prog 174 [.t (.sl (x1.map Hit.row)), .ag [.t (.sc (.int .i64 x2.kind)), .t (.sc (.str x2.name)), .t (.sc (.int .i64 x2.n)), .t (.sl (x2.scopes.map rI)), .t (.sl (x2.kids.map Form.row))]] noOb (.t (.sc (.int .i64 r))) noOb
theorem m_spec_l5Depth_ok (fuel : Nat) : m_spec_l5Depth_AC fuel := by
 intro x1 x2 r hF0
 unfold m_spec_l5Depth at hF0
 refine AC_i [.t (.sc (.int .i64 r))] Try.func174 rfl Try.ntmps174 ?_
 intro C hC
 refine awp_seq (awp_region ?_)
 refine s_box ?_
 refine s_as ?_
 refine k_nil (k_seq (awp_seq (awp_seq (awp_region ?_))))
 refine s_fa yF34_0 ?_
 refine s_ld1 yA3 ?_
 refine s_ne ?_
 refine k_nil (k_seq ?_)
 refine w_cond hF0 ?_ ?_ <;> intro hc1 hF1
 refine awp_seq (awp_region ?_)
 refine s_as ?_
 refine k_nil (k_seq (awp_ret (k_seq_ret (k_fin ?_))))
 cases hF1
 exact ends_a [] [] Try.results174
 refine awp_skip (k_seq (awp_seq (awp_region ?_)))
 refine s_mv ?_
 refine s_ldW yA34 yS34 ?_
 obtain ⟨v2, hv2, hF2⟩ := bind_some' hF1
 refine s_pure [] (m_spec_l4Find_ok fuel _ _ _ hv2) ?_
 refine s_as ?_
 refine k_nil (k_seq (awp_seq (awp_seq (awp_region ?_))))
 refine s_mv ?_
 refine s_lt ?_
 refine k_nil (k_seq ?_)
 refine w_cond hF2 ?_ ?_ <;> intro hc3 hF3
 refine awp_seq (awp_region ?_)
 refine s_as ?_
 refine k_nil (k_seq (awp_ret (k_seq_ret (k_fin ?_))))
 cases hF3
 exact ends_a [] [] Try.results174
 refine awp_skip (k_seq (awp_seq (awp_region ?_)))
 refine s_mv ?_
 refine s_mv ?_
 obtain ⟨v4, hv4, hF4⟩ := bind_some' hF3
 refine s_ixT Hit.row hv4 (Hit.row_eq _) yE63 ?_
 refine s_fa yF65_1 ?_
 refine s_ld1 yA3 ?_
 refine s_as ?_
 refine k_nil (k_seq (awp_ret (k_fin ?_)))
 cases hF4
 exact ends_a [] [] Try.results174
def m_spec_l5Rows_AC (fuel : Nat) : Prop := ∀ (x1 : (List Hit)) (x2 : Form) (r : Bool), m_spec_l5Rows fuel x1 x2 = some r → AC Try.prog 175 [.t (.sl (x1.map Hit.row)), .ag [.t (.sc (.int .i64 x2.kind)), .t (.sc (.str x2.name)), .t (.sc (.int .i64 x2.n)), .t (.sl (x2.scopes.map rI)), .t (.sl (x2.kids.map Form.row))]] noOb (.t (.sc (.bool r))) noOb
theorem m_spec_l5Rows_st (fu : Nat) (ih_m_spec_l5Rows : ∀ k, k ≤ fu → m_spec_l5Rows_AC k) : m_spec_l5Rows_AC (fu + 1) := by
 intro x1 x2 r hF0
 rw [m_spec_l5Rows] at hF0
 refine AC_i [.t (.sc (.bool r))] Try.func175 rfl Try.ntmps175 ?_
 intro C hC
 refine awp_seq (awp_region ?_)
 refine s_box ?_
 refine s_as ?_
 refine k_nil (k_seq (awp_seq (awp_seq (awp_region ?_))))
 refine s_mv ?_
 refine s_ldW yA34 yS34 ?_
 obtain ⟨v1, hv1, hF1⟩ := bind_some' hF0
 refine s_pure [] (m_spec_l5Depth_ok fu _ _ _ hv1) ?_
 refine s_gt ?_
 refine k_nil (k_seq ?_)
 refine w_cond hF1 ?_ ?_ <;> intro hc2 hF2
 refine awp_seq (awp_region ?_)
 refine s_as ?_
 refine k_nil (k_seq (awp_ret (k_seq_ret (k_fin ?_))))
 cases hF2
 exact ends_a [] [] Try.results175
 refine awp_skip (k_seq (awp_seq (awp_seq (awp_region ?_))))
 refine s_as ?_
 refine k_nil (k_seq (awp_block ?_))
 refine awp_fr (β := Int) [4, 5, 10, 11, 12, 13, 14, 15, 16, 17, 18, 19, 20, 21, 22, 23] [] [] (fun a => [(5, .t (.sc (.int .i64 a.2)))]) (fun a => []) (fun a => a.1 ≤ fu ∧ m_spec_l5Rows_l1 a.1 x1 x2 a.2 = some r ∧ 0 ≤ a.2) (fu, 0) ⟨Nat.le_refl _, hF2, by simp⟩ ?_
 clear hF2
 rintro ⟨fu, g3⟩ ⟨hl4, hF3, hn_g3⟩
 dsimp only at hl4 hF3 hn_g3 ⊢
 obtain _ | fu := fu
 · rw [m_spec_l5Rows_l1] at hF3; cases hF3
 rw [m_spec_l5Rows_l1] at hF3
 refine awp_seq (awp_seq (awp_region ?_))
 refine s_mv ?_
 refine s_fa yF34_4 ?_
 refine s_ld1 yA32 ?_
 refine s_lenT yU32 ?_
 refine s_lt ?_
 refine k_nil (k_seq ?_)
 refine w_cond hF3 ?_ ?_ <;> intro hc5 hF4
 refine awp_lenT 12 (fun hb6 => ?_)
 refine awp_skip (k_seq (awp_seq (awp_block (awp_seq (awp_region ?_)))))
 refine s_mv ?_
 refine s_fa yF34_4 ?_
 refine s_ld1 yA32 ?_
 refine s_mv ?_
 obtain ⟨v7, hv7, hF5⟩ := bind_some' hF4
 refine s_ixT Form.row hv7 (Form.row_eq _) yE32 ?_
 refine s_ldN yA34 yS34 ?_
 obtain ⟨v8, hv8, hF6⟩ := bind_some' hF5
 refine s_pure [] (ih_m_spec_l5Rows fu (by omega) _ _ _ hv8) ?_
 refine k_nil (k_seq ?_)
 refine w_cond hF6 ?_ ?_ <;> intro hc9 hF7
 refine awp_seq (awp_region ?_)
 refine s_as ?_
 refine k_nil (k_seq (awp_ret (k_blk_ret (k_seq_ret (k_rnd_ret2 (k_blk_ret (k_seq_ret (k_fin ?_))))))))
 cases hF7
 exact ends_a [] [] Try.results175
 refine awp_skip (k_blk (k_seq (awp_region ?_)))
 refine s_mv ?_
 refine s_add (winc2 hc5 hb6 hn_g3) ?_
 refine s_as ?_
 refine k_nil ?_
 exact s_rn (fu, (g3 + 1)) ⟨by first | omega | (dsimp only; omega), hF7, by first | omega | (dsimp only; omega)⟩
 refine awp_exit (k_seq_exit (k_rnd_exit2 (k_blk_exit (k_seq (awp_seq (awp_region ?_))))))
 refine s_as ?_
 refine k_nil (k_seq (awp_ret (k_fin ?_)))
 cases hF4
 exact ends_a [] [] Try.results175
theorem m_spec_l5Rows_all (fuel : Nat) : m_spec_l5Rows_AC fuel := by
 induction fuel using Nat.strongRecOn with
 | _ N ih =>
   cases N with
   | zero => exact (by intro x1 x2 r h; rw [m_spec_l5Rows] at h; cases h)
   | succ fu => exact m_spec_l5Rows_st fu (fun k hk => (ih k (by omega)))
theorem m_spec_l5Rows_ok (fuel : Nat) : m_spec_l5Rows_AC fuel := (m_spec_l5Rows_all fuel)
def m_spec_l5Less_AC (fuel : Nat) : Prop := ∀ (x1 : (List Hit)) (r : (List Hit)), m_spec_l5Less fuel x1 = some r → AC Try.prog 176 [.t (.sl (x1.map Hit.row))] noOb (.t (.sl (r.map Hit.row))) noOb
theorem m_spec_l5Less_ok (fuel : Nat) : m_spec_l5Less_AC fuel := by
 intro x1 r hF0
 unfold m_spec_l5Less at hF0
 refine AC_i [.t (.sl (r.map Hit.row))] Try.func176 rfl Try.ntmps176 ?_
 intro C hC
 refine awp_seq (awp_region ?_)
 refine s_as ?_
 refine k_nil (k_seq (awp_seq (awp_region ?_)))
 refine s_bs Hit.row ([] : List Hit) yP63 yR65 ?_
 refine s_as ?_
 refine k_nil (k_seq (awp_seq (awp_seq (awp_region ?_))))
 refine s_as ?_
 refine k_nil (k_seq (awp_block ?_))
 refine awp_mv 3 6 5020 (by conv => lhs; whnf) (by conv => lhs; whnf) rfl ?_
 refine awp_frame2 [3, 4, 5, 7, 8, 9, 10, 11, 12, 13, 14, 15, 16, 17, 18, 19, 20, 21, 22, 23, 24, 25, 26, 27, 28, 29, 30, 31, 32, 33, 34, 35, 36, 37, 38, 39] [5020] [5, 38, 39] [5020] (fun a : Nat × (List Hit) × Int => a.1) (fun a : Nat × (List Hit) × Int => [(3, .ar 5020), (4, .t (.sc (.int .i64 a.2.2)))]) (fun a : Nat × (List Hit) × Int => [(5020, .arr (a.2.1.map Hit.row) 65 true)]) (fun a : Nat × (List Hit) × Int => a.1 ≤ fuel ∧ m_spec_l5Less_l1 a.1 x1 a.2.1 a.2.2 = some r ∧ 0 ≤ a.2.2) (fuel, ([] : List Hit), 0) ⟨Nat.le_refl _, hF0, by simp⟩ (by rfl) (by rfl) (fun _ => rfl) (hasF_cons (by conv => lhs; whnf) (by rfl) (hasF_cons (by conv => lhs; whnf) (by rfl) hasF_nil)) (hasO_cons (by conv => lhs; whnf) (by rfl) hasO_nil) (fresh_C hC rfl) (by repeat (first | exact freshS_args rfl | refine freshS_upd rfl ?_ | refine freshS_frame rfl ?_)) (by repeat (first | exact freshM_no | exact objs_fresh rfl | refine freshM_upd rfl ?_ | refine freshM_frame rfl ?_)) ?_
 clear hF0
 rintro ⟨fu, g1, g2⟩ ⟨hl3, hF1, hn_g2⟩
 dsimp only at hl3 hF1 hn_g2 ⊢
 obtain _ | fu := fu
 · rw [m_spec_l5Less_l1] at hF1; cases hF1
 rw [m_spec_l5Less_l1] at hF1
 refine awp_seq (awp_seq (awp_region ?_))
 refine s_mv ?_
 refine s_mv ?_
 refine s_lenT yU63 ?_
 refine s_lt ?_
 refine k_nil (k_seq ?_)
 refine w_cond hF1 ?_ ?_ <;> intro hc4 hF2
 refine awp_lenT 0 (fun hb5 => ?_)
 refine awp_skip (k_seq (awp_seq (awp_block (awp_seq ?_))))
 refine awp_draw yMix (by kernel_rfl) ?_
 refine s_mv ?_
 refine s_mv ?_
 obtain ⟨v6, hv6, hF3⟩ := bind_some' hF2
 refine s_ixT Hit.row hv6 (Hit.row_eq _) yE63 ?_
 refine s_fa yF65_0 ?_
 refine s_ldN yA34 yS34 ?_
 refine s_mv ?_
 refine s_mv ?_
 obtain ⟨v7, hv7, hF4⟩ := bind_some' hF3
 refine s_ixT Hit.row hv7 (Hit.row_eq _) yE63 ?_
 refine s_fa yF65_1 ?_
 refine s_ld1 yA3 ?_
 refine s_mv ?_
 refine s_mv ?_
 obtain ⟨v8, hv8, hF5⟩ := bind_some' hF4
 refine s_ixT Hit.row hv8 (Hit.row_eq _) yE63 ?_
 refine s_fa yF65_2 ?_
 refine s_ldN yA34 yS34 ?_
 refine s_bld yZ65 yL65 ?_
 refine s_alloc yZ65 ?_
 refine s_stW yS65 ?_
 refine k_nilD (by kernel_rfl) ?_
 refine k_seq (awp_seq (awp_seq (awp_region ?_)))
 refine s_fa yF65_1 ?_
 refine s_ld1 yA3 ?_
 refine s_gt ?_
 refine k_nil (k_seq ?_)
 refine w_cond hF5 ?_ ?_ <;> intro hc9 hF6
 refine awp_region ?_
 refine s_fa yF65_1 ?_
 refine s_ld1 yA3 ?_
 refine s_sub rfl ?_
 refine s_fa yF65_1 ?_
 refine s_stP yS3 ?_
 refine k_nil (k_seq (awp_region ?_))
 refine s_mv ?_
 refine s_ldW yA65 yS65 ?_
 refine s_bs Hit.row [(Hit.mk v6.name (w64 (v7.depth - 1)) v8.one ([] : List Hit))] yP63 yR65 ?_
 obtain ⟨hk10, hF7⟩ := chk_some hF6
 refine s_apT Hit.row (fun y => Hit.row_len y) hk10 yP63 ?_
 refine s_as ?_
 refine k_nil (k_blk (k_seq (awp_region ?_)))
 refine s_mv ?_
 refine s_add (winc2 hc4 hb5 hn_g2) ?_
 refine s_as ?_
 refine k_nil ?_
 exact s_rn (fu, (g1 ++ [(Hit.mk v6.name (w64 (v7.depth - 1)) v8.one ([] : List Hit))]), (g2 + 1)) ⟨by first | omega | (dsimp only; omega), hF7, by first | omega | (dsimp only; omega)⟩ [(5020, 39)]
 refine awp_skip (k_seq (awp_region ?_))
 refine s_mv ?_
 refine s_ldW yA65 yS65 ?_
 refine s_bs Hit.row [(Hit.mk v6.name v7.depth v8.one ([] : List Hit))] yP63 yR65 ?_
 obtain ⟨hk11, hF7⟩ := chk_some hF6
 refine s_apT Hit.row (fun y => Hit.row_len y) hk11 yP63 ?_
 refine s_as ?_
 refine k_nil (k_blk (k_seq (awp_region ?_)))
 refine s_mv ?_
 refine s_add (winc2 hc4 hb5 hn_g2) ?_
 refine s_as ?_
 refine k_nil ?_
 exact s_rn (fu, (g1 ++ [(Hit.mk v6.name v7.depth v8.one ([] : List Hit))]), (g2 + 1)) ⟨by first | omega | (dsimp only; omega), hF7, by first | omega | (dsimp only; omega)⟩ [(5020, 39)]
 refine awp_exit (k_seq_exit (k_rnd_exit2 (k_blk_exit (k_seq (awp_seq (awp_region ?_))))))
 refine s_mv ?_
 refine s_as ?_
 refine k_nil (k_seq (awp_ret (k_fin ?_)))
 cases hF2
 exact ends_a [] [5020] Try.results176
def m_spec_l5Is_AC (fuel : Nat) : Prop := ∀ (x1 : Form) (x2 : (List Hit)) (r : Bool), m_spec_l5Is fuel x1 x2 = some r → AC Try.prog 146 [.ag [.t (.sc (.int .i64 x1.kind)), .t (.sc (.str x1.name)), .t (.sc (.int .i64 x1.n)), .t (.sl (x1.scopes.map rI)), .t (.sl (x1.kids.map Form.row))], .t (.sl (x2.map Hit.row))] noOb (.t (.sc (.bool r))) noOb
theorem m_spec_l5Is_st (fu : Nat) (ih_m_spec_l5Is : ∀ k, k ≤ fu → m_spec_l5Is_AC k) : m_spec_l5Is_AC (fu + 1) := by
 intro x1 x2 r hF0
 rw [m_spec_l5Is] at hF0
 refine AC_i [.t (.sc (.bool r))] Try.func146 rfl Try.ntmps146 ?_
 intro C hC
 refine awp_seq (awp_region ?_)
 refine s_box ?_
 refine s_as ?_
 refine k_nil (k_seq (awp_seq (awp_seq (awp_region ?_))))
 refine s_ldW yA34 yS34 ?_
 obtain ⟨v1, hv1, hF1⟩ := bind_some' hF0
 refine s_pure [] (m_spec_l4Dots_ok fu _ _ hv1) ?_
 refine s_mv ?_
 refine w_guard _ 8 hF1 ?_ ?_ <;> intro hc2 hF2
 iterate 4 refine r_no rfl ?_
 refine s_pkt ?_
 refine k_nil (k_seq (awp_true rfl (awp_seq (awp_region ?_))))
 refine s_as ?_
 refine k_nil (k_seq (awp_ret (k_seq_ret (k_fin ?_))))
 cases hF2
 exact ends_a [] [] Try.results146
 refine s_mv ?_
 refine s_ldW yA34 yS34 ?_
 obtain ⟨v3, hv3, hF3⟩ := bind_some' hF2
 refine s_pure [] (m_spec_l5Depth_ok fu _ _ _ hv3) ?_
 refine s_gt ?_
 refine s_pkf ?_
 refine k_nil (k_seq ?_)
 refine w_cond hF3 ?_ ?_ <;> intro hc4 hF4
 refine awp_seq (awp_region ?_)
 refine s_as ?_
 refine k_nil (k_seq (awp_ret (k_seq_ret (k_fin ?_))))
 cases hF4
 exact ends_a [] [] Try.results146
 refine awp_skip (k_seq (awp_seq (awp_seq (awp_region ?_))))
 refine s_as ?_
 refine k_nil (k_seq (awp_block ?_))
 refine awp_fr (β := Int) [4, 5, 14, 15, 16, 17, 18, 19, 20, 21, 22, 23, 24, 25, 26, 27, 28, 29, 30, 31, 32, 33, 34, 35, 36, 37, 38, 39, 40, 41, 42, 43, 44, 45, 46, 47, 48, 49, 50, 51, 52, 53, 54, 55, 56, 57, 58, 59, 60, 61, 62, 63, 64, 65, 66, 67, 68, 69, 70, 71, 72, 73, 74, 75, 76, 77, 78, 79] [] [] (fun a => [(5, .t (.sc (.int .i64 a.2)))]) (fun a => []) (fun a => a.1 ≤ fu ∧ m_spec_l5Is_l1 a.1 x1 x2 a.2 = some r ∧ 0 ≤ a.2) (fu, 0) ⟨Nat.le_refl _, hF4, by simp⟩ ?_
 clear hF4
 rintro ⟨fu, g5⟩ ⟨hl6, hF5, hn_g5⟩
 dsimp only at hl6 hF5 hn_g5 ⊢
 obtain _ | fu := fu
 · rw [m_spec_l5Is_l1] at hF5; cases hF5
 rw [m_spec_l5Is_l1] at hF5
 refine awp_seq (awp_seq (awp_region ?_))
 refine s_mv ?_
 refine s_fa yF34_4 ?_
 refine s_ld1 yA32 ?_
 refine s_lenT yU32 ?_
 refine s_lt ?_
 refine k_nil (k_seq ?_)
 refine w_cond hF5 ?_ ?_ <;> intro hc7 hF6
 refine awp_lenT 16 (fun hb8 => ?_)
 refine awp_skip (k_seq (awp_seq (awp_block (awp_seq (awp_seq (awp_region ?_))))))
 refine s_fa yF34_4 ?_
 refine s_ld1 yA32 ?_
 refine s_mv ?_
 obtain ⟨v9, hv9, hF7⟩ := bind_some' hF6
 refine s_ixT Form.row hv9 (Form.row_eq _) yE32 ?_
 refine s_ldN yA34 yS34 ?_
 obtain ⟨v10, hv10, hF8⟩ := bind_some' hF7
 refine s_pure [] (m_spec_l4Dots_ok fu _ _ hv10) ?_
 refine k_nil (k_seq ?_)
 refine w_cond hF8 ?_ ?_ <;> intro hc11 hF9
 refine awp_seq (awp_seq (awp_region ?_))
 refine s_mv ?_
 refine s_eq ?_
 refine s_mv ?_
 refine w_guard _ 29 hF9 ?_ ?_ <;> intro hc12 hF10
 iterate 7 refine r_no rfl ?_
 refine s_pkt ?_
 refine k_nil (k_seq (awp_true rfl (awp_seq (awp_region ?_))))
 refine s_as ?_
 refine k_nil (k_seq (awp_ret (k_seq_ret (k_seq_ret (k_blk_ret (k_seq_ret (k_rnd_ret2 (k_blk_ret (k_seq_ret (k_fin ?_))))))))))
 cases hF10
 exact ends_a [] [] Try.results146
 refine s_fa yF34_4 ?_
 refine s_ld1 yA32 ?_
 refine s_mv ?_
 refine s_sub rfl ?_
 obtain ⟨v13, hv13, hF11⟩ := bind_some' hF10
 refine s_ixT Form.row hv13 (Form.row_eq _) yE32 ?_
 refine s_ldN yA34 yS34 ?_
 obtain ⟨v14, hv14, hF12⟩ := bind_some' hF11
 refine s_pure [] (m_spec_l4Dots_ok fu _ _ hv14) ?_
 refine s_pkf ?_
 refine k_nil (k_seq ?_)
 refine w_cond hF12 ?_ ?_ <;> intro hc15 hF13
 refine awp_seq (awp_region ?_)
 refine s_as ?_
 refine k_nil (k_seq (awp_ret (k_seq_ret (k_seq_ret (k_blk_ret (k_seq_ret (k_rnd_ret2 (k_blk_ret (k_seq_ret (k_fin ?_))))))))))
 cases hF13
 exact ends_a [] [] Try.results146
 refine awp_skip (k_seq (awp_exit (k_seq_exit (k_blk_exit (k_seq (awp_region ?_))))))
 refine s_mv ?_
 refine s_add (winc2 hc7 hb8 hn_g5) ?_
 refine s_as ?_
 refine k_nil ?_
 exact s_rn (fu, (g5 + 1)) ⟨by first | omega | (dsimp only; omega), hF13, by first | omega | (dsimp only; omega)⟩
 refine awp_skip (k_seq (awp_seq (awp_seq (awp_region ?_))))
 refine s_mv ?_
 refine s_add (winc2 hc7 hb8 hn_g5) ?_
 refine s_fa yF34_4 ?_
 refine s_ld1 yA32 ?_
 refine s_lenT yU32 ?_
 refine s_lt ?_
 refine s_mv ?_
 refine w_guard _ 44 hF9 ?_ ?_ <;> intro hc16 hF10
 refine s_fa yF34_4 ?_
 refine s_ld1 yA32 ?_
 refine s_mv ?_
 refine s_add (winc2 hc7 hb8 hn_g5) ?_
 obtain ⟨v17, hv17, hF11⟩ := bind_some' hF10
 refine s_ixT Form.row hv17 (Form.row_eq _) yE32 ?_
 refine s_ldN yA34 yS34 ?_
 obtain ⟨v18, hv18, hF12⟩ := bind_some' hF11
 refine s_pure [] (m_spec_l4Dots_ok fu _ _ hv18) ?_
 refine s_pkt ?_
 refine k_nil (k_seq ?_)
 refine w_cond hF12 ?_ ?_ <;> intro hc19 hF13
 refine awp_seq (awp_seq ?_)
 refine awp_draw yMix (by kernel_rfl) ?_
 refine s_mv ?_
 refine s_fa yF34_4 ?_
 refine s_ld1 yA32 ?_
 refine s_mv ?_
 obtain ⟨v20, hv20, hF14⟩ := bind_some' hF13
 refine s_ixT Form.row hv20 (Form.row_eq _) yE32 ?_
 refine s_ldN yA34 yS34 ?_
 obtain ⟨v21, hv21, hF15⟩ := bind_some' hF14
 refine s_pure [] (m_spec_l5Rows_ok fu _ _ _ hv21) ?_
 refine s_not ?_
 refine s_mv ?_
 refine w_guard _ 61 hF15 ?_ ?_ <;> intro hc22 hF16
 iterate 9 refine r_no rfl ?_
 refine s_pkt ?_
 refine k_nilD (by kernel_rfl) ?_
 refine k_seq (awp_true rfl (awp_seq (awp_region ?_)))
 refine s_as ?_
 refine k_nil (k_seq (awp_ret (k_seq_ret (k_seq_ret (k_blk_ret (k_seq_ret (k_rnd_ret2 (k_blk_ret (k_seq_ret (k_fin ?_))))))))))
 cases hF16
 exact ends_a [] [] Try.results146
 refine s_fa yF34_4 ?_
 refine s_ld1 yA32 ?_
 refine s_mv ?_
 obtain ⟨v23, hv23, hF17⟩ := bind_some' hF16
 refine s_ixT Form.row hv23 (Form.row_eq _) yE32 ?_
 refine s_ldN yA34 yS34 ?_
 refine s_mv ?_
 obtain ⟨v24, hv24, hF18⟩ := bind_some' hF17
 refine s_pure [] (m_spec_l5Less_ok fu _ _ hv24) ?_
 obtain ⟨v25, hv25, hF19⟩ := bind_some' hF18
 refine s_pure [] (ih_m_spec_l5Is fu (by omega) _ _ _ hv25) ?_
 refine s_not ?_
 refine s_pkf ?_
 refine k_nilD (by kernel_rfl) ?_
 refine k_seq ?_
 refine w_cond hF19 ?_ ?_ <;> intro hc26 hF20
 refine awp_seq (awp_region ?_)
 refine s_as ?_
 refine k_nil (k_seq (awp_ret (k_seq_ret (k_seq_ret (k_blk_ret (k_seq_ret (k_rnd_ret2 (k_blk_ret (k_seq_ret (k_fin ?_))))))))))
 cases hF20
 exact ends_a [] [] Try.results146
 refine awp_skip (k_seq (awp_exit (k_seq_exit (k_blk_exit (k_seq (awp_region ?_))))))
 refine s_mv ?_
 refine s_add (winc2 hc7 hb8 hn_g5) ?_
 refine s_as ?_
 refine k_nil ?_
 exact s_rn (fu, (g5 + 1)) ⟨by first | omega | (dsimp only; omega), hF20, by first | omega | (dsimp only; omega)⟩
 refine awp_skip (k_seq (awp_seq (awp_region ?_)))
 refine s_fa yF34_4 ?_
 refine s_ld1 yA32 ?_
 refine s_mv ?_
 obtain ⟨v27, hv27, hF14⟩ := bind_some' hF13
 refine s_ixT Form.row hv27 (Form.row_eq _) yE32 ?_
 refine s_ldN yA34 yS34 ?_
 refine s_mv ?_
 obtain ⟨v28, hv28, hF15⟩ := bind_some' hF14
 refine s_pure [] (ih_m_spec_l5Is fu (by omega) _ _ _ hv28) ?_
 refine s_not ?_
 refine k_nil (k_seq ?_)
 refine w_cond hF15 ?_ ?_ <;> intro hc29 hF16
 refine awp_seq (awp_region ?_)
 refine s_as ?_
 refine k_nil (k_seq (awp_ret (k_blk_ret (k_seq_ret (k_rnd_ret2 (k_blk_ret (k_seq_ret (k_fin ?_))))))))
 cases hF16
 exact ends_a [] [] Try.results146
 refine awp_skip (k_blk (k_seq (awp_region ?_)))
 refine s_mv ?_
 refine s_add (winc2 hc7 hb8 hn_g5) ?_
 refine s_as ?_
 refine k_nil ?_
 exact s_rn (fu, (g5 + 1)) ⟨by first | omega | (dsimp only; omega), hF16, by first | omega | (dsimp only; omega)⟩
 iterate 7 refine r_no rfl ?_
 refine s_pkf ?_
 refine k_nil (k_seq (awp_false rfl (awp_skip (k_seq (awp_seq (awp_region ?_))))))
 refine s_fa yF34_4 ?_
 refine s_ld1 yA32 ?_
 refine s_mv ?_
 obtain ⟨v30, hv30, hF11⟩ := bind_some' hF10
 refine s_ixT Form.row hv30 (Form.row_eq _) yE32 ?_
 refine s_ldN yA34 yS34 ?_
 refine s_mv ?_
 obtain ⟨v31, hv31, hF12⟩ := bind_some' hF11
 refine s_pure [] (ih_m_spec_l5Is fu (by omega) _ _ _ hv31) ?_
 refine s_not ?_
 refine k_nil (k_seq ?_)
 refine w_cond hF12 ?_ ?_ <;> intro hc32 hF13
 refine awp_seq (awp_region ?_)
 refine s_as ?_
 refine k_nil (k_seq (awp_ret (k_blk_ret (k_seq_ret (k_rnd_ret2 (k_blk_ret (k_seq_ret (k_fin ?_))))))))
 cases hF13
 exact ends_a [] [] Try.results146
 refine awp_skip (k_blk (k_seq (awp_region ?_)))
 refine s_mv ?_
 refine s_add (winc2 hc7 hb8 hn_g5) ?_
 refine s_as ?_
 refine k_nil ?_
 exact s_rn (fu, (g5 + 1)) ⟨by first | omega | (dsimp only; omega), hF13, by first | omega | (dsimp only; omega)⟩
 refine awp_exit (k_seq_exit (k_rnd_exit2 (k_blk_exit (k_seq (awp_seq (awp_region ?_))))))
 refine s_as ?_
 refine k_nil (k_seq (awp_ret (k_fin ?_)))
 cases hF6
 exact ends_a [] [] Try.results146
theorem m_spec_l5Is_all (fuel : Nat) : m_spec_l5Is_AC fuel := by
 induction fuel using Nat.strongRecOn with
 | _ N ih =>
   cases N with
   | zero => exact (by intro x1 x2 r h; rw [m_spec_l5Is] at h; cases h)
   | succ fu => exact m_spec_l5Is_st fu (fun k hk => (ih k (by omega)))
theorem m_spec_l5Is_ok (fuel : Nat) : m_spec_l5Is_AC fuel := (m_spec_l5Is_all fuel)
def m_spec_l5Rule_AC (fuel : Nat) : Prop := ∀ (x1 : Rule) (x2 : (List Form)) (r : Bool), m_spec_l5Rule fuel x1 x2 = some r → AC Try.prog 113 [.ag [.t (.sc (.int .i64 x1.pattern.kind)), .t (.sc (.str x1.pattern.name)), .t (.sc (.int .i64 x1.pattern.n)), .t (.sl (x1.pattern.scopes.map rI)), .t (.sl (x1.pattern.kids.map Form.row)), .t (.sc (.int .i64 x1.template.kind)), .t (.sc (.str x1.template.name)), .t (.sc (.int .i64 x1.template.n)), .t (.sl (x1.template.scopes.map rI)), .t (.sl (x1.template.kids.map Form.row))], .t (.sl (x2.map Form.row))] noOb (.t (.sc (.bool r))) noOb
theorem m_spec_l5Rule_ok (fuel : Nat) : m_spec_l5Rule_AC fuel := by
 intro x1 x2 r hF0
 unfold m_spec_l5Rule at hF0
 refine AC_i [.t (.sc (.bool r))] Try.func113 rfl Try.ntmps113 ?_
 intro C hC
 refine awp_seq (awp_region ?_)
 refine s_box ?_
 refine s_as ?_
 refine k_nil (k_seq (awp_seq ?_))
 refine awp_draw yMix (by kernel_rfl) ?_
 refine s_fa yF105_0 ?_
 refine s_ldN yA34 yS34 ?_
 refine s_mv ?_
 obtain ⟨v1, hv1, hF1⟩ := bind_some' hF0
 refine s_pure [] (m_spec_l4Is_ok fuel _ _ _ hv1) ?_
 refine s_mv ?_
 refine w_guard _ 9 hF1 ?_ ?_ <;> intro hc2 hF2
 refine s_fa yF105_0 ?_
 refine s_fa yF34_0 ?_
 refine s_ld1 yA3 ?_
 refine s_eq ?_
 refine s_pkt ?_
 refine s_mv ?_
 refine w_guard _ 15 hF2 ?_ ?_ <;> intro hc3 hF3
 refine s_fa yF105_0 ?_
 refine s_fa yF34_4 ?_
 refine s_ld1 yA32 ?_
 refine s_lenT yU32 ?_
 refine s_gt ?_
 refine s_pkt ?_
 refine s_mv ?_
 refine w_guard _ 22 hF3 ?_ ?_ <;> intro hc4 hF4
 refine s_fa yF105_1 ?_
 refine s_ldN yA34 yS34 ?_
 obtain ⟨v5, hv5, hF5⟩ := bind_some' hF4
 refine s_pure [] (m_spec_FormValid_ok fuel _ _ hv5) ?_
 refine s_pkt ?_
 refine s_mv ?_
 refine w_guard _ 27 hF5 ?_ ?_ <;> intro hc6 hF6
 refine s_fa yF105_1 ?_
 refine s_ldN yA34 yS34 ?_
 refine s_fa yF105_0 ?_
 refine s_ldN yA34 yS34 ?_
 refine s_mv ?_
 obtain ⟨v7, hv7, hF7⟩ := bind_some' hF6
 refine s_pure [] (m_spec_l5Shape_ok fuel _ _ _ hv7) ?_
 obtain ⟨v8, hv8, hF8⟩ := bind_some' hF7
 refine s_pure [] (m_spec_l5Is_ok fuel _ _ _ hv8) ?_
 refine s_pkt ?_
 refine s_as ?_
 refine k_nilD (by kernel_rfl) ?_
 refine k_seq (awp_ret (k_fin ?_))
 cases hF8
 exact ends_a [] [] Try.results113
 iterate 7 refine r_no rfl ?_
 refine s_pkf ?_
 refine s_as ?_
 refine k_nilD (by kernel_rfl) ?_
 refine k_seq (awp_ret (k_fin ?_))
 cases hF6
 exact ends_a [] [] Try.results113
 iterate 3 refine r_no rfl ?_
 refine s_pkf ?_
 refine s_mv ?_
 iterate 7 refine r_no rfl ?_
 refine s_pkf ?_
 refine s_as ?_
 refine k_nilD (by kernel_rfl) ?_
 refine k_seq (awp_ret (k_fin ?_))
 cases hF4
 exact ends_a [] [] Try.results113
 iterate 5 refine r_no rfl ?_
 refine s_pkf ?_
 refine s_mv ?_
 iterate 3 refine r_no rfl ?_
 refine s_pkf ?_
 refine s_mv ?_
 iterate 7 refine r_no rfl ?_
 refine s_pkf ?_
 refine s_as ?_
 refine k_nilD (by kernel_rfl) ?_
 refine k_seq (awp_ret (k_fin ?_))
 cases hF3
 exact ends_a [] [] Try.results113
 iterate 4 refine r_no rfl ?_
 refine s_pkf ?_
 refine s_mv ?_
 iterate 5 refine r_no rfl ?_
 refine s_pkf ?_
 refine s_mv ?_
 iterate 3 refine r_no rfl ?_
 refine s_pkf ?_
 refine s_mv ?_
 iterate 7 refine r_no rfl ?_
 refine s_pkf ?_
 refine s_as ?_
 refine k_nilD (by kernel_rfl) ?_
 refine k_seq (awp_ret (k_fin ?_))
 cases hF2
 exact ends_a [] [] Try.results113
def m_spec_l5Rules_AC (fuel : Nat) : Prop := ∀ (x1 : (List Rule)) (x2 : (List Form)) (r : Bool), m_spec_l5Rules fuel x1 x2 = some r → AC Try.prog 72 [.t (.sl (x1.map Rule.row)), .t (.sl (x2.map Form.row))] noOb (.t (.sc (.bool r))) noOb
theorem m_spec_l5Rules_ok (fuel : Nat) : m_spec_l5Rules_AC fuel := by
 intro x1 x2 r hF0
 unfold m_spec_l5Rules at hF0
 refine AC_i [.t (.sc (.bool r))] Try.func72 rfl Try.ntmps72 ?_
 intro C hC
 refine awp_seq (awp_region ?_)
 refine s_as ?_
 refine k_nil (k_seq (awp_seq (awp_seq (awp_region ?_))))
 refine s_as ?_
 refine k_nil (k_seq (awp_block ?_))
 refine awp_fr (β := Int) [4, 5, 6, 7, 8, 9, 10, 11, 12, 13, 14, 15, 16, 17, 18, 19, 20, 21, 22] [] [] (fun a => [(5, .t (.sc (.int .i64 a.2)))]) (fun a => []) (fun a => a.1 ≤ fuel ∧ m_spec_l5Rules_l1 a.1 x1 x2 a.2 = some r) (fuel, 0) ⟨Nat.le_refl _, hF0⟩ ?_
 clear hF0
 rintro ⟨fu, g1⟩ ⟨hl2, hF1⟩
 dsimp only at hl2 hF1 ⊢
 obtain _ | fu := fu
 · rw [m_spec_l5Rules_l1] at hF1; cases hF1
 rw [m_spec_l5Rules_l1] at hF1
 refine awp_seq ?_
 refine awp_jn (α := Nat × Bool) [6, 7, 8, 9, 10, 11, 12, 13] [] [] (fun a => [(13, .t (.sc (.bool a.2)))]) (fun a => []) (fun a => a.1 ≤ fu ∧ m_spec_l5Rules_j2 a.1 x1 x2 g1 a.2 = some r) ?_ ?_
 refine awp_region ?_
 refine s_mv ?_
 refine s_mv ?_
 refine s_lenT yU48 ?_
 refine s_lt ?_
 refine s_mv ?_
 refine w_guard _ 10 hF1 ?_ ?_ <;> intro hc3 hF2
 refine s_mv ?_
 refine s_lt ?_
 refine s_pkt ?_
 refine k_nil ?_
 exact s_jn (fu, (decide (g1 < 10))) ⟨by first | omega | (dsimp only; omega), hF2⟩
 refine r_no rfl (r_no rfl ?_)
 refine s_pkf ?_
 refine k_nil ?_
 exact s_jn (fu, false) ⟨by first | omega | (dsimp only; omega), hF2⟩
 clear hF1
 rintro ⟨fu, g4⟩ ⟨hl5, hF2⟩
 dsimp only at hl5 hF2 ⊢
 obtain _ | fu := fu
 · rw [m_spec_l5Rules_j2] at hF2; cases hF2
 rw [m_spec_l5Rules_j2] at hF2
 refine w_cond hF2 ?_ ?_ <;> intro hc6 hF3
 refine awp_skip (k_seq (awp_seq (awp_block (awp_seq (awp_region ?_)))))
 refine s_mv ?_
 refine s_mv ?_
 obtain ⟨v7, hv7, hF4⟩ := bind_some' hF3
 refine s_ixT Rule.row hv7 (Rule.row_eq _) yE48 ?_
 refine s_ldN yA105 yS105 ?_
 refine s_mv ?_
 obtain ⟨v8, hv8, hF5⟩ := bind_some' hF4
 refine s_pure [] (m_spec_l5Rule_ok fu _ _ _ hv8) ?_
 refine s_not ?_
 refine k_nil (k_seq ?_)
 refine w_cond hF5 ?_ ?_ <;> intro hc9 hF6
 refine awp_seq (awp_region ?_)
 refine s_as ?_
 refine k_nil (k_seq (awp_ret (k_blk_ret (k_seq_ret (k_rnd_ret2 (k_blk_ret (k_seq_ret (k_fin ?_))))))))
 cases hF6
 exact ends_a [] [] Try.results72
 refine awp_skip (k_blk (k_seq (awp_region ?_)))
 refine s_mv ?_
 refine s_add rfl ?_
 refine s_as ?_
 refine k_nil ?_
 exact s_rn (fu, (w64 (g1 + 1))) ⟨by first | omega | (dsimp only; omega), hF6⟩
 refine awp_exit (k_seq_exit (k_rnd_exit2 (k_blk_exit (k_seq (awp_seq (awp_region ?_))))))
 refine s_mv ?_
 refine s_lenT yU48 ?_
 refine s_lt ?_
 refine s_mv ?_
 refine w_guard _ 26 hF3 ?_ ?_ <;> intro hc10 hF4
 refine s_mv ?_
 obtain ⟨v11, hv11, hF5⟩ := bind_some' hF4
 refine s_pure [] (m_spec_l4Literals_ok fu _ _ hv11) ?_
 refine s_pkt ?_
 refine s_as ?_
 refine k_nil (k_seq (awp_ret (k_fin ?_)))
 cases hF5
 exact ends_a [] [] Try.results72
 refine r_no rfl (r_no rfl ?_)
 refine s_pkf ?_
 refine s_as ?_
 refine k_nil (k_seq (awp_ret (k_fin ?_)))
 cases hF4
 exact ends_a [] [] Try.results72
end Go.Abs
