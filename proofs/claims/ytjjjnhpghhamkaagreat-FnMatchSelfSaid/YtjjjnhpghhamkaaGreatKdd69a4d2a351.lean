/- A part of the proof: what the functions that the law calls answer, as pure values. -/
import Derived.Test.YtjjjnhpghhamkaaGreatK021ed166fd4e
import Derived.Test.YtjjjnhpghhamkaaGreatK3ba24bed1e1e
import Derived.Test.YtjjjnhpghhamkaaGreatK58e73cef7f21
import Derived.Test.YtjjjnhpghhamkaaGreatK5a9d111b70d7
import Derived.Test.YtjjjnhpghhamkaaGreatK7e80916e5b9a
import Derived.Test.YtjjjnhpghhamkaaGreatKb213bf6352b3
import Derived.Test.YtjjjnhpghhamkaaGreatKcbfe00d1dfad
import Derived.Test.YtjjjnhpghhamkaaGreatKda6d63d5e0ed
import Derived.Test.YtjjjnhpghhamkaaGreatKe0fc307a1d2f
set_option linter.unusedSimpArgs false
set_option linter.unusedVariables false
set_option maxRecDepth 100000
set_option maxHeartbeats 4000000
namespace Go.Abs
open Go.Proofs
theorem m_impl_eachForm_NamesOf_1_all (fuel : Nat) : m_impl_eachForm_NamesOf_1_AC fuel := by
 induction fuel using Nat.strongRecOn with
 | _ N ih =>
   cases N with
   | zero => exact (by intro x1 o1 r h; rw [m_impl_eachForm_NamesOf_1] at h; cases h)
   | succ fu => exact m_impl_eachForm_NamesOf_1_st fu (fun k hk => (ih k (by omega)))
theorem m_impl_eachForm_NamesOf_1_ok (fuel : Nat) : m_impl_eachForm_NamesOf_1_AC fuel := (m_impl_eachForm_NamesOf_1_all fuel)
def m_impl_NamesOf_AC (fuel : Nat) : Prop := ∀ (x1 : Form) (r : (List ByteArray)), m_impl_NamesOf fuel x1 = some r → AC Tryz.prog 19 [.ag [.t (.sc (.int .i64 x1.kind)), .t (.sc (.str x1.name)), .t (.sc (.int .i64 x1.n)), .t (.sl (x1.scopes.map rI)), .t (.sl (x1.kids.map Form.row))]] noOb (.t (.sl (r.map rS))) noOb
theorem m_impl_NamesOf_ok (fuel : Nat) : m_impl_NamesOf_AC fuel := by
 intro x1 r hF0
 unfold m_impl_NamesOf at hF0
 refine AC_i [.t (.sl (r.map rS))] Tryz.func19 rfl Tryz.ntmps19 ?_
 intro C hC
 refine awp_seq (awp_region ?_)
 refine s_box ?_
 refine s_as ?_
 refine k_nil (k_seq (awp_seq (awp_region ?_)))
 refine s_bs rS ([] : List ByteArray) yP36 yR9 ?_
 refine s_alloc yZ36 ?_
 refine s_stW yS36 ?_
 refine k_nil (k_seq (awp_seq ?_))
 refine awp_frz 4 (by conv => lhs; whnf) ?_
 refine awp_region ?_
 refine s_ldW yA27 yS27 ?_
 refine s_fn ?_
 obtain ⟨v1, hv1, hF1⟩ := bind_some' hF0
 refine s_call [(9000, 3), (9420, 4), (10420, 22007)] [] _ _ (m_impl_eachForm_NamesOf_1_ok fuel _ _ _ hv1) ?_
 refine k_nil (k_seq (awp_seq (awp_region ?_)))
 refine s_ld1 yA36 ?_
 refine s_as ?_
 refine k_nil (k_seq (awp_ret (k_fin ?_)))
 cases hF1
 exact ends_a [] [22007] Tryz.results19
def m_laws_mxHasText_AC (fuel : Nat) : Prop := ∀ (x1 : (List ByteArray)) (x2 : ByteArray) (r : Bool), m_laws_mxHasText fuel x1 x2 = some r → AC Tryz.prog 18 [.t (.sl (x1.map rS)), .t (.sc (.str x2))] noOb (.t (.sc (.bool r))) noOb
theorem m_laws_mxHasText_ok (fuel : Nat) : m_laws_mxHasText_AC fuel := by
 intro x1 x2 r hF0
 unfold m_laws_mxHasText at hF0
 refine AC_i [.t (.sc (.bool r))] Tryz.func18 rfl Tryz.ntmps18 ?_
 intro C hC
 refine awp_seq (awp_region ?_)
 refine s_as ?_
 refine k_nil (k_seq (awp_seq (awp_seq (awp_region ?_))))
 refine s_as ?_
 refine k_nil (k_seq (awp_block ?_))
 refine awp_fr (β := Int) [4, 5, 6, 7, 8, 9, 10, 11, 12, 13, 14, 15, 16, 17] [] [] (fun a => [(5, .t (.sc (.int .i64 a.2)))]) (fun a => []) (fun a => a.1 ≤ fuel ∧ m_laws_mxHasText_l1 a.1 x1 x2 a.2 = some r ∧ 0 ≤ a.2) (fuel, 0) ⟨Nat.le_refl _, hF0, by simp⟩ ?_
 clear hF0
 rintro ⟨fu, g1⟩ ⟨hl2, hF1, hn_g1⟩
 dsimp only at hl2 hF1 hn_g1 ⊢
 obtain _ | fu := fu
 · rw [m_laws_mxHasText_l1] at hF1; cases hF1
 rw [m_laws_mxHasText_l1] at hF1
 refine awp_seq (awp_seq (awp_region ?_))
 refine s_mv ?_
 refine s_mv ?_
 refine s_lenT yU36 ?_
 refine s_lt ?_
 refine k_nil (k_seq ?_)
 refine w_cond hF1 ?_ ?_ <;> intro hc3 hF2
 refine awp_lenT 0 (fun hb4 => ?_)
 refine awp_skip (k_seq (awp_seq (awp_block (awp_seq (awp_region ?_)))))
 refine s_mv ?_
 refine s_mv ?_
 obtain ⟨v5, hv5, hF3⟩ := bind_some' hF2
 refine s_ixT rS hv5 rfl yE36 ?_
 refine s_ld1 yA9 ?_
 refine s_mv ?_
 refine s_eqS ?_
 refine k_nil (k_seq ?_)
 refine w_cond hF3 ?_ ?_ <;> intro hc6 hF4
 refine awp_seq (awp_region ?_)
 refine s_as ?_
 refine k_nil (k_seq (awp_ret (k_blk_ret (k_seq_ret (k_rnd_ret2 (k_blk_ret (k_seq_ret (k_fin ?_))))))))
 cases hF4
 exact ends_a [] [] Tryz.results18
 refine awp_skip (k_blk (k_seq (awp_region ?_)))
 refine s_mv ?_
 refine s_add (winc2 hc3 hb4 hn_g1) ?_
 refine s_as ?_
 refine k_nil ?_
 exact s_rn (fu, (g1 + 1)) ⟨by first | omega | (dsimp only; omega), hF4, by first | omega | (dsimp only; omega)⟩
 refine awp_exit (k_seq_exit (k_rnd_exit2 (k_blk_exit (k_seq (awp_seq (awp_region ?_))))))
 refine s_as ?_
 refine k_nil (k_seq (awp_ret (k_fin ?_)))
 cases hF2
 exact ends_a [] [] Tryz.results18
def m_impl_PatternVars_AC (fuel : Nat) : Prop := ∀ (x1 : Form) (x2 : (List Form)) (r : (List Form)), m_impl_PatternVars fuel x1 x2 = some r → AC Tryz.prog 21 [.ag [.t (.sc (.int .i64 x1.kind)), .t (.sc (.str x1.name)), .t (.sc (.int .i64 x1.n)), .t (.sl (x1.scopes.map rI)), .t (.sl (x1.kids.map Form.row))], .t (.sl (x2.map Form.row))] noOb (.t (.sl (r.map Form.row))) noOb
theorem m_impl_PatternVars_ok (fuel : Nat) : m_impl_PatternVars_AC fuel := by
 intro x1 x2 r hF0
 unfold m_impl_PatternVars at hF0
 refine AC_i [.t (.sl (r.map Form.row))] Tryz.func21 rfl Tryz.ntmps21 ?_
 intro C hC
 refine awp_seq (awp_region ?_)
 refine s_box ?_
 refine s_as ?_
 refine k_nil (k_seq (awp_seq (awp_seq (awp_region ?_))))
 refine s_ldW yA27 yS27 ?_
 refine s_mv ?_
 obtain ⟨v1, hv1, hF1⟩ := bind_some' hF0
 refine s_pure [] (m_impl_PatternValid_ok fuel _ _ _ hv1) ?_
 refine s_not ?_
 refine k_nil (k_seq ?_)
 refine w_cond hF1 ?_ ?_ <;> intro hc2 hF2
 refine awp_seq (awp_region ?_)
 refine s_as ?_
 refine k_nil (k_seq (awp_ret (k_seq_ret (k_fin ?_))))
 cases hF2
 exact ends_a [] [] Tryz.results21
 refine awp_skip (k_seq (awp_seq (awp_region ?_)))
 refine s_ldW yA27 yS27 ?_
 refine s_mv ?_
 obtain ⟨v3, hv3, hF3⟩ := bind_some' hF2
 refine s_call [(9200, 2015)] [] _ _ (m_impl_varsOf_ok fuel _ _ _ hv3) ?_
 refine s_mv ?_
 refine s_ext ?_
 refine s_ext ?_
 refine s_as ?_
 refine s_as ?_
 refine k_nil (k_seq (awp_seq (awp_seq (awp_region ?_))))
 refine s_mv ?_
 refine s_lenA yU25 ?_
 refine s_mv ?_
 refine k_nil (k_seq (awp_block ?_))
 refine awp_fr (β := Int × (List Form)) [7, 20, 21, 22, 23, 24, 25, 26, 27, 28, 29, 30, 31] [2015] [] (fun a => [(20, .t (.sc (.int .i64 a.2.1)))]) (fun a => [(2015, .arr (a.2.2.map Form.row) 27 true)]) (fun a => a.1 ≤ fuel ∧ m_impl_PatternVars_l1 a.1 v3 a.2.1 a.2.2 = some r) (fuel, 0, v3.1) ⟨Nat.le_refl _, hF3⟩ ?_
 clear hF3
 rintro ⟨fu, g4, g5⟩ ⟨hl6, hF4⟩
 dsimp only at hl6 hF4 ⊢
 obtain _ | fu := fu
 · rw [m_impl_PatternVars_l1] at hF4; cases hF4
 rw [m_impl_PatternVars_l1] at hF4
 refine awp_seq (awp_region ?_)
 refine s_lt ?_
 refine k_nil (k_seq (awp_seq ?_))
 refine w_cond hF4 ?_ ?_ <;> intro hc7 hF5
 refine awp_skip (k_seq (awp_seq (awp_block (awp_seq (awp_region ?_)))))
 refine s_mv ?_
 refine s_as ?_
 refine k_nil (k_seq (awp_region ?_))
 iterate 4 refine s_mv ?_
 obtain ⟨v8, hv8, hF6⟩ := bind_some' hF5
 refine s_ixA Form.row hv8 yE25 ?_
 refine s_lAN Form.row hv8 (Form.row_eq _) yA27 yS27 ?_
 obtain ⟨v9, hv9, hF7⟩ := bind_some' hF6
 refine s_pure [] (m_impl_copyForm_ok fu _ _ hv9) ?_
 obtain ⟨v10, hv10, hF8⟩ := bind_some' hF7
 refine s_ixA Form.row hv10 yE25 ?_
 refine s_stA Form.row v9 hv10 (Form.row_eq _) (Form.row_eq _) yS27 yS27 ?_
 refine k_nil (k_blk (k_seq (awp_region ?_)))
 refine s_add rfl ?_
 refine s_mv ?_
 refine k_nil ?_
 exact s_rn (fu, (w64 (g4 + 1)), (g5.set g4.toNat v9)) ⟨by first | omega | (dsimp only; omega), hF8⟩
 refine awp_exit (k_seq_exit (k_rnd_exit2 (k_blk_exit (k_seq (awp_seq (awp_region ?_))))))
 refine s_mv ?_
 refine s_as ?_
 refine k_nil (k_seq (awp_ret (k_fin ?_)))
 cases hF5
 exact ends_a [] [2015] Tryz.results21
def m_laws_FnMatchSelf_AC (fuel : Nat) : Prop := ∀ (x1 : (List Int)) (r : Bool), m_laws_FnMatchSelf fuel x1 = some r → AC Tryz.prog 3 [.t (.sl (x1.map rB))] noOb (.t (.sc (.bool r))) noOb
theorem m_laws_FnMatchSelf_ok (fuel : Nat) : m_laws_FnMatchSelf_AC fuel := by
 intro x1 r hF0
 unfold m_laws_FnMatchSelf at hF0
 refine AC_i [.t (.sc (.bool r))] Tryz.func3 rfl Tryz.ntmps3 ?_
 intro C hC
 refine awp_seq (awp_region ?_)
 refine s_as ?_
 refine k_nil (k_seq (awp_seq (awp_seq (awp_region ?_))))
 refine s_mv ?_
 refine s_lenT yU22 ?_
 refine s_gt ?_
 refine k_nil (k_seq ?_)
 refine w_cond hF0 ?_ ?_ <;> intro hc1 hF1
 refine awp_lenT 0 (fun hb2 => ?_)
 refine awp_seq (awp_region ?_)
 refine s_as ?_
 refine k_nil (k_seq (awp_ret (k_seq_ret (k_fin ?_))))
 cases hF1
 exact ends_a [] [] Tryz.results3
 refine awp_skip (k_seq (awp_seq (awp_region ?_)))
 refine s_mv ?_
 obtain ⟨v3, hv3, hF2⟩ := bind_some' hF1
 refine s_pure [] (m_spec_DrawMatchPattern_ok fuel _ _ hv3) ?_
 refine s_mv ?_
 iterate 4 refine s_ext ?_
 refine s_alloc yZ27 ?_
 refine s_alloc yZ27 ?_
 refine s_as ?_
 refine s_stW yS27 ?_
 refine s_as ?_
 refine s_stW yS27 ?_
 refine k_nil (k_seq (awp_seq (awp_region ?_)))
 refine s_mv ?_
 refine s_ldW yA27 yS27 ?_
 refine s_mv ?_
 refine s_ldW yA27 yS27 ?_
 obtain ⟨v4, hv4, hF3⟩ := bind_some' hF2
 refine s_pure [] (m_impl_MatchPattern_ok fuel _ _ _ _ _ hv4) ?_
 refine s_mv ?_
 refine s_ext ?_
 refine s_ext ?_
 refine s_as ?_
 refine s_as ?_
 refine k_nil (k_seq (awp_seq (awp_region ?_)))
 refine s_mv ?_
 refine s_ldW yA27 yS27 ?_
 refine s_mv ?_
 refine s_ldW yA27 yS27 ?_
 obtain ⟨v5, hv5, hF4⟩ := bind_some' hF3
 refine s_call [(9200, 2037)] [] _ _ (m_spec_MatchPattern_ok fuel _ _ _ _ _ hv5) ?_
 refine s_mv ?_
 refine s_ext ?_
 refine s_ext ?_
 refine s_as ?_
 refine s_as ?_
 refine k_nil (k_seq (awp_seq ?_))
 refine awp_jn (α := Nat × Bool) [40, 41, 42, 43, 44, 45, 46, 47, 48, 49, 50, 51, 52, 53, 54, 55, 56, 57] [] [] (fun a => [(57, .t (.sc (.bool a.2)))]) (fun a => []) (fun a => a.1 ≤ fuel ∧ m_laws_FnMatchSelf_j1 a.1 v3 v4 v5 a.2 = some r) ?_ ?_
 refine awp_region ?_
 refine s_mv ?_
 refine s_mv ?_
 refine s_neB yU4 ?_
 refine s_mv ?_
 refine w_guard _ 43 hF4 ?_ ?_ <;> intro hc6 hF5
 iterate 3 refine r_no rfl ?_
 refine s_pkt ?_
 refine s_mv ?_
 iterate 3 refine r_no rfl ?_
 refine s_pkt ?_
 refine s_mv ?_
 iterate 3 refine r_no rfl ?_
 refine s_pkt ?_
 refine k_nil ?_
 exact s_jn (fuel, true) ⟨by first | omega | (dsimp only; omega), hF5⟩
 refine s_ldW yA27 yS27 ?_
 obtain ⟨v7, hv7, hF6⟩ := bind_some' hF5
 refine s_pure [] (m_impl_PatternValid_ok fuel _ _ _ hv7) ?_
 refine s_not ?_
 refine s_pkf ?_
 refine s_mv ?_
 refine w_guard _ 48 hF6 ?_ ?_ <;> intro hc8 hF7
 iterate 3 refine r_no rfl ?_
 refine s_pkt ?_
 refine s_mv ?_
 iterate 3 refine r_no rfl ?_
 refine s_pkt ?_
 refine k_nil ?_
 exact s_jn (fuel, true) ⟨by first | omega | (dsimp only; omega), hF7⟩
 refine s_mv ?_
 obtain ⟨v9, hv9, hF8⟩ := bind_some' hF7
 refine s_pure [] (m_impl_BindsValid_ok fuel _ _ hv9) ?_
 refine s_not ?_
 refine s_pkf ?_
 refine s_mv ?_
 refine w_guard _ 53 hF8 ?_ ?_ <;> intro hc10 hF9
 iterate 3 refine r_no rfl ?_
 refine s_pkt ?_
 refine k_nil ?_
 exact s_jn (fuel, true) ⟨by first | omega | (dsimp only; omega), hF9⟩
 refine s_ldW yA27 yS27 ?_
 obtain ⟨v11, hv11, hF10⟩ := bind_some' hF9
 refine s_pure [] (m_impl_NamesOf_ok fuel _ _ hv11) ?_
 obtain ⟨v12, hv12, hF11⟩ := bind_some' hF10
 refine s_pure [] (m_laws_mxHasText_ok fuel _ _ _ hv12) ?_
 refine s_pkf ?_
 refine k_nil ?_
 exact s_jn (fuel, v12) ⟨by first | omega | (dsimp only; omega), hF11⟩
 clear hF4
 rintro ⟨fu, g13⟩ ⟨hl14, hF5⟩
 dsimp only at hl14 hF5 ⊢
 obtain _ | fu := fu
 · rw [m_laws_FnMatchSelf_j1] at hF5; cases hF5
 rw [m_laws_FnMatchSelf_j1] at hF5
 refine w_cond hF5 ?_ ?_ <;> intro hc15 hF6
 refine awp_seq (awp_region ?_)
 refine s_mv ?_
 refine s_mv ?_
 refine s_eqB yU4 ?_
 refine s_as ?_
 refine k_nil (k_seq (awp_ret (k_seq_ret (k_fin ?_))))
 cases hF6
 exact ends_a [] [] Tryz.results3
 refine awp_skip (k_seq (awp_seq (awp_region ?_)))
 refine s_mv ?_
 refine s_ldW yA27 yS27 ?_
 refine s_ldW yA27 yS27 ?_
 obtain ⟨v16, hv16, hF7⟩ := bind_some' hF6
 refine s_pure [] (m_impl_MatchPattern_ok fu _ _ _ _ _ hv16) ?_
 refine s_mv ?_
 refine s_ext ?_
 refine s_ext ?_
 refine s_as ?_
 refine s_as ?_
 refine k_nil (k_seq (awp_seq (awp_seq (awp_region ?_))))
 refine s_as ?_
 refine k_nil (k_seq (awp_block ?_))
 refine awp_fr (β := Int) [2, 13, 68, 69, 70, 71, 72, 73, 74, 75, 76, 77, 78, 79, 80, 81, 82, 83, 84, 85] [] [] (fun a => [(13, .t (.sc (.int .i64 a.2)))]) (fun a => []) (fun a => a.1 ≤ fu ∧ m_laws_FnMatchSelf_l2 a.1 v3 v16 a.2 = some r ∧ 0 ≤ a.2) (fu, 0) ⟨Nat.le_refl _, hF7, by simp⟩ ?_
 clear hF7
 rintro ⟨fu, g17⟩ ⟨hl18, hF8, hn_g17⟩
 dsimp only at hl18 hF8 hn_g17 ⊢
 obtain _ | fu := fu
 · rw [m_laws_FnMatchSelf_l2] at hF8; cases hF8
 rw [m_laws_FnMatchSelf_l2] at hF8
 refine awp_seq (awp_seq (awp_region ?_))
 refine s_mv ?_
 refine s_mv ?_
 refine s_lenT yU30 ?_
 refine s_lt ?_
 refine k_nil (k_seq ?_)
 refine w_cond hF8 ?_ ?_ <;> intro hc19 hF9
 refine awp_lenT 11 (fun hb20 => ?_)
 refine awp_skip (k_seq (awp_seq (awp_block (awp_seq ?_))))
 refine awp_draw yMix (by kernel_rfl) ?_
 refine s_mv ?_
 refine s_mv ?_
 obtain ⟨v21, hv21, hF10⟩ := bind_some' hF9
 refine s_ixT Hit.row hv21 (Hit.row_eq _) yE30 ?_
 refine s_fa yF40_2 ?_
 refine s_ldN yA27 yS27 ?_
 refine s_mv ?_
 refine s_mv ?_
 obtain ⟨v22, hv22, hF11⟩ := bind_some' hF10
 refine s_ixT Hit.row hv22 (Hit.row_eq _) yE30 ?_
 refine s_fa yF40_0 ?_
 refine s_ldN yA27 yS27 ?_
 obtain ⟨v23, hv23, hF12⟩ := bind_some' hF11
 refine s_pure [] (m_impl_FormSame_ok fu _ _ _ hv23) ?_
 refine s_not ?_
 refine k_nilD (by kernel_rfl) ?_
 refine k_seq ?_
 refine w_cond hF12 ?_ ?_ <;> intro hc24 hF13
 refine awp_seq (awp_region ?_)
 refine s_as ?_
 refine k_nil (k_seq (awp_ret (k_blk_ret (k_seq_ret (k_rnd_ret2 (k_blk_ret (k_seq_ret (k_fin ?_))))))))
 cases hF13
 exact ends_a [] [] Tryz.results3
 refine awp_skip (k_blk (k_seq (awp_region ?_)))
 refine s_mv ?_
 refine s_add (winc2 hc19 hb20 hn_g17) ?_
 refine s_as ?_
 refine k_nil ?_
 exact s_rn (fu, (g17 + 1)) ⟨by first | omega | (dsimp only; omega), hF13, by first | omega | (dsimp only; omega)⟩
 refine awp_exit (k_seq_exit (k_rnd_exit2 (k_blk_exit (k_seq (awp_seq (awp_region ?_))))))
 refine s_mv ?_
 refine s_mv ?_
 refine w_guard _ 87 hF9 ?_ ?_ <;> intro hc25 hF10
 refine s_mv ?_
 refine s_lenT yU30 ?_
 refine s_ldW yA27 yS27 ?_
 obtain ⟨v26, hv26, hF11⟩ := bind_some' hF10
 refine s_pure [] (m_impl_PatternVars_ok fu _ _ _ hv26) ?_
 refine s_lenT yU25 ?_
 refine s_eq ?_
 refine s_pkt ?_
 refine s_as ?_
 refine k_nil (k_seq (awp_ret (k_fin ?_)))
 cases hF11
 exact ends_a [] [] Tryz.results3
 iterate 6 refine r_no rfl ?_
 refine s_pkf ?_
 refine s_as ?_
 refine k_nil (k_seq (awp_ret (k_fin ?_)))
 cases hF10
 exact ends_a [] [] Tryz.results3
end Go.Abs
