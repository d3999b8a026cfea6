/- A part of the proof: what the functions that the law calls answer, as pure values. -/
import Derived.Test.YtehdhaaopmihaaaGreatDoorK0910db17e54c
import Derived.Test.YtehdhaaopmihaaaGreatDoorK0fde71595f57
import Derived.Test.YtehdhaaopmihaaaGreatDoorK3082b19c6f4a
import Derived.Test.YtehdhaaopmihaaaGreatDoorK383d2e7aee5f
import Derived.Test.YtehdhaaopmihaaaGreatDoorK43a6a6e09099
import Derived.Test.YtehdhaaopmihaaaGreatDoorK55c2a89e15a3
import Derived.Test.YtehdhaaopmihaaaGreatDoorK8d0d434d9929
import Derived.Test.YtehdhaaopmihaaaGreatDoorKe88c7bffe3b6
set_option linter.unusedSimpArgs false
set_option linter.unusedVariables false
set_option maxRecDepth 100000
set_option maxHeartbeats 4000000
namespace Go.Abs
open Go.Proofs
def m_impl_CoreSame_AC (fuel : Nat) : Prop := ∀ (x1 : Core) (x2 : Core) (r : Bool), m_impl_CoreSame fuel x1 x2 = some r → AC Tryz.prog 15 [.ag [.t (.sc (.int .i64 x1.kind)), .t (.sc (.int .i64 x1.id)), .t (.sc (.str x1.name)), .t (.sc (.int .i64 x1.n)), .t (.sl (x1.ids.map rI)), .t (.sc (.int .i64 x1.data.kind)), .t (.sc (.str x1.data.name)), .t (.sc (.int .i64 x1.data.n)), .t (.sl (x1.data.scopes.map rI)), .t (.sl (x1.data.kids.map Form.row)), .t (.sl (x1.kids.map Core.row))], .ag [.t (.sc (.int .i64 x2.kind)), .t (.sc (.int .i64 x2.id)), .t (.sc (.str x2.name)), .t (.sc (.int .i64 x2.n)), .t (.sl (x2.ids.map rI)), .t (.sc (.int .i64 x2.data.kind)), .t (.sc (.str x2.data.name)), .t (.sc (.int .i64 x2.data.n)), .t (.sl (x2.data.scopes.map rI)), .t (.sl (x2.data.kids.map Form.row)), .t (.sl (x2.kids.map Core.row))]] noOb (.t (.sc (.bool r))) noOb
theorem m_impl_CoreSame_ok (fuel : Nat) : m_impl_CoreSame_AC fuel := by
 intro x1 x2 r hF0
 unfold m_impl_CoreSame at hF0
 refine AC_i [.t (.sc (.bool r))] Tryz.func15 rfl Tryz.ntmps15 ?_
 intro C hC
 refine awp_seq (awp_region ?_)
 refine s_box ?_
 refine s_box ?_
 refine s_as ?_
 refine k_nil (k_seq (awp_seq (awp_region ?_)))
 refine s_ldW yA36 yS36 ?_
 refine s_ldW yA36 yS36 ?_
 obtain ⟨v1, hv1, hF1⟩ := bind_some' hF0
 refine s_pure [] (m_impl_sameCore_ok fuel _ _ _ hv1) ?_
 refine s_as ?_
 refine k_nil (k_seq (awp_ret (k_fin ?_)))
 cases hF1
 exact ends_a [] [] Tryz.results15
def m_spec_CoreSame_AC (fuel : Nat) : Prop := ∀ (x1 : Core) (x2 : Core) (r : Bool), m_spec_CoreSame fuel x1 x2 = some r → AC Tryz.prog 16 [.ag [.t (.sc (.int .i64 x1.kind)), .t (.sc (.int .i64 x1.id)), .t (.sc (.str x1.name)), .t (.sc (.int .i64 x1.n)), .t (.sl (x1.ids.map rI)), .t (.sc (.int .i64 x1.data.kind)), .t (.sc (.str x1.data.name)), .t (.sc (.int .i64 x1.data.n)), .t (.sl (x1.data.scopes.map rI)), .t (.sl (x1.data.kids.map Form.row)), .t (.sl (x1.kids.map Core.row))], .ag [.t (.sc (.int .i64 x2.kind)), .t (.sc (.int .i64 x2.id)), .t (.sc (.str x2.name)), .t (.sc (.int .i64 x2.n)), .t (.sl (x2.ids.map rI)), .t (.sc (.int .i64 x2.data.kind)), .t (.sc (.str x2.data.name)), .t (.sc (.int .i64 x2.data.n)), .t (.sl (x2.data.scopes.map rI)), .t (.sl (x2.data.kids.map Form.row)), .t (.sl (x2.kids.map Core.row))]] noOb (.t (.sc (.bool r))) noOb
theorem m_spec_CoreSame_st (fu : Nat) (ih_m_spec_CoreSame : ∀ k, k ≤ fu → m_spec_CoreSame_AC k) : m_spec_CoreSame_AC (fu + 1) := by
 intro x1 x2 r hF0
 rw [m_spec_CoreSame] at hF0
 refine AC_i [.t (.sc (.bool r))] Tryz.func16 rfl Tryz.ntmps16 ?_
 intro C hC
 refine awp_seq (awp_region ?_)
 refine s_box ?_
 refine s_box ?_
 refine s_as ?_
 refine k_nil (k_seq (awp_seq ?_))
 refine awp_jn (α := Nat × Bool) [6, 7, 8, 9, 10, 11, 12, 13, 14, 15, 16, 17, 18, 19, 20, 21, 22, 23, 24, 25, 26, 27, 28, 29, 30, 31, 32, 33, 34, 35, 36, 37, 38, 39, 40, 41, 42, 43, 44, 45, 46, 47, 48, 49, 50, 51, 52, 53, 54, 55, 56] [] [] (fun a => [(56, .t (.sc (.bool a.2)))]) (fun a => []) (fun a => a.1 ≤ fu ∧ m_spec_CoreSame_j1 a.1 x1 x2 a.2 = some r) ?_ ?_
 refine awp_region ?_
 refine s_fa yF36_0 ?_
 refine s_ld1 yA3 ?_
 refine s_fa yF36_0 ?_
 refine s_ld1 yA3 ?_
 refine s_ne ?_
 refine s_mv ?_
 refine w_guard _ 11 hF0 ?_ ?_ <;> intro hc1 hF1
 iterate 5 refine r_no rfl ?_
 refine s_pkt ?_
 refine s_mv ?_
 iterate 5 refine r_no rfl ?_
 refine s_pkt ?_
 refine s_mv ?_
 iterate 5 refine r_no rfl ?_
 refine s_pkt ?_
 refine s_mv ?_
 iterate 6 refine r_no rfl ?_
 refine s_pkt ?_
 refine s_mv ?_
 iterate 6 refine r_no rfl ?_
 refine s_pkt ?_
 refine s_mv ?_
 iterate 7 refine r_no rfl ?_
 refine s_pkt ?_
 refine k_nil ?_
 exact s_jn (fu, true) ⟨by first | omega | (dsimp only; omega), hF1⟩
 refine s_fa yF36_1 ?_
 refine s_ld1 yA3 ?_
 refine s_fa yF36_1 ?_
 refine s_ld1 yA3 ?_
 refine s_ne ?_
 refine s_pkf ?_
 refine s_mv ?_
 refine w_guard _ 18 hF1 ?_ ?_ <;> intro hc2 hF2
 iterate 5 refine r_no rfl ?_
 refine s_pkt ?_
 refine s_mv ?_
 iterate 5 refine r_no rfl ?_
 refine s_pkt ?_
 refine s_mv ?_
 iterate 6 refine r_no rfl ?_
 refine s_pkt ?_
 refine s_mv ?_
 iterate 6 refine r_no rfl ?_
 refine s_pkt ?_
 refine s_mv ?_
 iterate 7 refine r_no rfl ?_
 refine s_pkt ?_
 refine k_nil ?_
 exact s_jn (fu, true) ⟨by first | omega | (dsimp only; omega), hF2⟩
 refine s_fa yF36_2 ?_
 refine s_ld1 yA9 ?_
 refine s_fa yF36_2 ?_
 refine s_ld1 yA9 ?_
 refine s_neS ?_
 refine s_pkf ?_
 refine s_mv ?_
 refine w_guard _ 25 hF2 ?_ ?_ <;> intro hc3 hF3
 iterate 5 refine r_no rfl ?_
 refine s_pkt ?_
 refine s_mv ?_
 iterate 6 refine r_no rfl ?_
 refine s_pkt ?_
 refine s_mv ?_
 iterate 6 refine r_no rfl ?_
 refine s_pkt ?_
 refine s_mv ?_
 iterate 7 refine r_no rfl ?_
 refine s_pkt ?_
 refine k_nil ?_
 exact s_jn (fu, true) ⟨by first | omega | (dsimp only; omega), hF3⟩
 refine s_fa yF36_3 ?_
 refine s_ld1 yA3 ?_
 refine s_fa yF36_3 ?_
 refine s_ld1 yA3 ?_
 refine s_ne ?_
 refine s_pkf ?_
 refine s_mv ?_
 refine w_guard _ 32 hF3 ?_ ?_ <;> intro hc4 hF4
 iterate 6 refine r_no rfl ?_
 refine s_pkt ?_
 refine s_mv ?_
 iterate 6 refine r_no rfl ?_
 refine s_pkt ?_
 refine s_mv ?_
 iterate 7 refine r_no rfl ?_
 refine s_pkt ?_
 refine k_nil ?_
 exact s_jn (fu, true) ⟨by first | omega | (dsimp only; omega), hF4⟩
 refine s_fa yF36_4 ?_
 refine s_ld1 yA22 ?_
 refine s_fa yF36_4 ?_
 refine s_ld1 yA22 ?_
 obtain ⟨v5, hv5, hF5⟩ := bind_some' hF4
 refine s_pure [] (m_spec_l1Ints_ok fu _ _ _ hv5) ?_
 refine s_not ?_
 refine s_pkf ?_
 refine s_mv ?_
 refine w_guard _ 40 hF5 ?_ ?_ <;> intro hc6 hF6
 iterate 6 refine r_no rfl ?_
 refine s_pkt ?_
 refine s_mv ?_
 iterate 7 refine r_no rfl ?_
 refine s_pkt ?_
 refine k_nil ?_
 exact s_jn (fu, true) ⟨by first | omega | (dsimp only; omega), hF6⟩
 refine s_fa yF36_5 ?_
 refine s_ldN yA33 yS33 ?_
 refine s_fa yF36_5 ?_
 refine s_ldN yA33 yS33 ?_
 obtain ⟨v7, hv7, hF7⟩ := bind_some' hF6
 refine s_pure [] (m_spec_FormSame_ok fu _ _ _ hv7) ?_
 refine s_not ?_
 refine s_pkf ?_
 refine s_mv ?_
 refine w_guard _ 48 hF7 ?_ ?_ <;> intro hc8 hF8
 iterate 7 refine r_no rfl ?_
 refine s_pkt ?_
 refine k_nil ?_
 exact s_jn (fu, true) ⟨by first | omega | (dsimp only; omega), hF8⟩
 refine s_fa yF36_6 ?_
 refine s_ld1 yA34 ?_
 refine s_lenT yU34 ?_
 refine s_fa yF36_6 ?_
 refine s_ld1 yA34 ?_
 refine s_lenT yU34 ?_
 refine s_ne ?_
 refine s_pkf ?_
 refine k_nil ?_
 exact s_jn (fu, (decide ((x1.kids.length : Int) ≠ (x2.kids.length : Int)))) ⟨by first | omega | (dsimp only; omega), hF8⟩
 clear hF0
 rintro ⟨fu, g9⟩ ⟨hl10, hF1⟩
 dsimp only at hl10 hF1 ⊢
 obtain _ | fu := fu
 · rw [m_spec_CoreSame_j1] at hF1; cases hF1
 rw [m_spec_CoreSame_j1] at hF1
 refine w_cond hF1 ?_ ?_ <;> intro hc11 hF2
 refine awp_seq (awp_region ?_)
 refine s_as ?_
 refine k_nil (k_seq (awp_ret (k_seq_ret (k_fin ?_))))
 cases hF2
 exact ends_a [] [] Tryz.results16
 refine awp_skip (k_seq (awp_seq (awp_seq (awp_region ?_))))
 refine s_as ?_
 refine k_nil (k_seq (awp_block ?_))
 refine awp_fr (β := Int) [4, 5, 57, 58, 59, 60, 61, 62, 63, 64, 65, 66, 67, 68, 69, 70, 71, 72, 73, 74, 75] [] [] (fun a => [(5, .t (.sc (.int .i64 a.2)))]) (fun a => []) (fun a => a.1 ≤ fu ∧ m_spec_CoreSame_l2 a.1 x1 x2 a.2 = some r ∧ 0 ≤ a.2) (fu, 0) ⟨Nat.le_refl _, hF2, by simp⟩ ?_
 clear hF2
 rintro ⟨fu, g12⟩ ⟨hl13, hF3, hn_g12⟩
 dsimp only at hl13 hF3 hn_g12 ⊢
 obtain _ | fu := fu
 · rw [m_spec_CoreSame_l2] at hF3; cases hF3
 rw [m_spec_CoreSame_l2] at hF3
 refine awp_seq (awp_seq (awp_region ?_))
 refine s_mv ?_
 refine s_fa yF36_6 ?_
 refine s_ld1 yA34 ?_
 refine s_lenT yU34 ?_
 refine s_lt ?_
 refine k_nil (k_seq ?_)
 refine w_cond hF3 ?_ ?_ <;> intro hc14 hF4
 refine awp_lenT 59 (fun hb15 => ?_)
 refine awp_skip (k_seq (awp_seq (awp_block (awp_seq ?_))))
 refine awp_draw yMix (by kernel_rfl) ?_
 refine s_fa yF36_6 ?_
 refine s_ld1 yA34 ?_
 refine s_mv ?_
 obtain ⟨v16, hv16, hF5⟩ := bind_some' hF4
 refine s_ixT Core.row hv16 (Core.row_eq _) yE34 ?_
 refine s_ldN yA36 yS36 ?_
 refine s_fa yF36_6 ?_
 refine s_ld1 yA34 ?_
 refine s_mv ?_
 obtain ⟨v17, hv17, hF6⟩ := bind_some' hF5
 refine s_ixT Core.row hv17 (Core.row_eq _) yE34 ?_
 refine s_ldN yA36 yS36 ?_
 obtain ⟨v18, hv18, hF7⟩ := bind_some' hF6
 refine s_pure [] (ih_m_spec_CoreSame fu (by omega) _ _ _ hv18) ?_
 refine s_not ?_
 refine k_nilD (by kernel_rfl) ?_
 refine k_seq ?_
 refine w_cond hF7 ?_ ?_ <;> intro hc19 hF8
 refine awp_seq (awp_region ?_)
 refine s_as ?_
 refine k_nil (k_seq (awp_ret (k_blk_ret (k_seq_ret (k_rnd_ret2 (k_blk_ret (k_seq_ret (k_fin ?_))))))))
 cases hF8
 exact ends_a [] [] Tryz.results16
 refine awp_skip (k_blk (k_seq (awp_region ?_)))
 refine s_mv ?_
 refine s_add (winc2 hc14 hb15 hn_g12) ?_
 refine s_as ?_
 refine k_nil ?_
 exact s_rn (fu, (g12 + 1)) ⟨by first | omega | (dsimp only; omega), hF8, by first | omega | (dsimp only; omega)⟩
 refine awp_exit (k_seq_exit (k_rnd_exit2 (k_blk_exit (k_seq (awp_seq (awp_region ?_))))))
 refine s_as ?_
 refine k_nil (k_seq (awp_ret (k_fin ?_)))
 cases hF4
 exact ends_a [] [] Tryz.results16
theorem m_spec_CoreSame_all (fuel : Nat) : m_spec_CoreSame_AC fuel := by
 induction fuel using Nat.strongRecOn with
 | _ N ih =>
   cases N with
   | zero => exact (by intro x1 x2 r h; rw [m_spec_CoreSame] at h; cases h)
   | succ fu => exact m_spec_CoreSame_st fu (fun k hk => (ih k (by omega)))
theorem m_spec_CoreSame_ok (fuel : Nat) : m_spec_CoreSame_AC fuel := (m_spec_CoreSame_all fuel)
def m_laws_FnCoreText_AC (fuel : Nat) : Prop := ∀ (x1 : (List Int)) (r : Bool), m_laws_FnCoreText fuel x1 = some r → AC Tryz.prog 4 [.t (.sl (x1.map rB))] noOb (.t (.sc (.bool r))) noOb
theorem m_laws_FnCoreText_ok (fuel : Nat) : m_laws_FnCoreText_AC fuel := by
 intro x1 r hF0
 unfold m_laws_FnCoreText at hF0
 refine AC_i [.t (.sc (.bool r))] Tryz.func4 rfl Tryz.ntmps4 ?_
 intro C hC
 refine awp_seq (awp_region ?_)
 refine s_as ?_
 refine k_nil (k_seq (awp_seq (awp_seq (awp_region ?_))))
 refine s_mv ?_
 refine s_lenT yU40 ?_
 refine s_gt ?_
 refine k_nil (k_seq ?_)
 refine w_cond hF0 ?_ ?_ <;> intro hc1 hF1
 refine awp_lenT 0 (fun hb2 => ?_)
 refine awp_seq (awp_region ?_)
 refine s_as ?_
 refine k_nil (k_seq (awp_ret (k_seq_ret (k_fin ?_))))
 cases hF1
 exact ends_a [] [] Tryz.results4
 refine awp_skip (k_seq (awp_seq (awp_region ?_)))
 refine s_mv ?_
 obtain ⟨v3, hv3, hF2⟩ := bind_some' hF1
 refine s_pure [] (m_spec_DrawCoreSame_ok fuel _ _ hv3) ?_
 refine s_mv ?_
 refine s_ext ?_
 refine s_ext ?_
 refine s_alloc yZ36 ?_
 refine s_alloc yZ36 ?_
 refine s_stW yS36 ?_
 refine s_stW yS36 ?_
 refine k_nil (k_seq (awp_seq (awp_region ?_)))
 refine s_ldW yA36 yS36 ?_
 obtain ⟨v4, hv4, hF3⟩ := bind_some' hF2
 refine s_pure [] (m_impl_FormatCore_ok fuel _ _ hv4) ?_
 refine s_as ?_
 refine k_nil (k_seq (awp_seq (awp_region ?_)))
 refine s_ldW yA36 yS36 ?_
 obtain ⟨v5, hv5, hF4⟩ := bind_some' hF3
 refine s_pure [] (m_impl_FormatCore_ok fuel _ _ hv5) ?_
 refine s_as ?_
 refine k_nil (k_seq (awp_seq (awp_region ?_)))
 refine s_ldW yA36 yS36 ?_
 refine s_ldW yA36 yS36 ?_
 obtain ⟨v6, hv6, hF5⟩ := bind_some' hF4
 refine s_pure [] (m_impl_CoreSame_ok fuel _ _ _ hv6) ?_
 refine s_as ?_
 refine k_nil (k_seq (awp_seq ?_))
 refine awp_jn (α := Nat × Bool) [23, 24, 25, 26, 27, 28, 29, 30, 31, 32, 33, 34, 35, 36, 37, 38, 39, 40, 41, 42, 43, 44, 45, 46] [] [] (fun a => [(46, .t (.sc (.bool a.2)))]) (fun a => []) (fun a => a.1 ≤ fuel ∧ m_laws_FnCoreText_j1 a.1 v4 v5 v6 a.2 = some r) ?_ ?_
 refine awp_region ?_
 refine s_mv ?_
 refine s_ldW yA36 yS36 ?_
 obtain ⟨v7, hv7, hF6⟩ := bind_some' hF5
 refine s_pure [] (m_spec_FormatCore_ok fuel _ _ hv7) ?_
 refine s_neS ?_
 refine s_mv ?_
 refine w_guard _ 27 hF6 ?_ ?_ <;> intro hc8 hF7
 iterate 4 refine r_no rfl ?_
 refine s_pkt ?_
 refine s_mv ?_
 iterate 5 refine r_no rfl ?_
 refine s_pkt ?_
 refine s_mv ?_
 iterate 5 refine r_no rfl ?_
 refine s_pkt ?_
 refine k_nil ?_
 exact s_jn (fuel, true) ⟨by first | omega | (dsimp only; omega), hF7⟩
 refine s_mv ?_
 refine s_ldW yA36 yS36 ?_
 obtain ⟨v9, hv9, hF8⟩ := bind_some' hF7
 refine s_pure [] (m_spec_FormatCore_ok fuel _ _ hv9) ?_
 refine s_neS ?_
 refine s_pkf ?_
 refine s_mv ?_
 refine w_guard _ 33 hF8 ?_ ?_ <;> intro hc10 hF9
 iterate 5 refine r_no rfl ?_
 refine s_pkt ?_
 refine s_mv ?_
 iterate 5 refine r_no rfl ?_
 refine s_pkt ?_
 refine k_nil ?_
 exact s_jn (fuel, true) ⟨by first | omega | (dsimp only; omega), hF9⟩
 refine s_mv ?_
 refine s_ldW yA36 yS36 ?_
 refine s_ldW yA36 yS36 ?_
 obtain ⟨v11, hv11, hF10⟩ := bind_some' hF9
 refine s_pure [] (m_spec_CoreSame_ok fuel _ _ _ hv11) ?_
 refine s_neB yU4 ?_
 refine s_pkf ?_
 refine s_mv ?_
 refine w_guard _ 40 hF10 ?_ ?_ <;> intro hc12 hF11
 iterate 5 refine r_no rfl ?_
 refine s_pkt ?_
 refine k_nil ?_
 exact s_jn (fuel, true) ⟨by first | omega | (dsimp only; omega), hF11⟩
 refine s_mv ?_
 refine s_ldW yA36 yS36 ?_
 refine s_ldW yA36 yS36 ?_
 obtain ⟨v13, hv13, hF12⟩ := bind_some' hF11
 refine s_pure [] (m_impl_CoreSame_ok fuel _ _ _ hv13) ?_
 refine s_neB yU4 ?_
 refine s_pkf ?_
 refine k_nil ?_
 exact s_jn (fuel, (decide (v6 ≠ v13))) ⟨by first | omega | (dsimp only; omega), hF12⟩
 clear hF5
 rintro ⟨fu, g14⟩ ⟨hl15, hF6⟩
 dsimp only at hl15 hF6 ⊢
 obtain _ | fu := fu
 · rw [m_laws_FnCoreText_j1] at hF6; cases hF6
 rw [m_laws_FnCoreText_j1] at hF6
 refine w_cond hF6 ?_ ?_ <;> intro hc16 hF7
 refine awp_seq (awp_region ?_)
 refine s_as ?_
 refine k_nil (k_seq (awp_ret (k_seq_ret (k_fin ?_))))
 cases hF7
 exact ends_a [] [] Tryz.results4
 refine awp_skip (k_seq (awp_seq (awp_region ?_)))
 refine s_mv ?_
 refine s_eqS ?_
 refine s_mv ?_
 refine w_guard _ 49 hF7 ?_ ?_ <;> intro hc17 hF8
 refine r_no rfl (r_no rfl ?_)
 refine s_pkt ?_
 refine s_mv ?_
 refine r_no rfl (r_no rfl ?_)
 refine s_pkt ?_
 refine s_mv ?_
 iterate 3 refine r_no rfl ?_
 refine s_pkt ?_
 refine s_as ?_
 refine k_nil (k_seq (awp_ret (k_fin ?_)))
 cases hF8
 exact ends_a [] [] Tryz.results4
 refine s_mv ?_
 refine s_eqS ?_
 refine s_pkf ?_
 refine s_mv ?_
 refine w_guard _ 53 hF8 ?_ ?_ <;> intro hc18 hF9
 refine r_no rfl (r_no rfl ?_)
 refine s_pkt ?_
 refine s_mv ?_
 iterate 3 refine r_no rfl ?_
 refine s_pkt ?_
 refine s_as ?_
 refine k_nil (k_seq (awp_ret (k_fin ?_)))
 cases hF9
 exact ends_a [] [] Tryz.results4
 refine s_mv ?_
 refine s_not ?_
 refine s_pkf ?_
 refine s_mv ?_
 refine w_guard _ 57 hF9 ?_ ?_ <;> intro hc19 hF10
 iterate 3 refine r_no rfl ?_
 refine s_pkt ?_
 refine s_as ?_
 refine k_nil (k_seq (awp_ret (k_fin ?_)))
 cases hF10
 exact ends_a [] [] Tryz.results4
 refine s_mv ?_
 refine s_mv ?_
 refine s_eqS ?_
 refine s_pkf ?_
 refine s_as ?_
 refine k_nil (k_seq (awp_ret (k_fin ?_)))
 cases hF10
 exact ends_a [] [] Tryz.results4
end Go.Abs
