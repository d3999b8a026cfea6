/- A part of the proof: what the functions that the law calls answer, as pure values. -/
import Derived.Test.YtidbdmpbcpanjaaGreatDoorK494cd449e5a7
import Derived.Test.YtidbdmpbcpanjaaGreatDoorK4f79cfc46aa2
import Derived.Test.YtidbdmpbcpanjaaGreatDoorK5e12b24c0a7c
import Derived.Test.YtidbdmpbcpanjaaGreatDoorK7d4474f6c0a5
import Derived.Test.YtidbdmpbcpanjaaGreatDoorK93c98e18f032
set_option linter.unusedSimpArgs false
set_option linter.unusedVariables false
set_option maxRecDepth 100000
set_option maxHeartbeats 4000000
namespace Go.Abs
open Go.Proofs
def m_slices_Equal_int_AC (fuel : Nat) : Prop := ∀ (x1 : (List Int)) (x2 : (List Int)) (r : Bool), m_slices_Equal_int fuel x1 x2 = some r → AC Tryz.prog 22 [.t (.sl (x1.map rI)), .t (.sl (x2.map rI))] noOb (.t (.sc (.bool r))) noOb
theorem m_slices_Equal_int_ok (fuel : Nat) : m_slices_Equal_int_AC fuel := by
 intro x1 x2 r hF0
 unfold m_slices_Equal_int at hF0
 refine AC_i [.t (.sc (.bool r))] Tryz.func22 rfl Tryz.ntmps22 ?_
 intro C hC
 refine awp_seq (awp_region ?_)
 refine s_as ?_
 refine k_nil (k_seq (awp_seq (awp_seq (awp_region ?_))))
 refine s_mv ?_
 refine s_lenT yU23 ?_
 refine s_mv ?_
 refine s_lenT yU23 ?_
 refine s_ne ?_
 refine k_nil (k_seq ?_)
 refine w_cond hF0 ?_ ?_ <;> intro hc1 hF1
 refine awp_seq (awp_region ?_)
 refine s_as ?_
 refine k_nil (k_seq (awp_ret (k_seq_ret (k_fin ?_))))
 cases hF1
 exact ends_a [] [] Tryz.results22
 refine awp_skip (k_seq (awp_seq (awp_seq (awp_region ?_))))
 refine s_mv ?_
 refine s_lenT yU23 ?_
 refine s_mv ?_
 refine k_nil (k_seq (awp_block ?_))
 refine awp_fr (β := Int) [4, 5, 13, 14, 15, 16, 17, 18, 19, 20, 21, 22, 23, 24, 25] [] [] (fun a => [(13, .t (.sc (.int .i64 a.2)))]) (fun a => []) (fun a => a.1 ≤ fuel ∧ m_slices_Equal_int_l1 a.1 x1 x2 a.2 = some r ∧ 0 ≤ a.2) (fuel, 0) ⟨Nat.le_refl _, hF1, by simp⟩ ?_
 clear hF1
 rintro ⟨fu, g2⟩ ⟨hl3, hF2, hn_g2⟩
 dsimp only at hl3 hF2 hn_g2 ⊢
 obtain _ | fu := fu
 · rw [m_slices_Equal_int_l1] at hF2; cases hF2
 rw [m_slices_Equal_int_l1] at hF2
 refine awp_seq (awp_region ?_)
 refine s_lt ?_
 refine k_nil (k_seq (awp_seq ?_))
 refine w_cond hF2 ?_ ?_ <;> intro hc4 hF3
 refine awp_lenT 0 (fun hb5 => ?_)
 refine awp_skip (k_seq (awp_seq (awp_block (awp_seq (awp_region ?_)))))
 refine s_mv ?_
 refine s_as ?_
 refine k_nil (k_seq (awp_seq ?_))
 refine awp_draw yMix (by kernel_rfl) ?_
 refine s_mv ?_
 refine s_mv ?_
 obtain ⟨v6, hv6, hF4⟩ := bind_some' hF3
 refine s_ixT rI hv6 rfl yE23 ?_
 refine s_ld1 yA3 ?_
 refine s_mv ?_
 refine s_mv ?_
 obtain ⟨v7, hv7, hF5⟩ := bind_some' hF4
 refine s_ixT rI hv7 rfl yE23 ?_
 refine s_ld1 yA3 ?_
 refine s_ne ?_
 refine k_nilD (by kernel_rfl) ?_
 refine k_seq ?_
 refine w_cond hF5 ?_ ?_ <;> intro hc8 hF6
 refine awp_seq (awp_region ?_)
 refine s_as ?_
 refine k_nil (k_seq (awp_ret (k_blk_ret (k_seq_ret (k_rnd_ret2 (k_blk_ret (k_seq_ret (k_fin ?_))))))))
 cases hF6
 exact ends_a [] [] Tryz.results22
 refine awp_skip (k_blk (k_seq (awp_region ?_)))
 refine s_add (winc2 hc4 hb5 hn_g2) ?_
 refine s_mv ?_
 refine k_nil ?_
 exact s_rn (fu, (g2 + 1)) ⟨by first | omega | (dsimp only; omega), hF6, by first | omega | (dsimp only; omega)⟩
 refine awp_exit (k_seq_exit (k_rnd_exit2 (k_blk_exit (k_seq (awp_seq (awp_region ?_))))))
 refine s_as ?_
 refine k_nil (k_seq (awp_ret (k_fin ?_)))
 cases hF3
 exact ends_a [] [] Tryz.results22
def m_impl_FormSame_AC (fuel : Nat) : Prop := ∀ (x1 : Form) (x2 : Form) (r : Bool), m_impl_FormSame fuel x1 x2 = some r → AC Tryz.prog 11 [.ag [.t (.sc (.int .i64 x1.kind)), .t (.sc (.str x1.name)), .t (.sc (.int .i64 x1.n)), .t (.sl (x1.scopes.map rI)), .t (.sl (x1.kids.map Form.row))], .ag [.t (.sc (.int .i64 x2.kind)), .t (.sc (.str x2.name)), .t (.sc (.int .i64 x2.n)), .t (.sl (x2.scopes.map rI)), .t (.sl (x2.kids.map Form.row))]] noOb (.t (.sc (.bool r))) noOb
def m_slices_EqualFunc_Form_FormSame_AC (fuel : Nat) : Prop := ∀ (x1 : (List Form)) (x2 : (List Form)) (r : Bool), m_slices_EqualFunc_Form_FormSame fuel x1 x2 = some r → AC Tryz.prog 23 [.t (.sl (x1.map Form.row)), .t (.sl (x2.map Form.row)), .fn 11 []] noOb (.t (.sc (.bool r))) noOb
theorem m_impl_FormSame_st (fu : Nat) (ih_m_impl_FormSame : ∀ k, k ≤ fu → m_impl_FormSame_AC k) (ih_m_slices_EqualFunc_Form_FormSame : ∀ k, k ≤ fu → m_slices_EqualFunc_Form_FormSame_AC k) : m_impl_FormSame_AC (fu + 1) := by
 intro x1 x2 r hF0
 rw [m_impl_FormSame] at hF0
 refine AC_i [.t (.sc (.bool r))] Tryz.func11 rfl Tryz.ntmps11 ?_
 intro C hC
 refine awp_seq (awp_region ?_)
 refine s_box ?_
 refine s_box ?_
 refine s_as ?_
 refine k_nil (k_seq (awp_seq (awp_region ?_)))
 refine s_fa yF26_0 ?_
 refine s_ld1 yA3 ?_
 refine s_fa yF26_0 ?_
 refine s_ld1 yA3 ?_
 refine s_eq ?_
 refine s_mv ?_
 refine w_guard _ 10 hF0 ?_ ?_ <;> intro hc1 hF1
 refine s_fa yF26_1 ?_
 refine s_ld1 yA9 ?_
 refine s_fa yF26_1 ?_
 refine s_ld1 yA9 ?_
 refine s_eqS ?_
 refine s_pkt ?_
 refine s_mv ?_
 refine w_guard _ 17 hF1 ?_ ?_ <;> intro hc2 hF2
 refine s_fa yF26_2 ?_
 refine s_ld1 yA3 ?_
 refine s_fa yF26_2 ?_
 refine s_ld1 yA3 ?_
 refine s_eq ?_
 refine s_pkt ?_
 refine s_mv ?_
 refine w_guard _ 24 hF2 ?_ ?_ <;> intro hc3 hF3
 refine s_fa yF26_3 ?_
 refine s_ld1 yA23 ?_
 refine s_fa yF26_3 ?_
 refine s_ld1 yA23 ?_
 obtain ⟨v4, hv4, hF4⟩ := bind_some' hF3
 refine s_pure [] (m_slices_Equal_int_ok fu _ _ _ hv4) ?_
 refine s_pkt ?_
 refine s_mv ?_
 refine w_guard _ 31 hF4 ?_ ?_ <;> intro hc5 hF5
 refine s_fa yF26_4 ?_
 refine s_ld1 yA24 ?_
 refine s_fa yF26_4 ?_
 refine s_ld1 yA24 ?_
 obtain ⟨v6, hv6, hF6⟩ := bind_some' hF5
 refine s_pure [] (ih_m_slices_EqualFunc_Form_FormSame fu (by omega) _ _ _ hv6) ?_
 refine s_pkt ?_
 refine s_as ?_
 refine k_nil (k_seq (awp_ret (k_fin ?_)))
 cases hF6
 exact ends_a [] [] Tryz.results11
 iterate 5 refine r_no rfl ?_
 refine s_pkf ?_
 refine s_as ?_
 refine k_nil (k_seq (awp_ret (k_fin ?_)))
 cases hF5
 exact ends_a [] [] Tryz.results11
 iterate 5 refine r_no rfl ?_
 refine s_pkf ?_
 refine s_mv ?_
 iterate 5 refine r_no rfl ?_
 refine s_pkf ?_
 refine s_as ?_
 refine k_nil (k_seq (awp_ret (k_fin ?_)))
 cases hF3
 exact ends_a [] [] Tryz.results11
 iterate 5 refine r_no rfl ?_
 refine s_pkf ?_
 refine s_mv ?_
 iterate 5 refine r_no rfl ?_
 refine s_pkf ?_
 refine s_mv ?_
 iterate 5 refine r_no rfl ?_
 refine s_pkf ?_
 refine s_as ?_
 refine k_nil (k_seq (awp_ret (k_fin ?_)))
 cases hF2
 exact ends_a [] [] Tryz.results11
 iterate 5 refine r_no rfl ?_
 refine s_pkf ?_
 refine s_mv ?_
 iterate 5 refine r_no rfl ?_
 refine s_pkf ?_
 refine s_mv ?_
 iterate 5 refine r_no rfl ?_
 refine s_pkf ?_
 refine s_mv ?_
 iterate 5 refine r_no rfl ?_
 refine s_pkf ?_
 refine s_as ?_
 refine k_nil (k_seq (awp_ret (k_fin ?_)))
 cases hF1
 exact ends_a [] [] Tryz.results11
theorem m_slices_EqualFunc_Form_FormSame_st (fu : Nat) (ih_m_impl_FormSame : ∀ k, k ≤ fu → m_impl_FormSame_AC k) (ih_m_slices_EqualFunc_Form_FormSame : ∀ k, k ≤ fu → m_slices_EqualFunc_Form_FormSame_AC k) : m_slices_EqualFunc_Form_FormSame_AC (fu + 1) := by
 intro x1 x2 r hF0
 rw [m_slices_EqualFunc_Form_FormSame] at hF0
 refine AC_i [.t (.sc (.bool r))] Tryz.func23 rfl Tryz.ntmps23 ?_
 intro C hC
 refine awp_seq (awp_region ?_)
 refine s_as ?_
 refine k_nil (k_seq (awp_seq (awp_seq (awp_region ?_))))
 refine s_mv ?_
 refine s_lenT yU24 ?_
 refine s_mv ?_
 refine s_lenT yU24 ?_
 refine s_ne ?_
 refine k_nil (k_seq ?_)
 refine w_cond hF0 ?_ ?_ <;> intro hc1 hF1
 refine awp_seq (awp_region ?_)
 refine s_as ?_
 refine k_nil (k_seq (awp_ret (k_seq_ret (k_fin ?_))))
 cases hF1
 exact ends_a [] [] Tryz.results23
 refine awp_skip (k_seq (awp_seq (awp_seq (awp_region ?_))))
 refine s_mv ?_
 refine s_lenT yU24 ?_
 refine s_mv ?_
 refine k_nil (k_seq (awp_block ?_))
 refine awp_fr (β := Int) [6, 7, 8, 9, 17, 18, 19, 20, 21, 22, 23, 24, 25, 26, 27, 28, 29, 30, 31] [] [8, 9] (fun a => [(17, .t (.sc (.int .i64 a.2)))]) (fun a => []) (fun a => a.1 ≤ fu ∧ m_slices_EqualFunc_Form_FormSame_l1 a.1 x1 x2 a.2 = some r ∧ 0 ≤ a.2) (fu, 0) ⟨Nat.le_refl _, hF1, by simp⟩ ?_
 clear hF1
 rintro ⟨fu, g2⟩ ⟨hl3, hF2, hn_g2⟩
 dsimp only at hl3 hF2 hn_g2 ⊢
 obtain _ | fu := fu
 · rw [m_slices_EqualFunc_Form_FormSame_l1] at hF2; cases hF2
 rw [m_slices_EqualFunc_Form_FormSame_l1] at hF2
 refine awp_seq (awp_region ?_)
 refine s_lt ?_
 refine k_nil (k_seq (awp_seq ?_))
 refine w_cond hF2 ?_ ?_ <;> intro hc4 hF3
 refine awp_lenT 0 (fun hb5 => ?_)
 refine awp_skip (k_seq (awp_seq (awp_block (awp_seq (awp_region ?_)))))
 refine s_mv ?_
 obtain ⟨v6, hv6, hF4⟩ := bind_some' hF3
 refine s_ixT Form.row hv6 (Form.row_eq _) yE24 ?_
 refine s_ldN yA26 yS26 ?_
 refine s_alloc yZ26 ?_
 refine s_as ?_
 refine s_stW yS26 ?_
 refine k_nil (k_seq (awp_seq (awp_region ?_)))
 refine s_mv ?_
 refine s_mv ?_
 obtain ⟨v7, hv7, hF5⟩ := bind_some' hF4
 refine s_ixT Form.row hv7 (Form.row_eq _) yE24 ?_
 refine s_ldN yA26 yS26 ?_
 refine s_alloc yZ26 ?_
 refine s_stW yS26 ?_
 refine k_nil (k_seq (awp_seq (awp_region ?_)))
 refine s_mv ?_
 refine s_ldW yA26 yS26 ?_
 refine s_ldW yA26 yS26 ?_
 obtain ⟨v8, hv8, hF6⟩ := bind_some' hF5
 refine s_pure [] (ih_m_impl_FormSame fu (by omega) _ _ _ hv8) ?_
 refine s_not ?_
 refine k_nil (k_seq ?_)
 refine w_cond hF6 ?_ ?_ <;> intro hc9 hF7
 refine awp_seq (awp_region ?_)
 refine s_as ?_
 refine k_nil (k_seq (awp_ret (k_blk_ret (k_seq_ret (k_rnd_ret2 (k_blk_ret (k_seq_ret (k_fin ?_))))))))
 cases hF7
 exact ends_a [] [] Tryz.results23
 refine awp_skip (k_blk (k_seq (awp_region ?_)))
 refine s_add (winc2 hc4 hb5 hn_g2) ?_
 refine s_mv ?_
 refine k_nil ?_
 exact s_rn (fu, (g2 + 1)) ⟨by first | omega | (dsimp only; omega), hF7, by first | omega | (dsimp only; omega)⟩
 refine awp_exit (k_seq_exit (k_rnd_exit2 (k_blk_exit (k_seq (awp_seq (awp_region ?_))))))
 refine s_as ?_
 refine k_nil (k_seq (awp_ret (k_fin ?_)))
 cases hF3
 exact ends_a [] [] Tryz.results23
theorem m_impl_FormSame_all (fuel : Nat) : m_impl_FormSame_AC fuel ∧ m_slices_EqualFunc_Form_FormSame_AC fuel := by
 induction fuel using Nat.strongRecOn with
 | _ N ih =>
   cases N with
   | zero => exact ⟨(by intro x1 x2 r h; rw [m_impl_FormSame] at h; cases h), (by intro x1 x2 r h; rw [m_slices_EqualFunc_Form_FormSame] at h; cases h)⟩
   | succ fu => exact ⟨m_impl_FormSame_st fu (fun k hk => (ih k (by omega)).1) (fun k hk => (ih k (by omega)).2), m_slices_EqualFunc_Form_FormSame_st fu (fun k hk => (ih k (by omega)).1) (fun k hk => (ih k (by omega)).2)⟩
theorem m_impl_FormSame_ok (fuel : Nat) : m_impl_FormSame_AC fuel := (m_impl_FormSame_all fuel).1
def m_laws_FnFormBlanks_AC (fuel : Nat) : Prop := ∀ (x1 : (List Int)) (r : Bool), m_laws_FnFormBlanks fuel x1 = some r → AC Tryz.prog 4 [.t (.sl (x1.map rB))] noOb (.t (.sc (.bool r))) noOb
theorem m_laws_FnFormBlanks_ok (fuel : Nat) : m_laws_FnFormBlanks_AC fuel := by
 intro x1 r hF0
 unfold m_laws_FnFormBlanks at hF0
 refine AC_i [.t (.sc (.bool r))] Tryz.func4 rfl Tryz.ntmps4 ?_
 intro C hC
 refine awp_seq (awp_region ?_)
 refine s_as ?_
 refine k_nil (k_seq (awp_seq (awp_seq (awp_region ?_))))
 refine s_mv ?_
 refine s_lenT yU22 ?_
 refine s_gt ?_
 refine k_nil (k_seq ?_)
 refine w_cond hF0 ?_ ?_ <;> intro hc1 hF1
 refine awp_lenT 0 (fun hb2 => ?_)
 refine awp_seq (awp_region ?_)
 refine s_as ?_
 refine k_nil (k_seq (awp_ret (k_seq_ret (k_fin ?_))))
 cases hF1
 exact ends_a [] [] Tryz.results4
 refine awp_skip (k_seq (awp_seq (awp_region ?_)))
 refine s_mv ?_
 obtain ⟨v3, hv3, hF2⟩ := bind_some' hF1
 refine s_pure [] (m_spec_DrawFormatForm_ok fuel _ _ hv3) ?_
 refine s_alloc yZ26 ?_
 refine s_stW yS26 ?_
 refine k_nil (k_seq (awp_seq (awp_region ?_)))
 refine s_ldW yA26 yS26 ?_
 obtain ⟨v4, hv4, hF3⟩ := bind_some' hF2
 refine s_pure [] (m_impl_FormatForm_ok fuel _ _ hv4) ?_
 refine s_as ?_
 refine k_nil (k_seq (awp_seq ?_))
 refine awp_jn (α := Nat × Bool) [16, 17, 18, 19, 20, 21, 22, 23] [] [] (fun a => [(23, .t (.sc (.bool a.2)))]) (fun a => []) (fun a => a.1 ≤ fuel ∧ m_laws_FnFormBlanks_j1 a.1 v3 v4 a.2 = some r) ?_ ?_
 refine awp_region ?_
 refine s_mv ?_
 refine s_ldW yA26 yS26 ?_
 obtain ⟨v5, hv5, hF4⟩ := bind_some' hF3
 refine s_pure [] (m_spec_FormatForm_ok fuel _ _ hv5) ?_
 refine s_neS ?_
 refine s_mv ?_
 refine w_guard _ 20 hF4 ?_ ?_ <;> intro hc6 hF5
 refine r_no rfl (r_no rfl ?_)
 refine s_pkt ?_
 refine k_nil ?_
 exact s_jn (fuel, true) ⟨by first | omega | (dsimp only; omega), hF5⟩
 refine s_mv ?_
 refine s_eqS ?_
 refine s_pkf ?_
 refine k_nil ?_
 exact s_jn (fuel, (decide (v4 = (⟨#[]⟩ : ByteArray)))) ⟨by first | omega | (dsimp only; omega), hF5⟩
 clear hF3
 rintro ⟨fu, g7⟩ ⟨hl8, hF4⟩
 dsimp only at hl8 hF4 ⊢
 obtain _ | fu := fu
 · rw [m_laws_FnFormBlanks_j1] at hF4; cases hF4
 rw [m_laws_FnFormBlanks_j1] at hF4
 refine w_cond hF4 ?_ ?_ <;> intro hc9 hF5
 refine awp_seq (awp_region ?_)
 refine s_mv ?_
 refine s_ldW yA26 yS26 ?_
 obtain ⟨v10, hv10, hF6⟩ := bind_some' hF5
 refine s_pure [] (m_spec_FormatForm_ok fu _ _ hv10) ?_
 refine s_eqS ?_
 refine s_as ?_
 refine k_nil (k_seq (awp_ret (k_seq_ret (k_fin ?_))))
 cases hF6
 exact ends_a [] [] Tryz.results4
 refine awp_skip (k_seq (awp_seq (awp_region ?_)))
 refine s_as ?_
 refine k_nil (k_seq ?_)
 refine awp_jn (α := Nat × ByteArray) [5, 6, 28, 29, 30, 31, 32, 33, 34, 35, 36, 37, 38, 39, 40, 41, 42, 43, 44, 45, 46, 47, 48, 49, 50, 51, 52, 53, 54, 55, 56, 57, 58] [] [] (fun a => [(5, .t (.sc (.str a.2)))]) (fun a => []) (fun a => a.1 ≤ fu ∧ m_laws_FnFormBlanks_j2 a.1 v3 a.2 = some r) ?_ ?_
 refine awp_seq (awp_region ?_)
 refine s_as ?_
 refine k_nil (k_seq (awp_block ?_))
 refine awp_fr (β := ByteArray × Int) [5, 6, 28, 29, 30, 31, 32, 33, 34, 35, 36, 37, 38, 39, 40, 41, 42, 43, 44, 45, 46, 47, 48, 49, 50, 51, 52, 53, 54, 55, 56, 57, 58] [] [] (fun a => [(5, .t (.sc (.str a.2.1))), (6, .t (.sc (.int .i64 a.2.2)))]) (fun a => []) (fun a => a.1 ≤ fu ∧ m_laws_FnFormBlanks_l3 a.1 v3 v4 a.2.1 a.2.2 = some r) (fu, (⟨#[32]⟩ : ByteArray), 0) ⟨Nat.le_refl _, hF5⟩ ?_
 clear hF5
 rintro ⟨fu, g11, g12⟩ ⟨hl13, hF6⟩
 dsimp only at hl13 hF6 ⊢
 obtain _ | fu := fu
 · rw [m_laws_FnFormBlanks_l3] at hF6; cases hF6
 rw [m_laws_FnFormBlanks_l3] at hF6
 refine awp_seq (awp_seq (awp_region ?_))
 refine s_mv ?_
 refine s_mv ?_
 refine s_lenS yU9 ?_
 refine s_lt ?_
 refine k_nil (k_seq ?_)
 refine w_cond hF6 ?_ ?_ <;> intro hc14 hF7
 refine awp_skip (k_seq (awp_seq (awp_block (awp_seq (awp_region ?_)))))
 iterate 4 refine s_mv ?_
 refine s_add rfl ?_
 obtain ⟨v15, hv15, hF8⟩ := bind_some' hF7
 refine s_ss11 hv15 yU9 ?_
 obtain ⟨v16, hv16, hF9⟩ := bind_some' hF8
 refine s_cat hv16 ?_
 refine s_as ?_
 refine k_nil (k_seq (awp_seq (awp_region ?_)))
 refine s_mv ?_
 refine s_mv ?_
 obtain ⟨v17, hv17, hF10⟩ := bind_some' hF9
 refine s_ixS hv17 yU9 ?_
 refine s_eq ?_
 refine s_mv ?_
 refine w_guard _ 45 hF10 ?_ ?_ <;> intro hc18 hF11
 iterate 4 refine r_no rfl ?_
 refine s_pkt ?_
 refine s_mv ?_
 iterate 4 refine r_no rfl ?_
 refine s_pkt ?_
 refine k_nil (k_seq (awp_true rfl (awp_region ?_)))
 refine s_mv ?_
 obtain ⟨v19, hv19, hF12⟩ := bind_some' hF11
 refine s_cat hv19 ?_
 refine s_as ?_
 refine k_nil (k_blk (k_seq (awp_region ?_)))
 refine s_mv ?_
 refine s_add rfl ?_
 refine s_as ?_
 refine k_nil ?_
 exact s_rn (fu, v19, (w64 (g12 + 1))) ⟨by first | omega | (dsimp only; omega), hF12⟩
 refine s_mv ?_
 refine s_mv ?_
 obtain ⟨v20, hv20, hF12⟩ := bind_some' hF11
 refine s_ixS hv20 yU9 ?_
 refine s_eq ?_
 refine s_pkf ?_
 refine s_mv ?_
 refine w_guard _ 51 hF12 ?_ ?_ <;> intro hc21 hF13
 iterate 4 refine r_no rfl ?_
 refine s_pkt ?_
 refine k_nil (k_seq (awp_true rfl (awp_region ?_)))
 refine s_mv ?_
 obtain ⟨v22, hv22, hF14⟩ := bind_some' hF13
 refine s_cat hv22 ?_
 refine s_as ?_
 refine k_nil (k_blk (k_seq (awp_region ?_)))
 refine s_mv ?_
 refine s_add rfl ?_
 refine s_as ?_
 refine k_nil ?_
 exact s_rn (fu, v22, (w64 (g12 + 1))) ⟨by first | omega | (dsimp only; omega), hF14⟩
 refine s_mv ?_
 refine s_mv ?_
 obtain ⟨v23, hv23, hF14⟩ := bind_some' hF13
 refine s_ixS hv23 yU9 ?_
 refine s_eq ?_
 refine s_pkf ?_
 refine k_nil (k_seq ?_)
 refine w_cond hF14 ?_ ?_ <;> intro hc24 hF15
 refine awp_region ?_
 refine s_mv ?_
 obtain ⟨v25, hv25, hF16⟩ := bind_some' hF15
 refine s_cat hv25 ?_
 refine s_as ?_
 refine k_nil (k_blk (k_seq (awp_region ?_)))
 refine s_mv ?_
 refine s_add rfl ?_
 refine s_as ?_
 refine k_nil ?_
 exact s_rn (fu, v25, (w64 (g12 + 1))) ⟨by first | omega | (dsimp only; omega), hF16⟩
 refine awp_skip (k_blk (k_seq (awp_region ?_)))
 refine s_mv ?_
 refine s_add rfl ?_
 refine s_as ?_
 refine k_nil ?_
 exact s_rn (fu, v16, (w64 (g12 + 1))) ⟨by first | omega | (dsimp only; omega), hF15⟩
 refine awp_exit (k_seq_exit (k_rnd_exit2 (k_blk_exit ?_)))
 exact s_jn (fu, g11) ⟨by first | omega | (dsimp only; omega), hF7⟩
 clear hF5
 rintro ⟨fu, g26⟩ ⟨hl27, hF6⟩
 dsimp only at hl27 hF6 ⊢
 obtain _ | fu := fu
 · rw [m_laws_FnFormBlanks_j2] at hF6; cases hF6
 rw [m_laws_FnFormBlanks_j2] at hF6
 refine awp_seq (awp_region ?_)
 refine s_mv ?_
 obtain ⟨v28, hv28, hF7⟩ := bind_some' hF6
 refine s_pure [] (m_impl_ParseForm_ok fu _ _ hv28) ?_
 refine s_mv ?_
 refine s_ext ?_
 refine s_ext ?_
 refine s_alloc yZ26 ?_
 refine s_stW yS26 ?_
 refine s_as ?_
 refine k_nil (k_seq (awp_seq (awp_region ?_)))
 refine s_mv ?_
 refine s_mv ?_
 refine w_guard _ 65 hF7 ?_ ?_ <;> intro hc29 hF8
 refine s_ldW yA26 yS26 ?_
 refine s_ldW yA26 yS26 ?_
 obtain ⟨v30, hv30, hF9⟩ := bind_some' hF8
 refine s_pure [] (m_impl_FormSame_ok fu _ _ _ hv30) ?_
 refine s_pkt ?_
 refine s_as ?_
 refine k_nil (k_seq (awp_ret (k_fin ?_)))
 cases hF9
 exact ends_a [] [] Tryz.results4
 iterate 3 refine r_no rfl ?_
 refine s_pkf ?_
 refine s_as ?_
 refine k_nil (k_seq (awp_ret (k_fin ?_)))
 cases hF8
 exact ends_a [] [] Tryz.results4
end Go.Abs
