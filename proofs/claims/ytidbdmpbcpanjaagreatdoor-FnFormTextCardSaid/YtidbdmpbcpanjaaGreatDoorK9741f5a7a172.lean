/- A part of the proof: what the functions that the law calls answer, as pure values. -/
import Derived.Test.YtidbdmpbcpanjaaGreatDoorK10a31c29eeb6
import Derived.Test.YtidbdmpbcpanjaaGreatDoorK3aa03bdccf4b
import Derived.Test.YtidbdmpbcpanjaaGreatDoorK48591414590f
import Derived.Test.YtidbdmpbcpanjaaGreatDoorK5189e2bb4b1a
import Derived.Test.YtidbdmpbcpanjaaGreatDoorKa21c0bbbe675
set_option linter.unusedSimpArgs false
set_option linter.unusedVariables false
set_option maxRecDepth 100000
set_option maxHeartbeats 4000000
namespace Go.Abs
open Go.Proofs
def m_slices_Equal_int_AC (fuel : Nat) : Prop := ∀ (x1 : (List Int)) (x2 : (List Int)) (r : Bool), m_slices_Equal_int fuel x1 x2 = some r → AC Tryz.prog 22 [.t (.sl (x1.map rI)), .t (.sl (x2.map rI))] noOb (.t (.sc (.bool r))) noOb
theorem m_slices_Equal_int_ok (fuel : Nat) : m_slices_Equal_int_AC fuel := by
 intro x1 x2 r hF0
 unfold m_slices_Equal_int at hF0
 refine AC_i [.t (.sc (.bool r))] Tryz.func22 rfl Tryz.ntmps22 ?_
 intro C hC
 refine awp_seq (awp_region ?_)
 refine s_as ?_
 refine k_nil (k_seq (awp_seq (awp_seq (awp_region ?_))))
 refine s_mv ?_
 refine s_lenT yU23 ?_
 refine s_mv ?_
 refine s_lenT yU23 ?_
 refine s_ne ?_
 refine k_nil (k_seq ?_)
 refine w_cond hF0 ?_ ?_ <;> intro hc1 hF1
 refine awp_seq (awp_region ?_)
 refine s_as ?_
 refine k_nil (k_seq (awp_ret (k_seq_ret (k_fin ?_))))
 cases hF1
 exact ends_a [] [] Tryz.results22
 refine awp_skip (k_seq (awp_seq (awp_seq (awp_region ?_))))
 refine s_mv ?_
 refine s_lenT yU23 ?_
 refine s_mv ?_
 refine k_nil (k_seq (awp_block ?_))
 refine awp_fr (β := Int) [4, 5, 13, 14, 15, 16, 17, 18, 19, 20, 21, 22, 23, 24, 25] [] [] (fun a => [(13, .t (.sc (.int .i64 a.2)))]) (fun a => []) (fun a => a.1 ≤ fuel ∧ m_slices_Equal_int_l1 a.1 x1 x2 a.2 = some r ∧ 0 ≤ a.2) (fuel, 0) ⟨Nat.le_refl _, hF1, by simp⟩ ?_
 clear hF1
 rintro ⟨fu, g2⟩ ⟨hl3, hF2, hn_g2⟩
 dsimp only at hl3 hF2 hn_g2 ⊢
 obtain _ | fu := fu
 · rw [m_slices_Equal_int_l1] at hF2; cases hF2
 rw [m_slices_Equal_int_l1] at hF2
 refine awp_seq (awp_region ?_)
 refine s_lt ?_
 refine k_nil (k_seq (awp_seq ?_))
 refine w_cond hF2 ?_ ?_ <;> intro hc4 hF3
 refine awp_lenT 0 (fun hb5 => ?_)
 refine awp_skip (k_seq (awp_seq (awp_block (awp_seq (awp_region ?_)))))
 refine s_mv ?_
 refine s_as ?_
 refine k_nil (k_seq (awp_seq ?_))
 refine awp_draw yMix (by kernel_rfl) ?_
 refine s_mv ?_
 refine s_mv ?_
 obtain ⟨v6, hv6, hF4⟩ := bind_some' hF3
 refine s_ixT rI hv6 rfl yE23 ?_
 refine s_ld1 yA3 ?_
 refine s_mv ?_
 refine s_mv ?_
 obtain ⟨v7, hv7, hF5⟩ := bind_some' hF4
 refine s_ixT rI hv7 rfl yE23 ?_
 refine s_ld1 yA3 ?_
 refine s_ne ?_
 refine k_nilD (by kernel_rfl) ?_
 refine k_seq ?_
 refine w_cond hF5 ?_ ?_ <;> intro hc8 hF6
 refine awp_seq (awp_region ?_)
 refine s_as ?_
 refine k_nil (k_seq (awp_ret (k_blk_ret (k_seq_ret (k_rnd_ret2 (k_blk_ret (k_seq_ret (k_fin ?_))))))))
 cases hF6
 exact ends_a [] [] Tryz.results22
 refine awp_skip (k_blk (k_seq (awp_region ?_)))
 refine s_add (winc2 hc4 hb5 hn_g2) ?_
 refine s_mv ?_
 refine k_nil ?_
 exact s_rn (fu, (g2 + 1)) ⟨by first | omega | (dsimp only; omega), hF6, by first | omega | (dsimp only; omega)⟩
 refine awp_exit (k_seq_exit (k_rnd_exit2 (k_blk_exit (k_seq (awp_seq (awp_region ?_))))))
 refine s_as ?_
 refine k_nil (k_seq (awp_ret (k_fin ?_)))
 cases hF3
 exact ends_a [] [] Tryz.results22
def m_impl_FormSame_AC (fuel : Nat) : Prop := ∀ (x1 : Form) (x2 : Form) (r : Bool), m_impl_FormSame fuel x1 x2 = some r → AC Tryz.prog 11 [.ag [.t (.sc (.int .i64 x1.kind)), .t (.sc (.str x1.name)), .t (.sc (.int .i64 x1.n)), .t (.sl (x1.scopes.map rI)), .t (.sl (x1.kids.map Form.row))], .ag [.t (.sc (.int .i64 x2.kind)), .t (.sc (.str x2.name)), .t (.sc (.int .i64 x2.n)), .t (.sl (x2.scopes.map rI)), .t (.sl (x2.kids.map Form.row))]] noOb (.t (.sc (.bool r))) noOb
def m_slices_EqualFunc_Form_FormSame_AC (fuel : Nat) : Prop := ∀ (x1 : (List Form)) (x2 : (List Form)) (r : Bool), m_slices_EqualFunc_Form_FormSame fuel x1 x2 = some r → AC Tryz.prog 23 [.t (.sl (x1.map Form.row)), .t (.sl (x2.map Form.row)), .fn 11 []] noOb (.t (.sc (.bool r))) noOb
theorem m_impl_FormSame_st (fu : Nat) (ih_m_impl_FormSame : ∀ k, k ≤ fu → m_impl_FormSame_AC k) (ih_m_slices_EqualFunc_Form_FormSame : ∀ k, k ≤ fu → m_slices_EqualFunc_Form_FormSame_AC k) : m_impl_FormSame_AC (fu + 1) := by
 intro x1 x2 r hF0
 rw [m_impl_FormSame] at hF0
 refine AC_i [.t (.sc (.bool r))] Tryz.func11 rfl Tryz.ntmps11 ?_
 intro C hC
 refine awp_seq (awp_region ?_)
 refine s_box ?_
 refine s_box ?_
 refine s_as ?_
 refine k_nil (k_seq (awp_seq (awp_region ?_)))
 refine s_fa yF26_0 ?_
 refine s_ld1 yA3 ?_
 refine s_fa yF26_0 ?_
 refine s_ld1 yA3 ?_
 refine s_eq ?_
 refine s_mv ?_
 refine w_guard _ 10 hF0 ?_ ?_ <;> intro hc1 hF1
 refine s_fa yF26_1 ?_
 refine s_ld1 yA9 ?_
 refine s_fa yF26_1 ?_
 refine s_ld1 yA9 ?_
 refine s_eqS ?_
 refine s_pkt ?_
 refine s_mv ?_
 refine w_guard _ 17 hF1 ?_ ?_ <;> intro hc2 hF2
 refine s_fa yF26_2 ?_
 refine s_ld1 yA3 ?_
 refine s_fa yF26_2 ?_
 refine s_ld1 yA3 ?_
 refine s_eq ?_
 refine s_pkt ?_
 refine s_mv ?_
 refine w_guard _ 24 hF2 ?_ ?_ <;> intro hc3 hF3
 refine s_fa yF26_3 ?_
 refine s_ld1 yA23 ?_
 refine s_fa yF26_3 ?_
 refine s_ld1 yA23 ?_
 obtain ⟨v4, hv4, hF4⟩ := bind_some' hF3
 refine s_pure [] (m_slices_Equal_int_ok fu _ _ _ hv4) ?_
 refine s_pkt ?_
 refine s_mv ?_
 refine w_guard _ 31 hF4 ?_ ?_ <;> intro hc5 hF5
 refine s_fa yF26_4 ?_
 refine s_ld1 yA24 ?_
 refine s_fa yF26_4 ?_
 refine s_ld1 yA24 ?_
 obtain ⟨v6, hv6, hF6⟩ := bind_some' hF5
 refine s_pure [] (ih_m_slices_EqualFunc_Form_FormSame fu (by omega) _ _ _ hv6) ?_
 refine s_pkt ?_
 refine s_as ?_
 refine k_nil (k_seq (awp_ret (k_fin ?_)))
 cases hF6
 exact ends_a [] [] Tryz.results11
 iterate 5 refine r_no rfl ?_
 refine s_pkf ?_
 refine s_as ?_
 refine k_nil (k_seq (awp_ret (k_fin ?_)))
 cases hF5
 exact ends_a [] [] Tryz.results11
 iterate 5 refine r_no rfl ?_
 refine s_pkf ?_
 refine s_mv ?_
 iterate 5 refine r_no rfl ?_
 refine s_pkf ?_
 refine s_as ?_
 refine k_nil (k_seq (awp_ret (k_fin ?_)))
 cases hF3
 exact ends_a [] [] Tryz.results11
 iterate 5 refine r_no rfl ?_
 refine s_pkf ?_
 refine s_mv ?_
 iterate 5 refine r_no rfl ?_
 refine s_pkf ?_
 refine s_mv ?_
 iterate 5 refine r_no rfl ?_
 refine s_pkf ?_
 refine s_as ?_
 refine k_nil (k_seq (awp_ret (k_fin ?_)))
 cases hF2
 exact ends_a [] [] Tryz.results11
 iterate 5 refine r_no rfl ?_
 refine s_pkf ?_
 refine s_mv ?_
 iterate 5 refine r_no rfl ?_
 refine s_pkf ?_
 refine s_mv ?_
 iterate 5 refine r_no rfl ?_
 refine s_pkf ?_
 refine s_mv ?_
 iterate 5 refine r_no rfl ?_
 refine s_pkf ?_
 refine s_as ?_
 refine k_nil (k_seq (awp_ret (k_fin ?_)))
 cases hF1
 exact ends_a [] [] Tryz.results11
theorem m_slices_EqualFunc_Form_FormSame_st (fu : Nat) (ih_m_impl_FormSame : ∀ k, k ≤ fu → m_impl_FormSame_AC k) (ih_m_slices_EqualFunc_Form_FormSame : ∀ k, k ≤ fu → m_slices_EqualFunc_Form_FormSame_AC k) : m_slices_EqualFunc_Form_FormSame_AC (fu + 1) := by
 intro x1 x2 r hF0
 rw [m_slices_EqualFunc_Form_FormSame] at hF0
 refine AC_i [.t (.sc (.bool r))] Tryz.func23 rfl Tryz.ntmps23 ?_
 intro C hC
 refine awp_seq (awp_region ?_)
 refine s_as ?_
 refine k_nil (k_seq (awp_seq (awp_seq (awp_region ?_))))
 refine s_mv ?_
 refine s_lenT yU24 ?_
 refine s_mv ?_
 refine s_lenT yU24 ?_
 refine s_ne ?_
 refine k_nil (k_seq ?_)
 refine w_cond hF0 ?_ ?_ <;> intro hc1 hF1
 refine awp_seq (awp_region ?_)
 refine s_as ?_
 refine k_nil (k_seq (awp_ret (k_seq_ret (k_fin ?_))))
 cases hF1
 exact ends_a [] [] Tryz.results23
 refine awp_skip (k_seq (awp_seq (awp_seq (awp_region ?_))))
 refine s_mv ?_
 refine s_lenT yU24 ?_
 refine s_mv ?_
 refine k_nil (k_seq (awp_block ?_))
 refine awp_fr (β := Int) [6, 7, 8, 9, 17, 18, 19, 20, 21, 22, 23, 24, 25, 26, 27, 28, 29, 30, 31] [] [8, 9] (fun a => [(17, .t (.sc (.int .i64 a.2)))]) (fun a => []) (fun a => a.1 ≤ fu ∧ m_slices_EqualFunc_Form_FormSame_l1 a.1 x1 x2 a.2 = some r ∧ 0 ≤ a.2) (fu, 0) ⟨Nat.le_refl _, hF1, by simp⟩ ?_
 clear hF1
 rintro ⟨fu, g2⟩ ⟨hl3, hF2, hn_g2⟩
 dsimp only at hl3 hF2 hn_g2 ⊢
 obtain _ | fu := fu
 · rw [m_slices_EqualFunc_Form_FormSame_l1] at hF2; cases hF2
 rw [m_slices_EqualFunc_Form_FormSame_l1] at hF2
 refine awp_seq (awp_region ?_)
 refine s_lt ?_
 refine k_nil (k_seq (awp_seq ?_))
 refine w_cond hF2 ?_ ?_ <;> intro hc4 hF3
 refine awp_lenT 0 (fun hb5 => ?_)
 refine awp_skip (k_seq (awp_seq (awp_block (awp_seq (awp_region ?_)))))
 refine s_mv ?_
 obtain ⟨v6, hv6, hF4⟩ := bind_some' hF3
 refine s_ixT Form.row hv6 (Form.row_eq _) yE24 ?_
 refine s_ldN yA26 yS26 ?_
 refine s_alloc yZ26 ?_
 refine s_as ?_
 refine s_stW yS26 ?_
 refine k_nil (k_seq (awp_seq (awp_region ?_)))
 refine s_mv ?_
 refine s_mv ?_
 obtain ⟨v7, hv7, hF5⟩ := bind_some' hF4
 refine s_ixT Form.row hv7 (Form.row_eq _) yE24 ?_
 refine s_ldN yA26 yS26 ?_
 refine s_alloc yZ26 ?_
 refine s_stW yS26 ?_
 refine k_nil (k_seq (awp_seq (awp_region ?_)))
 refine s_mv ?_
 refine s_ldW yA26 yS26 ?_
 refine s_ldW yA26 yS26 ?_
 obtain ⟨v8, hv8, hF6⟩ := bind_some' hF5
 refine s_pure [] (ih_m_impl_FormSame fu (by omega) _ _ _ hv8) ?_
 refine s_not ?_
 refine k_nil (k_seq ?_)
 refine w_cond hF6 ?_ ?_ <;> intro hc9 hF7
 refine awp_seq (awp_region ?_)
 refine s_as ?_
 refine k_nil (k_seq (awp_ret (k_blk_ret (k_seq_ret (k_rnd_ret2 (k_blk_ret (k_seq_ret (k_fin ?_))))))))
 cases hF7
 exact ends_a [] [] Tryz.results23
 refine awp_skip (k_blk (k_seq (awp_region ?_)))
 refine s_add (winc2 hc4 hb5 hn_g2) ?_
 refine s_mv ?_
 refine k_nil ?_
 exact s_rn (fu, (g2 + 1)) ⟨by first | omega | (dsimp only; omega), hF7, by first | omega | (dsimp only; omega)⟩
 refine awp_exit (k_seq_exit (k_rnd_exit2 (k_blk_exit (k_seq (awp_seq (awp_region ?_))))))
 refine s_as ?_
 refine k_nil (k_seq (awp_ret (k_fin ?_)))
 cases hF3
 exact ends_a [] [] Tryz.results23
theorem m_impl_FormSame_all (fuel : Nat) : m_impl_FormSame_AC fuel ∧ m_slices_EqualFunc_Form_FormSame_AC fuel := by
 induction fuel using Nat.strongRecOn with
 | _ N ih =>
   cases N with
   | zero => exact ⟨(by intro x1 x2 r h; rw [m_impl_FormSame] at h; cases h), (by intro x1 x2 r h; rw [m_slices_EqualFunc_Form_FormSame] at h; cases h)⟩
   | succ fu => exact ⟨m_impl_FormSame_st fu (fun k hk => (ih k (by omega)).1) (fun k hk => (ih k (by omega)).2), m_slices_EqualFunc_Form_FormSame_st fu (fun k hk => (ih k (by omega)).1) (fun k hk => (ih k (by omega)).2)⟩
theorem m_impl_FormSame_ok (fuel : Nat) : m_impl_FormSame_AC fuel := (m_impl_FormSame_all fuel).1
def m_spec_l1Bend_AC (fuel : Nat) : Prop := ∀ (o1 : l15Rd) (x2 : ByteArray) (x3 : (List ByteArray)) (r : (ByteArray × l15Rd)), m_spec_l1Bend fuel o1 x2 x3 = some r → AC Tryz.prog 25 [.rf 9000 0, .t (.sc (.str x2)), .t (.sl (x3.map rS))] (objs [(9000, .box [.t (.sl (o1.b.map rB)), .t (.sc (.int .i64 o1.p))])]) (.t (.sc (.str r.1))) (objs [(9000, .box [.t (.sl (r.2.b.map rB)), .t (.sc (.int .i64 r.2.p))])])
theorem m_spec_l1Bend_ok (fuel : Nat) : m_spec_l1Bend_AC fuel := by
 intro o1 x2 x3 r hF0
 unfold m_spec_l1Bend at hF0
 refine AC_i [.t (.sc (.str r.1))] Tryz.func25 rfl Tryz.ntmps25 ?_
 intro C hC
 refine awp_seq (awp_region ?_)
 refine s_as ?_
 refine k_nil (k_seq (awp_seq ?_))
 refine awp_jn (α := Nat × Bool × (List Int) × Int) [8, 9, 10, 11, 12, 13, 14, 15] [9000] [] (fun a => [(15, .t (.sc (.bool a.2.1)))]) (fun a => [(9000, .box [.t (.sl (a.2.2.1.map rB)), .t (.sc (.int .i64 a.2.2.2))])]) (fun a => a.1 ≤ fuel ∧ m_spec_l1Bend_j1 a.1 x2 x3 a.2.1 a.2.2.1 a.2.2.2 = some r) ?_ ?_
 refine awp_region ?_
 refine s_mv ?_
 refine s_lenS yU9 ?_
 refine s_eq ?_
 refine s_mv ?_
 refine w_guard _ 11 hF0 ?_ ?_ <;> intro hc1 hF1
 iterate 3 refine r_no rfl ?_
 refine s_pkt ?_
 refine k_nil ?_
 exact s_jn (fuel, true, o1.b, o1.p) ⟨by first | omega | (dsimp only; omega), hF1⟩
 refine s_mv ?_
 obtain ⟨v2, hv2, hF2⟩ := bind_some' hF1
 refine s_call [(9000, 9000)] [] _ _ (m_spec_l15Rd_pick_ok fuel _ _ _ hv2) ?_
 refine s_eq ?_
 refine s_pkf ?_
 refine k_nil ?_
 exact s_jn (fuel, (decide (v2.1 = 0)), v2.2.b, v2.2.p) ⟨by first | omega | (dsimp only; omega), hF2⟩
 clear hF0
 rintro ⟨fu, g3, g4, g5⟩ ⟨hl6, hF1⟩
 dsimp only at hl6 hF1 ⊢
 obtain _ | fu := fu
 · rw [m_spec_l1Bend_j1] at hF1; cases hF1
 rw [m_spec_l1Bend_j1] at hF1
 refine w_cond hF1 ?_ ?_ <;> intro hc7 hF2
 refine awp_seq (awp_region ?_)
 refine s_mv ?_
 refine s_as ?_
 refine k_nil (k_seq (awp_ret (k_seq_ret (k_fin ?_))))
 cases hF2
 exact ends_a _ [] Tryz.results25
 refine awp_skip (k_seq (awp_seq (awp_region ?_)))
 refine s_mv ?_
 refine s_mv ?_
 refine s_lenS yU9 ?_
 obtain ⟨v8, hv8, hF3⟩ := bind_some' hF2
 refine s_call [(9000, 9000)] [] _ _ (m_spec_l15Rd_pick_ok fu _ _ _ hv8) ?_
 refine s_as ?_
 refine k_nil (k_seq (awp_seq ?_))
 refine awp_draw yMix (by kernel_rfl) ?_
 refine s_mv ?_
 refine s_mv ?_
 obtain ⟨v9, hv9, hF4⟩ := bind_some' hF3
 refine s_ss01 hv9 yU9 ?_
 refine s_mv0 ?_
 refine s_mv ?_
 obtain ⟨v10, hv10, hF5⟩ := bind_some' hF4
 refine s_call [(9000, 9000)] [] _ _ (m_spec_l15Rd_of_ok fu _ _ _ hv10) ?_
 obtain ⟨v11, hv11, hF6⟩ := bind_some' hF5
 refine s_cat hv11 ?_
 refine s_mv ?_
 refine s_mv ?_
 refine s_mv0 ?_
 obtain ⟨v12, hv12, hF7⟩ := bind_some' hF6
 refine s_call [(9000, 9000)] [] _ _ (m_spec_l15Rd_pick_ok fu _ _ _ hv12) ?_
 refine s_add rfl ?_
 obtain ⟨v13, hv13, hF8⟩ := bind_some' hF7
 refine s_ss10 hv13 yU9 ?_
 obtain ⟨v14, hv14, hF9⟩ := bind_some' hF8
 refine s_cat hv14 ?_
 refine s_as ?_
 refine k_nilD (by kernel_rfl) ?_
 refine k_seq (awp_ret (k_fin ?_))
 cases hF9
 exact ends_a _ [] Tryz.results25
def m_spec_DrawParseForm_AC (fuel : Nat) : Prop := ∀ (x1 : (List Int)) (r : ByteArray), m_spec_DrawParseForm fuel x1 = some r → AC Tryz.prog 12 [.t (.sl (x1.map rB))] noOb (.t (.sc (.str r))) noOb
theorem m_spec_DrawParseForm_ok (fuel : Nat) : m_spec_DrawParseForm_AC fuel := by
 intro x1 r hF0
 unfold m_spec_DrawParseForm at hF0
 refine AC_i [.t (.sc (.str r))] Tryz.func12 rfl Tryz.ntmps12 ?_
 intro C hC
 refine awp_seq (awp_region ?_)
 refine s_as ?_
 refine k_nil (k_seq (awp_seq (awp_region ?_)))
 refine s_mv ?_
 obtain ⟨v1, hv1, hF1⟩ := bind_some' hF0
 refine s_call [(10, 5)] [] _ _ (m_spec_l15Open_ok fuel _ _ hv1) ?_
 refine s_as ?_
 refine k_nil (k_seq (awp_seq (awp_region ?_)))
 iterate 3 refine s_mv ?_
 obtain ⟨v2, hv2, hF2⟩ := bind_some' hF1
 refine s_call [(9000, 5)] [] _ _ (m_spec_l1Some_ok fuel _ _ _ hv2) ?_
 obtain ⟨v3, hv3, hF3⟩ := bind_some' hF2
 refine s_call [(9000, 5)] [] _ _ (m_spec_l1Dress_ok fuel _ _ _ hv3) ?_
 obtain ⟨v4, hv4, hF4⟩ := bind_some' hF3
 refine s_pure [] (m_spec_l1Text_ok fuel _ _ hv4) ?_
 refine s_bs rS [(⟨#[]⟩ : ByteArray), (⟨#[40]⟩ : ByteArray), (⟨#[41]⟩ : ByteArray), (⟨#[32]⟩ : ByteArray), (⟨#[123]⟩ : ByteArray), (⟨#[125]⟩ : ByteArray), (⟨#[49]⟩ : ByteArray), (⟨#[97]⟩ : ByteArray), (⟨#[44]⟩ : ByteArray)] yP52 yR9 ?_
 obtain ⟨v5, hv5, hF5⟩ := bind_some' hF4
 refine s_call [(9000, 5)] [12] _ _ (m_spec_l1Bend_ok fuel _ _ _ _ hv5) ?_
 refine s_as ?_
 refine k_nil (k_seq (awp_ret (k_fin ?_)))
 cases hF5
 exact ends_a [] [] Tryz.results12
def m_spec_l1Skip_AC (fuel : Nat) : Prop := ∀ (x1 : ByteArray) (x2 : Int) (r : Int), m_spec_l1Skip fuel x1 x2 = some r → AC Tryz.prog 29 [.t (.sc (.str x1)), .t (.sc (.int .i64 x2))] noOb (.t (.sc (.int .i64 r))) noOb
theorem m_spec_l1Skip_ok (fuel : Nat) : m_spec_l1Skip_AC fuel := by
 intro x1 x2 r hF0
 unfold m_spec_l1Skip at hF0
 refine AC_i [.t (.sc (.int .i64 r))] Tryz.func29 rfl Tryz.ntmps29 ?_
 intro C hC
 refine awp_seq (awp_region ?_)
 refine s_as ?_
 refine k_nil (k_seq (awp_seq (awp_block ?_)))
 refine awp_fr (β := Int) [1, 5, 6, 7, 8, 9, 10, 11, 12, 13, 14, 15, 16] [] [] (fun a => [(1, .t (.sc (.int .i64 a.2)))]) (fun a => []) (fun a => a.1 ≤ fuel ∧ m_spec_l1Skip_l1 a.1 x1 a.2 = some r) (fuel, x2) ⟨Nat.le_refl _, hF0⟩ ?_
 clear hF0
 rintro ⟨fu, g1⟩ ⟨hl2, hF1⟩
 dsimp only at hl2 hF1 ⊢
 obtain _ | fu := fu
 · rw [m_spec_l1Skip_l1] at hF1; cases hF1
 rw [m_spec_l1Skip_l1] at hF1
 refine awp_seq (awp_seq (awp_region ?_))
 refine s_mv ?_
 refine s_mv ?_
 refine s_lenS yU9 ?_
 refine s_lt ?_
 refine s_mv ?_
 refine w_guard _ 9 hF1 ?_ ?_ <;> intro hc3 hF2
 refine s_mv ?_
 refine s_mv ?_
 obtain ⟨v4, hv4, hF3⟩ := bind_some' hF2
 refine s_ixS hv4 yU9 ?_
 refine s_eq ?_
 refine s_pkt ?_
 refine k_nil (k_seq ?_)
 refine w_cond hF3 ?_ ?_ <;> intro hc5 hF4
 refine awp_skip (k_seq (awp_block (awp_region ?_)))
 refine s_mv ?_
 refine s_add rfl ?_
 refine s_as ?_
 refine k_nil (k_blk ?_)
 exact s_rn (fu, (w64 (g1 + 1))) ⟨by first | omega | (dsimp only; omega), hF4⟩
 refine awp_exit (k_seq_exit (k_rnd_exit2 (k_blk_exit (k_seq (awp_seq (awp_region ?_))))))
 refine s_mv ?_
 refine s_as ?_
 refine k_nil (k_seq (awp_ret (k_fin ?_)))
 cases hF4
 exact ends_a [] [] Tryz.results29
 iterate 4 refine r_no rfl ?_
 refine s_pkf ?_
 refine k_nil (k_seq (awp_false rfl (awp_exit (k_seq_exit (k_rnd_exit2 (k_blk_exit (k_seq (awp_seq (awp_region ?_)))))))))
 refine s_mv ?_
 refine s_as ?_
 refine k_nil (k_seq (awp_ret (k_fin ?_)))
 cases hF2
 exact ends_a [] [] Tryz.results29
def m_spec_l1Word_AC (fuel : Nat) : Prop := ∀ (x1 : ByteArray) (x2 : Int) (r : Int), m_spec_l1Word fuel x1 x2 = some r → AC Tryz.prog 66 [.t (.sc (.str x1)), .t (.sc (.int .i64 x2))] noOb (.t (.sc (.int .i64 r))) noOb
theorem m_spec_l1Word_ok (fuel : Nat) : m_spec_l1Word_AC fuel := by
 intro x1 x2 r hF0
 unfold m_spec_l1Word at hF0
 refine AC_i [.t (.sc (.int .i64 r))] Tryz.func66 rfl Tryz.ntmps66 ?_
 intro C hC
 refine awp_seq (awp_region ?_)
 refine s_as ?_
 refine k_nil (k_seq (awp_seq (awp_block ?_)))
 refine awp_fr (β := Int) [1, 5, 6, 7, 8, 9, 10, 11, 12, 13, 14, 15, 16, 17, 18, 19, 20, 21, 22, 23, 24, 25, 26, 27, 28, 29, 30, 31, 32, 33, 34] [] [] (fun a => [(1, .t (.sc (.int .i64 a.2)))]) (fun a => []) (fun a => a.1 ≤ fuel ∧ m_spec_l1Word_l1 a.1 x1 a.2 = some r) (fuel, x2) ⟨Nat.le_refl _, hF0⟩ ?_
 clear hF0
 rintro ⟨fu, g1⟩ ⟨hl2, hF1⟩
 dsimp only at hl2 hF1 ⊢
 obtain _ | fu := fu
 · rw [m_spec_l1Word_l1] at hF1; cases hF1
 rw [m_spec_l1Word_l1] at hF1
 refine awp_seq (awp_seq (awp_region ?_))
 refine s_mv ?_
 refine s_mv ?_
 refine s_lenS yU9 ?_
 refine s_lt ?_
 refine s_mv ?_
 refine w_guard _ 9 hF1 ?_ ?_ <;> intro hc3 hF2
 refine s_mv ?_
 refine s_mv ?_
 obtain ⟨v4, hv4, hF3⟩ := bind_some' hF2
 refine s_ixS hv4 yU9 ?_
 refine s_ne ?_
 refine s_pkt ?_
 refine s_mv ?_
 refine w_guard _ 15 hF3 ?_ ?_ <;> intro hc5 hF4
 refine s_mv ?_
 refine s_mv ?_
 obtain ⟨v6, hv6, hF5⟩ := bind_some' hF4
 refine s_ixS hv6 yU9 ?_
 refine s_ne ?_
 refine s_pkt ?_
 refine s_mv ?_
 refine w_guard _ 21 hF5 ?_ ?_ <;> intro hc7 hF6
 refine s_mv ?_
 refine s_mv ?_
 obtain ⟨v8, hv8, hF7⟩ := bind_some' hF6
 refine s_ixS hv8 yU9 ?_
 refine s_ne ?_
 refine s_pkt ?_
 refine s_mv ?_
 refine w_guard _ 27 hF7 ?_ ?_ <;> intro hc9 hF8
 refine s_mv ?_
 refine s_mv ?_
 obtain ⟨v10, hv10, hF9⟩ := bind_some' hF8
 refine s_ixS hv10 yU9 ?_
 refine s_ne ?_
 refine s_pkt ?_
 refine k_nil (k_seq ?_)
 refine w_cond hF9 ?_ ?_ <;> intro hc11 hF10
 refine awp_skip (k_seq (awp_block (awp_region ?_)))
 refine s_mv ?_
 refine s_add rfl ?_
 refine s_as ?_
 refine k_nil (k_blk ?_)
 exact s_rn (fu, (w64 (g1 + 1))) ⟨by first | omega | (dsimp only; omega), hF10⟩
 refine awp_exit (k_seq_exit (k_rnd_exit2 (k_blk_exit (k_seq (awp_seq (awp_region ?_))))))
 refine s_mv ?_
 refine s_as ?_
 refine k_nil (k_seq (awp_ret (k_fin ?_)))
 cases hF10
 exact ends_a [] [] Tryz.results66
 iterate 4 refine r_no rfl ?_
 refine s_pkf ?_
 refine k_nil (k_seq (awp_false rfl (awp_exit (k_seq_exit (k_rnd_exit2 (k_blk_exit (k_seq (awp_seq (awp_region ?_)))))))))
 refine s_mv ?_
 refine s_as ?_
 refine k_nil (k_seq (awp_ret (k_fin ?_)))
 cases hF8
 exact ends_a [] [] Tryz.results66
 iterate 4 refine r_no rfl ?_
 refine s_pkf ?_
 refine s_mv ?_
 iterate 4 refine r_no rfl ?_
 refine s_pkf ?_
 refine k_nil (k_seq (awp_false rfl (awp_exit (k_seq_exit (k_rnd_exit2 (k_blk_exit (k_seq (awp_seq (awp_region ?_)))))))))
 refine s_mv ?_
 refine s_as ?_
 refine k_nil (k_seq (awp_ret (k_fin ?_)))
 cases hF6
 exact ends_a [] [] Tryz.results66
 iterate 4 refine r_no rfl ?_
 refine s_pkf ?_
 refine s_mv ?_
 iterate 4 refine r_no rfl ?_
 refine s_pkf ?_
 refine s_mv ?_
 iterate 4 refine r_no rfl ?_
 refine s_pkf ?_
 refine k_nil (k_seq (awp_false rfl (awp_exit (k_seq_exit (k_rnd_exit2 (k_blk_exit (k_seq (awp_seq (awp_region ?_)))))))))
 refine s_mv ?_
 refine s_as ?_
 refine k_nil (k_seq (awp_ret (k_fin ?_)))
 cases hF4
 exact ends_a [] [] Tryz.results66
 iterate 4 refine r_no rfl ?_
 refine s_pkf ?_
 refine s_mv ?_
 iterate 4 refine r_no rfl ?_
 refine s_pkf ?_
 refine s_mv ?_
 iterate 4 refine r_no rfl ?_
 refine s_pkf ?_
 refine s_mv ?_
 iterate 4 refine r_no rfl ?_
 refine s_pkf ?_
 refine k_nil (k_seq (awp_false rfl (awp_exit (k_seq_exit (k_rnd_exit2 (k_blk_exit (k_seq (awp_seq (awp_region ?_)))))))))
 refine s_mv ?_
 refine s_as ?_
 refine k_nil (k_seq (awp_ret (k_fin ?_)))
 cases hF2
 exact ends_a [] [] Tryz.results66
def m_spec_l15Num_AC (fuel : Nat) : Prop := ∀ (x1 : ByteArray) (r : (Int × Bool)), m_spec_l15Num fuel x1 = some r → AC Tryz.prog 67 [.t (.sc (.str x1))] noOb (.tp [.t (.sc (.int .i64 r.1)), .t (.sc (.bool r.2))]) noOb
theorem m_spec_l15Num_ok (fuel : Nat) : m_spec_l15Num_AC fuel := by
 intro x1 r hF0
 unfold m_spec_l15Num at hF0
 refine AC_i [.t (.sc (.int .i64 r.1)), .t (.sc (.bool r.2))] Tryz.func67 rfl Tryz.ntmps67 ?_
 intro C hC
 refine awp_seq (awp_region ?_)
 refine s_as ?_
 refine s_as ?_
 refine k_nil (k_seq ?_)
 refine awp_jn (α := Nat × Bool) [4, 7, 8, 9, 10, 11, 12, 13, 14] [] [] (fun a => [(4, .t (.sc (.bool a.2)))]) (fun a => []) (fun a => a.1 ≤ fuel ∧ m_spec_l15Num_j1 a.1 x1 a.2 = some r) ?_ ?_
 refine awp_region ?_
 refine s_mv ?_
 refine s_lenS yU9 ?_
 refine s_gt ?_
 refine s_mv ?_
 refine w_guard _ 10 hF0 ?_ ?_ <;> intro hc1 hF1
 refine s_mv ?_
 obtain ⟨v2, hv2, hF2⟩ := bind_some' hF1
 refine s_ixS hv2 yU9 ?_
 refine s_eq ?_
 refine s_pkt ?_
 refine s_as ?_
 refine k_nil ?_
 exact s_jn (fuel, (decide (v2 = 45))) ⟨by first | omega | (dsimp only; omega), hF2⟩
 iterate 3 refine r_no rfl ?_
 refine s_pkf ?_
 refine s_as ?_
 refine k_nil ?_
 exact s_jn (fuel, false) ⟨by first | omega | (dsimp only; omega), hF1⟩
 clear hF0
 rintro ⟨fu, g3⟩ ⟨hl4, hF1⟩
 dsimp only at hl4 hF1 ⊢
 obtain _ | fu := fu
 · rw [m_spec_l15Num_j1] at hF1; cases hF1
 rw [m_spec_l15Num_j1] at hF1
 refine awp_jn (α := Nat × ByteArray) [0, 15, 16, 17] [] [] (fun a => [(0, .t (.sc (.str a.2)))]) (fun a => []) (fun a => a.1 ≤ fu ∧ m_spec_l15Num_j2 a.1 g3 a.2 = some r) ?_ ?_
 refine awp_seq (awp_region ?_)
 refine s_mv ?_
 refine k_nil (k_seq ?_)
 refine w_cond hF1 ?_ ?_ <;> intro hc5 hF2
 refine awp_region ?_
 refine s_mv ?_
 obtain ⟨v6, hv6, hF3⟩ := bind_some' hF2
 refine s_ss10 hv6 yU9 ?_
 refine s_as ?_
 refine k_nil ?_
 exact s_jn (fu, v6) ⟨by first | omega | (dsimp only; omega), hF3⟩
 refine awp_skip ?_
 exact s_jn (fu, x1) ⟨by first | omega | (dsimp only; omega), hF2⟩
 clear hF1
 rintro ⟨fu, g7⟩ ⟨hl8, hF2⟩
 dsimp only at hl8 hF2 ⊢
 obtain _ | fu := fu
 · rw [m_spec_l15Num_j2] at hF2; cases hF2
 rw [m_spec_l15Num_j2] at hF2
 refine awp_jn (α := Nat) [2, 3, 18, 19, 20, 21, 22, 23, 24, 25, 26, 27, 28, 29, 30, 31, 32, 33, 34, 35, 36, 37, 38] [] [] (fun a => []) (fun a => []) (fun a => a ≤ fu ∧ m_spec_l15Num_j3 a g3 g7  = some r) ?_ ?_
 refine awp_seq (awp_region ?_)
 refine s_mv ?_
 refine s_lenS yU9 ?_
 refine s_eq ?_
 refine s_mv ?_
 refine w_guard _ 21 hF2 ?_ ?_ <;> intro hc9 hF3
 iterate 3 refine r_no rfl ?_
 refine s_pkt ?_
 refine s_mv ?_
 iterate 11 refine r_no rfl ?_
 refine s_pkt ?_
 refine k_nil (k_seq (awp_true rfl (awp_seq (awp_region ?_))))
 refine s_as ?_
 refine s_as ?_
 refine k_nil (k_seq (awp_ret (k_jn_ret (k_fin ?_))))
 cases hF3
 exact ends_a [] [] Tryz.results67
 refine s_mv ?_
 refine s_lenS yU9 ?_
 refine s_gt ?_
 refine s_pkf ?_
 refine s_mv ?_
 refine w_guard _ 26 hF3 ?_ ?_ <;> intro hc10 hF4
 iterate 11 refine r_no rfl ?_
 refine s_pkt ?_
 refine k_nil (k_seq (awp_true rfl (awp_seq (awp_region ?_))))
 refine s_as ?_
 refine s_as ?_
 refine k_nil (k_seq (awp_ret (k_jn_ret (k_fin ?_))))
 cases hF4
 exact ends_a [] [] Tryz.results67
 refine s_mv ?_
 obtain ⟨v11, hv11, hF5⟩ := bind_some' hF4
 refine s_ixS hv11 yU9 ?_
 refine s_eq ?_
 refine s_mv ?_
 refine w_guard _ 30 hF5 ?_ ?_ <;> intro hc12 hF6
 refine s_mv ?_
 refine s_lenS yU9 ?_
 refine s_gt ?_
 refine s_mv ?_
 refine w_guard _ 34 hF6 ?_ ?_ <;> intro hc13 hF7
 refine r_no rfl ?_
 refine s_pkt ?_
 refine s_pkt ?_
 refine s_pkf ?_
 refine k_nil (k_seq (awp_true rfl (awp_seq (awp_region ?_))))
 refine s_as ?_
 refine s_as ?_
 refine k_nil (k_seq (awp_ret (k_jn_ret (k_fin ?_))))
 cases hF7
 exact ends_a [] [] Tryz.results67
 refine s_mv ?_
 refine s_pkf ?_
 refine s_pkt ?_
 refine s_pkf ?_
 refine k_nil (k_seq ?_)
 refine w_cond hF7 ?_ ?_ <;> intro hc14 hF8
 refine awp_seq (awp_region ?_)
 refine s_as ?_
 refine s_as ?_
 refine k_nil (k_seq (awp_ret (k_jn_ret (k_fin ?_))))
 cases hF8
 exact ends_a [] [] Tryz.results67
 refine awp_skip ?_
 exact s_jn (fu) ⟨by first | omega | (dsimp only; omega), hF8⟩
 iterate 6 refine r_no rfl ?_
 refine s_pkf ?_
 refine s_pkf ?_
 refine k_nil (k_seq (awp_false rfl (awp_skip ?_)))
 exact s_jn (fu) ⟨by first | omega | (dsimp only; omega), hF6⟩
 clear hF2
 rintro fu ⟨hl15, hF3⟩
 obtain _ | fu := fu
 · rw [m_spec_l15Num_j3] at hF3; cases hF3
 rw [m_spec_l15Num_j3] at hF3
 refine awp_seq (awp_region ?_)
 refine s_as ?_
 refine k_nil (k_seq (awp_seq (awp_seq (awp_region ?_))))
 refine s_as ?_
 refine k_nil (k_seq (awp_block ?_))
 refine awp_fr (β := Int × Int) [2, 3, 5, 6, 39, 40, 41, 42, 43, 44, 45, 46, 47, 48, 49, 50, 51, 52, 53, 54, 55, 56, 57, 58, 59, 60, 61, 62] [] [] (fun a => [(5, .t (.sc (.int .i64 a.2.1))), (6, .t (.sc (.int .i64 a.2.2)))]) (fun a => []) (fun a => a.1 ≤ fu ∧ m_spec_l15Num_l4 a.1 g3 g7 a.2.1 a.2.2 = some r) (fu, 0, 0) ⟨Nat.le_refl _, hF3⟩ ?_
 clear hF3
 rintro ⟨fu, g16, g17⟩ ⟨hl18, hF4⟩
 dsimp only at hl18 hF4 ⊢
 obtain _ | fu := fu
 · rw [m_spec_l15Num_l4] at hF4; cases hF4
 rw [m_spec_l15Num_l4] at hF4
 refine awp_seq (awp_seq (awp_region ?_))
 refine s_mv ?_
 refine s_mv ?_
 refine s_lenS yU9 ?_
 refine s_lt ?_
 refine k_nil (k_seq ?_)
 refine w_cond hF4 ?_ ?_ <;> intro hc19 hF5
 refine awp_skip (k_seq (awp_seq (awp_block (awp_seq ?_))))
 refine awp_jn (α := Nat × Bool) [45, 46, 47, 48, 49, 50, 51, 52, 53, 54] [] [] (fun a => [(54, .t (.sc (.bool a.2)))]) (fun a => []) (fun a => a.1 ≤ fu ∧ m_spec_l15Num_j5 a.1 g3 g7 g16 g17 a.2 = some r) ?_ ?_
 refine awp_region ?_
 refine s_mv ?_
 refine s_mv ?_
 obtain ⟨v20, hv20, hF6⟩ := bind_some' hF5
 refine s_ixS hv20 yU9 ?_
 refine s_lt ?_
 refine s_mv ?_
 refine w_guard _ 49 hF6 ?_ ?_ <;> intro hc21 hF7
 iterate 4 refine r_no rfl ?_
 refine s_pkt ?_
 refine k_nil ?_
 exact s_jn (fu, true) ⟨by first | omega | (dsimp only; omega), hF7⟩
 refine s_mv ?_
 refine s_mv ?_
 obtain ⟨v22, hv22, hF8⟩ := bind_some' hF7
 refine s_ixS hv22 yU9 ?_
 refine s_gt ?_
 refine s_pkf ?_
 refine k_nil ?_
 exact s_jn (fu, (decide (57 < v22))) ⟨by first | omega | (dsimp only; omega), hF8⟩
 clear hF5
 rintro ⟨fu, g23⟩ ⟨hl24, hF6⟩
 dsimp only at hl24 hF6 ⊢
 obtain _ | fu := fu
 · rw [m_spec_l15Num_j5] at hF6; cases hF6
 rw [m_spec_l15Num_j5] at hF6
 refine w_cond hF6 ?_ ?_ <;> intro hc25 hF7
 refine awp_seq (awp_region ?_)
 refine s_as ?_
 refine s_as ?_
 refine k_nil (k_seq (awp_ret (k_seq_ret (k_blk_ret (k_seq_ret (k_rnd_ret2 (k_blk_ret (k_seq_ret (k_fin ?_)))))))))
 cases hF7
 exact ends_a [] [] Tryz.results67
 refine awp_skip (k_seq (awp_region ?_))
 refine s_mv ?_
 refine s_mul rfl ?_
 refine s_mv ?_
 refine s_mv ?_
 obtain ⟨v26, hv26, hF8⟩ := bind_some' hF7
 refine s_ixS hv26 yU9 ?_
 refine s_sub rfl ?_
 refine s_int yU5 yU3 rfl ?_
 refine s_add rfl ?_
 refine s_as ?_
 refine k_nil (k_blk (k_seq (awp_region ?_)))
 refine s_mv ?_
 refine s_add rfl ?_
 refine s_as ?_
 refine k_nil ?_
 exact s_rn (fu, (w64 ((w64 (g16 * 10)) + (w64 (w8 (v26 - 48))))), (w64 (g17 + 1))) ⟨by first | omega | (dsimp only; omega), hF8⟩
 refine awp_exit (k_seq_exit (k_rnd_exit2 (k_blk_exit (k_seq (awp_seq (awp_seq (awp_region ?_)))))))
 refine s_mv ?_
 refine k_nil (k_seq ?_)
 refine w_cond hF5 ?_ ?_ <;> intro hc27 hF6
 refine awp_region ?_
 refine s_mv ?_
 refine s_neg rfl ?_
 refine s_as ?_
 refine k_nil (k_seq (awp_seq (awp_region ?_)))
 refine s_mv ?_
 refine s_as ?_
 refine s_as ?_
 refine k_nil (k_seq (awp_ret (k_fin ?_)))
 cases hF6
 exact ends_a [] [] Tryz.results67
 refine awp_skip (k_seq (awp_seq (awp_region ?_)))
 refine s_mv ?_
 refine s_as ?_
 refine s_as ?_
 refine k_nil (k_seq (awp_ret (k_fin ?_)))
 cases hF6
 exact ends_a [] [] Tryz.results67
def m_spec_l15Cut_AC (fuel : Nat) : Prop := ∀ (x1 : ByteArray) (x2 : Int) (r : (List ByteArray)), m_spec_l15Cut fuel x1 x2 = some r → AC Tryz.prog 85 [.t (.sc (.str x1)), .t (.sc (.int .u8 x2))] noOb (.t (.sl (r.map rS))) noOb
theorem m_spec_l15Cut_ok (fuel : Nat) : m_spec_l15Cut_AC fuel := by
 intro x1 x2 r hF0
 unfold m_spec_l15Cut at hF0
 refine AC_i [.t (.sl (r.map rS))] Tryz.func85 rfl Tryz.ntmps85 ?_
 intro C hC
 refine awp_seq (awp_region ?_)
 refine s_as ?_
 refine k_nil (k_seq (awp_seq (awp_region ?_)))
 refine s_bs rS ([] : List ByteArray) yP52 yR9 ?_
 refine s_as ?_
 refine k_nil (k_seq (awp_seq (awp_region ?_)))
 refine s_as ?_
 refine k_nil (k_seq (awp_seq (awp_seq (awp_region ?_))))
 refine s_as ?_
 refine k_nil (k_seq (awp_block ?_))
 refine awp_mv 5 8 5020 (by conv => lhs; whnf) (by conv => lhs; whnf) rfl ?_
 refine awp_frame2 [5, 6, 7, 9, 10, 11, 12, 13, 14, 15, 16, 17, 18, 19, 20, 21, 22, 23, 24, 25, 26, 27, 28, 29, 30, 31, 32, 33, 34] [5020] [31, 32] [5020] (fun a : Nat × (List ByteArray) × Int × Int => a.1) (fun a : Nat × (List ByteArray) × Int × Int => [(5, .ar 5020), (6, .t (.sc (.int .i64 a.2.2.1))), (7, .t (.sc (.int .i64 a.2.2.2)))]) (fun a : Nat × (List ByteArray) × Int × Int => [(5020, .arr (a.2.1.map rS) 9 true)]) (fun a : Nat × (List ByteArray) × Int × Int => a.1 ≤ fuel ∧ m_spec_l15Cut_l1 a.1 x1 x2 a.2.1 a.2.2.1 a.2.2.2 = some r) (fuel, ([] : List ByteArray), 0, 0) ⟨Nat.le_refl _, hF0⟩ (by rfl) (by rfl) (fun _ => rfl) (hasF_cons (by conv => lhs; whnf) (by rfl) (hasF_cons (by conv => lhs; whnf) (by rfl) (hasF_cons (by conv => lhs; whnf) (by rfl) hasF_nil))) (hasO_cons (by conv => lhs; whnf) (by rfl) hasO_nil) (fresh_C hC rfl) (by repeat (first | exact freshS_args rfl | refine freshS_upd rfl ?_ | refine freshS_frame rfl ?_)) (by repeat (first | exact freshM_no | exact objs_fresh rfl | refine freshM_upd rfl ?_ | refine freshM_frame rfl ?_)) ?_
 clear hF0
 rintro ⟨fu, g1, g2, g3⟩ ⟨hl4, hF1⟩
 dsimp only at hl4 hF1 ⊢
 obtain _ | fu := fu
 · rw [m_spec_l15Cut_l1] at hF1; cases hF1
 rw [m_spec_l15Cut_l1] at hF1
 refine awp_seq (awp_seq (awp_region ?_))
 refine s_mv ?_
 refine s_mv ?_
 refine s_lenS yU9 ?_
 refine s_le ?_
 refine k_nil (k_seq ?_)
 refine w_cond hF1 ?_ ?_ <;> intro hc5 hF2
 refine awp_skip (k_seq (awp_seq (awp_block ?_)))
 refine awp_jn (α := Nat × Bool) [15, 16, 17, 18, 19, 20, 21, 22, 23, 24, 25] [] [] (fun a => [(25, .t (.sc (.bool a.2)))]) (fun a => []) (fun a => a.1 ≤ fu ∧ m_spec_l15Cut_j2 a.1 x1 x2 g1 g2 g3 a.2 = some r) ?_ ?_
 refine awp_region ?_
 refine s_mv ?_
 refine s_mv ?_
 refine s_lenS yU9 ?_
 refine s_eq ?_
 refine s_mv ?_
 refine w_guard _ 19 hF2 ?_ ?_ <;> intro hc6 hF3
 iterate 5 refine r_no rfl ?_
 refine s_pkt ?_
 refine k_nil ?_
 exact s_jn (fu, true) ⟨by first | omega | (dsimp only; omega), hF3⟩
 refine s_mv ?_
 refine s_mv ?_
 obtain ⟨v7, hv7, hF4⟩ := bind_some' hF3
 refine s_ixS hv7 yU9 ?_
 refine s_mv ?_
 refine s_eq ?_
 refine s_pkf ?_
 refine k_nil ?_
 exact s_jn (fu, (decide (v7 = x2))) ⟨by first | omega | (dsimp only; omega), hF4⟩
 clear hF2
 rintro ⟨fu, g8⟩ ⟨hl9, hF3⟩
 dsimp only at hl9 hF3 ⊢
 obtain _ | fu := fu
 · rw [m_spec_l15Cut_j2] at hF3; cases hF3
 rw [m_spec_l15Cut_j2] at hF3
 refine w_cond hF3 ?_ ?_ <;> intro hc10 hF4
 refine awp_seq (awp_region ?_)
 iterate 4 refine s_mv ?_
 obtain ⟨v11, hv11, hF5⟩ := bind_some' hF4
 refine s_ss11 hv11 yU9 ?_
 refine s_bs rS [v11] yP52 yR9 ?_
 obtain ⟨hk12, hF6⟩ := chk_some hF5
 refine s_apT rS (fun _ => rfl) hk12 yP52 ?_
 refine s_as ?_
 refine k_nil (k_seq (awp_region ?_))
 refine s_mv ?_
 refine s_add rfl ?_
 refine s_as ?_
 refine k_nil (k_blk (k_seq (awp_region ?_)))
 refine s_mv ?_
 refine s_add rfl ?_
 refine s_as ?_
 refine k_nil ?_
 exact s_rn (fu, (g1 ++ [v11]), (w64 (g3 + 1)), (w64 (g3 + 1))) ⟨by first | omega | (dsimp only; omega), hF6⟩ [(5020, 32)]
 refine awp_skip (k_blk (k_seq (awp_region ?_)))
 refine s_mv ?_
 refine s_add rfl ?_
 refine s_as ?_
 refine k_nil ?_
 exact s_rn (fu, g1, g2, (w64 (g3 + 1))) ⟨by first | omega | (dsimp only; omega), hF4⟩
 refine awp_exit (k_seq_exit (k_rnd_exit2 (k_blk_exit (k_seq (awp_seq (awp_region ?_))))))
 refine s_mv ?_
 refine s_as ?_
 refine k_nil (k_seq (awp_ret (k_fin ?_)))
 cases hF2
 exact ends_a [] [5020] Tryz.results85
def m_spec_l1Sets_AC (fuel : Nat) : Prop := ∀ (x1 : ByteArray) (x2 : Int) (r : ((List Int) × Int)), m_spec_l1Sets fuel x1 x2 = some r → AC Tryz.prog 68 [.t (.sc (.str x1)), .t (.sc (.int .i64 x2))] noOb (.tp [.t (.sl (r.1.map rI)), .t (.sc (.int .i64 r.2))]) noOb
theorem m_spec_l1Sets_ok (fuel : Nat) : m_spec_l1Sets_AC fuel := by
 intro x1 x2 r hF0
 unfold m_spec_l1Sets at hF0
 refine AC_i [.t (.sl (r.1.map rI)), .t (.sc (.int .i64 r.2))] Tryz.func68 rfl Tryz.ntmps68 ?_
 intro C hC
 refine awp_seq (awp_region ?_)
 refine s_as ?_
 refine s_as ?_
 refine k_nil (k_seq (awp_seq (awp_region ?_)))
 refine s_bs rI ([] : List Int) yP23 yR3 ?_
 refine s_as ?_
 refine k_nil (k_seq (awp_seq ?_))
 refine awp_jn (α := Nat × Bool) [13, 14, 15, 16, 17, 18, 19, 20, 21, 22] [] [] (fun a => [(22, .t (.sc (.bool a.2)))]) (fun a => []) (fun a => a.1 ≤ fuel ∧ m_spec_l1Sets_j1 a.1 x1 x2 a.2 = some r) ?_ ?_
 refine awp_region ?_
 refine s_mv ?_
 refine s_mv ?_
 refine s_lenS yU9 ?_
 refine s_ge ?_
 refine s_mv ?_
 refine w_guard _ 17 hF0 ?_ ?_ <;> intro hc1 hF1
 iterate 4 refine r_no rfl ?_
 refine s_pkt ?_
 refine k_nil ?_
 exact s_jn (fuel, true) ⟨by first | omega | (dsimp only; omega), hF1⟩
 refine s_mv ?_
 refine s_mv ?_
 obtain ⟨v2, hv2, hF2⟩ := bind_some' hF1
 refine s_ixS hv2 yU9 ?_
 refine s_ne ?_
 refine s_pkf ?_
 refine k_nil ?_
 exact s_jn (fuel, (decide (v2 ≠ 123))) ⟨by first | omega | (dsimp only; omega), hF2⟩
 clear hF0
 rintro ⟨fu, g3⟩ ⟨hl4, hF1⟩
 dsimp only at hl4 hF1 ⊢
 obtain _ | fu := fu
 · rw [m_spec_l1Sets_j1] at hF1; cases hF1
 rw [m_spec_l1Sets_j1] at hF1
 refine w_cond hF1 ?_ ?_ <;> intro hc5 hF2
 refine awp_seq (awp_region ?_)
 refine s_mv ?_
 refine s_mv ?_
 refine s_as ?_
 refine s_as ?_
 refine k_nil (k_seq (awp_ret (k_seq_ret (k_fin ?_))))
 cases hF2
 exact ends_a [] [12] Tryz.results68
 refine awp_skip (k_seq (awp_seq (awp_region ?_)))
 refine s_mv ?_
 refine s_as ?_
 refine k_nil (k_seq ?_)
 refine awp_jn (α := Nat × Int) [7, 26, 27, 28, 29, 30, 31, 32, 33, 34, 35, 36, 37] [] [] (fun a => [(7, .t (.sc (.int .i64 a.2)))]) (fun a => []) (fun a => a.1 ≤ fu ∧ m_spec_l1Sets_j2 a.1 x1 x2 a.2 = some r) ?_ ?_
 refine awp_block ?_
 refine awp_fr (β := Int) [7, 26, 27, 28, 29, 30, 31, 32, 33, 34, 35, 36, 37] [] [] (fun a => [(7, .t (.sc (.int .i64 a.2)))]) (fun a => []) (fun a => a.1 ≤ fu ∧ m_spec_l1Sets_l3 a.1 x1 x2 a.2 = some r) (fu, x2) ⟨Nat.le_refl _, hF2⟩ ?_
 clear hF2
 rintro ⟨fu, g6⟩ ⟨hl7, hF3⟩
 dsimp only at hl7 hF3 ⊢
 obtain _ | fu := fu
 · rw [m_spec_l1Sets_l3] at hF3; cases hF3
 rw [m_spec_l1Sets_l3] at hF3
 refine awp_seq (awp_seq (awp_region ?_))
 refine s_mv ?_
 refine s_mv ?_
 refine s_lenS yU9 ?_
 refine s_lt ?_
 refine s_mv ?_
 refine w_guard _ 30 hF3 ?_ ?_ <;> intro hc8 hF4
 refine s_mv ?_
 refine s_mv ?_
 obtain ⟨v9, hv9, hF5⟩ := bind_some' hF4
 refine s_ixS hv9 yU9 ?_
 refine s_ne ?_
 refine s_pkt ?_
 refine k_nil (k_seq ?_)
 refine w_cond hF5 ?_ ?_ <;> intro hc10 hF6
 refine awp_skip (k_seq (awp_block (awp_region ?_)))
 refine s_mv ?_
 refine s_add rfl ?_
 refine s_as ?_
 refine k_nil (k_blk ?_)
 exact s_rn (fu, (w64 (g6 + 1))) ⟨by first | omega | (dsimp only; omega), hF6⟩
 refine awp_exit (k_seq_exit (k_rnd_exit2 (k_blk_exit ?_)))
 exact s_jn (fu, g6) ⟨by first | omega | (dsimp only; omega), hF6⟩
 iterate 4 refine r_no rfl ?_
 refine s_pkf ?_
 refine k_nil (k_seq (awp_false rfl (awp_exit (k_seq_exit (k_rnd_exit2 (k_blk_exit ?_))))))
 exact s_jn (fu, g6) ⟨by first | omega | (dsimp only; omega), hF4⟩
 clear hF2
 rintro ⟨fu, g11⟩ ⟨hl12, hF3⟩
 dsimp only at hl12 hF3 ⊢
 obtain _ | fu := fu
 · rw [m_spec_l1Sets_j2] at hF3; cases hF3
 rw [m_spec_l1Sets_j2] at hF3
 refine awp_seq (awp_seq (awp_region ?_))
 refine s_mv ?_
 refine s_mv ?_
 refine s_lenS yU9 ?_
 refine s_eq ?_
 refine k_nil (k_seq ?_)
 refine w_cond hF3 ?_ ?_ <;> intro hc13 hF4
 refine awp_seq (awp_region ?_)
 refine s_mv ?_
 refine s_as ?_
 refine s_as ?_
 refine k_nil (k_seq (awp_ret (k_seq_ret (k_fin ?_))))
 cases hF4
 exact ends_a [] [12] Tryz.results68
 refine awp_skip (k_seq (awp_seq (awp_region ?_)))
 refine s_mv ?_
 refine s_mv ?_
 refine s_add rfl ?_
 refine s_mv ?_
 obtain ⟨v14, hv14, hF5⟩ := bind_some' hF4
 refine s_ss11 hv14 yU9 ?_
 obtain ⟨v15, hv15, hF6⟩ := bind_some' hF5
 refine s_pure [] (m_spec_l15Cut_ok fu _ _ _ hv15) ?_
 refine s_as ?_
 refine k_nil (k_seq (awp_seq (awp_seq (awp_region ?_))))
 refine s_as ?_
 refine k_nil (k_seq (awp_block ?_))
 refine awp_mv 6 12 5080 (by conv => lhs; whnf) (by conv => lhs; whnf) rfl ?_
 refine awp_frame2 [4, 5, 6, 9, 10, 11, 49, 50, 51, 52, 53, 54, 55, 56, 57, 58, 59, 60, 61, 62, 63, 64, 65, 66, 67, 68, 69, 70, 71, 72, 73] [5080] [72, 73] [5080] (fun a : Nat × (List Int) × Int => a.1) (fun a : Nat × (List Int) × Int => [(6, .ar 5080), (9, .t (.sc (.int .i64 a.2.2)))]) (fun a : Nat × (List Int) × Int => [(5080, .arr (a.2.1.map rI) 3 true)]) (fun a : Nat × (List Int) × Int => a.1 ≤ fu ∧ m_spec_l1Sets_l4 a.1 g11 v15 a.2.1 a.2.2 = some r) (fu, ([] : List Int), 0) ⟨Nat.le_refl _, hF6⟩ (by rfl) (by rfl) (fun _ => rfl) (hasF_cons (by conv => lhs; whnf) (by rfl) (hasF_cons (by conv => lhs; whnf) (by rfl) hasF_nil)) (hasO_cons (by conv => lhs; whnf) (by rfl) hasO_nil) (fresh_C hC rfl) (by repeat (first | exact freshS_args rfl | refine freshS_upd rfl ?_ | refine freshS_frame rfl ?_)) (by repeat (first | exact freshM_no | exact objs_fresh rfl | refine freshM_upd rfl ?_ | refine freshM_frame rfl ?_)) ?_
 clear hF6
 rintro ⟨fu, g16, g17⟩ ⟨hl18, hF7⟩
 dsimp only at hl18 hF7 ⊢
 obtain _ | fu := fu
 · rw [m_spec_l1Sets_l4] at hF7; cases hF7
 rw [m_spec_l1Sets_l4] at hF7
 refine awp_seq ?_
 refine awp_jn (α := Nat × Bool) [49, 50, 51, 52, 53, 54, 55, 56] [] [] (fun a => [(56, .t (.sc (.bool a.2)))]) (fun a => []) (fun a => a.1 ≤ fu ∧ m_spec_l1Sets_j5 a.1 g11 v15 g16 g17 a.2 = some r) ?_ ?_
 refine awp_region ?_
 refine s_mv ?_
 refine s_mv ?_
 refine s_lenT yU52 ?_
 refine s_lt ?_
 refine s_mv ?_
 refine w_guard _ 53 hF7 ?_ ?_ <;> intro hc19 hF8
 refine s_mv ?_
 refine s_le ?_
 refine s_pkt ?_
 refine k_nil ?_
 exact s_jn (fu, (decide (g17 ≤ 24))) ⟨by first | omega | (dsimp only; omega), hF8⟩
 refine r_no rfl (r_no rfl ?_)
 refine s_pkf ?_
 refine k_nil ?_
 exact s_jn (fu, false) ⟨by first | omega | (dsimp only; omega), hF8⟩
 clear hF7
 rintro ⟨fu, g20⟩ ⟨hl21, hF8⟩
 dsimp only at hl21 hF8 ⊢
 obtain _ | fu := fu
 · rw [m_spec_l1Sets_j5] at hF8; cases hF8
 rw [m_spec_l1Sets_j5] at hF8
 refine w_cond hF8 ?_ ?_ <;> intro hc22 hF9
 refine awp_skip (k_seq (awp_seq (awp_block (awp_seq (awp_region ?_)))))
 refine s_mv ?_
 refine s_mv ?_
 obtain ⟨v23, hv23, hF10⟩ := bind_some' hF9
 refine s_ixT rS hv23 rfl yE52 ?_
 refine s_ld1 yA9 ?_
 obtain ⟨v24, hv24, hF11⟩ := bind_some' hF10
 refine s_pure [] (m_spec_l15Num_ok fu _ _ hv24) ?_
 refine s_mv ?_
 refine s_ext ?_
 refine s_ext ?_
 refine s_as ?_
 refine s_as ?_
 refine k_nil (k_seq (awp_seq (awp_seq (awp_region ?_))))
 refine s_mv ?_
 refine s_not ?_
 refine k_nil (k_seq ?_)
 refine w_cond hF11 ?_ ?_ <;> intro hc25 hF12
 refine awp_seq (awp_region ?_)
 refine s_mv ?_
 refine s_as ?_
 refine s_as ?_
 refine k_nil (k_seq (awp_ret (k_seq_ret (k_blk_ret (k_seq_ret (k_rnd_ret2 (k_blk_ret (k_seq_ret (k_fin ?_)))))))))
 cases hF12
 exact ends_a [] [5080] Tryz.results68
 refine awp_skip (k_seq (awp_region ?_))
 refine s_mv ?_
 refine s_mv ?_
 refine s_bs rI [v24.1] yP23 yR3 ?_
 obtain ⟨hk26, hF13⟩ := chk_some hF12
 refine s_apT rI (fun _ => rfl) hk26 yP23 ?_
 refine s_as ?_
 refine k_nil (k_blk (k_seq (awp_region ?_)))
 refine s_mv ?_
 refine s_add rfl ?_
 refine s_as ?_
 refine k_nil ?_
 exact s_rn (fu, (g16 ++ [v24.1]), (w64 (g17 + 1))) ⟨by first | omega | (dsimp only; omega), hF13⟩ [(5080, 73)]
 refine awp_exit (k_seq_exit (k_rnd_exit2 (k_blk_exit (k_seq (awp_seq (awp_region ?_))))))
 refine s_mv ?_
 refine s_mv ?_
 refine s_add rfl ?_
 refine s_as ?_
 refine s_as ?_
 refine k_nil (k_seq (awp_ret (k_fin ?_)))
 cases hF9
 exact ends_a [] [5080] Tryz.results68
end Go.Abs
