/- A part of the proof: what the functions that the law calls answer, as pure values. -/
import Derived.Test.YtcebadpiebamdaaK0490d1a90bd7
import Derived.Test.YtcebadpiebamdaaKd5f769f9ceb4
import Derived.Test.YtcebadpiebamdaaKfbb18fd52a0f
set_option linter.unusedSimpArgs false
set_option linter.unusedVariables false
set_option maxRecDepth 100000
set_option maxHeartbeats 4000000
namespace Go.Abs
open Go.Proofs
theorem m_spec_l1Is_all (fuel : Nat) : m_spec_l1Is_AC fuel := by
 induction fuel using Nat.strongRecOn with
 | _ N ih =>
   cases N with
   | zero => exact (by intro x1 x2 r h; rw [m_spec_l1Is] at h; cases h)
   | succ fu => exact m_spec_l1Is_st fu (fun k hk => (ih k (by omega)))
theorem m_spec_l1Is_ok (fuel : Nat) : m_spec_l1Is_AC fuel := (m_spec_l1Is_all fuel)
def m_spec_l1Count_AC (fuel : Nat) : Prop := ∀ (x1 : Form) (r : Int), m_spec_l1Count fuel x1 = some r → AC Try.prog 42 [.ag [.t (.sc (.int .i64 x1.kind)), .t (.sc (.str x1.name)), .t (.sc (.int .i64 x1.n)), .t (.sl (x1.scopes.map rI)), .t (.sl (x1.kids.map Form.row))]] noOb (.t (.sc (.int .i64 r))) noOb
theorem m_spec_l1Count_st (fu : Nat) (ih_m_spec_l1Count : ∀ k, k ≤ fu → m_spec_l1Count_AC k) : m_spec_l1Count_AC (fu + 1) := by
 intro x1 r hF0
 rw [m_spec_l1Count] at hF0
 refine AC_i [.t (.sc (.int .i64 r))] Try.func42 rfl Try.ntmps42 ?_
 intro C hC
 refine awp_seq (awp_region ?_)
 refine s_box ?_
 refine s_as ?_
 refine k_nil (k_seq (awp_seq (awp_region ?_)))
 refine s_as ?_
 refine k_nil (k_seq (awp_seq (awp_seq (awp_region ?_))))
 refine s_as ?_
 refine k_nil (k_seq (awp_block ?_))
 refine awp_fr (β := Int × Int) [3, 4, 5, 6, 7, 8, 9, 10, 11, 12, 13, 14, 15, 16, 17, 18, 19] [] [] (fun a => [(3, .t (.sc (.int .i64 a.2.1))), (4, .t (.sc (.int .i64 a.2.2)))]) (fun a => []) (fun a => a.1 ≤ fu ∧ m_spec_l1Count_l1 a.1 x1 a.2.1 a.2.2 = some r ∧ 0 ≤ a.2.2) (fu, 1, 0) ⟨Nat.le_refl _, hF0, by simp⟩ ?_
 clear hF0
 rintro ⟨fu, g1, g2⟩ ⟨hl3, hF1, hn_g2⟩
 dsimp only at hl3 hF1 hn_g2 ⊢
 obtain _ | fu := fu
 · rw [m_spec_l1Count_l1] at hF1; cases hF1
 rw [m_spec_l1Count_l1] at hF1
 refine awp_seq (awp_seq (awp_region ?_))
 refine s_mv ?_
 refine s_fa yF31_4 ?_
 refine s_ld1 yA28 ?_
 refine s_lenT yU28 ?_
 refine s_lt ?_
 refine k_nil (k_seq ?_)
 refine w_cond hF1 ?_ ?_ <;> intro hc4 hF2
 refine awp_lenT 7 (fun hb5 => ?_)
 refine awp_skip (k_seq (awp_seq (awp_block (awp_region ?_))))
 refine s_mv ?_
 refine s_fa yF31_4 ?_
 refine s_ld1 yA28 ?_
 refine s_mv ?_
 obtain ⟨v6, hv6, hF3⟩ := bind_some' hF2
 refine s_ixT Form.row hv6 (Form.row_eq _) yE28 ?_
 refine s_ldN yA31 yS31 ?_
 obtain ⟨v7, hv7, hF4⟩ := bind_some' hF3
 refine s_pure [] (ih_m_spec_l1Count fu (by omega) _ _ hv7) ?_
 refine s_add rfl ?_
 refine s_as ?_
 refine k_nil (k_blk (k_seq (awp_region ?_)))
 refine s_mv ?_
 refine s_add (winc2 hc4 hb5 hn_g2) ?_
 refine s_as ?_
 refine k_nil ?_
 exact s_rn (fu, (w64 (g1 + v7)), (g2 + 1)) ⟨by first | omega | (dsimp only; omega), hF4, by first | omega | (dsimp only; omega)⟩
 refine awp_exit (k_seq_exit (k_rnd_exit2 (k_blk_exit (k_seq (awp_seq (awp_region ?_))))))
 refine s_mv ?_
 refine s_as ?_
 refine k_nil (k_seq (awp_ret (k_fin ?_)))
 cases hF2
 exact ends_a [] [] Try.results42
theorem m_spec_l1Count_all (fuel : Nat) : m_spec_l1Count_AC fuel := by
 induction fuel using Nat.strongRecOn with
 | _ N ih =>
   cases N with
   | zero => exact (by intro x1 r h; rw [m_spec_l1Count] at h; cases h)
   | succ fu => exact m_spec_l1Count_st fu (fun k hk => (ih k (by omega)))
theorem m_spec_l1Count_ok (fuel : Nat) : m_spec_l1Count_AC fuel := (m_spec_l1Count_all fuel)
def m_spec_FormValid_AC (fuel : Nat) : Prop := ∀ (x1 : Form) (r : Bool), m_spec_FormValid fuel x1 = some r → AC Try.prog 28 [.ag [.t (.sc (.int .i64 x1.kind)), .t (.sc (.str x1.name)), .t (.sc (.int .i64 x1.n)), .t (.sl (x1.scopes.map rI)), .t (.sl (x1.kids.map Form.row))]] noOb (.t (.sc (.bool r))) noOb
theorem m_spec_FormValid_ok (fuel : Nat) : m_spec_FormValid_AC fuel := by
 intro x1 r hF0
 unfold m_spec_FormValid at hF0
 refine AC_i [.t (.sc (.bool r))] Try.func28 rfl Try.ntmps28 ?_
 intro C hC
 refine awp_seq (awp_region ?_)
 refine s_box ?_
 refine s_as ?_
 refine k_nil (k_seq (awp_seq (awp_region ?_)))
 refine s_ldW yA31 yS31 ?_
 obtain ⟨v1, hv1, hF1⟩ := bind_some' hF0
 refine s_pure [] (m_spec_l1Is_ok fuel _ _ _ hv1) ?_
 refine s_mv ?_
 refine w_guard _ 5 hF1 ?_ ?_ <;> intro hc2 hF2
 refine s_ldW yA31 yS31 ?_
 obtain ⟨v3, hv3, hF3⟩ := bind_some' hF2
 refine s_pure [] (m_spec_l1Count_ok fuel _ _ hv3) ?_
 refine s_le ?_
 refine s_pkt ?_
 refine s_as ?_
 refine k_nil (k_seq (awp_ret (k_fin ?_)))
 cases hF3
 exact ends_a [] [] Try.results28
 iterate 3 refine r_no rfl ?_
 refine s_pkf ?_
 refine s_as ?_
 refine k_nil (k_seq (awp_ret (k_fin ?_)))
 cases hF2
 exact ends_a [] [] Try.results28
def m_spec_l3Is_AC (fuel : Nat) : Prop := ∀ (x1 : Form) (r : Bool), m_spec_l3Is fuel x1 = some r → AC Try.prog 43 [.ag [.t (.sc (.int .i64 x1.kind)), .t (.sc (.str x1.name)), .t (.sc (.int .i64 x1.n)), .t (.sl (x1.scopes.map rI)), .t (.sl (x1.kids.map Form.row))]] noOb (.t (.sc (.bool r))) noOb
theorem m_spec_l3Is_ok (fuel : Nat) : m_spec_l3Is_AC fuel := by
 intro x1 r hF0
 unfold m_spec_l3Is at hF0
 refine AC_i [.t (.sc (.bool r))] Try.func43 rfl Try.ntmps43 ?_
 intro C hC
 refine awp_seq (awp_region ?_)
 refine s_box ?_
 refine s_as ?_
 refine k_nil (k_seq (awp_seq (awp_region ?_)))
 refine s_fa yF31_0 ?_
 refine s_ld1 yA3 ?_
 refine s_eq ?_
 refine s_mv ?_
 refine w_guard _ 6 hF0 ?_ ?_ <;> intro hc1 hF1
 refine s_ldW yA31 yS31 ?_
 obtain ⟨v2, hv2, hF2⟩ := bind_some' hF1
 refine s_pure [] (m_spec_FormValid_ok fuel _ _ hv2) ?_
 refine s_pkt ?_
 refine s_as ?_
 refine k_nil (k_seq (awp_ret (k_fin ?_)))
 cases hF2
 exact ends_a [] [] Try.results43
 refine r_no rfl (r_no rfl ?_)
 refine s_pkf ?_
 refine s_as ?_
 refine k_nil (k_seq (awp_ret (k_fin ?_)))
 cases hF1
 exact ends_a [] [] Try.results43
def m_spec_l1Ints_AC (fuel : Nat) : Prop := ∀ (x1 : (List Int)) (x2 : (List Int)) (r : Bool), m_spec_l1Ints fuel x1 x2 = some r → AC Try.prog 55 [.t (.sl (x1.map rI)), .t (.sl (x2.map rI))] noOb (.t (.sc (.bool r))) noOb
theorem m_spec_l1Ints_ok (fuel : Nat) : m_spec_l1Ints_AC fuel := by
 intro x1 x2 r hF0
 unfold m_spec_l1Ints at hF0
 refine AC_i [.t (.sc (.bool r))] Try.func55 rfl Try.ntmps55 ?_
 intro C hC
 refine awp_seq (awp_region ?_)
 refine s_as ?_
 refine k_nil (k_seq (awp_seq (awp_seq (awp_region ?_))))
 refine s_mv ?_
 refine s_lenT yU22 ?_
 refine s_mv ?_
 refine s_lenT yU22 ?_
 refine s_ne ?_
 refine k_nil (k_seq ?_)
 refine w_cond hF0 ?_ ?_ <;> intro hc1 hF1
 refine awp_seq (awp_region ?_)
 refine s_as ?_
 refine k_nil (k_seq (awp_ret (k_seq_ret (k_fin ?_))))
 cases hF1
 exact ends_a [] [] Try.results55
 refine awp_skip (k_seq (awp_seq (awp_seq (awp_region ?_))))
 refine s_as ?_
 refine k_nil (k_seq (awp_block ?_))
 refine awp_fr (β := Int) [4, 5, 11, 12, 13, 14, 15, 16, 17, 18, 19, 20, 21, 22, 23, 24, 25] [] [] (fun a => [(5, .t (.sc (.int .i64 a.2)))]) (fun a => []) (fun a => a.1 ≤ fuel ∧ m_spec_l1Ints_l1 a.1 x1 x2 a.2 = some r ∧ 0 ≤ a.2) (fuel, 0) ⟨Nat.le_refl _, hF1, by simp⟩ ?_
 clear hF1
 rintro ⟨fu, g2⟩ ⟨hl3, hF2, hn_g2⟩
 dsimp only at hl3 hF2 hn_g2 ⊢
 obtain _ | fu := fu
 · rw [m_spec_l1Ints_l1] at hF2; cases hF2
 rw [m_spec_l1Ints_l1] at hF2
 refine awp_seq (awp_seq (awp_region ?_))
 refine s_mv ?_
 refine s_mv ?_
 refine s_lenT yU22 ?_
 refine s_lt ?_
 refine k_nil (k_seq ?_)
 refine w_cond hF2 ?_ ?_ <;> intro hc4 hF3
 refine awp_lenT 0 (fun hb5 => ?_)
 refine awp_skip (k_seq (awp_seq (awp_block (awp_seq ?_))))
 refine awp_draw yMix (by kernel_rfl) ?_
 refine s_mv ?_
 refine s_mv ?_
 obtain ⟨v6, hv6, hF4⟩ := bind_some' hF3
 refine s_ixT rI hv6 rfl yE22 ?_
 refine s_ld1 yA3 ?_
 refine s_mv ?_
 refine s_mv ?_
 obtain ⟨v7, hv7, hF5⟩ := bind_some' hF4
 refine s_ixT rI hv7 rfl yE22 ?_
 refine s_ld1 yA3 ?_
 refine s_ne ?_
 refine k_nilD (by kernel_rfl) ?_
 refine k_seq ?_
 refine w_cond hF5 ?_ ?_ <;> intro hc8 hF6
 refine awp_seq (awp_region ?_)
 refine s_as ?_
 refine k_nil (k_seq (awp_ret (k_blk_ret (k_seq_ret (k_rnd_ret2 (k_blk_ret (k_seq_ret (k_fin ?_))))))))
 cases hF6
 exact ends_a [] [] Try.results55
 refine awp_skip (k_blk (k_seq (awp_region ?_)))
 refine s_mv ?_
 refine s_add (winc2 hc4 hb5 hn_g2) ?_
 refine s_as ?_
 refine k_nil ?_
 exact s_rn (fu, (g2 + 1)) ⟨by first | omega | (dsimp only; omega), hF6, by first | omega | (dsimp only; omega)⟩
 refine awp_exit (k_seq_exit (k_rnd_exit2 (k_blk_exit (k_seq (awp_seq (awp_region ?_))))))
 refine s_as ?_
 refine k_nil (k_seq (awp_ret (k_fin ?_)))
 cases hF3
 exact ends_a [] [] Try.results55
def m_spec_FormSame_AC (fuel : Nat) : Prop := ∀ (x1 : Form) (x2 : Form) (r : Bool), m_spec_FormSame fuel x1 x2 = some r → AC Try.prog 45 [.ag [.t (.sc (.int .i64 x1.kind)), .t (.sc (.str x1.name)), .t (.sc (.int .i64 x1.n)), .t (.sl (x1.scopes.map rI)), .t (.sl (x1.kids.map Form.row))], .ag [.t (.sc (.int .i64 x2.kind)), .t (.sc (.str x2.name)), .t (.sc (.int .i64 x2.n)), .t (.sl (x2.scopes.map rI)), .t (.sl (x2.kids.map Form.row))]] noOb (.t (.sc (.bool r))) noOb
theorem m_spec_FormSame_st (fu : Nat) (ih_m_spec_FormSame : ∀ k, k ≤ fu → m_spec_FormSame_AC k) : m_spec_FormSame_AC (fu + 1) := by
 intro x1 x2 r hF0
 rw [m_spec_FormSame] at hF0
 refine AC_i [.t (.sc (.bool r))] Try.func45 rfl Try.ntmps45 ?_
 intro C hC
 refine awp_seq (awp_region ?_)
 refine s_box ?_
 refine s_box ?_
 refine s_as ?_
 refine k_nil (k_seq (awp_seq (awp_seq (awp_region ?_))))
 refine s_fa yF31_0 ?_
 refine s_ld1 yA3 ?_
 refine s_fa yF31_0 ?_
 refine s_ld1 yA3 ?_
 refine s_ne ?_
 refine s_mv ?_
 refine w_guard _ 11 hF0 ?_ ?_ <;> intro hc1 hF1
 iterate 5 refine r_no rfl ?_
 refine s_pkt ?_
 refine s_mv ?_
 iterate 5 refine r_no rfl ?_
 refine s_pkt ?_
 refine s_mv ?_
 iterate 6 refine r_no rfl ?_
 refine s_pkt ?_
 refine s_mv ?_
 iterate 7 refine r_no rfl ?_
 refine s_pkt ?_
 refine k_nil (k_seq (awp_true rfl (awp_seq (awp_region ?_))))
 refine s_as ?_
 refine k_nil (k_seq (awp_ret (k_seq_ret (k_fin ?_))))
 cases hF1
 exact ends_a [] [] Try.results45
 refine s_fa yF31_1 ?_
 refine s_ld1 yA9 ?_
 refine s_fa yF31_1 ?_
 refine s_ld1 yA9 ?_
 refine s_neS ?_
 refine s_pkf ?_
 refine s_mv ?_
 refine w_guard _ 18 hF1 ?_ ?_ <;> intro hc2 hF2
 iterate 5 refine r_no rfl ?_
 refine s_pkt ?_
 refine s_mv ?_
 iterate 6 refine r_no rfl ?_
 refine s_pkt ?_
 refine s_mv ?_
 iterate 7 refine r_no rfl ?_
 refine s_pkt ?_
 refine k_nil (k_seq (awp_true rfl (awp_seq (awp_region ?_))))
 refine s_as ?_
 refine k_nil (k_seq (awp_ret (k_seq_ret (k_fin ?_))))
 cases hF2
 exact ends_a [] [] Try.results45
 refine s_fa yF31_2 ?_
 refine s_ld1 yA3 ?_
 refine s_fa yF31_2 ?_
 refine s_ld1 yA3 ?_
 refine s_ne ?_
 refine s_pkf ?_
 refine s_mv ?_
 refine w_guard _ 25 hF2 ?_ ?_ <;> intro hc3 hF3
 iterate 6 refine r_no rfl ?_
 refine s_pkt ?_
 refine s_mv ?_
 iterate 7 refine r_no rfl ?_
 refine s_pkt ?_
 refine k_nil (k_seq (awp_true rfl (awp_seq (awp_region ?_))))
 refine s_as ?_
 refine k_nil (k_seq (awp_ret (k_seq_ret (k_fin ?_))))
 cases hF3
 exact ends_a [] [] Try.results45
 refine s_fa yF31_3 ?_
 refine s_ld1 yA22 ?_
 refine s_fa yF31_3 ?_
 refine s_ld1 yA22 ?_
 obtain ⟨v4, hv4, hF4⟩ := bind_some' hF3
 refine s_pure [] (m_spec_l1Ints_ok fu _ _ _ hv4) ?_
 refine s_not ?_
 refine s_pkf ?_
 refine s_mv ?_
 refine w_guard _ 33 hF4 ?_ ?_ <;> intro hc5 hF5
 iterate 7 refine r_no rfl ?_
 refine s_pkt ?_
 refine k_nil (k_seq (awp_true rfl (awp_seq (awp_region ?_))))
 refine s_as ?_
 refine k_nil (k_seq (awp_ret (k_seq_ret (k_fin ?_))))
 cases hF5
 exact ends_a [] [] Try.results45
 refine s_fa yF31_4 ?_
 refine s_ld1 yA28 ?_
 refine s_lenT yU28 ?_
 refine s_fa yF31_4 ?_
 refine s_ld1 yA28 ?_
 refine s_lenT yU28 ?_
 refine s_ne ?_
 refine s_pkf ?_
 refine k_nil (k_seq ?_)
 refine w_cond hF5 ?_ ?_ <;> intro hc6 hF6
 refine awp_seq (awp_region ?_)
 refine s_as ?_
 refine k_nil (k_seq (awp_ret (k_seq_ret (k_fin ?_))))
 cases hF6
 exact ends_a [] [] Try.results45
 refine awp_skip (k_seq (awp_seq (awp_seq (awp_region ?_))))
 refine s_as ?_
 refine k_nil (k_seq (awp_block ?_))
 refine awp_fr (β := Int) [4, 5, 42, 43, 44, 45, 46, 47, 48, 49, 50, 51, 52, 53, 54, 55, 56, 57, 58, 59, 60] [] [] (fun a => [(5, .t (.sc (.int .i64 a.2)))]) (fun a => []) (fun a => a.1 ≤ fu ∧ m_spec_FormSame_l1 a.1 x1 x2 a.2 = some r ∧ 0 ≤ a.2) (fu, 0) ⟨Nat.le_refl _, hF6, by simp⟩ ?_
 clear hF6
 rintro ⟨fu, g7⟩ ⟨hl8, hF7, hn_g7⟩
 dsimp only at hl8 hF7 hn_g7 ⊢
 obtain _ | fu := fu
 · rw [m_spec_FormSame_l1] at hF7; cases hF7
 rw [m_spec_FormSame_l1] at hF7
 refine awp_seq (awp_seq (awp_region ?_))
 refine s_mv ?_
 refine s_fa yF31_4 ?_
 refine s_ld1 yA28 ?_
 refine s_lenT yU28 ?_
 refine s_lt ?_
 refine k_nil (k_seq ?_)
 refine w_cond hF7 ?_ ?_ <;> intro hc9 hF8
 refine awp_lenT 35 (fun hb10 => ?_)
 refine awp_skip (k_seq (awp_seq (awp_block (awp_seq ?_))))
 refine awp_draw yMix (by kernel_rfl) ?_
 refine s_fa yF31_4 ?_
 refine s_ld1 yA28 ?_
 refine s_mv ?_
 obtain ⟨v11, hv11, hF9⟩ := bind_some' hF8
 refine s_ixT Form.row hv11 (Form.row_eq _) yE28 ?_
 refine s_ldN yA31 yS31 ?_
 refine s_fa yF31_4 ?_
 refine s_ld1 yA28 ?_
 refine s_mv ?_
 obtain ⟨v12, hv12, hF10⟩ := bind_some' hF9
 refine s_ixT Form.row hv12 (Form.row_eq _) yE28 ?_
 refine s_ldN yA31 yS31 ?_
 obtain ⟨v13, hv13, hF11⟩ := bind_some' hF10
 refine s_pure [] (ih_m_spec_FormSame fu (by omega) _ _ _ hv13) ?_
 refine s_not ?_
 refine k_nilD (by kernel_rfl) ?_
 refine k_seq ?_
 refine w_cond hF11 ?_ ?_ <;> intro hc14 hF12
 refine awp_seq (awp_region ?_)
 refine s_as ?_
 refine k_nil (k_seq (awp_ret (k_blk_ret (k_seq_ret (k_rnd_ret2 (k_blk_ret (k_seq_ret (k_fin ?_))))))))
 cases hF12
 exact ends_a [] [] Try.results45
 refine awp_skip (k_blk (k_seq (awp_region ?_)))
 refine s_mv ?_
 refine s_add (winc2 hc9 hb10 hn_g7) ?_
 refine s_as ?_
 refine k_nil ?_
 exact s_rn (fu, (g7 + 1)) ⟨by first | omega | (dsimp only; omega), hF12, by first | omega | (dsimp only; omega)⟩
 refine awp_exit (k_seq_exit (k_rnd_exit2 (k_blk_exit (k_seq (awp_seq (awp_region ?_))))))
 refine s_as ?_
 refine k_nil (k_seq (awp_ret (k_fin ?_)))
 cases hF8
 exact ends_a [] [] Try.results45
theorem m_spec_FormSame_all (fuel : Nat) : m_spec_FormSame_AC fuel := by
 induction fuel using Nat.strongRecOn with
 | _ N ih =>
   cases N with
   | zero => exact (by intro x1 x2 r h; rw [m_spec_FormSame] at h; cases h)
   | succ fu => exact m_spec_FormSame_st fu (fun k hk => (ih k (by omega)))
theorem m_spec_FormSame_ok (fuel : Nat) : m_spec_FormSame_AC fuel := (m_spec_FormSame_all fuel)
def m_spec_l4In_AC (fuel : Nat) : Prop := ∀ (x1 : (List Form)) (x2 : Form) (r : Bool), m_spec_l4In fuel x1 x2 = some r → AC Try.prog 31 [.t (.sl (x1.map Form.row)), .ag [.t (.sc (.int .i64 x2.kind)), .t (.sc (.str x2.name)), .t (.sc (.int .i64 x2.n)), .t (.sl (x2.scopes.map rI)), .t (.sl (x2.kids.map Form.row))]] noOb (.t (.sc (.bool r))) noOb
theorem m_spec_l4In_ok (fuel : Nat) : m_spec_l4In_AC fuel := by
 intro x1 x2 r hF0
 unfold m_spec_l4In at hF0
 refine AC_i [.t (.sc (.bool r))] Try.func31 rfl Try.ntmps31 ?_
 intro C hC
 refine awp_seq (awp_region ?_)
 refine s_box ?_
 refine s_as ?_
 refine k_nil (k_seq (awp_seq (awp_seq (awp_region ?_))))
 refine s_as ?_
 refine k_nil (k_seq (awp_block ?_))
 refine awp_fr (β := Int) [4, 5, 6, 7, 8, 9, 10, 11, 12, 13, 14, 15, 16, 17] [] [] (fun a => [(5, .t (.sc (.int .i64 a.2)))]) (fun a => []) (fun a => a.1 ≤ fuel ∧ m_spec_l4In_l1 a.1 x1 x2 a.2 = some r ∧ 0 ≤ a.2) (fuel, 0) ⟨Nat.le_refl _, hF0, by simp⟩ ?_
 clear hF0
 rintro ⟨fu, g1⟩ ⟨hl2, hF1, hn_g1⟩
 dsimp only at hl2 hF1 hn_g1 ⊢
 obtain _ | fu := fu
 · rw [m_spec_l4In_l1] at hF1; cases hF1
 rw [m_spec_l4In_l1] at hF1
 refine awp_seq (awp_seq (awp_region ?_))
 refine s_mv ?_
 refine s_mv ?_
 refine s_lenT yU28 ?_
 refine s_lt ?_
 refine k_nil (k_seq ?_)
 refine w_cond hF1 ?_ ?_ <;> intro hc3 hF2
 refine awp_lenT 0 (fun hb4 => ?_)
 refine awp_skip (k_seq (awp_seq (awp_block (awp_seq ?_))))
 refine awp_draw yMix (by kernel_rfl) ?_
 refine s_mv ?_
 refine s_mv ?_
 obtain ⟨v5, hv5, hF3⟩ := bind_some' hF2
 refine s_ixT Form.row hv5 (Form.row_eq _) yE28 ?_
 refine s_ldN yA31 yS31 ?_
 refine s_ldW yA31 yS31 ?_
 obtain ⟨v6, hv6, hF4⟩ := bind_some' hF3
 refine s_pure [] (m_spec_FormSame_ok fu _ _ _ hv6) ?_
 refine k_nilD (by kernel_rfl) ?_
 refine k_seq ?_
 refine w_cond hF4 ?_ ?_ <;> intro hc7 hF5
 refine awp_seq (awp_region ?_)
 refine s_as ?_
 refine k_nil (k_seq (awp_ret (k_blk_ret (k_seq_ret (k_rnd_ret2 (k_blk_ret (k_seq_ret (k_fin ?_))))))))
 cases hF5
 exact ends_a [] [] Try.results31
 refine awp_skip (k_blk (k_seq (awp_region ?_)))
 refine s_mv ?_
 refine s_add (winc2 hc3 hb4 hn_g1) ?_
 refine s_as ?_
 refine k_nil ?_
 exact s_rn (fu, (g1 + 1)) ⟨by first | omega | (dsimp only; omega), hF5, by first | omega | (dsimp only; omega)⟩
 refine awp_exit (k_seq_exit (k_rnd_exit2 (k_blk_exit (k_seq (awp_seq (awp_region ?_))))))
 refine s_as ?_
 refine k_nil (k_seq (awp_ret (k_fin ?_)))
 cases hF2
 exact ends_a [] [] Try.results31
def m_spec_l4Literals_AC (fuel : Nat) : Prop := ∀ (x1 : (List Form)) (r : Bool), m_spec_l4Literals fuel x1 = some r → AC Try.prog 29 [.t (.sl (x1.map Form.row))] noOb (.t (.sc (.bool r))) noOb
theorem m_spec_l4Literals_ok (fuel : Nat) : m_spec_l4Literals_AC fuel := by
 intro x1 r hF0
 unfold m_spec_l4Literals at hF0
 refine AC_i [.t (.sc (.bool r))] Try.func29 rfl Try.ntmps29 ?_
 intro C hC
 refine awp_seq (awp_region ?_)
 refine s_as ?_
 refine k_nil (k_seq (awp_seq (awp_seq (awp_region ?_))))
 refine s_as ?_
 refine k_nil (k_seq (awp_block ?_))
 refine awp_fr (β := Int) [2, 3, 4, 5, 6, 7, 8, 9, 10, 11, 12, 13, 14, 15, 16, 17, 18, 19, 20, 21, 22, 23, 24, 25, 26, 27, 28, 29, 30, 31, 32, 33, 34, 35, 36, 37, 38, 39, 40, 41, 42, 43, 44, 45] [] [] (fun a => [(3, .t (.sc (.int .i64 a.2)))]) (fun a => []) (fun a => a.1 ≤ fuel ∧ m_spec_l4Literals_l1 a.1 x1 a.2 = some r) (fuel, 0) ⟨Nat.le_refl _, hF0⟩ ?_
 clear hF0
 rintro ⟨fu, g1⟩ ⟨hl2, hF1⟩
 dsimp only at hl2 hF1 ⊢
 obtain _ | fu := fu
 · rw [m_spec_l4Literals_l1] at hF1; cases hF1
 rw [m_spec_l4Literals_l1] at hF1
 refine awp_seq (awp_seq (awp_region ?_))
 refine s_mv ?_
 refine s_mv ?_
 refine s_lenT yU28 ?_
 refine s_lt ?_
 refine s_mv ?_
 refine w_guard _ 8 hF1 ?_ ?_ <;> intro hc3 hF2
 refine s_mv ?_
 refine s_lt ?_
 refine s_pkt ?_
 refine k_nil (k_seq ?_)
 refine w_cond hF2 ?_ ?_ <;> intro hc4 hF3
 refine awp_skip (k_seq (awp_seq (awp_block (awp_seq ?_))))
 refine awp_draw yMix (by kernel_rfl) ?_
 refine s_mv ?_
 refine s_mv ?_
 obtain ⟨v5, hv5, hF4⟩ := bind_some' hF3
 refine s_ixT Form.row hv5 (Form.row_eq _) yE28 ?_
 refine s_ldN yA31 yS31 ?_
 obtain ⟨v6, hv6, hF5⟩ := bind_some' hF4
 refine s_pure [] (m_spec_l3Is_ok fu _ _ hv6) ?_
 refine s_not ?_
 refine s_mv ?_
 refine w_guard _ 20 hF5 ?_ ?_ <;> intro hc7 hF6
 iterate 6 refine r_no rfl ?_
 refine s_pkt ?_
 refine s_mv ?_
 iterate 6 refine r_no rfl ?_
 refine s_pkt ?_
 refine s_mv ?_
 iterate 8 refine r_no rfl ?_
 refine s_pkt ?_
 refine k_nilD (by kernel_rfl) ?_
 refine k_seq (awp_true rfl (awp_seq (awp_region ?_)))
 refine s_as ?_
 refine k_nil (k_seq (awp_ret (k_blk_ret (k_seq_ret (k_rnd_ret2 (k_blk_ret (k_seq_ret (k_fin ?_))))))))
 cases hF6
 exact ends_a [] [] Try.results29
 refine s_mv ?_
 refine s_mv ?_
 obtain ⟨v8, hv8, hF7⟩ := bind_some' hF6
 refine s_ixT Form.row hv8 (Form.row_eq _) yE28 ?_
 refine s_fa yF31_1 ?_
 refine s_ld1 yA9 ?_
 refine s_eqS ?_
 refine s_pkf ?_
 refine s_mv ?_
 refine w_guard _ 28 hF7 ?_ ?_ <;> intro hc9 hF8
 iterate 6 refine r_no rfl ?_
 refine s_pkt ?_
 refine s_mv ?_
 iterate 8 refine r_no rfl ?_
 refine s_pkt ?_
 refine k_nilD (by kernel_rfl) ?_
 refine k_seq (awp_true rfl (awp_seq (awp_region ?_)))
 refine s_as ?_
 refine k_nil (k_seq (awp_ret (k_blk_ret (k_seq_ret (k_rnd_ret2 (k_blk_ret (k_seq_ret (k_fin ?_))))))))
 cases hF8
 exact ends_a [] [] Try.results29
 refine s_mv ?_
 refine s_mv ?_
 obtain ⟨v10, hv10, hF9⟩ := bind_some' hF8
 refine s_ixT Form.row hv10 (Form.row_eq _) yE28 ?_
 refine s_fa yF31_1 ?_
 refine s_ld1 yA9 ?_
 refine s_eqS ?_
 refine s_pkf ?_
 refine s_mv ?_
 refine w_guard _ 36 hF9 ?_ ?_ <;> intro hc11 hF10
 iterate 8 refine r_no rfl ?_
 refine s_pkt ?_
 refine k_nilD (by kernel_rfl) ?_
 refine k_seq (awp_true rfl (awp_seq (awp_region ?_)))
 refine s_as ?_
 refine k_nil (k_seq (awp_ret (k_blk_ret (k_seq_ret (k_rnd_ret2 (k_blk_ret (k_seq_ret (k_fin ?_))))))))
 cases hF10
 exact ends_a [] [] Try.results29
 refine s_mv ?_
 refine s_mv ?_
 obtain ⟨v12, hv12, hF11⟩ := bind_some' hF10
 refine s_sl01 Form.row (fun y => Form.row_len y) hv12 yU28 yE28 ?_
 refine s_mv ?_
 refine s_mv ?_
 obtain ⟨v13, hv13, hF12⟩ := bind_some' hF11
 refine s_ixT Form.row hv13 (Form.row_eq _) yE28 ?_
 refine s_ldN yA31 yS31 ?_
 obtain ⟨v14, hv14, hF13⟩ := bind_some' hF12
 refine s_pure [] (m_spec_l4In_ok fu _ _ _ hv14) ?_
 refine s_pkf ?_
 refine k_nilD (by kernel_rfl) ?_
 refine k_seq ?_
 refine w_cond hF13 ?_ ?_ <;> intro hc15 hF14
 refine awp_seq (awp_region ?_)
 refine s_as ?_
 refine k_nil (k_seq (awp_ret (k_blk_ret (k_seq_ret (k_rnd_ret2 (k_blk_ret (k_seq_ret (k_fin ?_))))))))
 cases hF14
 exact ends_a [] [] Try.results29
 refine awp_skip (k_blk (k_seq (awp_region ?_)))
 refine s_mv ?_
 refine s_add rfl ?_
 refine s_as ?_
 refine k_nil ?_
 exact s_rn (fu, (w64 (g1 + 1))) ⟨by first | omega | (dsimp only; omega), hF14⟩
 refine awp_exit (k_seq_exit (k_rnd_exit2 (k_blk_exit (k_seq (awp_seq (awp_region ?_))))))
 refine s_mv ?_
 refine s_lenT yU28 ?_
 refine s_lt ?_
 refine s_as ?_
 refine k_nil (k_seq (awp_ret (k_fin ?_)))
 cases hF3
 exact ends_a [] [] Try.results29
 refine r_no rfl (r_no rfl ?_)
 refine s_pkf ?_
 refine k_nil (k_seq (awp_false rfl (awp_exit (k_seq_exit (k_rnd_exit2 (k_blk_exit (k_seq (awp_seq (awp_region ?_)))))))))
 refine s_mv ?_
 refine s_lenT yU28 ?_
 refine s_lt ?_
 refine s_as ?_
 refine k_nil (k_seq (awp_ret (k_fin ?_)))
 cases hF2
 exact ends_a [] [] Try.results29
def m_spec_l4Dots_AC (fuel : Nat) : Prop := ∀ (x1 : Form) (r : Bool), m_spec_l4Dots fuel x1 = some r → AC Try.prog 44 [.ag [.t (.sc (.int .i64 x1.kind)), .t (.sc (.str x1.name)), .t (.sc (.int .i64 x1.n)), .t (.sl (x1.scopes.map rI)), .t (.sl (x1.kids.map Form.row))]] noOb (.t (.sc (.bool r))) noOb
theorem m_spec_l4Dots_ok (fuel : Nat) : m_spec_l4Dots_AC fuel := by
 intro x1 r hF0
 unfold m_spec_l4Dots at hF0
 refine AC_i [.t (.sc (.bool r))] Try.func44 rfl Try.ntmps44 ?_
 intro C hC
 refine awp_seq (awp_region ?_)
 refine s_box ?_
 refine s_as ?_
 refine k_nil (k_seq (awp_seq (awp_region ?_)))
 refine s_fa yF31_0 ?_
 refine s_ld1 yA3 ?_
 refine s_eq ?_
 refine s_mv ?_
 refine w_guard _ 6 hF0 ?_ ?_ <;> intro hc1 hF1
 refine s_fa yF31_1 ?_
 refine s_ld1 yA9 ?_
 refine s_eqS ?_
 refine s_pkt ?_
 refine s_as ?_
 refine k_nil (k_seq (awp_ret (k_fin ?_)))
 cases hF1
 exact ends_a [] [] Try.results44
 iterate 3 refine r_no rfl ?_
 refine s_pkf ?_
 refine s_as ?_
 refine k_nil (k_seq (awp_ret (k_fin ?_)))
 cases hF1
 exact ends_a [] [] Try.results44
def m_spec_l4Shape_AC (fuel : Nat) : Prop := ∀ (x1 : Form) (r : Bool), m_spec_l4Shape fuel x1 = some r → AC Try.prog 30 [.ag [.t (.sc (.int .i64 x1.kind)), .t (.sc (.str x1.name)), .t (.sc (.int .i64 x1.n)), .t (.sl (x1.scopes.map rI)), .t (.sl (x1.kids.map Form.row))]] noOb (.t (.sc (.bool r))) noOb
theorem m_spec_l4Shape_st (fu : Nat) (ih_m_spec_l4Shape : ∀ k, k ≤ fu → m_spec_l4Shape_AC k) : m_spec_l4Shape_AC (fu + 1) := by
 intro x1 r hF0
 rw [m_spec_l4Shape] at hF0
 refine AC_i [.t (.sc (.bool r))] Try.func30 rfl Try.ntmps30 ?_
 intro C hC
 refine awp_seq (awp_region ?_)
 refine s_box ?_
 refine s_as ?_
 refine k_nil (k_seq (awp_seq (awp_seq (awp_region ?_))))
 refine s_ldW yA31 yS31 ?_
 obtain ⟨v1, hv1, hF1⟩ := bind_some' hF0
 refine s_pure [] (m_spec_l4Dots_ok fu _ _ hv1) ?_
 refine k_nil (k_seq ?_)
 refine w_cond hF1 ?_ ?_ <;> intro hc2 hF2
 refine awp_seq (awp_region ?_)
 refine s_as ?_
 refine k_nil (k_seq (awp_ret (k_seq_ret (k_fin ?_))))
 cases hF2
 exact ends_a [] [] Try.results30
 refine awp_skip (k_seq (awp_seq (awp_region ?_)))
 refine s_as ?_
 refine k_nil (k_seq (awp_seq (awp_seq (awp_region ?_))))
 refine s_as ?_
 refine k_nil (k_seq (awp_block ?_))
 refine awp_fr (β := Int × Int) [2, 3, 4, 7, 8, 9, 10, 11, 12, 13, 14, 15, 16, 17, 18, 19, 20, 21, 22, 23, 24, 25, 26, 27, 28, 29, 30, 31, 32, 33, 34, 35, 36, 37, 38, 39] [] [] (fun a => [(3, .t (.sc (.int .i64 a.2.1))), (4, .t (.sc (.int .i64 a.2.2)))]) (fun a => []) (fun a => a.1 ≤ fu ∧ m_spec_l4Shape_l1 a.1 x1 a.2.1 a.2.2 = some r ∧ 0 ≤ a.2.2) (fu, 0, 0) ⟨Nat.le_refl _, hF2, by simp⟩ ?_
 clear hF2
 rintro ⟨fu, g3, g4⟩ ⟨hl5, hF3, hn_g4⟩
 dsimp only at hl5 hF3 hn_g4 ⊢
 obtain _ | fu := fu
 · rw [m_spec_l4Shape_l1] at hF3; cases hF3
 rw [m_spec_l4Shape_l1] at hF3
 refine awp_seq (awp_seq (awp_region ?_))
 refine s_mv ?_
 refine s_fa yF31_4 ?_
 refine s_ld1 yA28 ?_
 refine s_lenT yU28 ?_
 refine s_lt ?_
 refine k_nil (k_seq ?_)
 refine w_cond hF3 ?_ ?_ <;> intro hc6 hF4
 refine awp_lenT 9 (fun hb7 => ?_)
 refine awp_skip (k_seq (awp_seq (awp_block (awp_seq (awp_seq (awp_region ?_))))))
 refine s_fa yF31_4 ?_
 refine s_ld1 yA28 ?_
 refine s_mv ?_
 obtain ⟨v8, hv8, hF5⟩ := bind_some' hF4
 refine s_ixT Form.row hv8 (Form.row_eq _) yE28 ?_
 refine s_ldN yA31 yS31 ?_
 obtain ⟨v9, hv9, hF6⟩ := bind_some' hF5
 refine s_pure [] (m_spec_l4Dots_ok fu _ _ hv9) ?_
 refine k_nil (k_seq ?_)
 refine w_cond hF6 ?_ ?_ <;> intro hc10 hF7
 refine awp_seq (awp_region ?_)
 refine s_mv ?_
 refine s_add rfl ?_
 refine s_as ?_
 refine k_nil (k_seq (awp_seq (awp_seq (awp_region ?_))))
 refine s_mv ?_
 refine s_eq ?_
 refine s_mv ?_
 refine w_guard _ 24 hF7 ?_ ?_ <;> intro hc11 hF8
 iterate 7 refine r_no rfl ?_
 refine s_pkt ?_
 refine k_nil (k_seq (awp_true rfl (awp_seq (awp_region ?_))))
 refine s_as ?_
 refine k_nil (k_seq (awp_ret (k_seq_ret (k_seq_ret (k_blk_ret (k_seq_ret (k_rnd_ret2 (k_blk_ret (k_seq_ret (k_fin ?_))))))))))
 cases hF8
 exact ends_a [] [] Try.results30
 refine s_fa yF31_4 ?_
 refine s_ld1 yA28 ?_
 refine s_mv ?_
 refine s_sub rfl ?_
 obtain ⟨v12, hv12, hF9⟩ := bind_some' hF8
 refine s_ixT Form.row hv12 (Form.row_eq _) yE28 ?_
 refine s_ldN yA31 yS31 ?_
 obtain ⟨v13, hv13, hF10⟩ := bind_some' hF9
 refine s_pure [] (m_spec_l4Dots_ok fu _ _ hv13) ?_
 refine s_pkf ?_
 refine k_nil (k_seq ?_)
 refine w_cond hF10 ?_ ?_ <;> intro hc14 hF11
 refine awp_seq (awp_region ?_)
 refine s_as ?_
 refine k_nil (k_seq (awp_ret (k_seq_ret (k_seq_ret (k_blk_ret (k_seq_ret (k_rnd_ret2 (k_blk_ret (k_seq_ret (k_fin ?_))))))))))
 cases hF11
 exact ends_a [] [] Try.results30
 refine awp_skip (k_seq (awp_exit (k_seq_exit (k_blk_exit (k_seq (awp_region ?_))))))
 refine s_mv ?_
 refine s_add (winc2 hc6 hb7 hn_g4) ?_
 refine s_as ?_
 refine k_nil ?_
 exact s_rn (fu, (w64 (g3 + 1)), (g4 + 1)) ⟨by first | omega | (dsimp only; omega), hF11, by first | omega | (dsimp only; omega)⟩
 refine awp_skip (k_seq (awp_seq (awp_region ?_)))
 refine s_fa yF31_4 ?_
 refine s_ld1 yA28 ?_
 refine s_mv ?_
 obtain ⟨v15, hv15, hF8⟩ := bind_some' hF7
 refine s_ixT Form.row hv15 (Form.row_eq _) yE28 ?_
 refine s_ldN yA31 yS31 ?_
 obtain ⟨v16, hv16, hF9⟩ := bind_some' hF8
 refine s_pure [] (ih_m_spec_l4Shape fu (by omega) _ _ hv16) ?_
 refine s_not ?_
 refine k_nil (k_seq ?_)
 refine w_cond hF9 ?_ ?_ <;> intro hc17 hF10
 refine awp_seq (awp_region ?_)
 refine s_as ?_
 refine k_nil (k_seq (awp_ret (k_blk_ret (k_seq_ret (k_rnd_ret2 (k_blk_ret (k_seq_ret (k_fin ?_))))))))
 cases hF10
 exact ends_a [] [] Try.results30
 refine awp_skip (k_blk (k_seq (awp_region ?_)))
 refine s_mv ?_
 refine s_add (winc2 hc6 hb7 hn_g4) ?_
 refine s_as ?_
 refine k_nil ?_
 exact s_rn (fu, g3, (g4 + 1)) ⟨by first | omega | (dsimp only; omega), hF10, by first | omega | (dsimp only; omega)⟩
 refine awp_exit (k_seq_exit (k_rnd_exit2 (k_blk_exit (k_seq (awp_seq (awp_region ?_))))))
 refine s_mv ?_
 refine s_le ?_
 refine s_as ?_
 refine k_nil (k_seq (awp_ret (k_fin ?_)))
 cases hF4
 exact ends_a [] [] Try.results30
theorem m_spec_l4Shape_all (fuel : Nat) : m_spec_l4Shape_AC fuel := by
 induction fuel using Nat.strongRecOn with
 | _ N ih =>
   cases N with
   | zero => exact (by intro x1 r h; rw [m_spec_l4Shape] at h; cases h)
   | succ fu => exact m_spec_l4Shape_st fu (fun k hk => (ih k (by omega)))
theorem m_spec_l4Shape_ok (fuel : Nat) : m_spec_l4Shape_AC fuel := (m_spec_l4Shape_all fuel)
def m_spec_l4Var_AC (fuel : Nat) : Prop := ∀ (x1 : Form) (x2 : (List Form)) (r : Bool), m_spec_l4Var fuel x1 x2 = some r → AC Try.prog 33 [.ag [.t (.sc (.int .i64 x1.kind)), .t (.sc (.str x1.name)), .t (.sc (.int .i64 x1.n)), .t (.sl (x1.scopes.map rI)), .t (.sl (x1.kids.map Form.row))], .t (.sl (x2.map Form.row))] noOb (.t (.sc (.bool r))) noOb
theorem m_spec_l4Var_ok (fuel : Nat) : m_spec_l4Var_AC fuel := by
 intro x1 x2 r hF0
 unfold m_spec_l4Var at hF0
 refine AC_i [.t (.sc (.bool r))] Try.func33 rfl Try.ntmps33 ?_
 intro C hC
 refine awp_seq (awp_region ?_)
 refine s_box ?_
 refine s_as ?_
 refine k_nil (k_seq (awp_seq (awp_region ?_)))
 refine s_fa yF31_0 ?_
 refine s_ld1 yA3 ?_
 refine s_eq ?_
 refine s_mv ?_
 refine w_guard _ 8 hF0 ?_ ?_ <;> intro hc1 hF1
 refine s_fa yF31_1 ?_
 refine s_ld1 yA9 ?_
 refine s_neS ?_
 refine s_pkt ?_
 refine s_mv ?_
 refine w_guard _ 13 hF1 ?_ ?_ <;> intro hc2 hF2
 refine s_fa yF31_1 ?_
 refine s_ld1 yA9 ?_
 refine s_neS ?_
 refine s_pkt ?_
 refine s_mv ?_
 refine w_guard _ 18 hF2 ?_ ?_ <;> intro hc3 hF3
 refine s_mv ?_
 refine s_ldW yA31 yS31 ?_
 obtain ⟨v4, hv4, hF4⟩ := bind_some' hF3
 refine s_pure [] (m_spec_l4In_ok fuel _ _ _ hv4) ?_
 refine s_not ?_
 refine s_pkt ?_
 refine s_as ?_
 refine k_nil (k_seq (awp_ret (k_fin ?_)))
 cases hF4
 exact ends_a [] [] Try.results33
 iterate 4 refine r_no rfl ?_
 refine s_pkf ?_
 refine s_as ?_
 refine k_nil (k_seq (awp_ret (k_fin ?_)))
 cases hF3
 exact ends_a [] [] Try.results33
 iterate 3 refine r_no rfl ?_
 refine s_pkf ?_
 refine s_mv ?_
 iterate 4 refine r_no rfl ?_
 refine s_pkf ?_
 refine s_as ?_
 refine k_nil (k_seq (awp_ret (k_fin ?_)))
 cases hF2
 exact ends_a [] [] Try.results33
 iterate 3 refine r_no rfl ?_
 refine s_pkf ?_
 refine s_mv ?_
 iterate 3 refine r_no rfl ?_
 refine s_pkf ?_
 refine s_mv ?_
 iterate 4 refine r_no rfl ?_
 refine s_pkf ?_
 refine s_as ?_
 refine k_nil (k_seq (awp_ret (k_fin ?_)))
 cases hF1
 exact ends_a [] [] Try.results33
def m_spec_l4Vars_AC (fuel : Nat) : Prop := ∀ (x1 : (List Form)) (x2 : Form) (x3 : (List Form)) (r : (List Form)), m_spec_l4Vars fuel x1 x2 x3 = some r → AC Try.prog 18 [.ar 9300, .ag [.t (.sc (.int .i64 x2.kind)), .t (.sc (.str x2.name)), .t (.sc (.int .i64 x2.n)), .t (.sl (x2.scopes.map rI)), .t (.sl (x2.kids.map Form.row))], .t (.sl (x3.map Form.row))] (objs [(9300, .arr (x1.map Form.row) 31 true)]) (.ar 9200) (objs [(9300, .dead), (9200, .arr (r.map Form.row) 31 true)])
theorem m_spec_l4Vars_st (fu : Nat) (ih_m_spec_l4Vars : ∀ k, k ≤ fu → m_spec_l4Vars_AC k) : m_spec_l4Vars_AC (fu + 1) := by
 intro x1 x2 x3 r hF0
 rw [m_spec_l4Vars] at hF0
 refine AC_i [.ar 9200] Try.func18 rfl Try.ntmps18 ?_
 intro C hC
 refine awp_seq (awp_region ?_)
 refine s_box ?_
 refine s_as ?_
 refine k_nil (k_seq (awp_seq (awp_seq (awp_region ?_))))
 refine s_ldW yA31 yS31 ?_
 refine s_mv ?_
 obtain ⟨v1, hv1, hF1⟩ := bind_some' hF0
 refine s_pure [] (m_spec_l4Var_ok fu _ _ _ hv1) ?_
 refine k_nil (k_seq ?_)
 refine w_cond hF1 ?_ ?_ <;> intro hc2 hF2
 refine awp_region ?_
 refine s_mv ?_
 refine s_ldW yA31 yS31 ?_
 refine s_bs Form.row [x2] yP28 yR31 ?_
 obtain ⟨hk3, hF3⟩ := chk_some hF2
 refine s_apT Form.row (fun y => Form.row_len y) hk3 yP28 ?_
 refine s_as ?_
 refine k_nil (k_seq (awp_seq (awp_seq (awp_region ?_))))
 refine s_as ?_
 refine k_nil (k_seq (awp_block ?_))
 refine awp_mv 0 14 5020 (by conv => lhs; whnf) (by conv => lhs; whnf) rfl ?_
 refine awp_frame2 [0, 7, 15, 16, 17, 18, 19, 20, 21, 22, 23, 24, 25, 26, 27, 28, 29] [5020] [12029] [5020] (fun a : Nat × (List Form) × Int => a.1) (fun a : Nat × (List Form) × Int => [(0, .ar 5020), (7, .t (.sc (.int .i64 a.2.2)))]) (fun a : Nat × (List Form) × Int => [(5020, .arr (a.2.1.map Form.row) 31 true)]) (fun a : Nat × (List Form) × Int => a.1 ≤ fu ∧ m_spec_l4Vars_l1 a.1 x2 x3 a.2.1 a.2.2 = some r ∧ 0 ≤ a.2.2) (fu, (x1 ++ [x2]), 0) ⟨Nat.le_refl _, hF3, by simp⟩ (by rfl) (by rfl) (fun _ => rfl) (hasF_cons (by conv => lhs; whnf) (by rfl) (hasF_cons (by conv => lhs; whnf) (by rfl) hasF_nil)) (hasO_cons (by conv => lhs; whnf) (by rfl) hasO_nil) (fresh_C hC rfl) (by repeat (first | exact freshS_args rfl | refine freshS_upd rfl ?_ | refine freshS_frame rfl ?_)) (by repeat (first | exact freshM_no | exact objs_fresh rfl | refine freshM_upd rfl ?_ | refine freshM_frame rfl ?_)) ?_
 clear hF3
 rintro ⟨fu, g4, g5⟩ ⟨hl6, hF4, hn_g5⟩
 dsimp only at hl6 hF4 hn_g5 ⊢
 obtain _ | fu := fu
 · rw [m_spec_l4Vars_l1] at hF4; cases hF4
 rw [m_spec_l4Vars_l1] at hF4
 refine awp_seq (awp_seq (awp_region ?_))
 refine s_mv ?_
 refine s_fa yF31_4 ?_
 refine s_ld1 yA28 ?_
 refine s_lenT yU28 ?_
 refine s_lt ?_
 refine k_nil (k_seq ?_)
 refine w_cond hF4 ?_ ?_ <;> intro hc7 hF5
 refine awp_lenT 17 (fun hb8 => ?_)
 refine awp_skip (k_seq (awp_seq (awp_block (awp_region ?_))))
 refine s_mv ?_
 refine s_fa yF31_4 ?_
 refine s_ld1 yA28 ?_
 refine s_mv ?_
 obtain ⟨v9, hv9, hF6⟩ := bind_some' hF5
 refine s_ixT Form.row hv9 (Form.row_eq _) yE28 ?_
 refine s_ldN yA31 yS31 ?_
 refine s_mv ?_
 obtain ⟨v10, hv10, hF7⟩ := bind_some' hF6
 refine s_call [(9300, 5020), (9200, 12029)] [] _ _ (ih_m_spec_l4Vars fu (by omega) _ _ _ _ hv10) ?_
 refine s_as ?_
 refine k_nil (k_blk (k_seq (awp_region ?_)))
 refine s_mv ?_
 refine s_add (winc2 hc7 hb8 hn_g5) ?_
 refine s_as ?_
 refine k_nil ?_
 exact s_rn (fu, v10, (g5 + 1)) ⟨by first | omega | (dsimp only; omega), hF7, by first | omega | (dsimp only; omega)⟩ [(5020, 12029)]
 refine awp_exit (k_seq_exit (k_rnd_exit2 (k_blk_exit (k_seq (awp_seq (awp_region ?_))))))
 refine s_mv ?_
 refine s_as ?_
 refine k_nil (k_seq ?_)
 refine awp_mv 6 5020 9200 (by conv => lhs; whnf) (by conv => lhs; whnf) rfl ?_
 refine awp_ret (k_fin ?_)
 cases hF5
 exact ends_a _ [] Try.results18
 refine awp_skip (k_seq (awp_seq (awp_seq (awp_region ?_))))
 refine s_as ?_
 refine k_nil (k_seq (awp_block ?_))
 refine awp_mv 0 9300 5040 (by conv => lhs; whnf) (by conv => lhs; whnf) rfl ?_
 refine awp_frame2 [0, 7, 15, 16, 17, 18, 19, 20, 21, 22, 23, 24, 25, 26, 27, 28, 29] [5040] [12029] [5040] (fun a : Nat × (List Form) × Int => a.1) (fun a : Nat × (List Form) × Int => [(0, .ar 5040), (7, .t (.sc (.int .i64 a.2.2)))]) (fun a : Nat × (List Form) × Int => [(5040, .arr (a.2.1.map Form.row) 31 true)]) (fun a : Nat × (List Form) × Int => a.1 ≤ fu ∧ m_spec_l4Vars_l1 a.1 x2 x3 a.2.1 a.2.2 = some r ∧ 0 ≤ a.2.2) (fu, x1, 0) ⟨Nat.le_refl _, hF2, by simp⟩ (by rfl) (by rfl) (fun _ => rfl) (hasF_cons (by conv => lhs; whnf) (by rfl) (hasF_cons (by conv => lhs; whnf) (by rfl) hasF_nil)) (hasO_cons (by conv => lhs; whnf) (by rfl) hasO_nil) (fresh_C hC rfl) (by repeat (first | exact freshS_args rfl | refine freshS_upd rfl ?_ | refine freshS_frame rfl ?_)) (by repeat (first | exact freshM_no | exact objs_fresh rfl | refine freshM_upd rfl ?_ | refine freshM_frame rfl ?_)) ?_
 clear hF2
 rintro ⟨fu, g11, g12⟩ ⟨hl13, hF3, hn_g12⟩
 dsimp only at hl13 hF3 hn_g12 ⊢
 obtain _ | fu := fu
 · rw [m_spec_l4Vars_l1] at hF3; cases hF3
 rw [m_spec_l4Vars_l1] at hF3
 refine awp_seq (awp_seq (awp_region ?_))
 refine s_mv ?_
 refine s_fa yF31_4 ?_
 refine s_ld1 yA28 ?_
 refine s_lenT yU28 ?_
 refine s_lt ?_
 refine k_nil (k_seq ?_)
 refine w_cond hF3 ?_ ?_ <;> intro hc14 hF4
 refine awp_lenT 17 (fun hb15 => ?_)
 refine awp_skip (k_seq (awp_seq (awp_block (awp_region ?_))))
 refine s_mv ?_
 refine s_fa yF31_4 ?_
 refine s_ld1 yA28 ?_
 refine s_mv ?_
 obtain ⟨v16, hv16, hF5⟩ := bind_some' hF4
 refine s_ixT Form.row hv16 (Form.row_eq _) yE28 ?_
 refine s_ldN yA31 yS31 ?_
 refine s_mv ?_
 obtain ⟨v17, hv17, hF6⟩ := bind_some' hF5
 refine s_call [(9300, 5040), (9200, 12029)] [] _ _ (ih_m_spec_l4Vars fu (by omega) _ _ _ _ hv17) ?_
 refine s_as ?_
 refine k_nil (k_blk (k_seq (awp_region ?_)))
 refine s_mv ?_
 refine s_add (winc2 hc14 hb15 hn_g12) ?_
 refine s_as ?_
 refine k_nil ?_
 exact s_rn (fu, v17, (g12 + 1)) ⟨by first | omega | (dsimp only; omega), hF6, by first | omega | (dsimp only; omega)⟩ [(5040, 12029)]
 refine awp_exit (k_seq_exit (k_rnd_exit2 (k_blk_exit (k_seq (awp_seq (awp_region ?_))))))
 refine s_mv ?_
 refine s_as ?_
 refine k_nil (k_seq ?_)
 refine awp_mv 6 5040 9200 (by conv => lhs; whnf) (by conv => lhs; whnf) rfl ?_
 refine awp_ret (k_fin ?_)
 cases hF4
 exact ends_a _ [] Try.results18
theorem m_spec_l4Vars_all (fuel : Nat) : m_spec_l4Vars_AC fuel := by
 induction fuel using Nat.strongRecOn with
 | _ N ih =>
   cases N with
   | zero => exact (by intro x1 x2 x3 r h; rw [m_spec_l4Vars] at h; cases h)
   | succ fu => exact m_spec_l4Vars_st fu (fun k hk => (ih k (by omega)))
theorem m_spec_l4Vars_ok (fuel : Nat) : m_spec_l4Vars_AC fuel := (m_spec_l4Vars_all fuel)
def m_spec_l4Depths_AC (fuel : Nat) : Prop := ∀ (x1 : (List Int)) (x2 : Form) (x3 : (List Form)) (x4 : Int) (r : (List Int)), m_spec_l4Depths fuel x1 x2 x3 x4 = some r → AC Try.prog 32 [.ar 9300, .ag [.t (.sc (.int .i64 x2.kind)), .t (.sc (.str x2.name)), .t (.sc (.int .i64 x2.n)), .t (.sl (x2.scopes.map rI)), .t (.sl (x2.kids.map Form.row))], .t (.sl (x3.map Form.row)), .t (.sc (.int .i64 x4))] (objs [(9300, .arr (x1.map rI) 3 true)]) (.ar 9200) (objs [(9300, .dead), (9200, .arr (r.map rI) 3 true)])
theorem m_spec_l4Depths_st (fu : Nat) (ih_m_spec_l4Depths : ∀ k, k ≤ fu → m_spec_l4Depths_AC k) : m_spec_l4Depths_AC (fu + 1) := by
 intro x1 x2 x3 x4 r hF0
 rw [m_spec_l4Depths] at hF0
 refine AC_i [.ar 9200] Try.func32 rfl Try.ntmps32 ?_
 intro C hC
 refine awp_seq (awp_region ?_)
 refine s_box ?_
 refine s_as ?_
 refine k_nil (k_seq (awp_seq (awp_seq (awp_region ?_))))
 refine s_ldW yA31 yS31 ?_
 refine s_mv ?_
 obtain ⟨v1, hv1, hF1⟩ := bind_some' hF0
 refine s_pure [] (m_spec_l4Var_ok fu _ _ _ hv1) ?_
 refine k_nil (k_seq ?_)
 refine w_cond hF1 ?_ ?_ <;> intro hc2 hF2
 refine awp_region ?_
 refine s_mv ?_
 refine s_mv ?_
 refine s_bs rI [x4] yP22 yR3 ?_
 obtain ⟨hk3, hF3⟩ := chk_some hF2
 refine s_apT rI (fun _ => rfl) hk3 yP22 ?_
 refine s_as ?_
 refine k_nil (k_seq (awp_seq (awp_seq (awp_region ?_))))
 refine s_as ?_
 refine k_nil (k_seq (awp_block ?_))
 refine awp_mv 0 17 5020 (by conv => lhs; whnf) (by conv => lhs; whnf) rfl ?_
 refine awp_frame2 [0, 9, 10, 18, 19, 20, 21, 22, 23, 24, 25, 26, 27, 28, 29, 30, 31, 32, 33, 34, 35, 36, 37, 38, 39, 40, 41, 42, 43, 44, 45, 46, 47, 48, 49, 50, 51] [5020] [12051] [5020] (fun a : Nat × (List Int) × Int => a.1) (fun a : Nat × (List Int) × Int => [(0, .ar 5020), (9, .t (.sc (.int .i64 a.2.2)))]) (fun a : Nat × (List Int) × Int => [(5020, .arr (a.2.1.map rI) 3 true)]) (fun a : Nat × (List Int) × Int => a.1 ≤ fu ∧ m_spec_l4Depths_l1 a.1 x2 x3 x4 a.2.1 a.2.2 = some r ∧ 0 ≤ a.2.2) (fu, (x1 ++ [x4]), 0) ⟨Nat.le_refl _, hF3, by simp⟩ (by rfl) (by rfl) (fun _ => rfl) (hasF_cons (by conv => lhs; whnf) (by rfl) (hasF_cons (by conv => lhs; whnf) (by rfl) hasF_nil)) (hasO_cons (by conv => lhs; whnf) (by rfl) hasO_nil) (fresh_C hC rfl) (by repeat (first | exact freshS_args rfl | refine freshS_upd rfl ?_ | refine freshS_frame rfl ?_)) (by repeat (first | exact freshM_no | exact objs_fresh rfl | refine freshM_upd rfl ?_ | refine freshM_frame rfl ?_)) ?_
 clear hF3
 rintro ⟨fu, g4, g5⟩ ⟨hl6, hF4, hn_g5⟩
 dsimp only at hl6 hF4 hn_g5 ⊢
 obtain _ | fu := fu
 · rw [m_spec_l4Depths_l1] at hF4; cases hF4
 rw [m_spec_l4Depths_l1] at hF4
 refine awp_seq (awp_seq (awp_region ?_))
 refine s_mv ?_
 refine s_fa yF31_4 ?_
 refine s_ld1 yA28 ?_
 refine s_lenT yU28 ?_
 refine s_lt ?_
 refine k_nil (k_seq ?_)
 refine w_cond hF4 ?_ ?_ <;> intro hc7 hF5
 refine awp_lenT 20 (fun hb8 => ?_)
 refine awp_skip (k_seq (awp_seq (awp_block (awp_seq (awp_region ?_)))))
 refine s_mv ?_
 refine s_as ?_
 refine k_nil (k_seq (awp_seq (awp_seq (awp_region ?_))))
 refine s_mv ?_
 refine s_add (winc2 hc7 hb8 hn_g5) ?_
 refine s_fa yF31_4 ?_
 refine s_ld1 yA28 ?_
 refine s_lenT yU28 ?_
 refine s_lt ?_
 refine s_mv ?_
 refine w_guard _ 32 hF5 ?_ ?_ <;> intro hc9 hF6
 refine s_fa yF31_4 ?_
 refine s_ld1 yA28 ?_
 refine s_mv ?_
 refine s_add (winc2 hc7 hb8 hn_g5) ?_
 obtain ⟨v10, hv10, hF7⟩ := bind_some' hF6
 refine s_ixT Form.row hv10 (Form.row_eq _) yE28 ?_
 refine s_ldN yA31 yS31 ?_
 obtain ⟨v11, hv11, hF8⟩ := bind_some' hF7
 refine s_pure [] (m_spec_l4Dots_ok fu _ _ hv11) ?_
 refine s_pkt ?_
 refine k_nil (k_seq ?_)
 refine w_cond hF8 ?_ ?_ <;> intro hc12 hF9
 refine awp_region ?_
 refine s_mv ?_
 refine s_add rfl ?_
 refine s_as ?_
 refine k_nil (k_seq (awp_region ?_))
 refine s_mv ?_
 refine s_fa yF31_4 ?_
 refine s_ld1 yA28 ?_
 refine s_mv ?_
 obtain ⟨v13, hv13, hF10⟩ := bind_some' hF9
 refine s_ixT Form.row hv13 (Form.row_eq _) yE28 ?_
 refine s_ldN yA31 yS31 ?_
 refine s_mv ?_
 refine s_mv ?_
 obtain ⟨v14, hv14, hF11⟩ := bind_some' hF10
 refine s_call [(9300, 5020), (9200, 12051)] [] _ _ (ih_m_spec_l4Depths fu (by omega) _ _ _ _ _ hv14) ?_
 refine s_as ?_
 refine k_nil (k_blk (k_seq (awp_region ?_)))
 refine s_mv ?_
 refine s_add (winc2 hc7 hb8 hn_g5) ?_
 refine s_as ?_
 refine k_nil ?_
 exact s_rn (fu, v14, (g5 + 1)) ⟨by first | omega | (dsimp only; omega), hF11, by first | omega | (dsimp only; omega)⟩ [(5020, 12051)]
 refine awp_skip (k_seq (awp_region ?_))
 refine s_mv ?_
 refine s_fa yF31_4 ?_
 refine s_ld1 yA28 ?_
 refine s_mv ?_
 obtain ⟨v15, hv15, hF10⟩ := bind_some' hF9
 refine s_ixT Form.row hv15 (Form.row_eq _) yE28 ?_
 refine s_ldN yA31 yS31 ?_
 refine s_mv ?_
 refine s_mv ?_
 obtain ⟨v16, hv16, hF11⟩ := bind_some' hF10
 refine s_call [(9300, 5020), (9200, 12051)] [] _ _ (ih_m_spec_l4Depths fu (by omega) _ _ _ _ _ hv16) ?_
 refine s_as ?_
 refine k_nil (k_blk (k_seq (awp_region ?_)))
 refine s_mv ?_
 refine s_add (winc2 hc7 hb8 hn_g5) ?_
 refine s_as ?_
 refine k_nil ?_
 exact s_rn (fu, v16, (g5 + 1)) ⟨by first | omega | (dsimp only; omega), hF11, by first | omega | (dsimp only; omega)⟩ [(5020, 12051)]
 iterate 7 refine r_no rfl ?_
 refine s_pkf ?_
 refine k_nil (k_seq (awp_false rfl (awp_skip (k_seq (awp_region ?_)))))
 refine s_mv ?_
 refine s_fa yF31_4 ?_
 refine s_ld1 yA28 ?_
 refine s_mv ?_
 obtain ⟨v17, hv17, hF7⟩ := bind_some' hF6
 refine s_ixT Form.row hv17 (Form.row_eq _) yE28 ?_
 refine s_ldN yA31 yS31 ?_
 refine s_mv ?_
 refine s_mv ?_
 obtain ⟨v18, hv18, hF8⟩ := bind_some' hF7
 refine s_call [(9300, 5020), (9200, 12051)] [] _ _ (ih_m_spec_l4Depths fu (by omega) _ _ _ _ _ hv18) ?_
 refine s_as ?_
 refine k_nil (k_blk (k_seq (awp_region ?_)))
 refine s_mv ?_
 refine s_add (winc2 hc7 hb8 hn_g5) ?_
 refine s_as ?_
 refine k_nil ?_
 exact s_rn (fu, v18, (g5 + 1)) ⟨by first | omega | (dsimp only; omega), hF8, by first | omega | (dsimp only; omega)⟩ [(5020, 12051)]
 refine awp_exit (k_seq_exit (k_rnd_exit2 (k_blk_exit (k_seq (awp_seq (awp_region ?_))))))
 refine s_mv ?_
 refine s_as ?_
 refine k_nil (k_seq ?_)
 refine awp_mv 8 5020 9200 (by conv => lhs; whnf) (by conv => lhs; whnf) rfl ?_
 refine awp_ret (k_fin ?_)
 cases hF5
 exact ends_a _ [] Try.results32
 refine awp_skip (k_seq (awp_seq (awp_seq (awp_region ?_))))
 refine s_as ?_
 refine k_nil (k_seq (awp_block ?_))
 refine awp_mv 0 9300 5040 (by conv => lhs; whnf) (by conv => lhs; whnf) rfl ?_
 refine awp_frame2 [0, 9, 10, 18, 19, 20, 21, 22, 23, 24, 25, 26, 27, 28, 29, 30, 31, 32, 33, 34, 35, 36, 37, 38, 39, 40, 41, 42, 43, 44, 45, 46, 47, 48, 49, 50, 51] [5040] [12051] [5040] (fun a : Nat × (List Int) × Int => a.1) (fun a : Nat × (List Int) × Int => [(0, .ar 5040), (9, .t (.sc (.int .i64 a.2.2)))]) (fun a : Nat × (List Int) × Int => [(5040, .arr (a.2.1.map rI) 3 true)]) (fun a : Nat × (List Int) × Int => a.1 ≤ fu ∧ m_spec_l4Depths_l1 a.1 x2 x3 x4 a.2.1 a.2.2 = some r ∧ 0 ≤ a.2.2) (fu, x1, 0) ⟨Nat.le_refl _, hF2, by simp⟩ (by rfl) (by rfl) (fun _ => rfl) (hasF_cons (by conv => lhs; whnf) (by rfl) (hasF_cons (by conv => lhs; whnf) (by rfl) hasF_nil)) (hasO_cons (by conv => lhs; whnf) (by rfl) hasO_nil) (fresh_C hC rfl) (by repeat (first | exact freshS_args rfl | refine freshS_upd rfl ?_ | refine freshS_frame rfl ?_)) (by repeat (first | exact freshM_no | exact objs_fresh rfl | refine freshM_upd rfl ?_ | refine freshM_frame rfl ?_)) ?_
 clear hF2
 rintro ⟨fu, g19, g20⟩ ⟨hl21, hF3, hn_g20⟩
 dsimp only at hl21 hF3 hn_g20 ⊢
 obtain _ | fu := fu
 · rw [m_spec_l4Depths_l1] at hF3; cases hF3
 rw [m_spec_l4Depths_l1] at hF3
 refine awp_seq (awp_seq (awp_region ?_))
 refine s_mv ?_
 refine s_fa yF31_4 ?_
 refine s_ld1 yA28 ?_
 refine s_lenT yU28 ?_
 refine s_lt ?_
 refine k_nil (k_seq ?_)
 refine w_cond hF3 ?_ ?_ <;> intro hc22 hF4
 refine awp_lenT 20 (fun hb23 => ?_)
 refine awp_skip (k_seq (awp_seq (awp_block (awp_seq (awp_region ?_)))))
 refine s_mv ?_
 refine s_as ?_
 refine k_nil (k_seq (awp_seq (awp_seq (awp_region ?_))))
 refine s_mv ?_
 refine s_add (winc2 hc22 hb23 hn_g20) ?_
 refine s_fa yF31_4 ?_
 refine s_ld1 yA28 ?_
 refine s_lenT yU28 ?_
 refine s_lt ?_
 refine s_mv ?_
 refine w_guard _ 32 hF4 ?_ ?_ <;> intro hc24 hF5
 refine s_fa yF31_4 ?_
 refine s_ld1 yA28 ?_
 refine s_mv ?_
 refine s_add (winc2 hc22 hb23 hn_g20) ?_
 obtain ⟨v25, hv25, hF6⟩ := bind_some' hF5
 refine s_ixT Form.row hv25 (Form.row_eq _) yE28 ?_
 refine s_ldN yA31 yS31 ?_
 obtain ⟨v26, hv26, hF7⟩ := bind_some' hF6
 refine s_pure [] (m_spec_l4Dots_ok fu _ _ hv26) ?_
 refine s_pkt ?_
 refine k_nil (k_seq ?_)
 refine w_cond hF7 ?_ ?_ <;> intro hc27 hF8
 refine awp_region ?_
 refine s_mv ?_
 refine s_add rfl ?_
 refine s_as ?_
 refine k_nil (k_seq (awp_region ?_))
 refine s_mv ?_
 refine s_fa yF31_4 ?_
 refine s_ld1 yA28 ?_
 refine s_mv ?_
 obtain ⟨v28, hv28, hF9⟩ := bind_some' hF8
 refine s_ixT Form.row hv28 (Form.row_eq _) yE28 ?_
 refine s_ldN yA31 yS31 ?_
 refine s_mv ?_
 refine s_mv ?_
 obtain ⟨v29, hv29, hF10⟩ := bind_some' hF9
 refine s_call [(9300, 5040), (9200, 12051)] [] _ _ (ih_m_spec_l4Depths fu (by omega) _ _ _ _ _ hv29) ?_
 refine s_as ?_
 refine k_nil (k_blk (k_seq (awp_region ?_)))
 refine s_mv ?_
 refine s_add (winc2 hc22 hb23 hn_g20) ?_
 refine s_as ?_
 refine k_nil ?_
 exact s_rn (fu, v29, (g20 + 1)) ⟨by first | omega | (dsimp only; omega), hF10, by first | omega | (dsimp only; omega)⟩ [(5040, 12051)]
 refine awp_skip (k_seq (awp_region ?_))
 refine s_mv ?_
 refine s_fa yF31_4 ?_
 refine s_ld1 yA28 ?_
 refine s_mv ?_
 obtain ⟨v30, hv30, hF9⟩ := bind_some' hF8
 refine s_ixT Form.row hv30 (Form.row_eq _) yE28 ?_
 refine s_ldN yA31 yS31 ?_
 refine s_mv ?_
 refine s_mv ?_
 obtain ⟨v31, hv31, hF10⟩ := bind_some' hF9
 refine s_call [(9300, 5040), (9200, 12051)] [] _ _ (ih_m_spec_l4Depths fu (by omega) _ _ _ _ _ hv31) ?_
 refine s_as ?_
 refine k_nil (k_blk (k_seq (awp_region ?_)))
 refine s_mv ?_
 refine s_add (winc2 hc22 hb23 hn_g20) ?_
 refine s_as ?_
 refine k_nil ?_
 exact s_rn (fu, v31, (g20 + 1)) ⟨by first | omega | (dsimp only; omega), hF10, by first | omega | (dsimp only; omega)⟩ [(5040, 12051)]
 iterate 7 refine r_no rfl ?_
 refine s_pkf ?_
 refine k_nil (k_seq (awp_false rfl (awp_skip (k_seq (awp_region ?_)))))
 refine s_mv ?_
 refine s_fa yF31_4 ?_
 refine s_ld1 yA28 ?_
 refine s_mv ?_
 obtain ⟨v32, hv32, hF6⟩ := bind_some' hF5
 refine s_ixT Form.row hv32 (Form.row_eq _) yE28 ?_
 refine s_ldN yA31 yS31 ?_
 refine s_mv ?_
 refine s_mv ?_
 obtain ⟨v33, hv33, hF7⟩ := bind_some' hF6
 refine s_call [(9300, 5040), (9200, 12051)] [] _ _ (ih_m_spec_l4Depths fu (by omega) _ _ _ _ _ hv33) ?_
 refine s_as ?_
 refine k_nil (k_blk (k_seq (awp_region ?_)))
 refine s_mv ?_
 refine s_add (winc2 hc22 hb23 hn_g20) ?_
 refine s_as ?_
 refine k_nil ?_
 exact s_rn (fu, v33, (g20 + 1)) ⟨by first | omega | (dsimp only; omega), hF7, by first | omega | (dsimp only; omega)⟩ [(5040, 12051)]
 refine awp_exit (k_seq_exit (k_rnd_exit2 (k_blk_exit (k_seq (awp_seq (awp_region ?_))))))
 refine s_mv ?_
 refine s_as ?_
 refine k_nil (k_seq ?_)
 refine awp_mv 8 5040 9200 (by conv => lhs; whnf) (by conv => lhs; whnf) rfl ?_
 refine awp_ret (k_fin ?_)
 cases hF4
 exact ends_a _ [] Try.results32
end Go.Abs
