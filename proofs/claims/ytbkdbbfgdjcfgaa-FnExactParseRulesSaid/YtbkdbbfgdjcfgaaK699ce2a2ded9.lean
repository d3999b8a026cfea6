/- A part of the proof: what the functions that the law calls answer, as pure values. -/
import Derived.Test.YtbkdbbfgdjcfgaaK0b7d7560d506
import Derived.Test.YtbkdbbfgdjcfgaaK4fd39b116326
import Derived.Test.YtbkdbbfgdjcfgaaK737adf4b85c3
import Derived.Test.YtbkdbbfgdjcfgaaKa51fa71ca298
set_option linter.unusedSimpArgs false
set_option linter.unusedVariables false
set_option maxRecDepth 100000
set_option maxHeartbeats 4000000
namespace Go.Abs
open Go.Proofs
theorem m_impl_formOk_all (fuel : Nat) : m_impl_formOk_AC fuel := by
 induction fuel using Nat.strongRecOn with
 | _ N ih =>
   cases N with
   | zero => exact (by intro x1 x2 o1 r h; rw [m_impl_formOk] at h; cases h)
   | succ fu => exact m_impl_formOk_st fu (fun k hk => (ih k (by omega)))
theorem m_impl_formOk_ok (fuel : Nat) : m_impl_formOk_AC fuel := (m_impl_formOk_all fuel)
def m_impl_FormValid_AC (fuel : Nat) : Prop := ∀ (x1 : Form) (r : Bool), m_impl_FormValid fuel x1 = some r → AC Try.prog 104 [.ag [.t (.sc (.int .i64 x1.kind)), .t (.sc (.str x1.name)), .t (.sc (.int .i64 x1.n)), .t (.sl (x1.scopes.map rI)), .t (.sl (x1.kids.map Form.row))]] noOb (.t (.sc (.bool r))) noOb
theorem m_impl_FormValid_ok (fuel : Nat) : m_impl_FormValid_AC fuel := by
 intro x1 r hF0
 unfold m_impl_FormValid at hF0
 refine AC_i [.t (.sc (.bool r))] Try.func104 rfl Try.ntmps104 ?_
 intro C hC
 refine awp_seq (awp_region ?_)
 refine s_box ?_
 refine s_as ?_
 refine k_nil (k_seq (awp_seq (awp_region ?_)))
 refine s_alloc yZ3 ?_
 refine s_stW yS3 ?_
 refine k_nil (k_seq (awp_seq (awp_region ?_)))
 refine s_ldW yA34 yS34 ?_
 obtain ⟨v1, hv1, hF1⟩ := bind_some' hF0
 refine s_call [(9000, 3)] [] _ _ (m_impl_formOk_ok fuel _ _ _ _ hv1) ?_
 refine s_as ?_
 refine k_nil (k_seq (awp_ret (k_fin ?_)))
 cases hF1
 exact ends_a [] [] Try.results104
def m_impl_isName_AC (fuel : Nat) : Prop := ∀ (x1 : Form) (r : Bool), m_impl_isName fuel x1 = some r → AC Try.prog 125 [.ag [.t (.sc (.int .i64 x1.kind)), .t (.sc (.str x1.name)), .t (.sc (.int .i64 x1.n)), .t (.sl (x1.scopes.map rI)), .t (.sl (x1.kids.map Form.row))]] noOb (.t (.sc (.bool r))) noOb
theorem m_impl_isName_ok (fuel : Nat) : m_impl_isName_AC fuel := by
 intro x1 r hF0
 unfold m_impl_isName at hF0
 refine AC_i [.t (.sc (.bool r))] Try.func125 rfl Try.ntmps125 ?_
 intro C hC
 refine awp_seq (awp_region ?_)
 refine s_box ?_
 refine s_as ?_
 refine k_nil (k_seq (awp_seq (awp_region ?_)))
 refine s_fa yF34_0 ?_
 refine s_ld1 yA3 ?_
 refine s_eq ?_
 refine s_mv ?_
 refine w_guard _ 6 hF0 ?_ ?_ <;> intro hc1 hF1
 refine s_ldW yA34 yS34 ?_
 obtain ⟨v2, hv2, hF2⟩ := bind_some' hF1
 refine s_pure [] (m_impl_FormValid_ok fuel _ _ hv2) ?_
 refine s_pkt ?_
 refine s_as ?_
 refine k_nil (k_seq (awp_ret (k_fin ?_)))
 cases hF2
 exact ends_a [] [] Try.results125
 refine r_no rfl (r_no rfl ?_)
 refine s_pkf ?_
 refine s_as ?_
 refine k_nil (k_seq (awp_ret (k_fin ?_)))
 cases hF1
 exact ends_a [] [] Try.results125
def m_slices_Equal_int_AC (fuel : Nat) : Prop := ∀ (x1 : (List Int)) (x2 : (List Int)) (r : Bool), m_slices_Equal_int fuel x1 x2 = some r → AC Try.prog 159 [.t (.sl (x1.map rI)), .t (.sl (x2.map rI))] noOb (.t (.sc (.bool r))) noOb
theorem m_slices_Equal_int_ok (fuel : Nat) : m_slices_Equal_int_AC fuel := by
 intro x1 x2 r hF0
 unfold m_slices_Equal_int at hF0
 refine AC_i [.t (.sc (.bool r))] Try.func159 rfl Try.ntmps159 ?_
 intro C hC
 refine awp_seq (awp_region ?_)
 refine s_as ?_
 refine k_nil (k_seq (awp_seq (awp_seq (awp_region ?_))))
 refine s_mv ?_
 refine s_lenT yU22 ?_
 refine s_mv ?_
 refine s_lenT yU22 ?_
 refine s_ne ?_
 refine k_nil (k_seq ?_)
 refine w_cond hF0 ?_ ?_ <;> intro hc1 hF1
 refine awp_seq (awp_region ?_)
 refine s_as ?_
 refine k_nil (k_seq (awp_ret (k_seq_ret (k_fin ?_))))
 cases hF1
 exact ends_a [] [] Try.results159
 refine awp_skip (k_seq (awp_seq (awp_seq (awp_region ?_))))
 refine s_mv ?_
 refine s_lenT yU22 ?_
 refine s_mv ?_
 refine k_nil (k_seq (awp_block ?_))
 refine awp_fr (β := Int) [4, 5, 13, 14, 15, 16, 17, 18, 19, 20, 21, 22, 23, 24, 25] [] [] (fun a => [(13, .t (.sc (.int .i64 a.2)))]) (fun a => []) (fun a => a.1 ≤ fuel ∧ m_slices_Equal_int_l1 a.1 x1 x2 a.2 = some r ∧ 0 ≤ a.2) (fuel, 0) ⟨Nat.le_refl _, hF1, by simp⟩ ?_
 clear hF1
 rintro ⟨fu, g2⟩ ⟨hl3, hF2, hn_g2⟩
 dsimp only at hl3 hF2 hn_g2 ⊢
 obtain _ | fu := fu
 · rw [m_slices_Equal_int_l1] at hF2; cases hF2
 rw [m_slices_Equal_int_l1] at hF2
 refine awp_seq (awp_region ?_)
 refine s_lt ?_
 refine k_nil (k_seq (awp_seq ?_))
 refine w_cond hF2 ?_ ?_ <;> intro hc4 hF3
 refine awp_lenT 0 (fun hb5 => ?_)
 refine awp_skip (k_seq (awp_seq (awp_block (awp_seq (awp_region ?_)))))
 refine s_mv ?_
 refine s_as ?_
 refine k_nil (k_seq (awp_seq ?_))
 refine awp_draw yMix (by kernel_rfl) ?_
 refine s_mv ?_
 refine s_mv ?_
 obtain ⟨v6, hv6, hF4⟩ := bind_some' hF3
 refine s_ixT rI hv6 rfl yE22 ?_
 refine s_ld1 yA3 ?_
 refine s_mv ?_
 refine s_mv ?_
 obtain ⟨v7, hv7, hF5⟩ := bind_some' hF4
 refine s_ixT rI hv7 rfl yE22 ?_
 refine s_ld1 yA3 ?_
 refine s_ne ?_
 refine k_nilD (by kernel_rfl) ?_
 refine k_seq ?_
 refine w_cond hF5 ?_ ?_ <;> intro hc8 hF6
 refine awp_seq (awp_region ?_)
 refine s_as ?_
 refine k_nil (k_seq (awp_ret (k_blk_ret (k_seq_ret (k_rnd_ret2 (k_blk_ret (k_seq_ret (k_fin ?_))))))))
 cases hF6
 exact ends_a [] [] Try.results159
 refine awp_skip (k_blk (k_seq (awp_region ?_)))
 refine s_add (winc2 hc4 hb5 hn_g2) ?_
 refine s_mv ?_
 refine k_nil ?_
 exact s_rn (fu, (g2 + 1)) ⟨by first | omega | (dsimp only; omega), hF6, by first | omega | (dsimp only; omega)⟩
 refine awp_exit (k_seq_exit (k_rnd_exit2 (k_blk_exit (k_seq (awp_seq (awp_region ?_))))))
 refine s_as ?_
 refine k_nil (k_seq (awp_ret (k_fin ?_)))
 cases hF3
 exact ends_a [] [] Try.results159
def m_impl_FormSame_AC (fuel : Nat) : Prop := ∀ (x1 : Form) (x2 : Form) (r : Bool), m_impl_FormSame fuel x1 x2 = some r → AC Try.prog 123 [.ag [.t (.sc (.int .i64 x1.kind)), .t (.sc (.str x1.name)), .t (.sc (.int .i64 x1.n)), .t (.sl (x1.scopes.map rI)), .t (.sl (x1.kids.map Form.row))], .ag [.t (.sc (.int .i64 x2.kind)), .t (.sc (.str x2.name)), .t (.sc (.int .i64 x2.n)), .t (.sl (x2.scopes.map rI)), .t (.sl (x2.kids.map Form.row))]] noOb (.t (.sc (.bool r))) noOb
def m_slices_EqualFunc_Form_FormSame_AC (fuel : Nat) : Prop := ∀ (x1 : (List Form)) (x2 : (List Form)) (r : Bool), m_slices_EqualFunc_Form_FormSame fuel x1 x2 = some r → AC Try.prog 160 [.t (.sl (x1.map Form.row)), .t (.sl (x2.map Form.row)), .fn 123 []] noOb (.t (.sc (.bool r))) noOb
theorem m_impl_FormSame_st (fu : Nat) (ih_m_impl_FormSame : ∀ k, k ≤ fu → m_impl_FormSame_AC k) (ih_m_slices_EqualFunc_Form_FormSame : ∀ k, k ≤ fu → m_slices_EqualFunc_Form_FormSame_AC k) : m_impl_FormSame_AC (fu + 1) := by
 intro x1 x2 r hF0
 rw [m_impl_FormSame] at hF0
 refine AC_i [.t (.sc (.bool r))] Try.func123 rfl Try.ntmps123 ?_
 intro C hC
 refine awp_seq (awp_region ?_)
 refine s_box ?_
 refine s_box ?_
 refine s_as ?_
 refine k_nil (k_seq (awp_seq (awp_region ?_)))
 refine s_fa yF34_0 ?_
 refine s_ld1 yA3 ?_
 refine s_fa yF34_0 ?_
 refine s_ld1 yA3 ?_
 refine s_eq ?_
 refine s_mv ?_
 refine w_guard _ 10 hF0 ?_ ?_ <;> intro hc1 hF1
 refine s_fa yF34_1 ?_
 refine s_ld1 yA9 ?_
 refine s_fa yF34_1 ?_
 refine s_ld1 yA9 ?_
 refine s_eqS ?_
 refine s_pkt ?_
 refine s_mv ?_
 refine w_guard _ 17 hF1 ?_ ?_ <;> intro hc2 hF2
 refine s_fa yF34_2 ?_
 refine s_ld1 yA3 ?_
 refine s_fa yF34_2 ?_
 refine s_ld1 yA3 ?_
 refine s_eq ?_
 refine s_pkt ?_
 refine s_mv ?_
 refine w_guard _ 24 hF2 ?_ ?_ <;> intro hc3 hF3
 refine s_fa yF34_3 ?_
 refine s_ld1 yA22 ?_
 refine s_fa yF34_3 ?_
 refine s_ld1 yA22 ?_
 obtain ⟨v4, hv4, hF4⟩ := bind_some' hF3
 refine s_pure [] (m_slices_Equal_int_ok fu _ _ _ hv4) ?_
 refine s_pkt ?_
 refine s_mv ?_
 refine w_guard _ 31 hF4 ?_ ?_ <;> intro hc5 hF5
 refine s_fa yF34_4 ?_
 refine s_ld1 yA32 ?_
 refine s_fa yF34_4 ?_
 refine s_ld1 yA32 ?_
 obtain ⟨v6, hv6, hF6⟩ := bind_some' hF5
 refine s_pure [] (ih_m_slices_EqualFunc_Form_FormSame fu (by omega) _ _ _ hv6) ?_
 refine s_pkt ?_
 refine s_as ?_
 refine k_nil (k_seq (awp_ret (k_fin ?_)))
 cases hF6
 exact ends_a [] [] Try.results123
 iterate 5 refine r_no rfl ?_
 refine s_pkf ?_
 refine s_as ?_
 refine k_nil (k_seq (awp_ret (k_fin ?_)))
 cases hF5
 exact ends_a [] [] Try.results123
 iterate 5 refine r_no rfl ?_
 refine s_pkf ?_
 refine s_mv ?_
 iterate 5 refine r_no rfl ?_
 refine s_pkf ?_
 refine s_as ?_
 refine k_nil (k_seq (awp_ret (k_fin ?_)))
 cases hF3
 exact ends_a [] [] Try.results123
 iterate 5 refine r_no rfl ?_
 refine s_pkf ?_
 refine s_mv ?_
 iterate 5 refine r_no rfl ?_
 refine s_pkf ?_
 refine s_mv ?_
 iterate 5 refine r_no rfl ?_
 refine s_pkf ?_
 refine s_as ?_
 refine k_nil (k_seq (awp_ret (k_fin ?_)))
 cases hF2
 exact ends_a [] [] Try.results123
 iterate 5 refine r_no rfl ?_
 refine s_pkf ?_
 refine s_mv ?_
 iterate 5 refine r_no rfl ?_
 refine s_pkf ?_
 refine s_mv ?_
 iterate 5 refine r_no rfl ?_
 refine s_pkf ?_
 refine s_mv ?_
 iterate 5 refine r_no rfl ?_
 refine s_pkf ?_
 refine s_as ?_
 refine k_nil (k_seq (awp_ret (k_fin ?_)))
 cases hF1
 exact ends_a [] [] Try.results123
theorem m_slices_EqualFunc_Form_FormSame_st (fu : Nat) (ih_m_impl_FormSame : ∀ k, k ≤ fu → m_impl_FormSame_AC k) (ih_m_slices_EqualFunc_Form_FormSame : ∀ k, k ≤ fu → m_slices_EqualFunc_Form_FormSame_AC k) : m_slices_EqualFunc_Form_FormSame_AC (fu + 1) := by
 intro x1 x2 r hF0
 rw [m_slices_EqualFunc_Form_FormSame] at hF0
 refine AC_i [.t (.sc (.bool r))] Try.func160 rfl Try.ntmps160 ?_
 intro C hC
 refine awp_seq (awp_region ?_)
 refine s_as ?_
 refine k_nil (k_seq (awp_seq (awp_seq (awp_region ?_))))
 refine s_mv ?_
 refine s_lenT yU32 ?_
 refine s_mv ?_
 refine s_lenT yU32 ?_
 refine s_ne ?_
 refine k_nil (k_seq ?_)
 refine w_cond hF0 ?_ ?_ <;> intro hc1 hF1
 refine awp_seq (awp_region ?_)
 refine s_as ?_
 refine k_nil (k_seq (awp_ret (k_seq_ret (k_fin ?_))))
 cases hF1
 exact ends_a [] [] Try.results160
 refine awp_skip (k_seq (awp_seq (awp_seq (awp_region ?_))))
 refine s_mv ?_
 refine s_lenT yU32 ?_
 refine s_mv ?_
 refine k_nil (k_seq (awp_block ?_))
 refine awp_fr (β := Int) [6, 7, 8, 9, 17, 18, 19, 20, 21, 22, 23, 24, 25, 26, 27, 28, 29, 30, 31] [] [8, 9] (fun a => [(17, .t (.sc (.int .i64 a.2)))]) (fun a => []) (fun a => a.1 ≤ fu ∧ m_slices_EqualFunc_Form_FormSame_l1 a.1 x1 x2 a.2 = some r ∧ 0 ≤ a.2) (fu, 0) ⟨Nat.le_refl _, hF1, by simp⟩ ?_
 clear hF1
 rintro ⟨fu, g2⟩ ⟨hl3, hF2, hn_g2⟩
 dsimp only at hl3 hF2 hn_g2 ⊢
 obtain _ | fu := fu
 · rw [m_slices_EqualFunc_Form_FormSame_l1] at hF2; cases hF2
 rw [m_slices_EqualFunc_Form_FormSame_l1] at hF2
 refine awp_seq (awp_region ?_)
 refine s_lt ?_
 refine k_nil (k_seq (awp_seq ?_))
 refine w_cond hF2 ?_ ?_ <;> intro hc4 hF3
 refine awp_lenT 0 (fun hb5 => ?_)
 refine awp_skip (k_seq (awp_seq (awp_block (awp_seq (awp_region ?_)))))
 refine s_mv ?_
 obtain ⟨v6, hv6, hF4⟩ := bind_some' hF3
 refine s_ixT Form.row hv6 (Form.row_eq _) yE32 ?_
 refine s_ldN yA34 yS34 ?_
 refine s_alloc yZ34 ?_
 refine s_as ?_
 refine s_stW yS34 ?_
 refine k_nil (k_seq (awp_seq (awp_region ?_)))
 refine s_mv ?_
 refine s_mv ?_
 obtain ⟨v7, hv7, hF5⟩ := bind_some' hF4
 refine s_ixT Form.row hv7 (Form.row_eq _) yE32 ?_
 refine s_ldN yA34 yS34 ?_
 refine s_alloc yZ34 ?_
 refine s_stW yS34 ?_
 refine k_nil (k_seq (awp_seq (awp_region ?_)))
 refine s_mv ?_
 refine s_ldW yA34 yS34 ?_
 refine s_ldW yA34 yS34 ?_
 obtain ⟨v8, hv8, hF6⟩ := bind_some' hF5
 refine s_pure [] (ih_m_impl_FormSame fu (by omega) _ _ _ hv8) ?_
 refine s_not ?_
 refine k_nil (k_seq ?_)
 refine w_cond hF6 ?_ ?_ <;> intro hc9 hF7
 refine awp_seq (awp_region ?_)
 refine s_as ?_
 refine k_nil (k_seq (awp_ret (k_blk_ret (k_seq_ret (k_rnd_ret2 (k_blk_ret (k_seq_ret (k_fin ?_))))))))
 cases hF7
 exact ends_a [] [] Try.results160
 refine awp_skip (k_blk (k_seq (awp_region ?_)))
 refine s_add (winc2 hc4 hb5 hn_g2) ?_
 refine s_mv ?_
 refine k_nil ?_
 exact s_rn (fu, (g2 + 1)) ⟨by first | omega | (dsimp only; omega), hF7, by first | omega | (dsimp only; omega)⟩
 refine awp_exit (k_seq_exit (k_rnd_exit2 (k_blk_exit (k_seq (awp_seq (awp_region ?_))))))
 refine s_as ?_
 refine k_nil (k_seq (awp_ret (k_fin ?_)))
 cases hF3
 exact ends_a [] [] Try.results160
theorem m_impl_FormSame_all (fuel : Nat) : m_impl_FormSame_AC fuel ∧ m_slices_EqualFunc_Form_FormSame_AC fuel := by
 induction fuel using Nat.strongRecOn with
 | _ N ih =>
   cases N with
   | zero => exact ⟨(by intro x1 x2 r h; rw [m_impl_FormSame] at h; cases h), (by intro x1 x2 r h; rw [m_slices_EqualFunc_Form_FormSame] at h; cases h)⟩
   | succ fu => exact ⟨m_impl_FormSame_st fu (fun k hk => (ih k (by omega)).1) (fun k hk => (ih k (by omega)).2), m_slices_EqualFunc_Form_FormSame_st fu (fun k hk => (ih k (by omega)).1) (fun k hk => (ih k (by omega)).2)⟩
theorem m_impl_FormSame_ok (fuel : Nat) : m_impl_FormSame_AC fuel := (m_impl_FormSame_all fuel).1
def m_slices_Clone_int_D_AC (fuel : Nat) : Prop := ∀ (x1 : (List Int)) (r : (List Int)), m_slices_Clone_int fuel x1 = some r → AC Try.prog 136 [.t (.sl (x1.map rI))] (objs []) (.ar 9200) (objs [(9200, .arr (r.map rI) 3 true)])
theorem m_slices_Clone_int_D_ok (fuel : Nat) : m_slices_Clone_int_D_AC fuel := by
 intro x1 r hF0
 unfold m_slices_Clone_int at hF0
 refine AC_i [.ar 9200] Try.func136 rfl Try.ntmps136 ?_
 intro C hC
 refine awp_nil 0 (fun hz => ?_) ?_
 replace hz := List.map_eq_nil_iff.mp hz; subst hz; obtain ⟨_, hF1⟩ := chk_some hF0
 refine awp_seq (awp_region ?_)
 refine s_as ?_
 refine k_nil (k_seq (awp_seq (awp_seq (awp_region ?_))))
 refine s_mv ?_
 refine s_nil yU22 ?_
 refine k_nil (k_seq (awp_true rfl ?_))
 refine awp_unnil 0 ?_
 refine awp_unnil 3 ?_
 refine awp_seq (awp_region ?_)
 refine s_as ?_
 refine k_nil (k_seq ?_)
 refine awp_own 2 9200 3 yI3.choose_spec ?_
 refine awp_ret (k_seq_ret (k_fin ?_))
 cases hF1
 exact ends_a _ [] Try.results136
 refine awp_seq (awp_region ?_)
 refine s_as ?_
 refine k_nil (k_seq (awp_seq (awp_seq (awp_region ?_))))
 refine s_mv ?_
 refine s_nil yU22 ?_
 refine k_nil (k_seq (awp_false rfl ?_))
 refine awp_unnil 0 ?_
 refine awp_unnil 3 ?_
 refine awp_skip (k_seq (awp_seq (awp_region ?_)))
 refine s_bs rI ([] : List Int) yP22 yR3 ?_
 refine s_mv ?_
 obtain ⟨hk1, hF1⟩ := chk_some hF0
 refine s_apT rI (fun _ => rfl) hk1 yP22 ?_
 refine s_as ?_
 refine k_nil (k_seq ?_)
 refine awp_mv 2 7 9200 (by conv => lhs; whnf) (by conv => lhs; whnf) rfl ?_
 refine awp_ret (k_fin ?_)
 cases hF1
 exact ends_a _ [] Try.results136
def m_impl_copyForm_D_AC (fuel : Nat) : Prop := ∀ (x1 : Form) (r : Form), m_impl_copyForm fuel x1 = some r → AC Try.prog 89 [.ag [.t (.sc (.int .i64 x1.kind)), .t (.sc (.str x1.name)), .t (.sc (.int .i64 x1.n)), .t (.sl (x1.scopes.map rI)), .t (.sl (x1.kids.map Form.row))]] (objs []) (.ag [.t (.sc (.int .i64 r.kind)), .t (.sc (.str r.name)), .t (.sc (.int .i64 r.n)), .ar 9203, .ar 9204]) (objs [(9203, .arr (r.scopes.map rI) 3 true), (9204, .dar (r.kids.map (Form.rowD 3 34)) 34)])
theorem m_impl_copyForm_D_st (fu : Nat) (ih_m_impl_copyForm_D : ∀ k, k ≤ fu → m_impl_copyForm_D_AC k) : m_impl_copyForm_D_AC (fu + 1) := by
 intro x1 r hF0
 rw [m_impl_copyForm] at hF0
 refine AC_i [.ag [.t (.sc (.int .i64 r.kind)), .t (.sc (.str r.name)), .t (.sc (.int .i64 r.n)), .ar 9203, .ar 9204]] Try.func89 rfl Try.ntmps89 ?_
 intro C hC
 refine awp_seq (awp_region ?_)
 refine s_box ?_
 refine s_alloc yZ34 ?_
 refine k_nil (k_seq (awp_seq ?_))
 refine awp_draw yMix (by kernel_rfl) ?_
 refine s_fa yF34_0 ?_
 refine s_ld1 yA3 ?_
 refine s_fa yF34_1 ?_
 refine s_ld1 yA9 ?_
 refine s_fa yF34_2 ?_
 refine s_ld1 yA3 ?_
 refine s_fa yF34_3 ?_
 refine s_ld1 yA22 ?_
 obtain ⟨v1, hv1, hF1⟩ := bind_some' hF0
 refine s_call [(9200, 2014)] [] _ _ (m_slices_Clone_int_D_ok fu _ _ hv1) ?_
 refine s_bld yZ34 yL34 ?_
 refine s_alloc yZ34 ?_
 refine s_stW yS34 ?_
 refine k_nilD (by kernel_rfl) ?_
 refine k_seq (awp_seq (awp_seq (awp_region ?_)))
 refine s_fa yF34_4 ?_
 refine s_ld1 yA32 ?_
 refine s_lenT yU32 ?_
 refine s_mv ?_
 refine k_nil (k_seq (awp_block ?_))
 refine awp_ownB 3 5020 34 [.t (.sc (.int .i64 x1.kind)), .t (.sc (.str x1.name)), .t (.sc (.int .i64 x1.n)), .ar 2014, .ar 5020] yI34.choose_spec ?_
 refine awp_toD 5020 (Form.rowD 3 34) (es := ([] : List Form).map Form.row) (by (conv => lhs; whnf) <;> rfl) rfl ?_
 refine awp_frame2 [5, 19, 20, 21, 22, 23, 24, 25, 26, 27, 28, 29, 30] [3, 5020] [5, 27, 28, 2026, 12026] [5020] (fun a : Nat × Int × (List Form) => a.1) (fun a : Nat × Int × (List Form) => [(19, .t (.sc (.int .i64 a.2.1)))]) (fun a : Nat × Int × (List Form) => [(3, .box [.t (.sc (.int .i64 x1.kind)), .t (.sc (.str x1.name)), .t (.sc (.int .i64 x1.n)), .ar 2014, .ar 5020]), (5020, .dar (a.2.2.map (Form.rowD 3 34)) 34)]) (fun a : Nat × Int × (List Form) => a.1 ≤ fu ∧ m_impl_copyForm_l1 a.1 x1 v1 a.2.1 a.2.2 = some r ∧ 0 ≤ a.2.1) (fu, 0, ([] : List Form)) ⟨Nat.le_refl _, hF1, by simp⟩ (by rfl) (by rfl) (fun _ => rfl) (hasF_cons (by conv => lhs; whnf) (by rfl) hasF_nil) (hasO_cons (by conv => lhs; whnf) (by rfl) (hasO_cons (by conv => lhs; whnf) (by rfl) hasO_nil)) (fresh_C hC rfl) (by repeat (first | exact freshS_args rfl | refine freshS_upd rfl ?_ | refine freshS_frame rfl ?_)) (by repeat (first | exact freshM_no | exact objs_fresh rfl | refine freshM_upd rfl ?_ | refine freshM_frame rfl ?_)) ?_
 clear hF1
 rintro ⟨fu, g2, g3⟩ ⟨hl4, hF2, hn_g2⟩
 dsimp only at hl4 hF2 hn_g2 ⊢
 obtain _ | fu := fu
 · rw [m_impl_copyForm_l1] at hF2; cases hF2
 rw [m_impl_copyForm_l1] at hF2
 refine awp_seq (awp_region ?_)
 refine s_lt ?_
 refine k_nil (k_seq (awp_seq ?_))
 refine w_cond hF2 ?_ ?_ <;> intro hc5 hF3
 refine awp_lenT 17 (fun hb6 => ?_)
 refine awp_skip (k_seq (awp_seq (awp_block (awp_seq (awp_region ?_)))))
 obtain ⟨v7, hv7, hF4⟩ := bind_some' hF3
 refine s_ixT Form.row hv7 (Form.row_eq _) yE32 ?_
 refine s_ldN yA34 yS34 ?_
 refine s_alloc yZ34 ?_
 refine s_stW yS34 ?_
 refine k_nil (k_seq ?_)
 refine awp_draw yMix (by kernel_rfl) ?_
 refine s_fa yF34_4 ?_
 refine s_ld1 yA32 ?_
 refine s_ldW yA34 yS34 ?_
 obtain ⟨v8, hv8, hF5⟩ := bind_some' hF4
 refine s_call [(9203, 2026), (9204, 12026)] [] _ _ (ih_m_impl_copyForm_D fu (by omega) _ _ hv8) ?_
 refine s_bsD [.sc (.int .i64 v8.kind), .sc (.str v8.name), .sc (.int .i64 v8.n), .any, .any] [(0, 3, 2026), (0, 4, 12026)] yP32 ?_
 obtain ⟨hk9, hF6⟩ := chk_some hF5
 refine s_apH (Form.rowD 3 34) [(g3.length, 3, 2026), (g3.length, 4, 12026)] hk9 yP32 ?_
 refine s_fa yF34_4 ?_
 refine s_stP yS32 ?_
 refine k_nilD (by kernel_rfl) ?_
 refine k_blk (k_seq ?_)
 refine awp_jaA 28 2026 [.sc (.int .i64 v8.kind), .sc (.str v8.name), .sc (.int .i64 v8.n), .ow 3 (v8.scopes.map rI), .any] ?_
 refine awp_jaD 28 12026 [.sc (.int .i64 v8.kind), .sc (.str v8.name), .sc (.int .i64 v8.n), .ow 3 (v8.scopes.map rI), .ow 34 (v8.kids.map (Form.rowD 3 34))] ?_
 refine awp_naH 28 (row := (Form.rowD 3 34)) (fs := [.sc (.int .i64 v8.kind), .sc (.str v8.name), .sc (.int .i64 v8.n), .ow 3 (v8.scopes.map rI), .ow 34 (v8.kids.map (Form.rowD 3 34))]) v8 (Form.rowDE _ _ _) ?_
 refine awp_region ?_
 refine s_add (winc2 hc5 hb6 hn_g2) ?_
 refine s_mv ?_
 refine k_nil ?_
 exact s_rn (fu, (g2 + 1), (g3 ++ [v8])) ⟨by first | omega | (dsimp only; omega), hF6, by first | omega | (dsimp only; omega)⟩ [(5020, 28)]
 refine awp_exit (k_seq_exit (k_rnd_exit2 (k_blk_exit (k_seq (awp_seq (awp_region ?_))))))
 refine s_ldW yA34 yS34 ?_
 refine s_stW yS34 ?_
 refine k_nil (k_seq ?_)
 refine awp_mvB 2 2014 9203 [.t (.sc (.int .i64 x1.kind)), .t (.sc (.str x1.name)), .t (.sc (.int .i64 x1.n)), .ar 9203, .ar 5020] ?_
 refine awp_mvBO 2 5020 9204 [.t (.sc (.int .i64 x1.kind)), .t (.sc (.str x1.name)), .t (.sc (.int .i64 x1.n)), .ar 9203, .ar 9204] ?_
 refine awp_ret (k_fin ?_)
 cases hF3
 exact ends_gen _ [] (by rw [Try.results89]; exact (res_agg (by conv => lhs; whnf) (by conv => lhs; whnf) yA34 yS34 rfl res_nil))
theorem m_impl_copyForm_D_all (fuel : Nat) : m_impl_copyForm_D_AC fuel := by
 induction fuel using Nat.strongRecOn with
 | _ N ih =>
   cases N with
   | zero => exact (by intro x1 r h; rw [m_impl_copyForm] at h; cases h)
   | succ fu => exact m_impl_copyForm_D_st fu (fun k hk => (ih k (by omega)))
theorem m_impl_copyForm_D_ok (fuel : Nat) : m_impl_copyForm_D_AC fuel := (m_impl_copyForm_D_all fuel)
def m_laws_eqIntS_AC (fuel : Nat) : Prop := ∀ (x1 : (List Int)) (x2 : (List Int)) (r : Bool), m_laws_eqIntS fuel x1 x2 = some r → AC Try.prog 26 [.t (.sl (x1.map rI)), .t (.sl (x2.map rI))] noOb (.t (.sc (.bool r))) noOb
theorem m_laws_eqIntS_ok (fuel : Nat) : m_laws_eqIntS_AC fuel := by
 intro x1 x2 r hF0
 unfold m_laws_eqIntS at hF0
 refine AC_i [.t (.sc (.bool r))] Try.func26 rfl Try.ntmps26 ?_
 intro C hC
 refine awp_seq (awp_region ?_)
 refine s_as ?_
 refine k_nil (k_seq (awp_seq (awp_seq (awp_region ?_))))
 refine s_mv ?_
 refine s_lenT yU22 ?_
 refine s_mv ?_
 refine s_lenT yU22 ?_
 refine s_ne ?_
 refine k_nil (k_seq ?_)
 refine w_cond hF0 ?_ ?_ <;> intro hc1 hF1
 refine awp_seq (awp_region ?_)
 refine s_as ?_
 refine k_nil (k_seq (awp_ret (k_seq_ret (k_fin ?_))))
 cases hF1
 exact ends_a [] [] Try.results26
 refine awp_skip (k_seq (awp_seq (awp_seq (awp_region ?_))))
 refine s_as ?_
 refine k_nil (k_seq (awp_block ?_))
 refine awp_fr (β := Int) [4, 5, 11, 12, 13, 14, 15, 16, 17, 18, 19, 20, 21, 22, 23, 24, 25] [] [] (fun a => [(5, .t (.sc (.int .i64 a.2)))]) (fun a => []) (fun a => a.1 ≤ fuel ∧ m_laws_eqIntS_l1 a.1 x1 x2 a.2 = some r ∧ 0 ≤ a.2) (fuel, 0) ⟨Nat.le_refl _, hF1, by simp⟩ ?_
 clear hF1
 rintro ⟨fu, g2⟩ ⟨hl3, hF2, hn_g2⟩
 dsimp only at hl3 hF2 hn_g2 ⊢
 obtain _ | fu := fu
 · rw [m_laws_eqIntS_l1] at hF2; cases hF2
 rw [m_laws_eqIntS_l1] at hF2
 refine awp_seq (awp_seq (awp_region ?_))
 refine s_mv ?_
 refine s_mv ?_
 refine s_lenT yU22 ?_
 refine s_lt ?_
 refine k_nil (k_seq ?_)
 refine w_cond hF2 ?_ ?_ <;> intro hc4 hF3
 refine awp_lenT 0 (fun hb5 => ?_)
 refine awp_skip (k_seq (awp_seq (awp_block (awp_seq ?_))))
 refine awp_draw yMix (by kernel_rfl) ?_
 refine s_mv ?_
 refine s_mv ?_
 obtain ⟨v6, hv6, hF4⟩ := bind_some' hF3
 refine s_ixT rI hv6 rfl yE22 ?_
 refine s_ld1 yA3 ?_
 refine s_mv ?_
 refine s_mv ?_
 obtain ⟨v7, hv7, hF5⟩ := bind_some' hF4
 refine s_ixT rI hv7 rfl yE22 ?_
 refine s_ld1 yA3 ?_
 refine s_ne ?_
 refine k_nilD (by kernel_rfl) ?_
 refine k_seq ?_
 refine w_cond hF5 ?_ ?_ <;> intro hc8 hF6
 refine awp_seq (awp_region ?_)
 refine s_as ?_
 refine k_nil (k_seq (awp_ret (k_blk_ret (k_seq_ret (k_rnd_ret2 (k_blk_ret (k_seq_ret (k_fin ?_))))))))
 cases hF6
 exact ends_a [] [] Try.results26
 refine awp_skip (k_blk (k_seq (awp_region ?_)))
 refine s_mv ?_
 refine s_add (winc2 hc4 hb5 hn_g2) ?_
 refine s_as ?_
 refine k_nil ?_
 exact s_rn (fu, (g2 + 1)) ⟨by first | omega | (dsimp only; omega), hF6, by first | omega | (dsimp only; omega)⟩
 refine awp_exit (k_seq_exit (k_rnd_exit2 (k_blk_exit (k_seq (awp_seq (awp_region ?_))))))
 refine s_as ?_
 refine k_nil (k_seq (awp_ret (k_fin ?_)))
 cases hF3
 exact ends_a [] [] Try.results26
def m_laws_eqForm_AC (fuel : Nat) : Prop := ∀ (x1 : Form) (x2 : Form) (r : Bool), m_laws_eqForm fuel x1 x2 = some r → AC Try.prog 44 [.ag [.t (.sc (.int .i64 x1.kind)), .t (.sc (.str x1.name)), .t (.sc (.int .i64 x1.n)), .t (.sl (x1.scopes.map rI)), .t (.sl (x1.kids.map Form.row))], .ag [.t (.sc (.int .i64 x2.kind)), .t (.sc (.str x2.name)), .t (.sc (.int .i64 x2.n)), .t (.sl (x2.scopes.map rI)), .t (.sl (x2.kids.map Form.row))]] noOb (.t (.sc (.bool r))) noOb
def m_laws_eqFormS_AC (fuel : Nat) : Prop := ∀ (x1 : (List Form)) (x2 : (List Form)) (r : Bool), m_laws_eqFormS fuel x1 x2 = some r → AC Try.prog 28 [.t (.sl (x1.map Form.row)), .t (.sl (x2.map Form.row))] noOb (.t (.sc (.bool r))) noOb
theorem m_laws_eqForm_st (fu : Nat) (ih_m_laws_eqForm : ∀ k, k ≤ fu → m_laws_eqForm_AC k) (ih_m_laws_eqFormS : ∀ k, k ≤ fu → m_laws_eqFormS_AC k) : m_laws_eqForm_AC (fu + 1) := by
 intro x1 x2 r hF0
 rw [m_laws_eqForm] at hF0
 refine AC_i [.t (.sc (.bool r))] Try.func44 rfl Try.ntmps44 ?_
 intro C hC
 refine awp_seq (awp_region ?_)
 refine s_box ?_
 refine s_box ?_
 refine s_as ?_
 refine k_nil (k_seq (awp_seq (awp_seq (awp_region ?_))))
 refine s_fa yF34_0 ?_
 refine s_ld1 yA3 ?_
 refine s_fa yF34_0 ?_
 refine s_ld1 yA3 ?_
 refine s_ne ?_
 refine k_nil (k_seq ?_)
 refine w_cond hF0 ?_ ?_ <;> intro hc1 hF1
 refine awp_seq (awp_region ?_)
 refine s_as ?_
 refine k_nil (k_seq (awp_ret (k_seq_ret (k_fin ?_))))
 cases hF1
 exact ends_a [] [] Try.results44
 refine awp_skip (k_seq (awp_seq (awp_seq (awp_region ?_))))
 refine s_fa yF34_1 ?_
 refine s_ld1 yA9 ?_
 refine s_fa yF34_1 ?_
 refine s_ld1 yA9 ?_
 refine s_neS ?_
 refine k_nil (k_seq ?_)
 refine w_cond hF1 ?_ ?_ <;> intro hc2 hF2
 refine awp_seq (awp_region ?_)
 refine s_as ?_
 refine k_nil (k_seq (awp_ret (k_seq_ret (k_fin ?_))))
 cases hF2
 exact ends_a [] [] Try.results44
 refine awp_skip (k_seq (awp_seq (awp_seq (awp_region ?_))))
 refine s_fa yF34_2 ?_
 refine s_ld1 yA3 ?_
 refine s_fa yF34_2 ?_
 refine s_ld1 yA3 ?_
 refine s_ne ?_
 refine k_nil (k_seq ?_)
 refine w_cond hF2 ?_ ?_ <;> intro hc3 hF3
 refine awp_seq (awp_region ?_)
 refine s_as ?_
 refine k_nil (k_seq (awp_ret (k_seq_ret (k_fin ?_))))
 cases hF3
 exact ends_a [] [] Try.results44
 refine awp_skip (k_seq (awp_seq (awp_seq (awp_region ?_))))
 refine s_fa yF34_3 ?_
 refine s_ld1 yA22 ?_
 refine s_fa yF34_3 ?_
 refine s_ld1 yA22 ?_
 obtain ⟨v4, hv4, hF4⟩ := bind_some' hF3
 refine s_pure [] (m_laws_eqIntS_ok fu _ _ _ hv4) ?_
 refine s_not ?_
 refine k_nil (k_seq ?_)
 refine w_cond hF4 ?_ ?_ <;> intro hc5 hF5
 refine awp_seq (awp_region ?_)
 refine s_as ?_
 refine k_nil (k_seq (awp_ret (k_seq_ret (k_fin ?_))))
 cases hF5
 exact ends_a [] [] Try.results44
 refine awp_skip (k_seq (awp_seq (awp_seq (awp_region ?_))))
 refine s_fa yF34_4 ?_
 refine s_ld1 yA32 ?_
 refine s_fa yF34_4 ?_
 refine s_ld1 yA32 ?_
 obtain ⟨v6, hv6, hF6⟩ := bind_some' hF5
 refine s_pure [] (ih_m_laws_eqFormS fu (by omega) _ _ _ hv6) ?_
 refine s_not ?_
 refine k_nil (k_seq ?_)
 refine w_cond hF6 ?_ ?_ <;> intro hc7 hF7
 refine awp_seq (awp_region ?_)
 refine s_as ?_
 refine k_nil (k_seq (awp_ret (k_seq_ret (k_fin ?_))))
 cases hF7
 exact ends_a [] [] Try.results44
 refine awp_skip (k_seq (awp_seq (awp_region ?_)))
 refine s_as ?_
 refine k_nil (k_seq (awp_ret (k_fin ?_)))
 cases hF7
 exact ends_a [] [] Try.results44
theorem m_laws_eqFormS_st (fu : Nat) (ih_m_laws_eqForm : ∀ k, k ≤ fu → m_laws_eqForm_AC k) (ih_m_laws_eqFormS : ∀ k, k ≤ fu → m_laws_eqFormS_AC k) : m_laws_eqFormS_AC (fu + 1) := by
 intro x1 x2 r hF0
 rw [m_laws_eqFormS] at hF0
 refine AC_i [.t (.sc (.bool r))] Try.func28 rfl Try.ntmps28 ?_
 intro C hC
 refine awp_seq (awp_region ?_)
 refine s_as ?_
 refine k_nil (k_seq (awp_seq (awp_seq (awp_region ?_))))
 refine s_mv ?_
 refine s_lenT yU32 ?_
 refine s_mv ?_
 refine s_lenT yU32 ?_
 refine s_ne ?_
 refine k_nil (k_seq ?_)
 refine w_cond hF0 ?_ ?_ <;> intro hc1 hF1
 refine awp_seq (awp_region ?_)
 refine s_as ?_
 refine k_nil (k_seq (awp_ret (k_seq_ret (k_fin ?_))))
 cases hF1
 exact ends_a [] [] Try.results28
 refine awp_skip (k_seq (awp_seq (awp_seq (awp_region ?_))))
 refine s_as ?_
 refine k_nil (k_seq (awp_block ?_))
 refine awp_fr (β := Int) [4, 5, 11, 12, 13, 14, 15, 16, 17, 18, 19, 20, 21, 22, 23, 24, 25, 26] [] [] (fun a => [(5, .t (.sc (.int .i64 a.2)))]) (fun a => []) (fun a => a.1 ≤ fu ∧ m_laws_eqFormS_l1 a.1 x1 x2 a.2 = some r ∧ 0 ≤ a.2) (fu, 0) ⟨Nat.le_refl _, hF1, by simp⟩ ?_
 clear hF1
 rintro ⟨fu, g2⟩ ⟨hl3, hF2, hn_g2⟩
 dsimp only at hl3 hF2 hn_g2 ⊢
 obtain _ | fu := fu
 · rw [m_laws_eqFormS_l1] at hF2; cases hF2
 rw [m_laws_eqFormS_l1] at hF2
 refine awp_seq (awp_seq (awp_region ?_))
 refine s_mv ?_
 refine s_mv ?_
 refine s_lenT yU32 ?_
 refine s_lt ?_
 refine k_nil (k_seq ?_)
 refine w_cond hF2 ?_ ?_ <;> intro hc4 hF3
 refine awp_lenT 0 (fun hb5 => ?_)
 refine awp_skip (k_seq (awp_seq (awp_block (awp_seq ?_))))
 refine awp_draw yMix (by kernel_rfl) ?_
 refine s_mv ?_
 refine s_mv ?_
 obtain ⟨v6, hv6, hF4⟩ := bind_some' hF3
 refine s_ixT Form.row hv6 (Form.row_eq _) yE32 ?_
 refine s_ldN yA34 yS34 ?_
 refine s_mv ?_
 refine s_mv ?_
 obtain ⟨v7, hv7, hF5⟩ := bind_some' hF4
 refine s_ixT Form.row hv7 (Form.row_eq _) yE32 ?_
 refine s_ldN yA34 yS34 ?_
 obtain ⟨v8, hv8, hF6⟩ := bind_some' hF5
 refine s_pure [] (ih_m_laws_eqForm fu (by omega) _ _ _ hv8) ?_
 refine s_not ?_
 refine k_nilD (by kernel_rfl) ?_
 refine k_seq ?_
 refine w_cond hF6 ?_ ?_ <;> intro hc9 hF7
 refine awp_seq (awp_region ?_)
 refine s_as ?_
 refine k_nil (k_seq (awp_ret (k_blk_ret (k_seq_ret (k_rnd_ret2 (k_blk_ret (k_seq_ret (k_fin ?_))))))))
 cases hF7
 exact ends_a [] [] Try.results28
 refine awp_skip (k_blk (k_seq (awp_region ?_)))
 refine s_mv ?_
 refine s_add (winc2 hc4 hb5 hn_g2) ?_
 refine s_as ?_
 refine k_nil ?_
 exact s_rn (fu, (g2 + 1)) ⟨by first | omega | (dsimp only; omega), hF7, by first | omega | (dsimp only; omega)⟩
 refine awp_exit (k_seq_exit (k_rnd_exit2 (k_blk_exit (k_seq (awp_seq (awp_region ?_))))))
 refine s_as ?_
 refine k_nil (k_seq (awp_ret (k_fin ?_)))
 cases hF3
 exact ends_a [] [] Try.results28
theorem m_laws_eqForm_all (fuel : Nat) : m_laws_eqForm_AC fuel ∧ m_laws_eqFormS_AC fuel := by
 induction fuel using Nat.strongRecOn with
 | _ N ih =>
   cases N with
   | zero => exact ⟨(by intro x1 x2 r h; rw [m_laws_eqForm] at h; cases h), (by intro x1 x2 r h; rw [m_laws_eqFormS] at h; cases h)⟩
   | succ fu => exact ⟨m_laws_eqForm_st fu (fun k hk => (ih k (by omega)).1) (fun k hk => (ih k (by omega)).2), m_laws_eqFormS_st fu (fun k hk => (ih k (by omega)).1) (fun k hk => (ih k (by omega)).2)⟩
theorem m_laws_eqForm_ok (fuel : Nat) : m_laws_eqForm_AC fuel := (m_laws_eqForm_all fuel).1
theorem m_laws_eqFormS_ok (fuel : Nat) : m_laws_eqFormS_AC fuel := (m_laws_eqForm_all fuel).2
def m_laws_markIntS_D_AC (fuel : Nat) : Prop := ∀ (x1 : (List Int)) (x2 : Int) (r : (Int × (List Int))), m_laws_markIntS fuel x1 x2 = some r → AC Try.prog 31 [.ar 9300, .t (.sc (.int .i64 x2))] (objs [(9300, .arr (x1.map rI) 3 true)]) (.t (.sc (.int .i64 r.1))) (objs [(9300, .arr (r.2.map rI) 3 true)])
theorem m_laws_markIntS_D_ok (fuel : Nat) : m_laws_markIntS_D_AC fuel := by
 intro x1 x2 r hF0
 unfold m_laws_markIntS at hF0
 refine AC_i [.t (.sc (.int .i64 r.1))] Try.func31 rfl Try.ntmps31 ?_
 intro C hC
 refine awp_seq (awp_region ?_)
 refine s_as ?_
 refine k_nil (k_seq (awp_seq (awp_seq (awp_region ?_))))
 refine s_as ?_
 refine k_nil (k_seq (awp_block ?_))
 refine awp_fr (β := Int × Int × (List Int)) [1, 5, 6, 7, 8, 9, 10, 11, 12, 13, 14, 15, 16, 17] [9300] [] (fun a => [(1, .t (.sc (.int .i64 a.2.1))), (5, .t (.sc (.int .i64 a.2.2.1)))]) (fun a => [(9300, .arr (a.2.2.2.map rI) 3 true)]) (fun a => a.1 ≤ fuel ∧ m_laws_markIntS_l1 a.1  a.2.1 a.2.2.1 a.2.2.2 = some r ∧ 0 ≤ a.2.2.1) (fuel, x2, 0, x1) ⟨Nat.le_refl _, hF0, by simp⟩ ?_
 clear hF0
 rintro ⟨fu, g1, g2, g3⟩ ⟨hl4, hF1, hn_g2⟩
 dsimp only at hl4 hF1 hn_g2 ⊢
 obtain _ | fu := fu
 · rw [m_laws_markIntS_l1] at hF1; cases hF1
 rw [m_laws_markIntS_l1] at hF1
 refine awp_seq (awp_seq (awp_region ?_))
 refine s_mv ?_
 refine s_mv ?_
 refine s_lenA yU22 ?_
 refine s_lt ?_
 refine k_nil (k_seq ?_)
 refine w_cond hF1 ?_ ?_ <;> intro hc5 hF2
 refine awp_lenA 0 9300 (fun hb6 => ?_)
 refine awp_skip (k_seq (awp_seq (awp_block (awp_seq (awp_region ?_)))))
 iterate 3 refine s_mv ?_
 obtain ⟨v7, hv7, hF3⟩ := bind_some' hF2
 refine s_ixA rI hv7 yE22 ?_
 refine s_stA rI g1 hv7 rfl rfl yS3 yS3 ?_
 refine k_nil (k_seq (awp_region ?_))
 refine s_mv ?_
 refine s_add rfl ?_
 refine s_as ?_
 refine k_nil (k_blk (k_seq (awp_region ?_)))
 refine s_mv ?_
 refine s_add (winc2 hc5 hb6 hn_g2) ?_
 refine s_as ?_
 refine k_nil ?_
 exact s_rn (fu, (w64 (g1 + 1)), (g2 + 1), (g3.set g2.toNat g1)) ⟨by first | omega | (dsimp only; omega), hF3, by first | omega | (dsimp only; omega)⟩
 refine awp_exit (k_seq_exit (k_rnd_exit2 (k_blk_exit (k_seq (awp_seq (awp_region ?_))))))
 refine s_mv ?_
 refine s_as ?_
 refine k_nil (k_seq (awp_ret (k_fin ?_)))
 cases hF2
 exact ends_a _ [] Try.results31
def m_laws_markText_D_AC (fuel : Nat) : Prop := ∀ (x1 : Int) (r : ByteArray), m_laws_markText fuel x1 = some r → AC Try.prog 70 [.t (.sc (.int .i64 x1))] noOb (.t (.sc (.str r))) noOb
theorem m_laws_markText_D_ok (fuel : Nat) : m_laws_markText_D_AC fuel := by
 intro x1 r hF0
 unfold m_laws_markText at hF0
 refine AC_i [.t (.sc (.str r))] Try.func70 rfl Try.ntmps70 ?_
 intro C hC
 refine awp_seq (awp_region ?_)
 refine s_as ?_
 refine k_nil (k_seq (awp_seq (awp_seq (awp_region ?_))))
 refine s_mv ?_
 refine s_le ?_
 refine k_nil (k_seq ?_)
 refine w_cond hF0 ?_ ?_ <;> intro hc1 hF1
 refine awp_seq (awp_region ?_)
 refine s_as ?_
 refine k_nil (k_seq (awp_ret (k_seq_ret (k_fin ?_))))
 cases hF1
 exact ends_a [] [] Try.results70
 refine awp_skip (k_seq (awp_seq (awp_region ?_)))
 refine s_as ?_
 refine k_nil (k_seq (awp_seq (awp_block ?_)))
 refine awp_fr (β := Int × ByteArray) [0, 3, 6, 7, 8, 9, 10, 11, 12, 13, 14, 15, 16, 17] [] [12] (fun a => [(0, .t (.sc (.int .i64 a.2.1))), (3, .t (.sc (.str a.2.2)))]) (fun a => []) (fun a => a.1 ≤ fuel ∧ m_laws_markText_l1 a.1  a.2.1 a.2.2 = some r) (fuel, x1, (⟨#[]⟩ : ByteArray)) ⟨Nat.le_refl _, hF1⟩ ?_
 clear hF1
 rintro ⟨fu, g2, g3⟩ ⟨hl4, hF2⟩
 dsimp only at hl4 hF2 ⊢
 obtain _ | fu := fu
 · rw [m_laws_markText_l1] at hF2; cases hF2
 rw [m_laws_markText_l1] at hF2
 refine awp_seq (awp_seq (awp_region ?_))
 refine s_mv ?_
 refine s_gt ?_
 refine k_nil (k_seq ?_)
 refine w_cond hF2 ?_ ?_ <;> intro hc5 hF3
 refine awp_skip (k_seq (awp_block (awp_seq (awp_region ?_))))
 refine s_mv ?_
 refine s_rem ?_
 refine s_add rfl ?_
 refine s_int yU3 yU5 rfl ?_
 refine s_bs rB [(w8 (w64 (48 + (g2.tmod 10))))] yP132 yR5 ?_
 refine s_bst (l := [(w8 (w64 (48 + (g2.tmod 10))))]) yU132 yU9 yE132 yU5 ?_
 refine s_mv ?_
 obtain ⟨v6, hv6, hF4⟩ := bind_some' hF3
 refine s_cat hv6 ?_
 refine s_as ?_
 refine k_nil (k_seq (awp_region ?_))
 refine s_mv ?_
 refine s_quo rfl ?_
 refine s_as ?_
 refine k_nil (k_blk ?_)
 exact s_rn (fu, (w64 (g2.tdiv 10)), v6) ⟨by first | omega | (dsimp only; omega), hF4⟩
 refine awp_exit (k_seq_exit (k_rnd_exit2 (k_blk_exit (k_seq (awp_seq (awp_region ?_))))))
 refine s_mv ?_
 obtain ⟨v7, hv7, hF4⟩ := bind_some' hF3
 refine s_cat hv7 ?_
 refine s_as ?_
 refine k_nil (k_seq (awp_ret (k_fin ?_)))
 cases hF4
 exact ends_a [] [] Try.results70
def m_laws_markFormS_D_AC (fuel : Nat) : Prop := ∀ (x1 : (List Form)) (x2 : Int) (r : (Int × (List Form))), m_laws_markFormS fuel x1 x2 = some r → AC Try.prog 30 [.ar 9300, .t (.sc (.int .i64 x2))] (objs [(9300, .dar (x1.map (Form.rowD 3 34)) 34)]) (.t (.sc (.int .i64 r.1))) (objs [(9300, .dar (r.2.map (Form.rowD 3 34)) 34)])
theorem m_laws_markFormS_D_st (fu : Nat) (ih_m_laws_markFormS_D : ∀ k, k ≤ fu → m_laws_markFormS_D_AC k) : m_laws_markFormS_D_AC (fu + 1) := by
 intro x1 x2 r hF0
 rw [m_laws_markFormS] at hF0
 refine AC_i [.t (.sc (.int .i64 r.1))] Try.func30 rfl Try.ntmps30 ?_
 intro C hC
 refine awp_seq (awp_region ?_)
 refine s_as ?_
 refine k_nil (k_seq (awp_seq (awp_seq (awp_region ?_))))
 refine s_as ?_
 refine k_nil (k_seq (awp_block ?_))
 refine awp_fr (β := Int × Int × (List Form)) [1, 5, 6, 7, 8, 9, 10, 11, 12, 13, 14, 15, 16, 17, 18, 19, 20, 21, 22, 23, 24, 25, 26, 27, 28, 29, 30, 31, 32, 33, 34, 35, 36, 37, 38, 39, 40, 41, 42, 43, 44, 45, 46, 47] [9300] [38, 45] (fun a => [(1, .t (.sc (.int .i64 a.2.1))), (5, .t (.sc (.int .i64 a.2.2.1)))]) (fun a => [(9300, .dar (a.2.2.2.map (Form.rowD 3 34)) 34)]) (fun a => a.1 ≤ fu ∧ m_laws_markFormS_l1 a.1  a.2.1 a.2.2.1 a.2.2.2 = some r) (fu, x2, 0, x1) ⟨Nat.le_refl _, hF0⟩ ?_
 clear hF0
 rintro ⟨fu, g1, g2, g3⟩ ⟨hl4, hF1⟩
 dsimp only at hl4 hF1 ⊢
 obtain _ | fu := fu
 · rw [m_laws_markFormS_l1] at hF1; cases hF1
 rw [m_laws_markFormS_l1] at hF1
 refine awp_seq (awp_seq (awp_region ?_))
 refine s_mv ?_
 refine s_mv ?_
 refine s_lenD yU32 ?_
 refine s_lt ?_
 refine k_nil (k_seq ?_)
 refine w_cond hF1 ?_ ?_ <;> intro hc5 hF2
 refine awp_skip (k_seq (awp_seq (awp_block (awp_seq (awp_region ?_)))))
 iterate 3 refine s_mv ?_
 obtain ⟨v6, hv6, hF3⟩ := bind_some' hF2
 refine s_ixD (Form.rowD 3 34) hv6 yE32 ?_
 refine s_fa yF34_0 ?_
 refine s_stC (q := 9300) (off := 0) (u := .sc (.int .i64 g1)) (Form.rowD 3 34) (Form.mk g1 v6.name v6.n v6.scopes v6.kids) hv6 (by rw [(Form.rowDE _ _ _), (Form.rowDE _ _ _)]; rfl) yS3 yS34 (hw := by rw [(Form.rowDE _ _ _)]; rfl) ?_
 refine k_nil (k_seq (awp_seq (awp_region ?_)))
 refine s_mv ?_
 refine s_add rfl ?_
 refine s_as ?_
 refine k_nil (k_seq (awp_seq (awp_region ?_)))
 iterate 3 refine s_mv ?_
 obtain ⟨v7, hv7, hF4⟩ := bind_some' hF3
 refine s_pure [] (m_laws_markText_D_ok fu _ _ hv7) ?_
 obtain ⟨v8, hv8, hF5⟩ := bind_some' hF4
 refine s_ixD (Form.rowD 3 34) hv8 yE32 ?_
 refine s_fa yF34_1 ?_
 refine s_stC (q := 9300) (off := 1) (u := .sc (.str v7)) (Form.rowD 3 34) (Form.mk v8.kind v7 v8.n v8.scopes v8.kids) hv8 (by rw [(Form.rowDE _ _ _), (Form.rowDE _ _ _)]; rfl) yS9 yS34 (hw := by rw [(Form.rowDE _ _ _)]; rfl) ?_
 refine k_nil (k_seq (awp_seq (awp_region ?_)))
 refine s_mv ?_
 refine s_add rfl ?_
 refine s_as ?_
 refine k_nil (k_seq (awp_seq (awp_region ?_)))
 iterate 3 refine s_mv ?_
 obtain ⟨v9, hv9, hF6⟩ := bind_some' hF5
 refine s_ixD (Form.rowD 3 34) hv9 yE32 ?_
 refine s_fa yF34_2 ?_
 refine s_stC (q := 9300) (off := 2) (u := .sc (.int .i64 (w64 ((w64 (g1 + 1)) + 1)))) (Form.rowD 3 34) (Form.mk v9.kind v9.name (w64 ((w64 (g1 + 1)) + 1)) v9.scopes v9.kids) hv9 (by rw [(Form.rowDE _ _ _), (Form.rowDE _ _ _)]; rfl) yS3 yS34 (hw := by rw [(Form.rowDE _ _ _)]; rfl) ?_
 refine k_nil (k_seq (awp_seq (awp_region ?_)))
 refine s_mv ?_
 refine s_add rfl ?_
 refine s_as ?_
 refine k_nil (k_seq (awp_seq (awp_region ?_)))
 refine s_mv ?_
 refine s_mv ?_
 obtain ⟨v10, hv10, hF7⟩ := bind_some' hF6
 refine s_ixD (Form.rowD 3 34) hv10 yE32 ?_
 refine s_fa yF34_3 ?_
 refine s_ldHA (Form.rowD 3 34) rI v10.scopes plain_rI hv10 yA22 yS34 (hw := by rw [(Form.rowDE _ _ _)]; rfl) ?_
 refine s_mv ?_
 obtain ⟨v11, hv11, hF8⟩ := bind_some' hF7
 refine s_call [(9300, 38)] [] _ _ (m_laws_markIntS_D_ok fu _ _ _ hv11) ?_
 refine s_as ?_
 refine k_nil (k_seq ?_)
 refine awp_jsA 9300 38 [.sc (.int .i64 v10.kind), .sc (.str v10.name), .sc (.int .i64 v10.n), .ow 3 (v11.2.map rI), .ow 34 (v10.kids.map (Form.rowD 3 34))] hv10 (row := (Form.rowD 3 34)) (hj := by rw [(Form.rowDE _ _ _)]; rfl) (hf := by rw [(Form.rowDE _ _ _)]; rfl) ?_
 refine awp_nsH 9300 (row := (Form.rowD 3 34)) (fs := [.sc (.int .i64 v10.kind), .sc (.str v10.name), .sc (.int .i64 v10.n), .ow 3 (v11.2.map rI), .ow 34 (v10.kids.map (Form.rowD 3 34))]) (Form.mk v10.kind v10.name v10.n v11.2 v10.kids) (Form.rowDE _ _ _) ?_
 refine awp_region ?_
 refine s_mv ?_
 refine s_mv ?_
 obtain ⟨v12, hv12, hF9⟩ := bind_some' hF8
 refine s_ixD (Form.rowD 3 34) hv12 yE32 ?_
 refine s_fa yF34_4 ?_
 refine s_ldHD (Form.rowD 3 34) (Form.rowD 3 34) v12.kids hv12 yA32 yS34 (hw := by rw [(Form.rowDE _ _ _)]; rfl) ?_
 refine s_mv ?_
 obtain ⟨v13, hv13, hF10⟩ := bind_some' hF9
 refine s_call [(9300, 45)] [] _ _ (ih_m_laws_markFormS_D fu (by omega) _ _ _ hv13) ?_
 refine s_as ?_
 refine k_nil (k_blk (k_seq ?_))
 refine awp_jsD 9300 45 [.sc (.int .i64 v12.kind), .sc (.str v12.name), .sc (.int .i64 v12.n), .ow 3 (v12.scopes.map rI), .ow 34 (v13.2.map (Form.rowD 3 34))] hv12 (row := (Form.rowD 3 34)) (hj := by rw [(Form.rowDE _ _ _)]; rfl) (hf := by rw [(Form.rowDE _ _ _)]; rfl) ?_
 refine awp_nsH 9300 (row := (Form.rowD 3 34)) (fs := [.sc (.int .i64 v12.kind), .sc (.str v12.name), .sc (.int .i64 v12.n), .ow 3 (v12.scopes.map rI), .ow 34 (v13.2.map (Form.rowD 3 34))]) (Form.mk v12.kind v12.name v12.n v12.scopes v13.2) (Form.rowDE _ _ _) ?_
 refine awp_region ?_
 refine s_mv ?_
 refine s_add rfl ?_
 refine s_as ?_
 refine k_nil ?_
 exact s_rn (fu, v13.1, (w64 (g2 + 1)), (((((g3.set g2.toNat (Form.mk g1 v6.name v6.n v6.scopes v6.kids)).set g2.toNat (Form.mk v8.kind v7 v8.n v8.scopes v8.kids)).set g2.toNat (Form.mk v9.kind v9.name (w64 ((w64 (g1 + 1)) + 1)) v9.scopes v9.kids)).set g2.toNat (Form.mk v10.kind v10.name v10.n v11.2 v10.kids)).set g2.toNat (Form.mk v12.kind v12.name v12.n v12.scopes v13.2))) ⟨by first | omega | (dsimp only; omega), hF10⟩
 refine awp_exit (k_seq_exit (k_rnd_exit2 (k_blk_exit (k_seq (awp_seq (awp_region ?_))))))
 refine s_mv ?_
 refine s_as ?_
 refine k_nil (k_seq (awp_ret (k_fin ?_)))
 cases hF2
 exact ends_a _ [] Try.results30
end Go.Abs
