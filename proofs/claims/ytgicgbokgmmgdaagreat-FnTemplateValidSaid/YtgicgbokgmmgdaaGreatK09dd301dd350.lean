/- A part of the proof: what the functions that the law calls answer, as pure values. -/
import Derived.Test.YtgicgbokgmmgdaaGreatKa3b513877290
import Derived.Test.YtgicgbokgmmgdaaGreatKcf6e923ba96b
import Derived.Test.YtgicgbokgmmgdaaGreatKe135ec417791
set_option linter.unusedSimpArgs false
set_option linter.unusedVariables false
set_option maxRecDepth 100000
set_option maxHeartbeats 4000000
namespace Go.Abs
open Go.Proofs
theorem m_impl_formOk_all (fuel : Nat) : m_impl_formOk_AC fuel := by
 induction fuel using Nat.strongRecOn with
 | _ N ih =>
   cases N with
   | zero => exact (by intro x1 x2 o1 r h; rw [m_impl_formOk] at h; cases h)
   | succ fu => exact m_impl_formOk_st fu (fun k hk => (ih k (by omega)))
theorem m_impl_formOk_ok (fuel : Nat) : m_impl_formOk_AC fuel := (m_impl_formOk_all fuel)
def m_impl_FormValid_AC (fuel : Nat) : Prop := ∀ (x1 : Form) (r : Bool), m_impl_FormValid fuel x1 = some r → AC Tryz.prog 14 [.ag [.t (.sc (.int .i64 x1.kind)), .t (.sc (.str x1.name)), .t (.sc (.int .i64 x1.n)), .t (.sl (x1.scopes.map rI)), .t (.sl (x1.kids.map Form.row))]] noOb (.t (.sc (.bool r))) noOb
theorem m_impl_FormValid_ok (fuel : Nat) : m_impl_FormValid_AC fuel := by
 intro x1 r hF0
 unfold m_impl_FormValid at hF0
 refine AC_i [.t (.sc (.bool r))] Tryz.func14 rfl Tryz.ntmps14 ?_
 intro C hC
 refine awp_seq (awp_region ?_)
 refine s_box ?_
 refine s_as ?_
 refine k_nil (k_seq (awp_seq (awp_region ?_)))
 refine s_alloc yZ3 ?_
 refine s_stW yS3 ?_
 refine k_nil (k_seq (awp_seq (awp_region ?_)))
 refine s_ldW yA39 yS39 ?_
 obtain ⟨v1, hv1, hF1⟩ := bind_some' hF0
 refine s_call [(9000, 3)] [] _ _ (m_impl_formOk_ok fuel _ _ _ _ hv1) ?_
 refine s_as ?_
 refine k_nil (k_seq (awp_ret (k_fin ?_)))
 cases hF1
 exact ends_a [] [] Tryz.results14
def m_impl_isName_AC (fuel : Nat) : Prop := ∀ (x1 : Form) (r : Bool), m_impl_isName fuel x1 = some r → AC Tryz.prog 59 [.ag [.t (.sc (.int .i64 x1.kind)), .t (.sc (.str x1.name)), .t (.sc (.int .i64 x1.n)), .t (.sl (x1.scopes.map rI)), .t (.sl (x1.kids.map Form.row))]] noOb (.t (.sc (.bool r))) noOb
theorem m_impl_isName_ok (fuel : Nat) : m_impl_isName_AC fuel := by
 intro x1 r hF0
 unfold m_impl_isName at hF0
 refine AC_i [.t (.sc (.bool r))] Tryz.func59 rfl Tryz.ntmps59 ?_
 intro C hC
 refine awp_seq (awp_region ?_)
 refine s_box ?_
 refine s_as ?_
 refine k_nil (k_seq (awp_seq (awp_region ?_)))
 refine s_fa yF39_0 ?_
 refine s_ld1 yA3 ?_
 refine s_eq ?_
 refine s_mv ?_
 refine w_guard _ 6 hF0 ?_ ?_ <;> intro hc1 hF1
 refine s_ldW yA39 yS39 ?_
 obtain ⟨v2, hv2, hF2⟩ := bind_some' hF1
 refine s_pure [] (m_impl_FormValid_ok fuel _ _ hv2) ?_
 refine s_pkt ?_
 refine s_as ?_
 refine k_nil (k_seq (awp_ret (k_fin ?_)))
 cases hF2
 exact ends_a [] [] Tryz.results59
 refine r_no rfl (r_no rfl ?_)
 refine s_pkf ?_
 refine s_as ?_
 refine k_nil (k_seq (awp_ret (k_fin ?_)))
 cases hF1
 exact ends_a [] [] Tryz.results59
def m_slices_Equal_int_AC (fuel : Nat) : Prop := ∀ (x1 : (List Int)) (x2 : (List Int)) (r : Bool), m_slices_Equal_int fuel x1 x2 = some r → AC Tryz.prog 75 [.t (.sl (x1.map rI)), .t (.sl (x2.map rI))] noOb (.t (.sc (.bool r))) noOb
theorem m_slices_Equal_int_ok (fuel : Nat) : m_slices_Equal_int_AC fuel := by
 intro x1 x2 r hF0
 unfold m_slices_Equal_int at hF0
 refine AC_i [.t (.sc (.bool r))] Tryz.func75 rfl Tryz.ntmps75 ?_
 intro C hC
 refine awp_seq (awp_region ?_)
 refine s_as ?_
 refine k_nil (k_seq (awp_seq (awp_seq (awp_region ?_))))
 refine s_mv ?_
 refine s_lenT yU36 ?_
 refine s_mv ?_
 refine s_lenT yU36 ?_
 refine s_ne ?_
 refine k_nil (k_seq ?_)
 refine w_cond hF0 ?_ ?_ <;> intro hc1 hF1
 refine awp_seq (awp_region ?_)
 refine s_as ?_
 refine k_nil (k_seq (awp_ret (k_seq_ret (k_fin ?_))))
 cases hF1
 exact ends_a [] [] Tryz.results75
 refine awp_skip (k_seq (awp_seq (awp_seq (awp_region ?_))))
 refine s_mv ?_
 refine s_lenT yU36 ?_
 refine s_mv ?_
 refine k_nil (k_seq (awp_block ?_))
 refine awp_fr (β := Int) [4, 5, 13, 14, 15, 16, 17, 18, 19, 20, 21, 22, 23, 24, 25] [] [] (fun a => [(13, .t (.sc (.int .i64 a.2)))]) (fun a => []) (fun a => a.1 ≤ fuel ∧ m_slices_Equal_int_l1 a.1 x1 x2 a.2 = some r ∧ 0 ≤ a.2) (fuel, 0) ⟨Nat.le_refl _, hF1, by simp⟩ ?_
 clear hF1
 rintro ⟨fu, g2⟩ ⟨hl3, hF2, hn_g2⟩
 dsimp only at hl3 hF2 hn_g2 ⊢
 obtain _ | fu := fu
 · rw [m_slices_Equal_int_l1] at hF2; cases hF2
 rw [m_slices_Equal_int_l1] at hF2
 refine awp_seq (awp_region ?_)
 refine s_lt ?_
 refine k_nil (k_seq (awp_seq ?_))
 refine w_cond hF2 ?_ ?_ <;> intro hc4 hF3
 refine awp_lenT 0 (fun hb5 => ?_)
 refine awp_skip (k_seq (awp_seq (awp_block (awp_seq (awp_region ?_)))))
 refine s_mv ?_
 refine s_as ?_
 refine k_nil (k_seq (awp_seq ?_))
 refine awp_draw yMix (by kernel_rfl) ?_
 refine s_mv ?_
 refine s_mv ?_
 obtain ⟨v6, hv6, hF4⟩ := bind_some' hF3
 refine s_ixT rI hv6 rfl yE36 ?_
 refine s_ld1 yA3 ?_
 refine s_mv ?_
 refine s_mv ?_
 obtain ⟨v7, hv7, hF5⟩ := bind_some' hF4
 refine s_ixT rI hv7 rfl yE36 ?_
 refine s_ld1 yA3 ?_
 refine s_ne ?_
 refine k_nilD (by kernel_rfl) ?_
 refine k_seq ?_
 refine w_cond hF5 ?_ ?_ <;> intro hc8 hF6
 refine awp_seq (awp_region ?_)
 refine s_as ?_
 refine k_nil (k_seq (awp_ret (k_blk_ret (k_seq_ret (k_rnd_ret2 (k_blk_ret (k_seq_ret (k_fin ?_))))))))
 cases hF6
 exact ends_a [] [] Tryz.results75
 refine awp_skip (k_blk (k_seq (awp_region ?_)))
 refine s_add (winc2 hc4 hb5 hn_g2) ?_
 refine s_mv ?_
 refine k_nil ?_
 exact s_rn (fu, (g2 + 1)) ⟨by first | omega | (dsimp only; omega), hF6, by first | omega | (dsimp only; omega)⟩
 refine awp_exit (k_seq_exit (k_rnd_exit2 (k_blk_exit (k_seq (awp_seq (awp_region ?_))))))
 refine s_as ?_
 refine k_nil (k_seq (awp_ret (k_fin ?_)))
 cases hF3
 exact ends_a [] [] Tryz.results75
def m_impl_FormSame_AC (fuel : Nat) : Prop := ∀ (x1 : Form) (x2 : Form) (r : Bool), m_impl_FormSame fuel x1 x2 = some r → AC Tryz.prog 52 [.ag [.t (.sc (.int .i64 x1.kind)), .t (.sc (.str x1.name)), .t (.sc (.int .i64 x1.n)), .t (.sl (x1.scopes.map rI)), .t (.sl (x1.kids.map Form.row))], .ag [.t (.sc (.int .i64 x2.kind)), .t (.sc (.str x2.name)), .t (.sc (.int .i64 x2.n)), .t (.sl (x2.scopes.map rI)), .t (.sl (x2.kids.map Form.row))]] noOb (.t (.sc (.bool r))) noOb
def m_slices_EqualFunc_Form_FormSame_AC (fuel : Nat) : Prop := ∀ (x1 : (List Form)) (x2 : (List Form)) (r : Bool), m_slices_EqualFunc_Form_FormSame fuel x1 x2 = some r → AC Tryz.prog 111 [.t (.sl (x1.map Form.row)), .t (.sl (x2.map Form.row)), .fn 52 []] noOb (.t (.sc (.bool r))) noOb
theorem m_impl_FormSame_st (fu : Nat) (ih_m_impl_FormSame : ∀ k, k ≤ fu → m_impl_FormSame_AC k) (ih_m_slices_EqualFunc_Form_FormSame : ∀ k, k ≤ fu → m_slices_EqualFunc_Form_FormSame_AC k) : m_impl_FormSame_AC (fu + 1) := by
 intro x1 x2 r hF0
 rw [m_impl_FormSame] at hF0
 refine AC_i [.t (.sc (.bool r))] Tryz.func52 rfl Tryz.ntmps52 ?_
 intro C hC
 refine awp_seq (awp_region ?_)
 refine s_box ?_
 refine s_box ?_
 refine s_as ?_
 refine k_nil (k_seq (awp_seq (awp_region ?_)))
 refine s_fa yF39_0 ?_
 refine s_ld1 yA3 ?_
 refine s_fa yF39_0 ?_
 refine s_ld1 yA3 ?_
 refine s_eq ?_
 refine s_mv ?_
 refine w_guard _ 10 hF0 ?_ ?_ <;> intro hc1 hF1
 refine s_fa yF39_1 ?_
 refine s_ld1 yA9 ?_
 refine s_fa yF39_1 ?_
 refine s_ld1 yA9 ?_
 refine s_eqS ?_
 refine s_pkt ?_
 refine s_mv ?_
 refine w_guard _ 17 hF1 ?_ ?_ <;> intro hc2 hF2
 refine s_fa yF39_2 ?_
 refine s_ld1 yA3 ?_
 refine s_fa yF39_2 ?_
 refine s_ld1 yA3 ?_
 refine s_eq ?_
 refine s_pkt ?_
 refine s_mv ?_
 refine w_guard _ 24 hF2 ?_ ?_ <;> intro hc3 hF3
 refine s_fa yF39_3 ?_
 refine s_ld1 yA36 ?_
 refine s_fa yF39_3 ?_
 refine s_ld1 yA36 ?_
 obtain ⟨v4, hv4, hF4⟩ := bind_some' hF3
 refine s_pure [] (m_slices_Equal_int_ok fu _ _ _ hv4) ?_
 refine s_pkt ?_
 refine s_mv ?_
 refine w_guard _ 31 hF4 ?_ ?_ <;> intro hc5 hF5
 refine s_fa yF39_4 ?_
 refine s_ld1 yA37 ?_
 refine s_fa yF39_4 ?_
 refine s_ld1 yA37 ?_
 obtain ⟨v6, hv6, hF6⟩ := bind_some' hF5
 refine s_pure [] (ih_m_slices_EqualFunc_Form_FormSame fu (by omega) _ _ _ hv6) ?_
 refine s_pkt ?_
 refine s_as ?_
 refine k_nil (k_seq (awp_ret (k_fin ?_)))
 cases hF6
 exact ends_a [] [] Tryz.results52
 iterate 5 refine r_no rfl ?_
 refine s_pkf ?_
 refine s_as ?_
 refine k_nil (k_seq (awp_ret (k_fin ?_)))
 cases hF5
 exact ends_a [] [] Tryz.results52
 iterate 5 refine r_no rfl ?_
 refine s_pkf ?_
 refine s_mv ?_
 iterate 5 refine r_no rfl ?_
 refine s_pkf ?_
 refine s_as ?_
 refine k_nil (k_seq (awp_ret (k_fin ?_)))
 cases hF3
 exact ends_a [] [] Tryz.results52
 iterate 5 refine r_no rfl ?_
 refine s_pkf ?_
 refine s_mv ?_
 iterate 5 refine r_no rfl ?_
 refine s_pkf ?_
 refine s_mv ?_
 iterate 5 refine r_no rfl ?_
 refine s_pkf ?_
 refine s_as ?_
 refine k_nil (k_seq (awp_ret (k_fin ?_)))
 cases hF2
 exact ends_a [] [] Tryz.results52
 iterate 5 refine r_no rfl ?_
 refine s_pkf ?_
 refine s_mv ?_
 iterate 5 refine r_no rfl ?_
 refine s_pkf ?_
 refine s_mv ?_
 iterate 5 refine r_no rfl ?_
 refine s_pkf ?_
 refine s_mv ?_
 iterate 5 refine r_no rfl ?_
 refine s_pkf ?_
 refine s_as ?_
 refine k_nil (k_seq (awp_ret (k_fin ?_)))
 cases hF1
 exact ends_a [] [] Tryz.results52
theorem m_slices_EqualFunc_Form_FormSame_st (fu : Nat) (ih_m_impl_FormSame : ∀ k, k ≤ fu → m_impl_FormSame_AC k) (ih_m_slices_EqualFunc_Form_FormSame : ∀ k, k ≤ fu → m_slices_EqualFunc_Form_FormSame_AC k) : m_slices_EqualFunc_Form_FormSame_AC (fu + 1) := by
 intro x1 x2 r hF0
 rw [m_slices_EqualFunc_Form_FormSame] at hF0
 refine AC_i [.t (.sc (.bool r))] Tryz.func111 rfl Tryz.ntmps111 ?_
 intro C hC
 refine awp_seq (awp_region ?_)
 refine s_as ?_
 refine k_nil (k_seq (awp_seq (awp_seq (awp_region ?_))))
 refine s_mv ?_
 refine s_lenT yU37 ?_
 refine s_mv ?_
 refine s_lenT yU37 ?_
 refine s_ne ?_
 refine k_nil (k_seq ?_)
 refine w_cond hF0 ?_ ?_ <;> intro hc1 hF1
 refine awp_seq (awp_region ?_)
 refine s_as ?_
 refine k_nil (k_seq (awp_ret (k_seq_ret (k_fin ?_))))
 cases hF1
 exact ends_a [] [] Tryz.results111
 refine awp_skip (k_seq (awp_seq (awp_seq (awp_region ?_))))
 refine s_mv ?_
 refine s_lenT yU37 ?_
 refine s_mv ?_
 refine k_nil (k_seq (awp_block ?_))
 refine awp_fr (β := Int) [6, 7, 8, 9, 17, 18, 19, 20, 21, 22, 23, 24, 25, 26, 27, 28, 29, 30, 31] [] [8, 9] (fun a => [(17, .t (.sc (.int .i64 a.2)))]) (fun a => []) (fun a => a.1 ≤ fu ∧ m_slices_EqualFunc_Form_FormSame_l1 a.1 x1 x2 a.2 = some r ∧ 0 ≤ a.2) (fu, 0) ⟨Nat.le_refl _, hF1, by simp⟩ ?_
 clear hF1
 rintro ⟨fu, g2⟩ ⟨hl3, hF2, hn_g2⟩
 dsimp only at hl3 hF2 hn_g2 ⊢
 obtain _ | fu := fu
 · rw [m_slices_EqualFunc_Form_FormSame_l1] at hF2; cases hF2
 rw [m_slices_EqualFunc_Form_FormSame_l1] at hF2
 refine awp_seq (awp_region ?_)
 refine s_lt ?_
 refine k_nil (k_seq (awp_seq ?_))
 refine w_cond hF2 ?_ ?_ <;> intro hc4 hF3
 refine awp_lenT 0 (fun hb5 => ?_)
 refine awp_skip (k_seq (awp_seq (awp_block (awp_seq (awp_region ?_)))))
 refine s_mv ?_
 obtain ⟨v6, hv6, hF4⟩ := bind_some' hF3
 refine s_ixT Form.row hv6 (Form.row_eq _) yE37 ?_
 refine s_ldN yA39 yS39 ?_
 refine s_alloc yZ39 ?_
 refine s_as ?_
 refine s_stW yS39 ?_
 refine k_nil (k_seq (awp_seq (awp_region ?_)))
 refine s_mv ?_
 refine s_mv ?_
 obtain ⟨v7, hv7, hF5⟩ := bind_some' hF4
 refine s_ixT Form.row hv7 (Form.row_eq _) yE37 ?_
 refine s_ldN yA39 yS39 ?_
 refine s_alloc yZ39 ?_
 refine s_stW yS39 ?_
 refine k_nil (k_seq (awp_seq (awp_region ?_)))
 refine s_mv ?_
 refine s_ldW yA39 yS39 ?_
 refine s_ldW yA39 yS39 ?_
 obtain ⟨v8, hv8, hF6⟩ := bind_some' hF5
 refine s_pure [] (ih_m_impl_FormSame fu (by omega) _ _ _ hv8) ?_
 refine s_not ?_
 refine k_nil (k_seq ?_)
 refine w_cond hF6 ?_ ?_ <;> intro hc9 hF7
 refine awp_seq (awp_region ?_)
 refine s_as ?_
 refine k_nil (k_seq (awp_ret (k_blk_ret (k_seq_ret (k_rnd_ret2 (k_blk_ret (k_seq_ret (k_fin ?_))))))))
 cases hF7
 exact ends_a [] [] Tryz.results111
 refine awp_skip (k_blk (k_seq (awp_region ?_)))
 refine s_add (winc2 hc4 hb5 hn_g2) ?_
 refine s_mv ?_
 refine k_nil ?_
 exact s_rn (fu, (g2 + 1)) ⟨by first | omega | (dsimp only; omega), hF7, by first | omega | (dsimp only; omega)⟩
 refine awp_exit (k_seq_exit (k_rnd_exit2 (k_blk_exit (k_seq (awp_seq (awp_region ?_))))))
 refine s_as ?_
 refine k_nil (k_seq (awp_ret (k_fin ?_)))
 cases hF3
 exact ends_a [] [] Tryz.results111
theorem m_impl_FormSame_all (fuel : Nat) : m_impl_FormSame_AC fuel ∧ m_slices_EqualFunc_Form_FormSame_AC fuel := by
 induction fuel using Nat.strongRecOn with
 | _ N ih =>
   cases N with
   | zero => exact ⟨(by intro x1 x2 r h; rw [m_impl_FormSame] at h; cases h), (by intro x1 x2 r h; rw [m_slices_EqualFunc_Form_FormSame] at h; cases h)⟩
   | succ fu => exact ⟨m_impl_FormSame_st fu (fun k hk => (ih k (by omega)).1) (fun k hk => (ih k (by omega)).2), m_slices_EqualFunc_Form_FormSame_st fu (fun k hk => (ih k (by omega)).1) (fun k hk => (ih k (by omega)).2)⟩
theorem m_impl_FormSame_ok (fuel : Nat) : m_impl_FormSame_AC fuel := (m_impl_FormSame_all fuel).1
def m_impl_hitOk_AC (fuel : Nat) : Prop := ∀ (x1 : Hit) (r : Bool), m_impl_hitOk fuel x1 = some r → AC Tryz.prog 47 [.ag [.t (.sc (.int .i64 x1.name.kind)), .t (.sc (.str x1.name.name)), .t (.sc (.int .i64 x1.name.n)), .t (.sl (x1.name.scopes.map rI)), .t (.sl (x1.name.kids.map Form.row)), .t (.sc (.int .i64 x1.depth)), .t (.sc (.int .i64 x1.one.kind)), .t (.sc (.str x1.one.name)), .t (.sc (.int .i64 x1.one.n)), .t (.sl (x1.one.scopes.map rI)), .t (.sl (x1.one.kids.map Form.row)), .t (.sl (x1.many.map Hit.row))]] noOb (.t (.sc (.bool r))) noOb
def m_impl_hitOk_1_AC (fuel : Nat) : Prop := ∀ (x1 : Hit) (o1 : Hit) (r : Bool), m_impl_hitOk_1 fuel x1 o1 = some r → AC Tryz.prog 107 [.ag [.t (.sc (.int .i64 x1.name.kind)), .t (.sc (.str x1.name.name)), .t (.sc (.int .i64 x1.name.n)), .t (.sl (x1.name.scopes.map rI)), .t (.sl (x1.name.kids.map Form.row)), .t (.sc (.int .i64 x1.depth)), .t (.sc (.int .i64 x1.one.kind)), .t (.sc (.str x1.one.name)), .t (.sc (.int .i64 x1.one.n)), .t (.sl (x1.one.scopes.map rI)), .t (.sl (x1.one.kids.map Form.row)), .t (.sl (x1.many.map Hit.row))], .rf 9000 0] (objs [(9000, .box [.t (.sc (.int .i64 o1.name.kind)), .t (.sc (.str o1.name.name)), .t (.sc (.int .i64 o1.name.n)), .t (.sl (o1.name.scopes.map rI)), .t (.sl (o1.name.kids.map Form.row)), .t (.sc (.int .i64 o1.depth)), .t (.sc (.int .i64 o1.one.kind)), .t (.sc (.str o1.one.name)), .t (.sc (.int .i64 o1.one.n)), .t (.sl (o1.one.scopes.map rI)), .t (.sl (o1.one.kids.map Form.row)), .t (.sl (o1.many.map Hit.row))])]) (.t (.sc (.bool r))) (objs [(9000, .box [.t (.sc (.int .i64 o1.name.kind)), .t (.sc (.str o1.name.name)), .t (.sc (.int .i64 o1.name.n)), .t (.sl (o1.name.scopes.map rI)), .t (.sl (o1.name.kids.map Form.row)), .t (.sc (.int .i64 o1.depth)), .t (.sc (.int .i64 o1.one.kind)), .t (.sc (.str o1.one.name)), .t (.sc (.int .i64 o1.one.n)), .t (.sl (o1.one.scopes.map rI)), .t (.sl (o1.one.kids.map Form.row)), .t (.sl (o1.many.map Hit.row))])])
def m_slices_ContainsFunc_Hit_hitOk_1_AC (fuel : Nat) : Prop := ∀ (x1 : (List Hit)) (o1 : Hit) (r : Bool), m_slices_ContainsFunc_Hit_hitOk_1 fuel x1 o1 = some r → AC Tryz.prog 106 [.t (.sl (x1.map Hit.row)), .fn 107 [.rf 9000 0]] (objs [(9000, .box [.t (.sc (.int .i64 o1.name.kind)), .t (.sc (.str o1.name.name)), .t (.sc (.int .i64 o1.name.n)), .t (.sl (o1.name.scopes.map rI)), .t (.sl (o1.name.kids.map Form.row)), .t (.sc (.int .i64 o1.depth)), .t (.sc (.int .i64 o1.one.kind)), .t (.sc (.str o1.one.name)), .t (.sc (.int .i64 o1.one.n)), .t (.sl (o1.one.scopes.map rI)), .t (.sl (o1.one.kids.map Form.row)), .t (.sl (o1.many.map Hit.row))])]) (.t (.sc (.bool r))) (objs [(9000, .box [.t (.sc (.int .i64 o1.name.kind)), .t (.sc (.str o1.name.name)), .t (.sc (.int .i64 o1.name.n)), .t (.sl (o1.name.scopes.map rI)), .t (.sl (o1.name.kids.map Form.row)), .t (.sc (.int .i64 o1.depth)), .t (.sc (.int .i64 o1.one.kind)), .t (.sc (.str o1.one.name)), .t (.sc (.int .i64 o1.one.n)), .t (.sl (o1.one.scopes.map rI)), .t (.sl (o1.one.kids.map Form.row)), .t (.sl (o1.many.map Hit.row))])])
def m_slices_IndexFunc_Hit_hitOk_1_AC (fuel : Nat) : Prop := ∀ (x1 : (List Hit)) (o1 : Hit) (r : Int), m_slices_IndexFunc_Hit_hitOk_1 fuel x1 o1 = some r → AC Tryz.prog 108 [.t (.sl (x1.map Hit.row)), .fn 107 [.rf 9000 0]] (objs [(9000, .box [.t (.sc (.int .i64 o1.name.kind)), .t (.sc (.str o1.name.name)), .t (.sc (.int .i64 o1.name.n)), .t (.sl (o1.name.scopes.map rI)), .t (.sl (o1.name.kids.map Form.row)), .t (.sc (.int .i64 o1.depth)), .t (.sc (.int .i64 o1.one.kind)), .t (.sc (.str o1.one.name)), .t (.sc (.int .i64 o1.one.n)), .t (.sl (o1.one.scopes.map rI)), .t (.sl (o1.one.kids.map Form.row)), .t (.sl (o1.many.map Hit.row))])]) (.t (.sc (.int .i64 r))) (objs [(9000, .box [.t (.sc (.int .i64 o1.name.kind)), .t (.sc (.str o1.name.name)), .t (.sc (.int .i64 o1.name.n)), .t (.sl (o1.name.scopes.map rI)), .t (.sl (o1.name.kids.map Form.row)), .t (.sc (.int .i64 o1.depth)), .t (.sc (.int .i64 o1.one.kind)), .t (.sc (.str o1.one.name)), .t (.sc (.int .i64 o1.one.n)), .t (.sl (o1.one.scopes.map rI)), .t (.sl (o1.one.kids.map Form.row)), .t (.sl (o1.many.map Hit.row))])])
theorem m_impl_hitOk_st (fu : Nat) (ih_m_impl_hitOk : ∀ k, k ≤ fu → m_impl_hitOk_AC k) (ih_m_impl_hitOk_1 : ∀ k, k ≤ fu → m_impl_hitOk_1_AC k) (ih_m_slices_ContainsFunc_Hit_hitOk_1 : ∀ k, k ≤ fu → m_slices_ContainsFunc_Hit_hitOk_1_AC k) (ih_m_slices_IndexFunc_Hit_hitOk_1 : ∀ k, k ≤ fu → m_slices_IndexFunc_Hit_hitOk_1_AC k) : m_impl_hitOk_AC (fu + 1) := by
 intro x1 r hF0
 rw [m_impl_hitOk] at hF0
 refine AC_i [.t (.sc (.bool r))] Tryz.func47 rfl Tryz.ntmps47 ?_
 intro C hC
 refine awp_seq (awp_region ?_)
 refine s_box ?_
 refine s_as ?_
 refine k_nil (k_seq (awp_seq (awp_seq (awp_region ?_))))
 refine s_fa yF50_0 ?_
 refine s_ldN yA39 yS39 ?_
 obtain ⟨v1, hv1, hF1⟩ := bind_some' hF0
 refine s_pure [] (m_impl_isName_ok fu _ _ hv1) ?_
 refine s_not ?_
 refine s_mv ?_
 refine w_guard _ 7 hF1 ?_ ?_ <;> intro hc2 hF2
 iterate 4 refine r_no rfl ?_
 refine s_pkt ?_
 refine s_mv ?_
 iterate 4 refine r_no rfl ?_
 refine s_pkt ?_
 refine s_mv ?_
 iterate 4 refine r_no rfl ?_
 refine s_pkt ?_
 refine k_nil (k_seq (awp_true rfl (awp_seq (awp_region ?_))))
 refine s_as ?_
 refine k_nil (k_seq (awp_ret (k_seq_ret (k_fin ?_))))
 cases hF2
 exact ends_a [] [] Tryz.results47
 refine s_fa yF50_0 ?_
 refine s_fa yF39_1 ?_
 refine s_ld1 yA9 ?_
 refine s_eqS ?_
 refine s_pkf ?_
 refine s_mv ?_
 refine w_guard _ 13 hF2 ?_ ?_ <;> intro hc3 hF3
 iterate 4 refine r_no rfl ?_
 refine s_pkt ?_
 refine s_mv ?_
 iterate 4 refine r_no rfl ?_
 refine s_pkt ?_
 refine k_nil (k_seq (awp_true rfl (awp_seq (awp_region ?_))))
 refine s_as ?_
 refine k_nil (k_seq (awp_ret (k_seq_ret (k_fin ?_))))
 cases hF3
 exact ends_a [] [] Tryz.results47
 refine s_fa yF50_0 ?_
 refine s_fa yF39_1 ?_
 refine s_ld1 yA9 ?_
 refine s_eqS ?_
 refine s_pkf ?_
 refine s_mv ?_
 refine w_guard _ 19 hF3 ?_ ?_ <;> intro hc4 hF4
 iterate 4 refine r_no rfl ?_
 refine s_pkt ?_
 refine k_nil (k_seq (awp_true rfl (awp_seq (awp_region ?_))))
 refine s_as ?_
 refine k_nil (k_seq (awp_ret (k_seq_ret (k_fin ?_))))
 cases hF4
 exact ends_a [] [] Tryz.results47
 refine s_fa yF50_1 ?_
 refine s_ld1 yA3 ?_
 obtain ⟨v5, hv5, hF5⟩ := bind_some' hF4
 refine s_pure [] (m_impl_within_ok fu _ _ _ _ hv5) ?_
 refine s_not ?_
 refine s_pkf ?_
 refine k_nil (k_seq ?_)
 refine w_cond hF5 ?_ ?_ <;> intro hc6 hF6
 refine awp_seq (awp_region ?_)
 refine s_as ?_
 refine k_nil (k_seq (awp_ret (k_seq_ret (k_fin ?_))))
 cases hF6
 exact ends_a [] [] Tryz.results47
 refine awp_skip (k_seq (awp_seq (awp_seq (awp_region ?_))))
 refine s_fa yF50_1 ?_
 refine s_ld1 yA3 ?_
 refine s_eq ?_
 refine k_nil (k_seq ?_)
 refine w_cond hF6 ?_ ?_ <;> intro hc7 hF7
 refine awp_seq (awp_region ?_)
 refine s_fa yF50_2 ?_
 refine s_ldN yA39 yS39 ?_
 obtain ⟨v8, hv8, hF8⟩ := bind_some' hF7
 refine s_pure [] (m_impl_FormValid_ok fu _ _ hv8) ?_
 refine s_mv ?_
 refine w_guard _ 31 hF8 ?_ ?_ <;> intro hc9 hF9
 refine s_fa yF50_3 ?_
 refine s_ld1 yA40 ?_
 refine s_lenT yU40 ?_
 refine s_eq ?_
 refine s_pkt ?_
 refine s_as ?_
 refine k_nil (k_seq (awp_ret (k_seq_ret (k_fin ?_))))
 cases hF9
 exact ends_a [] [] Tryz.results47
 iterate 4 refine r_no rfl ?_
 refine s_pkf ?_
 refine s_as ?_
 refine k_nil (k_seq (awp_ret (k_seq_ret (k_fin ?_))))
 cases hF9
 exact ends_a [] [] Tryz.results47
 refine awp_skip (k_seq (awp_seq (awp_region ?_)))
 refine s_fa yF50_2 ?_
 refine s_ldN yA39 yS39 ?_
 refine s_bld yZ39 yL39 ?_
 obtain ⟨v10, hv10, hF8⟩ := bind_some' hF7
 refine s_pure [] (m_impl_FormSame_ok fu _ _ _ hv10) ?_
 refine s_mv ?_
 refine w_guard _ 41 hF8 ?_ ?_ <;> intro hc11 hF9
 refine s_fa yF50_3 ?_
 refine s_ld1 yA40 ?_
 refine s_lenT yU40 ?_
 refine s_le ?_
 refine s_pkt ?_
 refine s_mv ?_
 refine w_guard _ 47 hF9 ?_ ?_ <;> intro hc12 hF10
 refine s_fa yF50_3 ?_
 refine s_ld1 yA40 ?_
 refine s_fn ?_
 obtain ⟨v13, hv13, hF11⟩ := bind_some' hF10
 refine s_call [(9000, 1)] [] _ _ (ih_m_slices_ContainsFunc_Hit_hitOk_1 fu (by omega) _ _ _ hv13) ?_
 refine s_not ?_
 refine s_pkt ?_
 refine s_as ?_
 refine k_nil (k_seq (awp_ret (k_fin ?_)))
 cases hF11
 exact ends_a [] [] Tryz.results47
 iterate 5 refine r_no rfl ?_
 refine s_pkf ?_
 refine s_as ?_
 refine k_nil (k_seq (awp_ret (k_fin ?_)))
 cases hF10
 exact ends_a [] [] Tryz.results47
 iterate 4 refine r_no rfl ?_
 refine s_pkf ?_
 refine s_mv ?_
 iterate 5 refine r_no rfl ?_
 refine s_pkf ?_
 refine s_as ?_
 refine k_nil (k_seq (awp_ret (k_fin ?_)))
 cases hF9
 exact ends_a [] [] Tryz.results47
theorem m_impl_hitOk_1_st (fu : Nat) (ih_m_impl_hitOk : ∀ k, k ≤ fu → m_impl_hitOk_AC k) (ih_m_impl_hitOk_1 : ∀ k, k ≤ fu → m_impl_hitOk_1_AC k) (ih_m_slices_ContainsFunc_Hit_hitOk_1 : ∀ k, k ≤ fu → m_slices_ContainsFunc_Hit_hitOk_1_AC k) (ih_m_slices_IndexFunc_Hit_hitOk_1 : ∀ k, k ≤ fu → m_slices_IndexFunc_Hit_hitOk_1_AC k) : m_impl_hitOk_1_AC (fu + 1) := by
 intro x1 o1 r hF0
 rw [m_impl_hitOk_1] at hF0
 refine AC_i [.t (.sc (.bool r))] Tryz.func107 rfl Tryz.ntmps107 ?_
 intro C hC
 refine awp_seq (awp_region ?_)
 refine s_box ?_
 refine s_as ?_
 refine k_nil (k_seq (awp_seq (awp_region ?_)))
 refine s_fa yF50_0 ?_
 refine s_ldN yA39 yS39 ?_
 refine s_fa yF50_0 ?_
 refine s_ldN yA39 yS39 ?_
 obtain ⟨v1, hv1, hF1⟩ := bind_some' hF0
 refine s_pure [] (m_impl_FormSame_ok fu _ _ _ hv1) ?_
 refine s_not ?_
 refine s_mv ?_
 refine w_guard _ 10 hF1 ?_ ?_ <;> intro hc2 hF2
 iterate 6 refine r_no rfl ?_
 refine s_pkt ?_
 refine s_mv ?_
 iterate 3 refine r_no rfl ?_
 refine s_pkt ?_
 refine s_as ?_
 refine k_nil (k_seq (awp_ret (k_fin ?_)))
 cases hF2
 exact ends_a _ [] Tryz.results107
 refine s_fa yF50_1 ?_
 refine s_ld1 yA3 ?_
 refine s_fa yF50_1 ?_
 refine s_ld1 yA3 ?_
 refine s_sub rfl ?_
 refine s_ne ?_
 refine s_pkf ?_
 refine s_mv ?_
 refine w_guard _ 18 hF2 ?_ ?_ <;> intro hc3 hF3
 iterate 3 refine r_no rfl ?_
 refine s_pkt ?_
 refine s_as ?_
 refine k_nil (k_seq (awp_ret (k_fin ?_)))
 cases hF3
 exact ends_a _ [] Tryz.results107
 refine s_ldW yA50 yS50 ?_
 obtain ⟨v4, hv4, hF4⟩ := bind_some' hF3
 refine s_pure [] (ih_m_impl_hitOk fu (by omega) _ _ hv4) ?_
 refine s_not ?_
 refine s_pkf ?_
 refine s_as ?_
 refine k_nil (k_seq (awp_ret (k_fin ?_)))
 cases hF4
 exact ends_a _ [] Tryz.results107
theorem m_slices_ContainsFunc_Hit_hitOk_1_st (fu : Nat) (ih_m_impl_hitOk : ∀ k, k ≤ fu → m_impl_hitOk_AC k) (ih_m_impl_hitOk_1 : ∀ k, k ≤ fu → m_impl_hitOk_1_AC k) (ih_m_slices_ContainsFunc_Hit_hitOk_1 : ∀ k, k ≤ fu → m_slices_ContainsFunc_Hit_hitOk_1_AC k) (ih_m_slices_IndexFunc_Hit_hitOk_1 : ∀ k, k ≤ fu → m_slices_IndexFunc_Hit_hitOk_1_AC k) : m_slices_ContainsFunc_Hit_hitOk_1_AC (fu + 1) := by
 intro x1 o1 r hF0
 rw [m_slices_ContainsFunc_Hit_hitOk_1] at hF0
 refine AC_i [.t (.sc (.bool r))] Tryz.func106 rfl Tryz.ntmps106 ?_
 intro C hC
 refine awp_seq (awp_region ?_)
 refine s_as ?_
 refine k_nil (k_seq (awp_seq (awp_region ?_)))
 refine s_mv ?_
 refine s_mv ?_
 obtain ⟨v1, hv1, hF1⟩ := bind_some' hF0
 refine s_call [(9000, 9000)] [] _ _ (ih_m_slices_IndexFunc_Hit_hitOk_1 fu (by omega) _ _ _ hv1) ?_
 refine s_ge ?_
 refine s_as ?_
 refine k_nil (k_seq (awp_ret (k_fin ?_)))
 cases hF1
 exact ends_a _ [] Tryz.results106
theorem m_slices_IndexFunc_Hit_hitOk_1_st (fu : Nat) (ih_m_impl_hitOk : ∀ k, k ≤ fu → m_impl_hitOk_AC k) (ih_m_impl_hitOk_1 : ∀ k, k ≤ fu → m_impl_hitOk_1_AC k) (ih_m_slices_ContainsFunc_Hit_hitOk_1 : ∀ k, k ≤ fu → m_slices_ContainsFunc_Hit_hitOk_1_AC k) (ih_m_slices_IndexFunc_Hit_hitOk_1 : ∀ k, k ≤ fu → m_slices_IndexFunc_Hit_hitOk_1_AC k) : m_slices_IndexFunc_Hit_hitOk_1_AC (fu + 1) := by
 intro x1 o1 r hF0
 rw [m_slices_IndexFunc_Hit_hitOk_1] at hF0
 refine AC_i [.t (.sc (.int .i64 r))] Tryz.func108 rfl Tryz.ntmps108 ?_
 intro C hC
 refine awp_seq (awp_region ?_)
 refine s_as ?_
 refine k_nil (k_seq (awp_seq (awp_seq (awp_region ?_))))
 refine s_mv ?_
 refine s_lenT yU40 ?_
 refine s_mv ?_
 refine k_nil (k_seq (awp_block ?_))
 refine awp_fr (β := Int) [4, 5, 8, 9, 10, 11, 12, 13, 14, 15, 16, 17, 18] [] [] (fun a => [(8, .t (.sc (.int .i64 a.2)))]) (fun a => []) (fun a => a.1 ≤ fu ∧ m_slices_IndexFunc_Hit_hitOk_1_l1 a.1 x1 o1 a.2 = some r ∧ 0 ≤ a.2) (fu, 0) ⟨Nat.le_refl _, hF0, by simp⟩ ?_
 clear hF0
 rintro ⟨fu, g1⟩ ⟨hl2, hF1, hn_g1⟩
 dsimp only at hl2 hF1 hn_g1 ⊢
 obtain _ | fu := fu
 · rw [m_slices_IndexFunc_Hit_hitOk_1_l1] at hF1; cases hF1
 rw [m_slices_IndexFunc_Hit_hitOk_1_l1] at hF1
 refine awp_seq (awp_region ?_)
 refine s_lt ?_
 refine k_nil (k_seq (awp_seq ?_))
 refine w_cond hF1 ?_ ?_ <;> intro hc3 hF2
 refine awp_lenT 0 (fun hb4 => ?_)
 refine awp_skip (k_seq (awp_seq (awp_block (awp_seq (awp_region ?_)))))
 refine s_mv ?_
 refine s_as ?_
 refine k_nil (k_seq (awp_seq (awp_region ?_)))
 iterate 3 refine s_mv ?_
 obtain ⟨v5, hv5, hF3⟩ := bind_some' hF2
 refine s_ixT Hit.row hv5 (Hit.row_eq _) yE40 ?_
 refine s_ldN yA50 yS50 ?_
 obtain ⟨v6, hv6, hF4⟩ := bind_some' hF3
 refine s_call [(9000, 9000)] [] _ _ (ih_m_impl_hitOk_1 fu (by omega) _ _ _ hv6) ?_
 refine k_nil (k_seq ?_)
 refine w_cond hF4 ?_ ?_ <;> intro hc7 hF5
 refine awp_seq (awp_region ?_)
 refine s_mv ?_
 refine s_as ?_
 refine k_nil (k_seq (awp_ret (k_blk_ret (k_seq_ret (k_rnd_ret2 (k_blk_ret (k_seq_ret (k_fin ?_))))))))
 cases hF5
 exact ends_a _ [] Tryz.results108
 refine awp_skip (k_blk (k_seq (awp_region ?_)))
 refine s_add (winc2 hc3 hb4 hn_g1) ?_
 refine s_mv ?_
 refine k_nil ?_
 exact s_rn (fu, (g1 + 1)) ⟨by first | omega | (dsimp only; omega), hF5, by first | omega | (dsimp only; omega)⟩
 refine awp_exit (k_seq_exit (k_rnd_exit2 (k_blk_exit (k_seq (awp_seq (awp_region ?_))))))
 refine s_as ?_
 refine k_nil (k_seq (awp_ret (k_fin ?_)))
 cases hF2
 exact ends_a _ [] Tryz.results108
theorem m_impl_hitOk_all (fuel : Nat) : m_impl_hitOk_AC fuel ∧ m_impl_hitOk_1_AC fuel ∧ m_slices_ContainsFunc_Hit_hitOk_1_AC fuel ∧ m_slices_IndexFunc_Hit_hitOk_1_AC fuel := by
 induction fuel using Nat.strongRecOn with
 | _ N ih =>
   cases N with
   | zero => exact ⟨(by intro x1 r h; rw [m_impl_hitOk] at h; cases h), (by intro x1 o1 r h; rw [m_impl_hitOk_1] at h; cases h), (by intro x1 o1 r h; rw [m_slices_ContainsFunc_Hit_hitOk_1] at h; cases h), (by intro x1 o1 r h; rw [m_slices_IndexFunc_Hit_hitOk_1] at h; cases h)⟩
   | succ fu => exact ⟨m_impl_hitOk_st fu (fun k hk => (ih k (by omega)).1) (fun k hk => (ih k (by omega)).2.1) (fun k hk => (ih k (by omega)).2.2.1) (fun k hk => (ih k (by omega)).2.2.2), m_impl_hitOk_1_st fu (fun k hk => (ih k (by omega)).1) (fun k hk => (ih k (by omega)).2.1) (fun k hk => (ih k (by omega)).2.2.1) (fun k hk => (ih k (by omega)).2.2.2), m_slices_ContainsFunc_Hit_hitOk_1_st fu (fun k hk => (ih k (by omega)).1) (fun k hk => (ih k (by omega)).2.1) (fun k hk => (ih k (by omega)).2.2.1) (fun k hk => (ih k (by omega)).2.2.2), m_slices_IndexFunc_Hit_hitOk_1_st fu (fun k hk => (ih k (by omega)).1) (fun k hk => (ih k (by omega)).2.1) (fun k hk => (ih k (by omega)).2.2.1) (fun k hk => (ih k (by omega)).2.2.2)⟩
theorem m_impl_hitOk_ok (fuel : Nat) : m_impl_hitOk_AC fuel := (m_impl_hitOk_all fuel).1
def m_impl_hitAt_1_AC (fuel : Nat) : Prop := ∀ (x1 : Hit) (o1 : Form) (r : Bool), m_impl_hitAt_1 fuel x1 o1 = some r → AC Tryz.prog 109 [.ag [.t (.sc (.int .i64 x1.name.kind)), .t (.sc (.str x1.name.name)), .t (.sc (.int .i64 x1.name.n)), .t (.sl (x1.name.scopes.map rI)), .t (.sl (x1.name.kids.map Form.row)), .t (.sc (.int .i64 x1.depth)), .t (.sc (.int .i64 x1.one.kind)), .t (.sc (.str x1.one.name)), .t (.sc (.int .i64 x1.one.n)), .t (.sl (x1.one.scopes.map rI)), .t (.sl (x1.one.kids.map Form.row)), .t (.sl (x1.many.map Hit.row))], .rf 9000 0] (objs [(9000, .box [.t (.sc (.int .i64 o1.kind)), .t (.sc (.str o1.name)), .t (.sc (.int .i64 o1.n)), .t (.sl (o1.scopes.map rI)), .t (.sl (o1.kids.map Form.row))])]) (.t (.sc (.bool r))) (objs [(9000, .box [.t (.sc (.int .i64 o1.kind)), .t (.sc (.str o1.name)), .t (.sc (.int .i64 o1.n)), .t (.sl (o1.scopes.map rI)), .t (.sl (o1.kids.map Form.row))])])
theorem m_impl_hitAt_1_ok (fuel : Nat) : m_impl_hitAt_1_AC fuel := by
 intro x1 o1 r hF0
 unfold m_impl_hitAt_1 at hF0
 refine AC_i [.t (.sc (.bool r))] Tryz.func109 rfl Tryz.ntmps109 ?_
 intro C hC
 refine awp_seq (awp_region ?_)
 refine s_box ?_
 refine s_as ?_
 refine k_nil (k_seq (awp_seq (awp_region ?_)))
 refine s_fa yF50_0 ?_
 refine s_ldN yA39 yS39 ?_
 refine s_ldW yA39 yS39 ?_
 obtain ⟨v1, hv1, hF1⟩ := bind_some' hF0
 refine s_pure [] (m_impl_FormSame_ok fuel _ _ _ hv1) ?_
 refine s_as ?_
 refine k_nil (k_seq (awp_ret (k_fin ?_)))
 cases hF1
 exact ends_a _ [] Tryz.results109
def m_slices_IndexFunc_Hit_hitAt_1_AC (fuel : Nat) : Prop := ∀ (x1 : (List Hit)) (o1 : Form) (r : Int), m_slices_IndexFunc_Hit_hitAt_1 fuel x1 o1 = some r → AC Tryz.prog 108 [.t (.sl (x1.map Hit.row)), .fn 109 [.rf 9000 0]] (objs [(9000, .box [.t (.sc (.int .i64 o1.kind)), .t (.sc (.str o1.name)), .t (.sc (.int .i64 o1.n)), .t (.sl (o1.scopes.map rI)), .t (.sl (o1.kids.map Form.row))])]) (.t (.sc (.int .i64 r))) (objs [(9000, .box [.t (.sc (.int .i64 o1.kind)), .t (.sc (.str o1.name)), .t (.sc (.int .i64 o1.n)), .t (.sl (o1.scopes.map rI)), .t (.sl (o1.kids.map Form.row))])])
theorem m_slices_IndexFunc_Hit_hitAt_1_ok (fuel : Nat) : m_slices_IndexFunc_Hit_hitAt_1_AC fuel := by
 intro x1 o1 r hF0
 unfold m_slices_IndexFunc_Hit_hitAt_1 at hF0
 refine AC_i [.t (.sc (.int .i64 r))] Tryz.func108 rfl Tryz.ntmps108 ?_
 intro C hC
 refine awp_seq (awp_region ?_)
 refine s_as ?_
 refine k_nil (k_seq (awp_seq (awp_seq (awp_region ?_))))
 refine s_mv ?_
 refine s_lenT yU40 ?_
 refine s_mv ?_
 refine k_nil (k_seq (awp_block ?_))
 refine awp_fr (β := Int) [4, 5, 8, 9, 10, 11, 12, 13, 14, 15, 16, 17, 18] [] [] (fun a => [(8, .t (.sc (.int .i64 a.2)))]) (fun a => []) (fun a => a.1 ≤ fuel ∧ m_slices_IndexFunc_Hit_hitAt_1_l1 a.1 x1 o1 a.2 = some r ∧ 0 ≤ a.2) (fuel, 0) ⟨Nat.le_refl _, hF0, by simp⟩ ?_
 clear hF0
 rintro ⟨fu, g1⟩ ⟨hl2, hF1, hn_g1⟩
 dsimp only at hl2 hF1 hn_g1 ⊢
 obtain _ | fu := fu
 · rw [m_slices_IndexFunc_Hit_hitAt_1_l1] at hF1; cases hF1
 rw [m_slices_IndexFunc_Hit_hitAt_1_l1] at hF1
 refine awp_seq (awp_region ?_)
 refine s_lt ?_
 refine k_nil (k_seq (awp_seq ?_))
 refine w_cond hF1 ?_ ?_ <;> intro hc3 hF2
 refine awp_lenT 0 (fun hb4 => ?_)
 refine awp_skip (k_seq (awp_seq (awp_block (awp_seq (awp_region ?_)))))
 refine s_mv ?_
 refine s_as ?_
 refine k_nil (k_seq (awp_seq (awp_region ?_)))
 iterate 3 refine s_mv ?_
 obtain ⟨v5, hv5, hF3⟩ := bind_some' hF2
 refine s_ixT Hit.row hv5 (Hit.row_eq _) yE40 ?_
 refine s_ldN yA50 yS50 ?_
 obtain ⟨v6, hv6, hF4⟩ := bind_some' hF3
 refine s_call [(9000, 9000)] [] _ _ (m_impl_hitAt_1_ok fu _ _ _ hv6) ?_
 refine k_nil (k_seq ?_)
 refine w_cond hF4 ?_ ?_ <;> intro hc7 hF5
 refine awp_seq (awp_region ?_)
 refine s_mv ?_
 refine s_as ?_
 refine k_nil (k_seq (awp_ret (k_blk_ret (k_seq_ret (k_rnd_ret2 (k_blk_ret (k_seq_ret (k_fin ?_))))))))
 cases hF5
 exact ends_a _ [] Tryz.results108
 refine awp_skip (k_blk (k_seq (awp_region ?_)))
 refine s_add (winc2 hc3 hb4 hn_g1) ?_
 refine s_mv ?_
 refine k_nil ?_
 exact s_rn (fu, (g1 + 1)) ⟨by first | omega | (dsimp only; omega), hF5, by first | omega | (dsimp only; omega)⟩
 refine awp_exit (k_seq_exit (k_rnd_exit2 (k_blk_exit (k_seq (awp_seq (awp_region ?_))))))
 refine s_as ?_
 refine k_nil (k_seq (awp_ret (k_fin ?_)))
 cases hF2
 exact ends_a _ [] Tryz.results108
def m_impl_hitAt_AC (fuel : Nat) : Prop := ∀ (x1 : (List Hit)) (x2 : Form) (r : Int), m_impl_hitAt fuel x1 x2 = some r → AC Tryz.prog 48 [.t (.sl (x1.map Hit.row)), .ag [.t (.sc (.int .i64 x2.kind)), .t (.sc (.str x2.name)), .t (.sc (.int .i64 x2.n)), .t (.sl (x2.scopes.map rI)), .t (.sl (x2.kids.map Form.row))]] noOb (.t (.sc (.int .i64 r))) noOb
theorem m_impl_hitAt_ok (fuel : Nat) : m_impl_hitAt_AC fuel := by
 intro x1 x2 r hF0
 unfold m_impl_hitAt at hF0
 refine AC_i [.t (.sc (.int .i64 r))] Tryz.func48 rfl Tryz.ntmps48 ?_
 intro C hC
 refine awp_seq (awp_region ?_)
 refine s_box ?_
 refine s_as ?_
 refine k_nil (k_seq (awp_seq (awp_region ?_)))
 refine s_mv ?_
 refine s_fn ?_
 obtain ⟨v1, hv1, hF1⟩ := bind_some' hF0
 refine s_call [(9000, 3)] [] _ _ (m_slices_IndexFunc_Hit_hitAt_1_ok fuel _ _ _ hv1) ?_
 refine s_as ?_
 refine k_nil (k_seq (awp_ret (k_fin ?_)))
 cases hF1
 exact ends_a [] [] Tryz.results48
def m_impl_HitsValid_AC (fuel : Nat) : Prop := ∀ (x1 : (List Hit)) (r : Bool), m_impl_HitsValid fuel x1 = some r → AC Tryz.prog 15 [.t (.sl (x1.map Hit.row))] noOb (.t (.sc (.bool r))) noOb
theorem m_impl_HitsValid_ok (fuel : Nat) : m_impl_HitsValid_AC fuel := by
 intro x1 r hF0
 unfold m_impl_HitsValid at hF0
 refine AC_i [.t (.sc (.bool r))] Tryz.func15 rfl Tryz.ntmps15 ?_
 intro C hC
 refine awp_seq (awp_region ?_)
 refine s_as ?_
 refine k_nil (k_seq (awp_seq (awp_seq (awp_region ?_))))
 refine s_mv ?_
 refine s_lenT yU40 ?_
 refine s_mv ?_
 refine k_nil (k_seq (awp_block ?_))
 refine awp_fr (β := Int) [2, 3, 4, 7, 8, 9, 10, 11, 12, 13, 14, 15, 16, 17, 18, 19, 20, 21, 22, 23, 24] [] [4] (fun a => [(7, .t (.sc (.int .i64 a.2)))]) (fun a => []) (fun a => a.1 ≤ fuel ∧ m_impl_HitsValid_l1 a.1 x1 a.2 = some r ∧ 0 ≤ a.2) (fuel, 0) ⟨Nat.le_refl _, hF0, by simp⟩ ?_
 clear hF0
 rintro ⟨fu, g1⟩ ⟨hl2, hF1, hn_g1⟩
 dsimp only at hl2 hF1 hn_g1 ⊢
 obtain _ | fu := fu
 · rw [m_impl_HitsValid_l1] at hF1; cases hF1
 rw [m_impl_HitsValid_l1] at hF1
 refine awp_seq (awp_region ?_)
 refine s_lt ?_
 refine k_nil (k_seq (awp_seq ?_))
 refine w_cond hF1 ?_ ?_ <;> intro hc3 hF2
 refine awp_lenT 0 (fun hb4 => ?_)
 refine awp_skip (k_seq (awp_seq (awp_block (awp_seq (awp_region ?_)))))
 refine s_mv ?_
 obtain ⟨v5, hv5, hF3⟩ := bind_some' hF2
 refine s_ixT Hit.row hv5 (Hit.row_eq _) yE40 ?_
 refine s_ldN yA50 yS50 ?_
 refine s_alloc yZ50 ?_
 refine s_as ?_
 refine s_stW yS50 ?_
 refine k_nil (k_seq (awp_seq ?_))
 refine awp_draw yMix (by kernel_rfl) ?_
 refine s_ldW yA50 yS50 ?_
 obtain ⟨v6, hv6, hF4⟩ := bind_some' hF3
 refine s_pure [] (m_impl_hitOk_ok fu _ _ hv6) ?_
 refine s_not ?_
 refine s_mv ?_
 refine w_guard _ 15 hF4 ?_ ?_ <;> intro hc7 hF5
 iterate 7 refine r_no rfl ?_
 refine s_pkt ?_
 refine k_nilD (by kernel_rfl) ?_
 refine k_seq (awp_true rfl (awp_seq (awp_region ?_)))
 refine s_as ?_
 refine k_nil (k_seq (awp_ret (k_blk_ret (k_seq_ret (k_rnd_ret2 (k_blk_ret (k_seq_ret (k_fin ?_))))))))
 cases hF5
 exact ends_a [] [] Tryz.results15
 refine s_mv ?_
 refine s_mv ?_
 obtain ⟨v8, hv8, hF6⟩ := bind_some' hF5
 refine s_sl01 Hit.row (fun y => Hit.row_len y) hv8 yU40 yE40 ?_
 refine s_fa yF50_0 ?_
 refine s_ldN yA39 yS39 ?_
 obtain ⟨v9, hv9, hF7⟩ := bind_some' hF6
 refine s_pure [] (m_impl_hitAt_ok fu _ _ _ hv9) ?_
 refine s_ge ?_
 refine s_pkf ?_
 refine k_nilD (by kernel_rfl) ?_
 refine k_seq ?_
 refine w_cond hF7 ?_ ?_ <;> intro hc10 hF8
 refine awp_seq (awp_region ?_)
 refine s_as ?_
 refine k_nil (k_seq (awp_ret (k_blk_ret (k_seq_ret (k_rnd_ret2 (k_blk_ret (k_seq_ret (k_fin ?_))))))))
 cases hF8
 exact ends_a [] [] Tryz.results15
 refine awp_skip (k_blk (k_seq (awp_region ?_)))
 refine s_add (winc2 hc3 hb4 hn_g1) ?_
 refine s_mv ?_
 refine k_nil ?_
 exact s_rn (fu, (g1 + 1)) ⟨by first | omega | (dsimp only; omega), hF8, by first | omega | (dsimp only; omega)⟩
 refine awp_exit (k_seq_exit (k_rnd_exit2 (k_blk_exit (k_seq (awp_seq (awp_region ?_))))))
 refine s_mv ?_
 refine s_lenT yU40 ?_
 refine s_le ?_
 refine s_as ?_
 refine k_nil (k_seq (awp_ret (k_fin ?_)))
 cases hF2
 exact ends_a [] [] Tryz.results15
def m_impl_named_AC (fuel : Nat) : Prop := ∀ (x1 : Form) (x2 : ByteArray) (r : Bool), m_impl_named fuel x1 x2 = some r → AC Tryz.prog 95 [.ag [.t (.sc (.int .i64 x1.kind)), .t (.sc (.str x1.name)), .t (.sc (.int .i64 x1.n)), .t (.sl (x1.scopes.map rI)), .t (.sl (x1.kids.map Form.row))], .t (.sc (.str x2))] noOb (.t (.sc (.bool r))) noOb
theorem m_impl_named_ok (fuel : Nat) : m_impl_named_AC fuel := by
 intro x1 x2 r hF0
 unfold m_impl_named at hF0
 refine AC_i [.t (.sc (.bool r))] Tryz.func95 rfl Tryz.ntmps95 ?_
 intro C hC
 refine awp_seq (awp_region ?_)
 refine s_box ?_
 refine s_as ?_
 refine k_nil (k_seq (awp_seq (awp_region ?_)))
 refine s_fa yF39_0 ?_
 refine s_ld1 yA3 ?_
 refine s_eq ?_
 refine s_mv ?_
 refine w_guard _ 8 hF0 ?_ ?_ <;> intro hc1 hF1
 refine s_fa yF39_1 ?_
 refine s_ld1 yA9 ?_
 refine s_mv ?_
 refine s_eqS ?_
 refine s_pkt ?_
 refine s_as ?_
 refine k_nil (k_seq (awp_ret (k_fin ?_)))
 cases hF1
 exact ends_a [] [] Tryz.results95
 iterate 4 refine r_no rfl ?_
 refine s_pkf ?_
 refine s_as ?_
 refine k_nil (k_seq (awp_ret (k_fin ?_)))
 cases hF1
 exact ends_a [] [] Tryz.results95
def m_impl_dotsAt_1_AC (fuel : Nat) : Prop := ∀ (x1 : Form) (r : Bool), m_impl_dotsAt_1 fuel x1 = some r → AC Tryz.prog 160 [.ag [.t (.sc (.int .i64 x1.kind)), .t (.sc (.str x1.name)), .t (.sc (.int .i64 x1.n)), .t (.sl (x1.scopes.map rI)), .t (.sl (x1.kids.map Form.row))]] noOb (.t (.sc (.bool r))) noOb
theorem m_impl_dotsAt_1_ok (fuel : Nat) : m_impl_dotsAt_1_AC fuel := by
 intro x1 r hF0
 unfold m_impl_dotsAt_1 at hF0
 refine AC_i [.t (.sc (.bool r))] Tryz.func160 rfl Tryz.ntmps160 ?_
 intro C hC
 refine awp_seq (awp_region ?_)
 refine s_box ?_
 refine s_as ?_
 refine k_nil (k_seq (awp_seq (awp_region ?_)))
 refine s_ldW yA39 yS39 ?_
 obtain ⟨v1, hv1, hF1⟩ := bind_some' hF0
 refine s_pure [] (m_impl_named_ok fuel _ _ _ hv1) ?_
 refine s_as ?_
 refine k_nil (k_seq (awp_ret (k_fin ?_)))
 cases hF1
 exact ends_a [] [] Tryz.results160
def m_slices_IndexFunc_Form_dotsAt_1_AC (fuel : Nat) : Prop := ∀ (x1 : (List Form)) (r : Int), m_slices_IndexFunc_Form_dotsAt_1 fuel x1 = some r → AC Tryz.prog 159 [.t (.sl (x1.map Form.row)), .fn 160 []] noOb (.t (.sc (.int .i64 r))) noOb
theorem m_slices_IndexFunc_Form_dotsAt_1_ok (fuel : Nat) : m_slices_IndexFunc_Form_dotsAt_1_AC fuel := by
 intro x1 r hF0
 unfold m_slices_IndexFunc_Form_dotsAt_1 at hF0
 refine AC_i [.t (.sc (.int .i64 r))] Tryz.func159 rfl Tryz.ntmps159 ?_
 intro C hC
 refine awp_seq (awp_region ?_)
 refine s_as ?_
 refine k_nil (k_seq (awp_seq (awp_seq (awp_region ?_))))
 refine s_mv ?_
 refine s_lenT yU37 ?_
 refine s_mv ?_
 refine k_nil (k_seq (awp_block ?_))
 refine awp_fr (β := Int) [4, 5, 8, 9, 10, 11, 12, 13, 14, 15, 16, 17, 18] [] [] (fun a => [(8, .t (.sc (.int .i64 a.2)))]) (fun a => []) (fun a => a.1 ≤ fuel ∧ m_slices_IndexFunc_Form_dotsAt_1_l1 a.1 x1 a.2 = some r ∧ 0 ≤ a.2) (fuel, 0) ⟨Nat.le_refl _, hF0, by simp⟩ ?_
 clear hF0
 rintro ⟨fu, g1⟩ ⟨hl2, hF1, hn_g1⟩
 dsimp only at hl2 hF1 hn_g1 ⊢
 obtain _ | fu := fu
 · rw [m_slices_IndexFunc_Form_dotsAt_1_l1] at hF1; cases hF1
 rw [m_slices_IndexFunc_Form_dotsAt_1_l1] at hF1
 refine awp_seq (awp_region ?_)
 refine s_lt ?_
 refine k_nil (k_seq (awp_seq ?_))
 refine w_cond hF1 ?_ ?_ <;> intro hc3 hF2
 refine awp_lenT 0 (fun hb4 => ?_)
 refine awp_skip (k_seq (awp_seq (awp_block (awp_seq (awp_region ?_)))))
 refine s_mv ?_
 refine s_as ?_
 refine k_nil (k_seq (awp_seq (awp_region ?_)))
 iterate 3 refine s_mv ?_
 obtain ⟨v5, hv5, hF3⟩ := bind_some' hF2
 refine s_ixT Form.row hv5 (Form.row_eq _) yE37 ?_
 refine s_ldN yA39 yS39 ?_
 obtain ⟨v6, hv6, hF4⟩ := bind_some' hF3
 refine s_pure [] (m_impl_dotsAt_1_ok fu _ _ hv6) ?_
 refine k_nil (k_seq ?_)
 refine w_cond hF4 ?_ ?_ <;> intro hc7 hF5
 refine awp_seq (awp_region ?_)
 refine s_mv ?_
 refine s_as ?_
 refine k_nil (k_seq (awp_ret (k_blk_ret (k_seq_ret (k_rnd_ret2 (k_blk_ret (k_seq_ret (k_fin ?_))))))))
 cases hF5
 exact ends_a [] [] Tryz.results159
 refine awp_skip (k_blk (k_seq (awp_region ?_)))
 refine s_add (winc2 hc3 hb4 hn_g1) ?_
 refine s_mv ?_
 refine k_nil ?_
 exact s_rn (fu, (g1 + 1)) ⟨by first | omega | (dsimp only; omega), hF5, by first | omega | (dsimp only; omega)⟩
 refine awp_exit (k_seq_exit (k_rnd_exit2 (k_blk_exit (k_seq (awp_seq (awp_region ?_))))))
 refine s_as ?_
 refine k_nil (k_seq (awp_ret (k_fin ?_)))
 cases hF2
 exact ends_a [] [] Tryz.results159
end Go.Abs
