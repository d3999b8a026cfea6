/- A part of the proof: what the functions that the law calls answer, as pure values. -/
import Derived.Test.YtbkdbbfgdjcfgaaK00b9e8259e4a
import Derived.Test.YtbkdbbfgdjcfgaaK55104e13721b
import Derived.Test.YtbkdbbfgdjcfgaaKafa1c419a05e
import Derived.Test.YtbkdbbfgdjcfgaaKe8177d545ea5
set_option linter.unusedSimpArgs false
set_option linter.unusedVariables false
set_option maxRecDepth 100000
set_option maxHeartbeats 4000000
namespace Go.Abs
open Go.Proofs
def m_impl_FormSame_AC (fuel : Nat) : Prop := ∀ (x1 : Form) (x2 : Form) (r : Bool), m_impl_FormSame fuel x1 x2 = some r → AC Try.prog 123 [.ag [.t (.sc (.int .i64 x1.kind)), .t (.sc (.str x1.name)), .t (.sc (.int .i64 x1.n)), .t (.sl (x1.scopes.map rI)), .t (.sl (x1.kids.map Form.row))], .ag [.t (.sc (.int .i64 x2.kind)), .t (.sc (.str x2.name)), .t (.sc (.int .i64 x2.n)), .t (.sl (x2.scopes.map rI)), .t (.sl (x2.kids.map Form.row))]] noOb (.t (.sc (.bool r))) noOb
def m_slices_EqualFunc_Form_FormSame_AC (fuel : Nat) : Prop := ∀ (x1 : (List Form)) (x2 : (List Form)) (r : Bool), m_slices_EqualFunc_Form_FormSame fuel x1 x2 = some r → AC Try.prog 160 [.t (.sl (x1.map Form.row)), .t (.sl (x2.map Form.row)), .fn 123 []] noOb (.t (.sc (.bool r))) noOb
theorem m_impl_FormSame_st (fu : Nat) (ih_m_impl_FormSame : ∀ k, k ≤ fu → m_impl_FormSame_AC k) (ih_m_slices_EqualFunc_Form_FormSame : ∀ k, k ≤ fu → m_slices_EqualFunc_Form_FormSame_AC k) : m_impl_FormSame_AC (fu + 1) := by
 intro x1 x2 r hF0
 rw [m_impl_FormSame] at hF0
 refine AC_i [.t (.sc (.bool r))] Try.func123 rfl Try.ntmps123 ?_
 intro C hC
 refine awp_seq (awp_region ?_)
 refine s_box ?_
 refine s_box ?_
 refine s_as ?_
 refine k_nil (k_seq (awp_seq (awp_region ?_)))
 refine s_fa yF34_0 ?_
 refine s_ld1 yA3 ?_
 refine s_fa yF34_0 ?_
 refine s_ld1 yA3 ?_
 refine s_eq ?_
 refine s_mv ?_
 refine w_guard _ 10 hF0 ?_ ?_ <;> intro hc1 hF1
 refine s_fa yF34_1 ?_
 refine s_ld1 yA9 ?_
 refine s_fa yF34_1 ?_
 refine s_ld1 yA9 ?_
 refine s_eqS ?_
 refine s_pkt ?_
 refine s_mv ?_
 refine w_guard _ 17 hF1 ?_ ?_ <;> intro hc2 hF2
 refine s_fa yF34_2 ?_
 refine s_ld1 yA3 ?_
 refine s_fa yF34_2 ?_
 refine s_ld1 yA3 ?_
 refine s_eq ?_
 refine s_pkt ?_
 refine s_mv ?_
 refine w_guard _ 24 hF2 ?_ ?_ <;> intro hc3 hF3
 refine s_fa yF34_3 ?_
 refine s_ld1 yA22 ?_
 refine s_fa yF34_3 ?_
 refine s_ld1 yA22 ?_
 obtain ⟨v4, hv4, hF4⟩ := bind_some' hF3
 refine s_pure [] (m_slices_Equal_int_ok fu _ _ _ hv4) ?_
 refine s_pkt ?_
 refine s_mv ?_
 refine w_guard _ 31 hF4 ?_ ?_ <;> intro hc5 hF5
 refine s_fa yF34_4 ?_
 refine s_ld1 yA32 ?_
 refine s_fa yF34_4 ?_
 refine s_ld1 yA32 ?_
 obtain ⟨v6, hv6, hF6⟩ := bind_some' hF5
 refine s_pure [] (ih_m_slices_EqualFunc_Form_FormSame fu (by omega) _ _ _ hv6) ?_
 refine s_pkt ?_
 refine s_as ?_
 refine k_nil (k_seq (awp_ret (k_fin ?_)))
 cases hF6
 exact ends_a [] [] Try.results123
 iterate 5 refine r_no rfl ?_
 refine s_pkf ?_
 refine s_as ?_
 refine k_nil (k_seq (awp_ret (k_fin ?_)))
 cases hF5
 exact ends_a [] [] Try.results123
 iterate 5 refine r_no rfl ?_
 refine s_pkf ?_
 refine s_mv ?_
 iterate 5 refine r_no rfl ?_
 refine s_pkf ?_
 refine s_as ?_
 refine k_nil (k_seq (awp_ret (k_fin ?_)))
 cases hF3
 exact ends_a [] [] Try.results123
 iterate 5 refine r_no rfl ?_
 refine s_pkf ?_
 refine s_mv ?_
 iterate 5 refine r_no rfl ?_
 refine s_pkf ?_
 refine s_mv ?_
 iterate 5 refine r_no rfl ?_
 refine s_pkf ?_
 refine s_as ?_
 refine k_nil (k_seq (awp_ret (k_fin ?_)))
 cases hF2
 exact ends_a [] [] Try.results123
 iterate 5 refine r_no rfl ?_
 refine s_pkf ?_
 refine s_mv ?_
 iterate 5 refine r_no rfl ?_
 refine s_pkf ?_
 refine s_mv ?_
 iterate 5 refine r_no rfl ?_
 refine s_pkf ?_
 refine s_mv ?_
 iterate 5 refine r_no rfl ?_
 refine s_pkf ?_
 refine s_as ?_
 refine k_nil (k_seq (awp_ret (k_fin ?_)))
 cases hF1
 exact ends_a [] [] Try.results123
theorem m_slices_EqualFunc_Form_FormSame_st (fu : Nat) (ih_m_impl_FormSame : ∀ k, k ≤ fu → m_impl_FormSame_AC k) (ih_m_slices_EqualFunc_Form_FormSame : ∀ k, k ≤ fu → m_slices_EqualFunc_Form_FormSame_AC k) : m_slices_EqualFunc_Form_FormSame_AC (fu + 1) := by
 intro x1 x2 r hF0
 rw [m_slices_EqualFunc_Form_FormSame] at hF0
 refine AC_i [.t (.sc (.bool r))] Try.func160 rfl Try.ntmps160 ?_
 intro C hC
 refine awp_seq (awp_region ?_)
 refine s_as ?_
 refine k_nil (k_seq (awp_seq (awp_seq (awp_region ?_))))
 refine s_mv ?_
 refine s_lenT yU32 ?_
 refine s_mv ?_
 refine s_lenT yU32 ?_
 refine s_ne ?_
 refine k_nil (k_seq ?_)
 refine w_cond hF0 ?_ ?_ <;> intro hc1 hF1
 refine awp_seq (awp_region ?_)
 refine s_as ?_
 refine k_nil (k_seq (awp_ret (k_seq_ret (k_fin ?_))))
 cases hF1
 exact ends_a [] [] Try.results160
 refine awp_skip (k_seq (awp_seq (awp_seq (awp_region ?_))))
 refine s_mv ?_
 refine s_lenT yU32 ?_
 refine s_mv ?_
 refine k_nil (k_seq (awp_block ?_))
 refine awp_fr (β := Int) [6, 7, 8, 9, 17, 18, 19, 20, 21, 22, 23, 24, 25, 26, 27, 28, 29, 30, 31] [] [8, 9] (fun a => [(17, .t (.sc (.int .i64 a.2)))]) (fun a => []) (fun a => a.1 ≤ fu ∧ m_slices_EqualFunc_Form_FormSame_l1 a.1 x1 x2 a.2 = some r ∧ 0 ≤ a.2) (fu, 0) ⟨Nat.le_refl _, hF1, by simp⟩ ?_
 clear hF1
 rintro ⟨fu, g2⟩ ⟨hl3, hF2, hn_g2⟩
 dsimp only at hl3 hF2 hn_g2 ⊢
 obtain _ | fu := fu
 · rw [m_slices_EqualFunc_Form_FormSame_l1] at hF2; cases hF2
 rw [m_slices_EqualFunc_Form_FormSame_l1] at hF2
 refine awp_seq (awp_region ?_)
 refine s_lt ?_
 refine k_nil (k_seq (awp_seq ?_))
 refine w_cond hF2 ?_ ?_ <;> intro hc4 hF3
 refine awp_lenT 0 (fun hb5 => ?_)
 refine awp_skip (k_seq (awp_seq (awp_block (awp_seq (awp_region ?_)))))
 refine s_mv ?_
 obtain ⟨v6, hv6, hF4⟩ := bind_some' hF3
 refine s_ixT Form.row hv6 (Form.row_eq _) yE32 ?_
 refine s_ldN yA34 yS34 ?_
 refine s_alloc yZ34 ?_
 refine s_as ?_
 refine s_stW yS34 ?_
 refine k_nil (k_seq (awp_seq (awp_region ?_)))
 refine s_mv ?_
 refine s_mv ?_
 obtain ⟨v7, hv7, hF5⟩ := bind_some' hF4
 refine s_ixT Form.row hv7 (Form.row_eq _) yE32 ?_
 refine s_ldN yA34 yS34 ?_
 refine s_alloc yZ34 ?_
 refine s_stW yS34 ?_
 refine k_nil (k_seq (awp_seq (awp_region ?_)))
 refine s_mv ?_
 refine s_ldW yA34 yS34 ?_
 refine s_ldW yA34 yS34 ?_
 obtain ⟨v8, hv8, hF6⟩ := bind_some' hF5
 refine s_pure [] (ih_m_impl_FormSame fu (by omega) _ _ _ hv8) ?_
 refine s_not ?_
 refine k_nil (k_seq ?_)
 refine w_cond hF6 ?_ ?_ <;> intro hc9 hF7
 refine awp_seq (awp_region ?_)
 refine s_as ?_
 refine k_nil (k_seq (awp_ret (k_blk_ret (k_seq_ret (k_rnd_ret2 (k_blk_ret (k_seq_ret (k_fin ?_))))))))
 cases hF7
 exact ends_a [] [] Try.results160
 refine awp_skip (k_blk (k_seq (awp_region ?_)))
 refine s_add (winc2 hc4 hb5 hn_g2) ?_
 refine s_mv ?_
 refine k_nil ?_
 exact s_rn (fu, (g2 + 1)) ⟨by first | omega | (dsimp only; omega), hF7, by first | omega | (dsimp only; omega)⟩
 refine awp_exit (k_seq_exit (k_rnd_exit2 (k_blk_exit (k_seq (awp_seq (awp_region ?_))))))
 refine s_as ?_
 refine k_nil (k_seq (awp_ret (k_fin ?_)))
 cases hF3
 exact ends_a [] [] Try.results160
theorem m_impl_FormSame_all (fuel : Nat) : m_impl_FormSame_AC fuel ∧ m_slices_EqualFunc_Form_FormSame_AC fuel := by
 induction fuel using Nat.strongRecOn with
 | _ N ih =>
   cases N with
   | zero => exact ⟨(by intro x1 x2 r h; rw [m_impl_FormSame] at h; cases h), (by intro x1 x2 r h; rw [m_slices_EqualFunc_Form_FormSame] at h; cases h)⟩
   | succ fu => exact ⟨m_impl_FormSame_st fu (fun k hk => (ih k (by omega)).1) (fun k hk => (ih k (by omega)).2), m_slices_EqualFunc_Form_FormSame_st fu (fun k hk => (ih k (by omega)).1) (fun k hk => (ih k (by omega)).2)⟩
theorem m_impl_FormSame_ok (fuel : Nat) : m_impl_FormSame_AC fuel := (m_impl_FormSame_all fuel).1
def m_impl_hitOk_AC (fuel : Nat) : Prop := ∀ (x1 : Hit) (r : Bool), m_impl_hitOk fuel x1 = some r → AC Try.prog 82 [.ag [.t (.sc (.int .i64 x1.name.kind)), .t (.sc (.str x1.name.name)), .t (.sc (.int .i64 x1.name.n)), .t (.sl (x1.name.scopes.map rI)), .t (.sl (x1.name.kids.map Form.row)), .t (.sc (.int .i64 x1.depth)), .t (.sc (.int .i64 x1.one.kind)), .t (.sc (.str x1.one.name)), .t (.sc (.int .i64 x1.one.n)), .t (.sl (x1.one.scopes.map rI)), .t (.sl (x1.one.kids.map Form.row)), .t (.sl (x1.many.map Hit.row))]] noOb (.t (.sc (.bool r))) noOb
def m_impl_hitOk_1_AC (fuel : Nat) : Prop := ∀ (x1 : Hit) (o1 : Hit) (r : Bool), m_impl_hitOk_1 fuel x1 o1 = some r → AC Try.prog 128 [.ag [.t (.sc (.int .i64 x1.name.kind)), .t (.sc (.str x1.name.name)), .t (.sc (.int .i64 x1.name.n)), .t (.sl (x1.name.scopes.map rI)), .t (.sl (x1.name.kids.map Form.row)), .t (.sc (.int .i64 x1.depth)), .t (.sc (.int .i64 x1.one.kind)), .t (.sc (.str x1.one.name)), .t (.sc (.int .i64 x1.one.n)), .t (.sl (x1.one.scopes.map rI)), .t (.sl (x1.one.kids.map Form.row)), .t (.sl (x1.many.map Hit.row))], .rf 9000 0] (objs [(9000, .box [.t (.sc (.int .i64 o1.name.kind)), .t (.sc (.str o1.name.name)), .t (.sc (.int .i64 o1.name.n)), .t (.sl (o1.name.scopes.map rI)), .t (.sl (o1.name.kids.map Form.row)), .t (.sc (.int .i64 o1.depth)), .t (.sc (.int .i64 o1.one.kind)), .t (.sc (.str o1.one.name)), .t (.sc (.int .i64 o1.one.n)), .t (.sl (o1.one.scopes.map rI)), .t (.sl (o1.one.kids.map Form.row)), .t (.sl (o1.many.map Hit.row))])]) (.t (.sc (.bool r))) (objs [(9000, .box [.t (.sc (.int .i64 o1.name.kind)), .t (.sc (.str o1.name.name)), .t (.sc (.int .i64 o1.name.n)), .t (.sl (o1.name.scopes.map rI)), .t (.sl (o1.name.kids.map Form.row)), .t (.sc (.int .i64 o1.depth)), .t (.sc (.int .i64 o1.one.kind)), .t (.sc (.str o1.one.name)), .t (.sc (.int .i64 o1.one.n)), .t (.sl (o1.one.scopes.map rI)), .t (.sl (o1.one.kids.map Form.row)), .t (.sl (o1.many.map Hit.row))])])
def m_slices_ContainsFunc_Hit_hitOk_1_AC (fuel : Nat) : Prop := ∀ (x1 : (List Hit)) (o1 : Hit) (r : Bool), m_slices_ContainsFunc_Hit_hitOk_1 fuel x1 o1 = some r → AC Try.prog 127 [.t (.sl (x1.map Hit.row)), .fn 128 [.rf 9000 0]] (objs [(9000, .box [.t (.sc (.int .i64 o1.name.kind)), .t (.sc (.str o1.name.name)), .t (.sc (.int .i64 o1.name.n)), .t (.sl (o1.name.scopes.map rI)), .t (.sl (o1.name.kids.map Form.row)), .t (.sc (.int .i64 o1.depth)), .t (.sc (.int .i64 o1.one.kind)), .t (.sc (.str o1.one.name)), .t (.sc (.int .i64 o1.one.n)), .t (.sl (o1.one.scopes.map rI)), .t (.sl (o1.one.kids.map Form.row)), .t (.sl (o1.many.map Hit.row))])]) (.t (.sc (.bool r))) (objs [(9000, .box [.t (.sc (.int .i64 o1.name.kind)), .t (.sc (.str o1.name.name)), .t (.sc (.int .i64 o1.name.n)), .t (.sl (o1.name.scopes.map rI)), .t (.sl (o1.name.kids.map Form.row)), .t (.sc (.int .i64 o1.depth)), .t (.sc (.int .i64 o1.one.kind)), .t (.sc (.str o1.one.name)), .t (.sc (.int .i64 o1.one.n)), .t (.sl (o1.one.scopes.map rI)), .t (.sl (o1.one.kids.map Form.row)), .t (.sl (o1.many.map Hit.row))])])
def m_slices_IndexFunc_Hit_hitOk_1_AC (fuel : Nat) : Prop := ∀ (x1 : (List Hit)) (o1 : Hit) (r : Int), m_slices_IndexFunc_Hit_hitOk_1 fuel x1 o1 = some r → AC Try.prog 137 [.t (.sl (x1.map Hit.row)), .fn 128 [.rf 9000 0]] (objs [(9000, .box [.t (.sc (.int .i64 o1.name.kind)), .t (.sc (.str o1.name.name)), .t (.sc (.int .i64 o1.name.n)), .t (.sl (o1.name.scopes.map rI)), .t (.sl (o1.name.kids.map Form.row)), .t (.sc (.int .i64 o1.depth)), .t (.sc (.int .i64 o1.one.kind)), .t (.sc (.str o1.one.name)), .t (.sc (.int .i64 o1.one.n)), .t (.sl (o1.one.scopes.map rI)), .t (.sl (o1.one.kids.map Form.row)), .t (.sl (o1.many.map Hit.row))])]) (.t (.sc (.int .i64 r))) (objs [(9000, .box [.t (.sc (.int .i64 o1.name.kind)), .t (.sc (.str o1.name.name)), .t (.sc (.int .i64 o1.name.n)), .t (.sl (o1.name.scopes.map rI)), .t (.sl (o1.name.kids.map Form.row)), .t (.sc (.int .i64 o1.depth)), .t (.sc (.int .i64 o1.one.kind)), .t (.sc (.str o1.one.name)), .t (.sc (.int .i64 o1.one.n)), .t (.sl (o1.one.scopes.map rI)), .t (.sl (o1.one.kids.map Form.row)), .t (.sl (o1.many.map Hit.row))])])
theorem m_impl_hitOk_st (fu : Nat) (ih_m_impl_hitOk : ∀ k, k ≤ fu → m_impl_hitOk_AC k) (ih_m_impl_hitOk_1 : ∀ k, k ≤ fu → m_impl_hitOk_1_AC k) (ih_m_slices_ContainsFunc_Hit_hitOk_1 : ∀ k, k ≤ fu → m_slices_ContainsFunc_Hit_hitOk_1_AC k) (ih_m_slices_IndexFunc_Hit_hitOk_1 : ∀ k, k ≤ fu → m_slices_IndexFunc_Hit_hitOk_1_AC k) : m_impl_hitOk_AC (fu + 1) := by
 intro x1 r hF0
 rw [m_impl_hitOk] at hF0
 refine AC_i [.t (.sc (.bool r))] Try.func82 rfl Try.ntmps82 ?_
 intro C hC
 refine awp_seq (awp_region ?_)
 refine s_box ?_
 refine s_as ?_
 refine k_nil (k_seq (awp_seq (awp_seq (awp_region ?_))))
 refine s_fa yF65_0 ?_
 refine s_ldN yA34 yS34 ?_
 obtain ⟨v1, hv1, hF1⟩ := bind_some' hF0
 refine s_pure [] (m_impl_isName_ok fu _ _ hv1) ?_
 refine s_not ?_
 refine s_mv ?_
 refine w_guard _ 7 hF1 ?_ ?_ <;> intro hc2 hF2
 iterate 4 refine r_no rfl ?_
 refine s_pkt ?_
 refine s_mv ?_
 iterate 4 refine r_no rfl ?_
 refine s_pkt ?_
 refine s_mv ?_
 iterate 4 refine r_no rfl ?_
 refine s_pkt ?_
 refine k_nil (k_seq (awp_true rfl (awp_seq (awp_region ?_))))
 refine s_as ?_
 refine k_nil (k_seq (awp_ret (k_seq_ret (k_fin ?_))))
 cases hF2
 exact ends_a [] [] Try.results82
 refine s_fa yF65_0 ?_
 refine s_fa yF34_1 ?_
 refine s_ld1 yA9 ?_
 refine s_eqS ?_
 refine s_pkf ?_
 refine s_mv ?_
 refine w_guard _ 13 hF2 ?_ ?_ <;> intro hc3 hF3
 iterate 4 refine r_no rfl ?_
 refine s_pkt ?_
 refine s_mv ?_
 iterate 4 refine r_no rfl ?_
 refine s_pkt ?_
 refine k_nil (k_seq (awp_true rfl (awp_seq (awp_region ?_))))
 refine s_as ?_
 refine k_nil (k_seq (awp_ret (k_seq_ret (k_fin ?_))))
 cases hF3
 exact ends_a [] [] Try.results82
 refine s_fa yF65_0 ?_
 refine s_fa yF34_1 ?_
 refine s_ld1 yA9 ?_
 refine s_eqS ?_
 refine s_pkf ?_
 refine s_mv ?_
 refine w_guard _ 19 hF3 ?_ ?_ <;> intro hc4 hF4
 iterate 4 refine r_no rfl ?_
 refine s_pkt ?_
 refine k_nil (k_seq (awp_true rfl (awp_seq (awp_region ?_))))
 refine s_as ?_
 refine k_nil (k_seq (awp_ret (k_seq_ret (k_fin ?_))))
 cases hF4
 exact ends_a [] [] Try.results82
 refine s_fa yF65_1 ?_
 refine s_ld1 yA3 ?_
 obtain ⟨v5, hv5, hF5⟩ := bind_some' hF4
 refine s_pure [] (m_impl_within_ok fu _ _ _ _ hv5) ?_
 refine s_not ?_
 refine s_pkf ?_
 refine k_nil (k_seq ?_)
 refine w_cond hF5 ?_ ?_ <;> intro hc6 hF6
 refine awp_seq (awp_region ?_)
 refine s_as ?_
 refine k_nil (k_seq (awp_ret (k_seq_ret (k_fin ?_))))
 cases hF6
 exact ends_a [] [] Try.results82
 refine awp_skip (k_seq (awp_seq (awp_seq (awp_region ?_))))
 refine s_fa yF65_1 ?_
 refine s_ld1 yA3 ?_
 refine s_eq ?_
 refine k_nil (k_seq ?_)
 refine w_cond hF6 ?_ ?_ <;> intro hc7 hF7
 refine awp_seq (awp_region ?_)
 refine s_fa yF65_2 ?_
 refine s_ldN yA34 yS34 ?_
 obtain ⟨v8, hv8, hF8⟩ := bind_some' hF7
 refine s_pure [] (m_impl_FormValid_ok fu _ _ hv8) ?_
 refine s_mv ?_
 refine w_guard _ 31 hF8 ?_ ?_ <;> intro hc9 hF9
 refine s_fa yF65_3 ?_
 refine s_ld1 yA63 ?_
 refine s_lenT yU63 ?_
 refine s_eq ?_
 refine s_pkt ?_
 refine s_as ?_
 refine k_nil (k_seq (awp_ret (k_seq_ret (k_fin ?_))))
 cases hF9
 exact ends_a [] [] Try.results82
 iterate 4 refine r_no rfl ?_
 refine s_pkf ?_
 refine s_as ?_
 refine k_nil (k_seq (awp_ret (k_seq_ret (k_fin ?_))))
 cases hF9
 exact ends_a [] [] Try.results82
 refine awp_skip (k_seq (awp_seq (awp_region ?_)))
 refine s_fa yF65_2 ?_
 refine s_ldN yA34 yS34 ?_
 refine s_bld yZ34 yL34 ?_
 obtain ⟨v10, hv10, hF8⟩ := bind_some' hF7
 refine s_pure [] (m_impl_FormSame_ok fu _ _ _ hv10) ?_
 refine s_mv ?_
 refine w_guard _ 41 hF8 ?_ ?_ <;> intro hc11 hF9
 refine s_fa yF65_3 ?_
 refine s_ld1 yA63 ?_
 refine s_lenT yU63 ?_
 refine s_le ?_
 refine s_pkt ?_
 refine s_mv ?_
 refine w_guard _ 47 hF9 ?_ ?_ <;> intro hc12 hF10
 refine s_fa yF65_3 ?_
 refine s_ld1 yA63 ?_
 refine s_fn ?_
 obtain ⟨v13, hv13, hF11⟩ := bind_some' hF10
 refine s_call [(9000, 1)] [] _ _ (ih_m_slices_ContainsFunc_Hit_hitOk_1 fu (by omega) _ _ _ hv13) ?_
 refine s_not ?_
 refine s_pkt ?_
 refine s_as ?_
 refine k_nil (k_seq (awp_ret (k_fin ?_)))
 cases hF11
 exact ends_a [] [] Try.results82
 iterate 5 refine r_no rfl ?_
 refine s_pkf ?_
 refine s_as ?_
 refine k_nil (k_seq (awp_ret (k_fin ?_)))
 cases hF10
 exact ends_a [] [] Try.results82
 iterate 4 refine r_no rfl ?_
 refine s_pkf ?_
 refine s_mv ?_
 iterate 5 refine r_no rfl ?_
 refine s_pkf ?_
 refine s_as ?_
 refine k_nil (k_seq (awp_ret (k_fin ?_)))
 cases hF9
 exact ends_a [] [] Try.results82
theorem m_impl_hitOk_1_st (fu : Nat) (ih_m_impl_hitOk : ∀ k, k ≤ fu → m_impl_hitOk_AC k) (ih_m_impl_hitOk_1 : ∀ k, k ≤ fu → m_impl_hitOk_1_AC k) (ih_m_slices_ContainsFunc_Hit_hitOk_1 : ∀ k, k ≤ fu → m_slices_ContainsFunc_Hit_hitOk_1_AC k) (ih_m_slices_IndexFunc_Hit_hitOk_1 : ∀ k, k ≤ fu → m_slices_IndexFunc_Hit_hitOk_1_AC k) : m_impl_hitOk_1_AC (fu + 1) := by
 intro x1 o1 r hF0
 rw [m_impl_hitOk_1] at hF0
 refine AC_i [.t (.sc (.bool r))] Try.func128 rfl Try.ntmps128 ?_
 intro C hC
 refine awp_seq (awp_region ?_)
 refine s_box ?_
 refine s_as ?_
 refine k_nil (k_seq (awp_seq (awp_region ?_)))
 refine s_fa yF65_0 ?_
 refine s_ldN yA34 yS34 ?_
 refine s_fa yF65_0 ?_
 refine s_ldN yA34 yS34 ?_
 obtain ⟨v1, hv1, hF1⟩ := bind_some' hF0
 refine s_pure [] (m_impl_FormSame_ok fu _ _ _ hv1) ?_
 refine s_not ?_
 refine s_mv ?_
 refine w_guard _ 10 hF1 ?_ ?_ <;> intro hc2 hF2
 iterate 6 refine r_no rfl ?_
 refine s_pkt ?_
 refine s_mv ?_
 iterate 3 refine r_no rfl ?_
 refine s_pkt ?_
 refine s_as ?_
 refine k_nil (k_seq (awp_ret (k_fin ?_)))
 cases hF2
 exact ends_a _ [] Try.results128
 refine s_fa yF65_1 ?_
 refine s_ld1 yA3 ?_
 refine s_fa yF65_1 ?_
 refine s_ld1 yA3 ?_
 refine s_sub rfl ?_
 refine s_ne ?_
 refine s_pkf ?_
 refine s_mv ?_
 refine w_guard _ 18 hF2 ?_ ?_ <;> intro hc3 hF3
 iterate 3 refine r_no rfl ?_
 refine s_pkt ?_
 refine s_as ?_
 refine k_nil (k_seq (awp_ret (k_fin ?_)))
 cases hF3
 exact ends_a _ [] Try.results128
 refine s_ldW yA65 yS65 ?_
 obtain ⟨v4, hv4, hF4⟩ := bind_some' hF3
 refine s_pure [] (ih_m_impl_hitOk fu (by omega) _ _ hv4) ?_
 refine s_not ?_
 refine s_pkf ?_
 refine s_as ?_
 refine k_nil (k_seq (awp_ret (k_fin ?_)))
 cases hF4
 exact ends_a _ [] Try.results128
theorem m_slices_ContainsFunc_Hit_hitOk_1_st (fu : Nat) (ih_m_impl_hitOk : ∀ k, k ≤ fu → m_impl_hitOk_AC k) (ih_m_impl_hitOk_1 : ∀ k, k ≤ fu → m_impl_hitOk_1_AC k) (ih_m_slices_ContainsFunc_Hit_hitOk_1 : ∀ k, k ≤ fu → m_slices_ContainsFunc_Hit_hitOk_1_AC k) (ih_m_slices_IndexFunc_Hit_hitOk_1 : ∀ k, k ≤ fu → m_slices_IndexFunc_Hit_hitOk_1_AC k) : m_slices_ContainsFunc_Hit_hitOk_1_AC (fu + 1) := by
 intro x1 o1 r hF0
 rw [m_slices_ContainsFunc_Hit_hitOk_1] at hF0
 refine AC_i [.t (.sc (.bool r))] Try.func127 rfl Try.ntmps127 ?_
 intro C hC
 refine awp_seq (awp_region ?_)
 refine s_as ?_
 refine k_nil (k_seq (awp_seq (awp_region ?_)))
 refine s_mv ?_
 refine s_mv ?_
 obtain ⟨v1, hv1, hF1⟩ := bind_some' hF0
 refine s_call [(9000, 9000)] [] _ _ (ih_m_slices_IndexFunc_Hit_hitOk_1 fu (by omega) _ _ _ hv1) ?_
 refine s_ge ?_
 refine s_as ?_
 refine k_nil (k_seq (awp_ret (k_fin ?_)))
 cases hF1
 exact ends_a _ [] Try.results127
theorem m_slices_IndexFunc_Hit_hitOk_1_st (fu : Nat) (ih_m_impl_hitOk : ∀ k, k ≤ fu → m_impl_hitOk_AC k) (ih_m_impl_hitOk_1 : ∀ k, k ≤ fu → m_impl_hitOk_1_AC k) (ih_m_slices_ContainsFunc_Hit_hitOk_1 : ∀ k, k ≤ fu → m_slices_ContainsFunc_Hit_hitOk_1_AC k) (ih_m_slices_IndexFunc_Hit_hitOk_1 : ∀ k, k ≤ fu → m_slices_IndexFunc_Hit_hitOk_1_AC k) : m_slices_IndexFunc_Hit_hitOk_1_AC (fu + 1) := by
 intro x1 o1 r hF0
 rw [m_slices_IndexFunc_Hit_hitOk_1] at hF0
 refine AC_i [.t (.sc (.int .i64 r))] Try.func137 rfl Try.ntmps137 ?_
 intro C hC
 refine awp_seq (awp_region ?_)
 refine s_as ?_
 refine k_nil (k_seq (awp_seq (awp_seq (awp_region ?_))))
 refine s_mv ?_
 refine s_lenT yU63 ?_
 refine s_mv ?_
 refine k_nil (k_seq (awp_block ?_))
 refine awp_fr (β := Int) [4, 5, 8, 9, 10, 11, 12, 13, 14, 15, 16, 17, 18] [] [] (fun a => [(8, .t (.sc (.int .i64 a.2)))]) (fun a => []) (fun a => a.1 ≤ fu ∧ m_slices_IndexFunc_Hit_hitOk_1_l1 a.1 x1 o1 a.2 = some r ∧ 0 ≤ a.2) (fu, 0) ⟨Nat.le_refl _, hF0, by simp⟩ ?_
 clear hF0
 rintro ⟨fu, g1⟩ ⟨hl2, hF1, hn_g1⟩
 dsimp only at hl2 hF1 hn_g1 ⊢
 obtain _ | fu := fu
 · rw [m_slices_IndexFunc_Hit_hitOk_1_l1] at hF1; cases hF1
 rw [m_slices_IndexFunc_Hit_hitOk_1_l1] at hF1
 refine awp_seq (awp_region ?_)
 refine s_lt ?_
 refine k_nil (k_seq (awp_seq ?_))
 refine w_cond hF1 ?_ ?_ <;> intro hc3 hF2
 refine awp_lenT 0 (fun hb4 => ?_)
 refine awp_skip (k_seq (awp_seq (awp_block (awp_seq (awp_region ?_)))))
 refine s_mv ?_
 refine s_as ?_
 refine k_nil (k_seq (awp_seq (awp_region ?_)))
 iterate 3 refine s_mv ?_
 obtain ⟨v5, hv5, hF3⟩ := bind_some' hF2
 refine s_ixT Hit.row hv5 (Hit.row_eq _) yE63 ?_
 refine s_ldN yA65 yS65 ?_
 obtain ⟨v6, hv6, hF4⟩ := bind_some' hF3
 refine s_call [(9000, 9000)] [] _ _ (ih_m_impl_hitOk_1 fu (by omega) _ _ _ hv6) ?_
 refine k_nil (k_seq ?_)
 refine w_cond hF4 ?_ ?_ <;> intro hc7 hF5
 refine awp_seq (awp_region ?_)
 refine s_mv ?_
 refine s_as ?_
 refine k_nil (k_seq (awp_ret (k_blk_ret (k_seq_ret (k_rnd_ret2 (k_blk_ret (k_seq_ret (k_fin ?_))))))))
 cases hF5
 exact ends_a _ [] Try.results137
 refine awp_skip (k_blk (k_seq (awp_region ?_)))
 refine s_add (winc2 hc3 hb4 hn_g1) ?_
 refine s_mv ?_
 refine k_nil ?_
 exact s_rn (fu, (g1 + 1)) ⟨by first | omega | (dsimp only; omega), hF5, by first | omega | (dsimp only; omega)⟩
 refine awp_exit (k_seq_exit (k_rnd_exit2 (k_blk_exit (k_seq (awp_seq (awp_region ?_))))))
 refine s_as ?_
 refine k_nil (k_seq (awp_ret (k_fin ?_)))
 cases hF2
 exact ends_a _ [] Try.results137
theorem m_impl_hitOk_all (fuel : Nat) : m_impl_hitOk_AC fuel ∧ m_impl_hitOk_1_AC fuel ∧ m_slices_ContainsFunc_Hit_hitOk_1_AC fuel ∧ m_slices_IndexFunc_Hit_hitOk_1_AC fuel := by
 induction fuel using Nat.strongRecOn with
 | _ N ih =>
   cases N with
   | zero => exact ⟨(by intro x1 r h; rw [m_impl_hitOk] at h; cases h), (by intro x1 o1 r h; rw [m_impl_hitOk_1] at h; cases h), (by intro x1 o1 r h; rw [m_slices_ContainsFunc_Hit_hitOk_1] at h; cases h), (by intro x1 o1 r h; rw [m_slices_IndexFunc_Hit_hitOk_1] at h; cases h)⟩
   | succ fu => exact ⟨m_impl_hitOk_st fu (fun k hk => (ih k (by omega)).1) (fun k hk => (ih k (by omega)).2.1) (fun k hk => (ih k (by omega)).2.2.1) (fun k hk => (ih k (by omega)).2.2.2), m_impl_hitOk_1_st fu (fun k hk => (ih k (by omega)).1) (fun k hk => (ih k (by omega)).2.1) (fun k hk => (ih k (by omega)).2.2.1) (fun k hk => (ih k (by omega)).2.2.2), m_slices_ContainsFunc_Hit_hitOk_1_st fu (fun k hk => (ih k (by omega)).1) (fun k hk => (ih k (by omega)).2.1) (fun k hk => (ih k (by omega)).2.2.1) (fun k hk => (ih k (by omega)).2.2.2), m_slices_IndexFunc_Hit_hitOk_1_st fu (fun k hk => (ih k (by omega)).1) (fun k hk => (ih k (by omega)).2.1) (fun k hk => (ih k (by omega)).2.2.1) (fun k hk => (ih k (by omega)).2.2.2)⟩
theorem m_impl_hitOk_ok (fuel : Nat) : m_impl_hitOk_AC fuel := (m_impl_hitOk_all fuel).1
def m_slices_Clone_int_D_AC (fuel : Nat) : Prop := ∀ (x1 : (List Int)) (r : (List Int)), m_slices_Clone_int fuel x1 = some r → AC Try.prog 136 [.t (.sl (x1.map rI))] (objs []) (.ar 9200) (objs [(9200, .arr (r.map rI) 3 true)])
theorem m_slices_Clone_int_D_ok (fuel : Nat) : m_slices_Clone_int_D_AC fuel := by
 intro x1 r hF0
 unfold m_slices_Clone_int at hF0
 refine AC_i [.ar 9200] Try.func136 rfl Try.ntmps136 ?_
 intro C hC
 refine awp_nil 0 (fun hz => ?_) ?_
 replace hz := List.map_eq_nil_iff.mp hz; subst hz; obtain ⟨_, hF1⟩ := chk_some hF0
 refine awp_seq (awp_region ?_)
 refine s_as ?_
 refine k_nil (k_seq (awp_seq (awp_seq (awp_region ?_))))
 refine s_mv ?_
 refine s_nil yU22 ?_
 refine k_nil (k_seq (awp_true rfl ?_))
 refine awp_unnil 0 ?_
 refine awp_unnil 3 ?_
 refine awp_seq (awp_region ?_)
 refine s_as ?_
 refine k_nil (k_seq ?_)
 refine awp_own 2 9200 3 yI3.choose_spec ?_
 refine awp_ret (k_seq_ret (k_fin ?_))
 cases hF1
 exact ends_a _ [] Try.results136
 refine awp_seq (awp_region ?_)
 refine s_as ?_
 refine k_nil (k_seq (awp_seq (awp_seq (awp_region ?_))))
 refine s_mv ?_
 refine s_nil yU22 ?_
 refine k_nil (k_seq (awp_false rfl ?_))
 refine awp_unnil 0 ?_
 refine awp_unnil 3 ?_
 refine awp_skip (k_seq (awp_seq (awp_region ?_)))
 refine s_bs rI ([] : List Int) yP22 yR3 ?_
 refine s_mv ?_
 obtain ⟨hk1, hF1⟩ := chk_some hF0
 refine s_apT rI (fun _ => rfl) hk1 yP22 ?_
 refine s_as ?_
 refine k_nil (k_seq ?_)
 refine awp_mv 2 7 9200 (by conv => lhs; whnf) (by conv => lhs; whnf) rfl ?_
 refine awp_ret (k_fin ?_)
 cases hF1
 exact ends_a _ [] Try.results136
def m_impl_copyForm_D_AC (fuel : Nat) : Prop := ∀ (x1 : Form) (r : Form), m_impl_copyForm fuel x1 = some r → AC Try.prog 89 [.ag [.t (.sc (.int .i64 x1.kind)), .t (.sc (.str x1.name)), .t (.sc (.int .i64 x1.n)), .t (.sl (x1.scopes.map rI)), .t (.sl (x1.kids.map Form.row))]] (objs []) (.ag [.t (.sc (.int .i64 r.kind)), .t (.sc (.str r.name)), .t (.sc (.int .i64 r.n)), .ar 9203, .ar 9204]) (objs [(9203, .arr (r.scopes.map rI) 3 true), (9204, .dar (r.kids.map (Form.rowD 3 34)) 34)])
theorem m_impl_copyForm_D_st (fu : Nat) (ih_m_impl_copyForm_D : ∀ k, k ≤ fu → m_impl_copyForm_D_AC k) : m_impl_copyForm_D_AC (fu + 1) := by
 intro x1 r hF0
 rw [m_impl_copyForm] at hF0
 refine AC_i [.ag [.t (.sc (.int .i64 r.kind)), .t (.sc (.str r.name)), .t (.sc (.int .i64 r.n)), .ar 9203, .ar 9204]] Try.func89 rfl Try.ntmps89 ?_
 intro C hC
 refine awp_seq (awp_region ?_)
 refine s_box ?_
 refine s_alloc yZ34 ?_
 refine k_nil (k_seq (awp_seq ?_))
 refine awp_draw yMix (by kernel_rfl) ?_
 refine s_fa yF34_0 ?_
 refine s_ld1 yA3 ?_
 refine s_fa yF34_1 ?_
 refine s_ld1 yA9 ?_
 refine s_fa yF34_2 ?_
 refine s_ld1 yA3 ?_
 refine s_fa yF34_3 ?_
 refine s_ld1 yA22 ?_
 obtain ⟨v1, hv1, hF1⟩ := bind_some' hF0
 refine s_call [(9200, 2014)] [] _ _ (m_slices_Clone_int_D_ok fu _ _ hv1) ?_
 refine s_bld yZ34 yL34 ?_
 refine s_alloc yZ34 ?_
 refine s_stW yS34 ?_
 refine k_nilD (by kernel_rfl) ?_
 refine k_seq (awp_seq (awp_seq (awp_region ?_)))
 refine s_fa yF34_4 ?_
 refine s_ld1 yA32 ?_
 refine s_lenT yU32 ?_
 refine s_mv ?_
 refine k_nil (k_seq (awp_block ?_))
 refine awp_ownB 3 5020 34 [.t (.sc (.int .i64 x1.kind)), .t (.sc (.str x1.name)), .t (.sc (.int .i64 x1.n)), .ar 2014, .ar 5020] yI34.choose_spec ?_
 refine awp_toD 5020 (Form.rowD 3 34) (es := ([] : List Form).map Form.row) (by (conv => lhs; whnf) <;> rfl) rfl ?_
 refine awp_frame2 [5, 19, 20, 21, 22, 23, 24, 25, 26, 27, 28, 29, 30] [3, 5020] [5, 27, 28, 2026, 12026] [5020] (fun a : Nat × Int × (List Form) => a.1) (fun a : Nat × Int × (List Form) => [(19, .t (.sc (.int .i64 a.2.1)))]) (fun a : Nat × Int × (List Form) => [(3, .box [.t (.sc (.int .i64 x1.kind)), .t (.sc (.str x1.name)), .t (.sc (.int .i64 x1.n)), .ar 2014, .ar 5020]), (5020, .dar (a.2.2.map (Form.rowD 3 34)) 34)]) (fun a : Nat × Int × (List Form) => a.1 ≤ fu ∧ m_impl_copyForm_l1 a.1 x1 v1 a.2.1 a.2.2 = some r ∧ 0 ≤ a.2.1) (fu, 0, ([] : List Form)) ⟨Nat.le_refl _, hF1, by simp⟩ (by rfl) (by rfl) (fun _ => rfl) (hasF_cons (by conv => lhs; whnf) (by rfl) hasF_nil) (hasO_cons (by conv => lhs; whnf) (by rfl) (hasO_cons (by conv => lhs; whnf) (by rfl) hasO_nil)) (fresh_C hC rfl) (by repeat (first | exact freshS_args rfl | refine freshS_upd rfl ?_ | refine freshS_frame rfl ?_)) (by repeat (first | exact freshM_no | exact objs_fresh rfl | refine freshM_upd rfl ?_ | refine freshM_frame rfl ?_)) ?_
 clear hF1
 rintro ⟨fu, g2, g3⟩ ⟨hl4, hF2, hn_g2⟩
 dsimp only at hl4 hF2 hn_g2 ⊢
 obtain _ | fu := fu
 · rw [m_impl_copyForm_l1] at hF2; cases hF2
 rw [m_impl_copyForm_l1] at hF2
 refine awp_seq (awp_region ?_)
 refine s_lt ?_
 refine k_nil (k_seq (awp_seq ?_))
 refine w_cond hF2 ?_ ?_ <;> intro hc5 hF3
 refine awp_lenT 17 (fun hb6 => ?_)
 refine awp_skip (k_seq (awp_seq (awp_block (awp_seq (awp_region ?_)))))
 obtain ⟨v7, hv7, hF4⟩ := bind_some' hF3
 refine s_ixT Form.row hv7 (Form.row_eq _) yE32 ?_
 refine s_ldN yA34 yS34 ?_
 refine s_alloc yZ34 ?_
 refine s_stW yS34 ?_
 refine k_nil (k_seq ?_)
 refine awp_draw yMix (by kernel_rfl) ?_
 refine s_fa yF34_4 ?_
 refine s_ld1 yA32 ?_
 refine s_ldW yA34 yS34 ?_
 obtain ⟨v8, hv8, hF5⟩ := bind_some' hF4
 refine s_call [(9203, 2026), (9204, 12026)] [] _ _ (ih_m_impl_copyForm_D fu (by omega) _ _ hv8) ?_
 refine s_bsD [.sc (.int .i64 v8.kind), .sc (.str v8.name), .sc (.int .i64 v8.n), .any, .any] [(0, 3, 2026), (0, 4, 12026)] yP32 ?_
 obtain ⟨hk9, hF6⟩ := chk_some hF5
 refine s_apH (Form.rowD 3 34) [(g3.length, 3, 2026), (g3.length, 4, 12026)] hk9 yP32 ?_
 refine s_fa yF34_4 ?_
 refine s_stP yS32 ?_
 refine k_nilD (by kernel_rfl) ?_
 refine k_blk (k_seq ?_)
 refine awp_jaA 28 2026 [.sc (.int .i64 v8.kind), .sc (.str v8.name), .sc (.int .i64 v8.n), .ow 3 (v8.scopes.map rI), .any] ?_
 refine awp_jaD 28 12026 [.sc (.int .i64 v8.kind), .sc (.str v8.name), .sc (.int .i64 v8.n), .ow 3 (v8.scopes.map rI), .ow 34 (v8.kids.map (Form.rowD 3 34))] ?_
 refine awp_naH 28 (row := (Form.rowD 3 34)) (fs := [.sc (.int .i64 v8.kind), .sc (.str v8.name), .sc (.int .i64 v8.n), .ow 3 (v8.scopes.map rI), .ow 34 (v8.kids.map (Form.rowD 3 34))]) v8 (Form.rowDE _ _ _) ?_
 refine awp_region ?_
 refine s_add (winc2 hc5 hb6 hn_g2) ?_
 refine s_mv ?_
 refine k_nil ?_
 exact s_rn (fu, (g2 + 1), (g3 ++ [v8])) ⟨by first | omega | (dsimp only; omega), hF6, by first | omega | (dsimp only; omega)⟩ [(5020, 28)]
 refine awp_exit (k_seq_exit (k_rnd_exit2 (k_blk_exit (k_seq (awp_seq (awp_region ?_))))))
 refine s_ldW yA34 yS34 ?_
 refine s_stW yS34 ?_
 refine k_nil (k_seq ?_)
 refine awp_mvB 2 2014 9203 [.t (.sc (.int .i64 x1.kind)), .t (.sc (.str x1.name)), .t (.sc (.int .i64 x1.n)), .ar 9203, .ar 5020] ?_
 refine awp_mvBO 2 5020 9204 [.t (.sc (.int .i64 x1.kind)), .t (.sc (.str x1.name)), .t (.sc (.int .i64 x1.n)), .ar 9203, .ar 9204] ?_
 refine awp_ret (k_fin ?_)
 cases hF3
 exact ends_gen _ [] (by rw [Try.results89]; exact (res_agg (by conv => lhs; whnf) (by conv => lhs; whnf) yA34 yS34 rfl res_nil))
theorem m_impl_copyForm_D_all (fuel : Nat) : m_impl_copyForm_D_AC fuel := by
 induction fuel using Nat.strongRecOn with
 | _ N ih =>
   cases N with
   | zero => exact (by intro x1 r h; rw [m_impl_copyForm] at h; cases h)
   | succ fu => exact m_impl_copyForm_D_st fu (fun k hk => (ih k (by omega)))
theorem m_impl_copyForm_D_ok (fuel : Nat) : m_impl_copyForm_D_AC fuel := (m_impl_copyForm_D_all fuel)
def m_laws_eqIntS_AC (fuel : Nat) : Prop := ∀ (x1 : (List Int)) (x2 : (List Int)) (r : Bool), m_laws_eqIntS fuel x1 x2 = some r → AC Try.prog 26 [.t (.sl (x1.map rI)), .t (.sl (x2.map rI))] noOb (.t (.sc (.bool r))) noOb
theorem m_laws_eqIntS_ok (fuel : Nat) : m_laws_eqIntS_AC fuel := by
 intro x1 x2 r hF0
 unfold m_laws_eqIntS at hF0
 refine AC_i [.t (.sc (.bool r))] Try.func26 rfl Try.ntmps26 ?_
 intro C hC
 refine awp_seq (awp_region ?_)
 refine s_as ?_
 refine k_nil (k_seq (awp_seq (awp_seq (awp_region ?_))))
 refine s_mv ?_
 refine s_lenT yU22 ?_
 refine s_mv ?_
 refine s_lenT yU22 ?_
 refine s_ne ?_
 refine k_nil (k_seq ?_)
 refine w_cond hF0 ?_ ?_ <;> intro hc1 hF1
 refine awp_seq (awp_region ?_)
 refine s_as ?_
 refine k_nil (k_seq (awp_ret (k_seq_ret (k_fin ?_))))
 cases hF1
 exact ends_a [] [] Try.results26
 refine awp_skip (k_seq (awp_seq (awp_seq (awp_region ?_))))
 refine s_as ?_
 refine k_nil (k_seq (awp_block ?_))
 refine awp_fr (β := Int) [4, 5, 11, 12, 13, 14, 15, 16, 17, 18, 19, 20, 21, 22, 23, 24, 25] [] [] (fun a => [(5, .t (.sc (.int .i64 a.2)))]) (fun a => []) (fun a => a.1 ≤ fuel ∧ m_laws_eqIntS_l1 a.1 x1 x2 a.2 = some r ∧ 0 ≤ a.2) (fuel, 0) ⟨Nat.le_refl _, hF1, by simp⟩ ?_
 clear hF1
 rintro ⟨fu, g2⟩ ⟨hl3, hF2, hn_g2⟩
 dsimp only at hl3 hF2 hn_g2 ⊢
 obtain _ | fu := fu
 · rw [m_laws_eqIntS_l1] at hF2; cases hF2
 rw [m_laws_eqIntS_l1] at hF2
 refine awp_seq (awp_seq (awp_region ?_))
 refine s_mv ?_
 refine s_mv ?_
 refine s_lenT yU22 ?_
 refine s_lt ?_
 refine k_nil (k_seq ?_)
 refine w_cond hF2 ?_ ?_ <;> intro hc4 hF3
 refine awp_lenT 0 (fun hb5 => ?_)
 refine awp_skip (k_seq (awp_seq (awp_block (awp_seq ?_))))
 refine awp_draw yMix (by kernel_rfl) ?_
 refine s_mv ?_
 refine s_mv ?_
 obtain ⟨v6, hv6, hF4⟩ := bind_some' hF3
 refine s_ixT rI hv6 rfl yE22 ?_
 refine s_ld1 yA3 ?_
 refine s_mv ?_
 refine s_mv ?_
 obtain ⟨v7, hv7, hF5⟩ := bind_some' hF4
 refine s_ixT rI hv7 rfl yE22 ?_
 refine s_ld1 yA3 ?_
 refine s_ne ?_
 refine k_nilD (by kernel_rfl) ?_
 refine k_seq ?_
 refine w_cond hF5 ?_ ?_ <;> intro hc8 hF6
 refine awp_seq (awp_region ?_)
 refine s_as ?_
 refine k_nil (k_seq (awp_ret (k_blk_ret (k_seq_ret (k_rnd_ret2 (k_blk_ret (k_seq_ret (k_fin ?_))))))))
 cases hF6
 exact ends_a [] [] Try.results26
 refine awp_skip (k_blk (k_seq (awp_region ?_)))
 refine s_mv ?_
 refine s_add (winc2 hc4 hb5 hn_g2) ?_
 refine s_as ?_
 refine k_nil ?_
 exact s_rn (fu, (g2 + 1)) ⟨by first | omega | (dsimp only; omega), hF6, by first | omega | (dsimp only; omega)⟩
 refine awp_exit (k_seq_exit (k_rnd_exit2 (k_blk_exit (k_seq (awp_seq (awp_region ?_))))))
 refine s_as ?_
 refine k_nil (k_seq (awp_ret (k_fin ?_)))
 cases hF3
 exact ends_a [] [] Try.results26
def m_laws_eqForm_AC (fuel : Nat) : Prop := ∀ (x1 : Form) (x2 : Form) (r : Bool), m_laws_eqForm fuel x1 x2 = some r → AC Try.prog 44 [.ag [.t (.sc (.int .i64 x1.kind)), .t (.sc (.str x1.name)), .t (.sc (.int .i64 x1.n)), .t (.sl (x1.scopes.map rI)), .t (.sl (x1.kids.map Form.row))], .ag [.t (.sc (.int .i64 x2.kind)), .t (.sc (.str x2.name)), .t (.sc (.int .i64 x2.n)), .t (.sl (x2.scopes.map rI)), .t (.sl (x2.kids.map Form.row))]] noOb (.t (.sc (.bool r))) noOb
def m_laws_eqFormS_AC (fuel : Nat) : Prop := ∀ (x1 : (List Form)) (x2 : (List Form)) (r : Bool), m_laws_eqFormS fuel x1 x2 = some r → AC Try.prog 28 [.t (.sl (x1.map Form.row)), .t (.sl (x2.map Form.row))] noOb (.t (.sc (.bool r))) noOb
theorem m_laws_eqForm_st (fu : Nat) (ih_m_laws_eqForm : ∀ k, k ≤ fu → m_laws_eqForm_AC k) (ih_m_laws_eqFormS : ∀ k, k ≤ fu → m_laws_eqFormS_AC k) : m_laws_eqForm_AC (fu + 1) := by
 intro x1 x2 r hF0
 rw [m_laws_eqForm] at hF0
 refine AC_i [.t (.sc (.bool r))] Try.func44 rfl Try.ntmps44 ?_
 intro C hC
 refine awp_seq (awp_region ?_)
 refine s_box ?_
 refine s_box ?_
 refine s_as ?_
 refine k_nil (k_seq (awp_seq (awp_seq (awp_region ?_))))
 refine s_fa yF34_0 ?_
 refine s_ld1 yA3 ?_
 refine s_fa yF34_0 ?_
 refine s_ld1 yA3 ?_
 refine s_ne ?_
 refine k_nil (k_seq ?_)
 refine w_cond hF0 ?_ ?_ <;> intro hc1 hF1
 refine awp_seq (awp_region ?_)
 refine s_as ?_
 refine k_nil (k_seq (awp_ret (k_seq_ret (k_fin ?_))))
 cases hF1
 exact ends_a [] [] Try.results44
 refine awp_skip (k_seq (awp_seq (awp_seq (awp_region ?_))))
 refine s_fa yF34_1 ?_
 refine s_ld1 yA9 ?_
 refine s_fa yF34_1 ?_
 refine s_ld1 yA9 ?_
 refine s_neS ?_
 refine k_nil (k_seq ?_)
 refine w_cond hF1 ?_ ?_ <;> intro hc2 hF2
 refine awp_seq (awp_region ?_)
 refine s_as ?_
 refine k_nil (k_seq (awp_ret (k_seq_ret (k_fin ?_))))
 cases hF2
 exact ends_a [] [] Try.results44
 refine awp_skip (k_seq (awp_seq (awp_seq (awp_region ?_))))
 refine s_fa yF34_2 ?_
 refine s_ld1 yA3 ?_
 refine s_fa yF34_2 ?_
 refine s_ld1 yA3 ?_
 refine s_ne ?_
 refine k_nil (k_seq ?_)
 refine w_cond hF2 ?_ ?_ <;> intro hc3 hF3
 refine awp_seq (awp_region ?_)
 refine s_as ?_
 refine k_nil (k_seq (awp_ret (k_seq_ret (k_fin ?_))))
 cases hF3
 exact ends_a [] [] Try.results44
 refine awp_skip (k_seq (awp_seq (awp_seq (awp_region ?_))))
 refine s_fa yF34_3 ?_
 refine s_ld1 yA22 ?_
 refine s_fa yF34_3 ?_
 refine s_ld1 yA22 ?_
 obtain ⟨v4, hv4, hF4⟩ := bind_some' hF3
 refine s_pure [] (m_laws_eqIntS_ok fu _ _ _ hv4) ?_
 refine s_not ?_
 refine k_nil (k_seq ?_)
 refine w_cond hF4 ?_ ?_ <;> intro hc5 hF5
 refine awp_seq (awp_region ?_)
 refine s_as ?_
 refine k_nil (k_seq (awp_ret (k_seq_ret (k_fin ?_))))
 cases hF5
 exact ends_a [] [] Try.results44
 refine awp_skip (k_seq (awp_seq (awp_seq (awp_region ?_))))
 refine s_fa yF34_4 ?_
 refine s_ld1 yA32 ?_
 refine s_fa yF34_4 ?_
 refine s_ld1 yA32 ?_
 obtain ⟨v6, hv6, hF6⟩ := bind_some' hF5
 refine s_pure [] (ih_m_laws_eqFormS fu (by omega) _ _ _ hv6) ?_
 refine s_not ?_
 refine k_nil (k_seq ?_)
 refine w_cond hF6 ?_ ?_ <;> intro hc7 hF7
 refine awp_seq (awp_region ?_)
 refine s_as ?_
 refine k_nil (k_seq (awp_ret (k_seq_ret (k_fin ?_))))
 cases hF7
 exact ends_a [] [] Try.results44
 refine awp_skip (k_seq (awp_seq (awp_region ?_)))
 refine s_as ?_
 refine k_nil (k_seq (awp_ret (k_fin ?_)))
 cases hF7
 exact ends_a [] [] Try.results44
theorem m_laws_eqFormS_st (fu : Nat) (ih_m_laws_eqForm : ∀ k, k ≤ fu → m_laws_eqForm_AC k) (ih_m_laws_eqFormS : ∀ k, k ≤ fu → m_laws_eqFormS_AC k) : m_laws_eqFormS_AC (fu + 1) := by
 intro x1 x2 r hF0
 rw [m_laws_eqFormS] at hF0
 refine AC_i [.t (.sc (.bool r))] Try.func28 rfl Try.ntmps28 ?_
 intro C hC
 refine awp_seq (awp_region ?_)
 refine s_as ?_
 refine k_nil (k_seq (awp_seq (awp_seq (awp_region ?_))))
 refine s_mv ?_
 refine s_lenT yU32 ?_
 refine s_mv ?_
 refine s_lenT yU32 ?_
 refine s_ne ?_
 refine k_nil (k_seq ?_)
 refine w_cond hF0 ?_ ?_ <;> intro hc1 hF1
 refine awp_seq (awp_region ?_)
 refine s_as ?_
 refine k_nil (k_seq (awp_ret (k_seq_ret (k_fin ?_))))
 cases hF1
 exact ends_a [] [] Try.results28
 refine awp_skip (k_seq (awp_seq (awp_seq (awp_region ?_))))
 refine s_as ?_
 refine k_nil (k_seq (awp_block ?_))
 refine awp_fr (β := Int) [4, 5, 11, 12, 13, 14, 15, 16, 17, 18, 19, 20, 21, 22, 23, 24, 25, 26] [] [] (fun a => [(5, .t (.sc (.int .i64 a.2)))]) (fun a => []) (fun a => a.1 ≤ fu ∧ m_laws_eqFormS_l1 a.1 x1 x2 a.2 = some r ∧ 0 ≤ a.2) (fu, 0) ⟨Nat.le_refl _, hF1, by simp⟩ ?_
 clear hF1
 rintro ⟨fu, g2⟩ ⟨hl3, hF2, hn_g2⟩
 dsimp only at hl3 hF2 hn_g2 ⊢
 obtain _ | fu := fu
 · rw [m_laws_eqFormS_l1] at hF2; cases hF2
 rw [m_laws_eqFormS_l1] at hF2
 refine awp_seq (awp_seq (awp_region ?_))
 refine s_mv ?_
 refine s_mv ?_
 refine s_lenT yU32 ?_
 refine s_lt ?_
 refine k_nil (k_seq ?_)
 refine w_cond hF2 ?_ ?_ <;> intro hc4 hF3
 refine awp_lenT 0 (fun hb5 => ?_)
 refine awp_skip (k_seq (awp_seq (awp_block (awp_seq ?_))))
 refine awp_draw yMix (by kernel_rfl) ?_
 refine s_mv ?_
 refine s_mv ?_
 obtain ⟨v6, hv6, hF4⟩ := bind_some' hF3
 refine s_ixT Form.row hv6 (Form.row_eq _) yE32 ?_
 refine s_ldN yA34 yS34 ?_
 refine s_mv ?_
 refine s_mv ?_
 obtain ⟨v7, hv7, hF5⟩ := bind_some' hF4
 refine s_ixT Form.row hv7 (Form.row_eq _) yE32 ?_
 refine s_ldN yA34 yS34 ?_
 obtain ⟨v8, hv8, hF6⟩ := bind_some' hF5
 refine s_pure [] (ih_m_laws_eqForm fu (by omega) _ _ _ hv8) ?_
 refine s_not ?_
 refine k_nilD (by kernel_rfl) ?_
 refine k_seq ?_
 refine w_cond hF6 ?_ ?_ <;> intro hc9 hF7
 refine awp_seq (awp_region ?_)
 refine s_as ?_
 refine k_nil (k_seq (awp_ret (k_blk_ret (k_seq_ret (k_rnd_ret2 (k_blk_ret (k_seq_ret (k_fin ?_))))))))
 cases hF7
 exact ends_a [] [] Try.results28
 refine awp_skip (k_blk (k_seq (awp_region ?_)))
 refine s_mv ?_
 refine s_add (winc2 hc4 hb5 hn_g2) ?_
 refine s_as ?_
 refine k_nil ?_
 exact s_rn (fu, (g2 + 1)) ⟨by first | omega | (dsimp only; omega), hF7, by first | omega | (dsimp only; omega)⟩
 refine awp_exit (k_seq_exit (k_rnd_exit2 (k_blk_exit (k_seq (awp_seq (awp_region ?_))))))
 refine s_as ?_
 refine k_nil (k_seq (awp_ret (k_fin ?_)))
 cases hF3
 exact ends_a [] [] Try.results28
theorem m_laws_eqForm_all (fuel : Nat) : m_laws_eqForm_AC fuel ∧ m_laws_eqFormS_AC fuel := by
 induction fuel using Nat.strongRecOn with
 | _ N ih =>
   cases N with
   | zero => exact ⟨(by intro x1 x2 r h; rw [m_laws_eqForm] at h; cases h), (by intro x1 x2 r h; rw [m_laws_eqFormS] at h; cases h)⟩
   | succ fu => exact ⟨m_laws_eqForm_st fu (fun k hk => (ih k (by omega)).1) (fun k hk => (ih k (by omega)).2), m_laws_eqFormS_st fu (fun k hk => (ih k (by omega)).1) (fun k hk => (ih k (by omega)).2)⟩
theorem m_laws_eqForm_ok (fuel : Nat) : m_laws_eqForm_AC fuel := (m_laws_eqForm_all fuel).1
def m_laws_eqHit_AC (fuel : Nat) : Prop := ∀ (x1 : Hit) (x2 : Hit) (r : Bool), m_laws_eqHit fuel x1 x2 = some r → AC Try.prog 37 [.ag [.t (.sc (.int .i64 x1.name.kind)), .t (.sc (.str x1.name.name)), .t (.sc (.int .i64 x1.name.n)), .t (.sl (x1.name.scopes.map rI)), .t (.sl (x1.name.kids.map Form.row)), .t (.sc (.int .i64 x1.depth)), .t (.sc (.int .i64 x1.one.kind)), .t (.sc (.str x1.one.name)), .t (.sc (.int .i64 x1.one.n)), .t (.sl (x1.one.scopes.map rI)), .t (.sl (x1.one.kids.map Form.row)), .t (.sl (x1.many.map Hit.row))], .ag [.t (.sc (.int .i64 x2.name.kind)), .t (.sc (.str x2.name.name)), .t (.sc (.int .i64 x2.name.n)), .t (.sl (x2.name.scopes.map rI)), .t (.sl (x2.name.kids.map Form.row)), .t (.sc (.int .i64 x2.depth)), .t (.sc (.int .i64 x2.one.kind)), .t (.sc (.str x2.one.name)), .t (.sc (.int .i64 x2.one.n)), .t (.sl (x2.one.scopes.map rI)), .t (.sl (x2.one.kids.map Form.row)), .t (.sl (x2.many.map Hit.row))]] noOb (.t (.sc (.bool r))) noOb
def m_laws_eqHitS_AC (fuel : Nat) : Prop := ∀ (x1 : (List Hit)) (x2 : (List Hit)) (r : Bool), m_laws_eqHitS fuel x1 x2 = some r → AC Try.prog 50 [.t (.sl (x1.map Hit.row)), .t (.sl (x2.map Hit.row))] noOb (.t (.sc (.bool r))) noOb
theorem m_laws_eqHit_st (fu : Nat) (ih_m_laws_eqHit : ∀ k, k ≤ fu → m_laws_eqHit_AC k) (ih_m_laws_eqHitS : ∀ k, k ≤ fu → m_laws_eqHitS_AC k) : m_laws_eqHit_AC (fu + 1) := by
 intro x1 x2 r hF0
 rw [m_laws_eqHit] at hF0
 refine AC_i [.t (.sc (.bool r))] Try.func37 rfl Try.ntmps37 ?_
 intro C hC
 refine awp_seq (awp_region ?_)
 refine s_box ?_
 refine s_box ?_
 refine s_as ?_
 refine k_nil (k_seq (awp_seq (awp_seq (awp_region ?_))))
 refine s_fa yF65_0 ?_
 refine s_ldN yA34 yS34 ?_
 refine s_fa yF65_0 ?_
 refine s_ldN yA34 yS34 ?_
 obtain ⟨v1, hv1, hF1⟩ := bind_some' hF0
 refine s_pure [] (m_laws_eqForm_ok fu _ _ _ hv1) ?_
 refine s_not ?_
 refine k_nil (k_seq ?_)
 refine w_cond hF1 ?_ ?_ <;> intro hc2 hF2
 refine awp_seq (awp_region ?_)
 refine s_as ?_
 refine k_nil (k_seq (awp_ret (k_seq_ret (k_fin ?_))))
 cases hF2
 exact ends_a [] [] Try.results37
 refine awp_skip (k_seq (awp_seq (awp_seq (awp_region ?_))))
 refine s_fa yF65_1 ?_
 refine s_ld1 yA3 ?_
 refine s_fa yF65_1 ?_
 refine s_ld1 yA3 ?_
 refine s_ne ?_
 refine k_nil (k_seq ?_)
 refine w_cond hF2 ?_ ?_ <;> intro hc3 hF3
 refine awp_seq (awp_region ?_)
 refine s_as ?_
 refine k_nil (k_seq (awp_ret (k_seq_ret (k_fin ?_))))
 cases hF3
 exact ends_a [] [] Try.results37
 refine awp_skip (k_seq (awp_seq (awp_seq (awp_region ?_))))
 refine s_fa yF65_2 ?_
 refine s_ldN yA34 yS34 ?_
 refine s_fa yF65_2 ?_
 refine s_ldN yA34 yS34 ?_
 obtain ⟨v4, hv4, hF4⟩ := bind_some' hF3
 refine s_pure [] (m_laws_eqForm_ok fu _ _ _ hv4) ?_
 refine s_not ?_
 refine k_nil (k_seq ?_)
 refine w_cond hF4 ?_ ?_ <;> intro hc5 hF5
 refine awp_seq (awp_region ?_)
 refine s_as ?_
 refine k_nil (k_seq (awp_ret (k_seq_ret (k_fin ?_))))
 cases hF5
 exact ends_a [] [] Try.results37
 refine awp_skip (k_seq (awp_seq (awp_seq (awp_region ?_))))
 refine s_fa yF65_3 ?_
 refine s_ld1 yA63 ?_
 refine s_fa yF65_3 ?_
 refine s_ld1 yA63 ?_
 obtain ⟨v6, hv6, hF6⟩ := bind_some' hF5
 refine s_pure [] (ih_m_laws_eqHitS fu (by omega) _ _ _ hv6) ?_
 refine s_not ?_
 refine k_nil (k_seq ?_)
 refine w_cond hF6 ?_ ?_ <;> intro hc7 hF7
 refine awp_seq (awp_region ?_)
 refine s_as ?_
 refine k_nil (k_seq (awp_ret (k_seq_ret (k_fin ?_))))
 cases hF7
 exact ends_a [] [] Try.results37
 refine awp_skip (k_seq (awp_seq (awp_region ?_)))
 refine s_as ?_
 refine k_nil (k_seq (awp_ret (k_fin ?_)))
 cases hF7
 exact ends_a [] [] Try.results37
end Go.Abs
