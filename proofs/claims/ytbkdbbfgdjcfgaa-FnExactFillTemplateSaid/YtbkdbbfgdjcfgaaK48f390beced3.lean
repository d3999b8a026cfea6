/- A part of the proof: what the functions that the law calls answer, as pure values. -/
import Derived.Test.YtbkdbbfgdjcfgaaK00b9e8259e4a
import Derived.Test.YtbkdbbfgdjcfgaaK0759272d1096
import Derived.Test.YtbkdbbfgdjcfgaaK1dbd5033339e
import Derived.Test.YtbkdbbfgdjcfgaaK2759ad94f49e
import Derived.Test.YtbkdbbfgdjcfgaaK3a2f94805f11
import Derived.Test.YtbkdbbfgdjcfgaaK55104e13721b
import Derived.Test.YtbkdbbfgdjcfgaaKafa1c419a05e
import Derived.Test.YtbkdbbfgdjcfgaaKe8177d545ea5
set_option linter.unusedSimpArgs false
set_option linter.unusedVariables false
set_option maxRecDepth 100000
set_option maxHeartbeats 4000000
namespace Go.Abs
open Go.Proofs
def m_impl_TemplateValid_AC (fuel : Nat) : Prop := ∀ (x1 : Form) (x2 : (List Hit)) (r : Bool), m_impl_TemplateValid fuel x1 x2 = some r → AC Try.prog 108 [.ag [.t (.sc (.int .i64 x1.kind)), .t (.sc (.str x1.name)), .t (.sc (.int .i64 x1.n)), .t (.sl (x1.scopes.map rI)), .t (.sl (x1.kids.map Form.row))], .t (.sl (x2.map Hit.row))] noOb (.t (.sc (.bool r))) noOb
theorem m_impl_TemplateValid_ok (fuel : Nat) : m_impl_TemplateValid_AC fuel := by
 intro x1 x2 r hF0
 unfold m_impl_TemplateValid at hF0
 refine AC_i [.t (.sc (.bool r))] Try.func108 rfl Try.ntmps108 ?_
 intro C hC
 refine awp_seq (awp_region ?_)
 refine s_box ?_
 refine s_as ?_
 refine k_nil (k_seq (awp_seq (awp_region ?_)))
 refine s_mv ?_
 obtain ⟨v1, hv1, hF1⟩ := bind_some' hF0
 refine s_pure [] (m_impl_hitVars_ok fuel _ _ hv1) ?_
 refine s_mv ?_
 refine s_ext ?_
 refine s_ext ?_
 refine s_as ?_
 refine s_as ?_
 refine k_nil (k_seq (awp_seq (awp_region ?_)))
 refine s_mv ?_
 obtain ⟨v2, hv2, hF2⟩ := bind_some' hF1
 refine s_pure [] (m_impl_HitsValid_ok fuel _ _ hv2) ?_
 refine s_mv ?_
 refine w_guard _ 14 hF2 ?_ ?_ <;> intro hc3 hF3
 refine s_ldW yA34 yS34 ?_
 refine s_mv ?_
 refine s_mv ?_
 obtain ⟨v4, hv4, hF4⟩ := bind_some' hF3
 refine s_pure [] (m_impl_templateOk_ok fuel _ _ _ _ hv4) ?_
 refine s_pkt ?_
 refine s_as ?_
 refine k_nil (k_seq (awp_ret (k_fin ?_)))
 cases hF4
 exact ends_a [] [] Try.results108
 iterate 4 refine r_no rfl ?_
 refine s_pkf ?_
 refine s_as ?_
 refine k_nil (k_seq (awp_ret (k_fin ?_)))
 cases hF3
 exact ends_a [] [] Try.results108
def m_impl_FormSize_AC (fuel : Nat) : Prop := ∀ (x1 : Form) (r : Int), m_impl_FormSize fuel x1 = some r → AC Try.prog 152 [.ag [.t (.sc (.int .i64 x1.kind)), .t (.sc (.str x1.name)), .t (.sc (.int .i64 x1.n)), .t (.sl (x1.scopes.map rI)), .t (.sl (x1.kids.map Form.row))]] noOb (.t (.sc (.int .i64 r))) noOb
theorem m_impl_FormSize_st (fu : Nat) (ih_m_impl_FormSize : ∀ k, k ≤ fu → m_impl_FormSize_AC k) : m_impl_FormSize_AC (fu + 1) := by
 intro x1 r hF0
 rw [m_impl_FormSize] at hF0
 refine AC_i [.t (.sc (.int .i64 r))] Try.func152 rfl Try.ntmps152 ?_
 intro C hC
 refine awp_seq (awp_region ?_)
 refine s_box ?_
 refine s_as ?_
 refine k_nil (k_seq (awp_seq (awp_region ?_)))
 refine s_as ?_
 refine k_nil (k_seq (awp_seq (awp_seq (awp_region ?_))))
 refine s_fa yF34_4 ?_
 refine s_ld1 yA32 ?_
 refine s_lenT yU32 ?_
 refine s_mv ?_
 refine k_nil (k_seq (awp_block ?_))
 refine awp_fr (β := Int × Int) [3, 5, 9, 10, 11, 12, 13, 14, 15, 16, 17] [] [5] (fun a => [(3, .t (.sc (.int .i64 a.2.1))), (9, .t (.sc (.int .i64 a.2.2)))]) (fun a => []) (fun a => a.1 ≤ fu ∧ m_impl_FormSize_l1 a.1 x1 a.2.1 a.2.2 = some r ∧ 0 ≤ a.2.2) (fu, 1, 0) ⟨Nat.le_refl _, hF0, by simp⟩ ?_
 clear hF0
 rintro ⟨fu, g1, g2⟩ ⟨hl3, hF1, hn_g2⟩
 dsimp only at hl3 hF1 hn_g2 ⊢
 obtain _ | fu := fu
 · rw [m_impl_FormSize_l1] at hF1; cases hF1
 rw [m_impl_FormSize_l1] at hF1
 refine awp_seq (awp_region ?_)
 refine s_lt ?_
 refine k_nil (k_seq (awp_seq ?_))
 refine w_cond hF1 ?_ ?_ <;> intro hc4 hF2
 refine awp_lenT 7 (fun hb5 => ?_)
 refine awp_skip (k_seq (awp_seq (awp_block (awp_seq (awp_region ?_)))))
 obtain ⟨v6, hv6, hF3⟩ := bind_some' hF2
 refine s_ixT Form.row hv6 (Form.row_eq _) yE32 ?_
 refine s_ldN yA34 yS34 ?_
 refine s_alloc yZ34 ?_
 refine s_stW yS34 ?_
 refine k_nil (k_seq (awp_region ?_))
 refine s_mv ?_
 refine s_ldW yA34 yS34 ?_
 obtain ⟨v7, hv7, hF4⟩ := bind_some' hF3
 refine s_pure [] (ih_m_impl_FormSize fu (by omega) _ _ hv7) ?_
 refine s_add rfl ?_
 refine s_as ?_
 refine k_nil (k_blk (k_seq (awp_region ?_)))
 refine s_add (winc2 hc4 hb5 hn_g2) ?_
 refine s_mv ?_
 refine k_nil ?_
 exact s_rn (fu, (w64 (g1 + v7)), (g2 + 1)) ⟨by first | omega | (dsimp only; omega), hF4, by first | omega | (dsimp only; omega)⟩
 refine awp_exit (k_seq_exit (k_rnd_exit2 (k_blk_exit (k_seq (awp_seq (awp_region ?_))))))
 refine s_mv ?_
 refine s_as ?_
 refine k_nil (k_seq (awp_ret (k_fin ?_)))
 cases hF2
 exact ends_a [] [] Try.results152
theorem m_impl_FormSize_all (fuel : Nat) : m_impl_FormSize_AC fuel := by
 induction fuel using Nat.strongRecOn with
 | _ N ih =>
   cases N with
   | zero => exact (by intro x1 r h; rw [m_impl_FormSize] at h; cases h)
   | succ fu => exact m_impl_FormSize_st fu (fun k hk => (ih k (by omega)))
theorem m_impl_FormSize_ok (fuel : Nat) : m_impl_FormSize_AC fuel := (m_impl_FormSize_all fuel)
def m_impl_fill_2_AC (fuel : Nat) : Prop := ∀ (x1 : Form) (o1 : Bool) (o2 : Hit) (r : Bool), m_impl_fill_2 fuel x1 o1 o2 = some r → AC Try.prog 154 [.ag [.t (.sc (.int .i64 x1.kind)), .t (.sc (.str x1.name)), .t (.sc (.int .i64 x1.n)), .t (.sl (x1.scopes.map rI)), .t (.sl (x1.kids.map Form.row))], .rf 9000 0, .rf 9001 0] (objs [(9000, .box [.t (.sc (.bool o1))]), (9001, .box [.t (.sc (.int .i64 o2.name.kind)), .t (.sc (.str o2.name.name)), .t (.sc (.int .i64 o2.name.n)), .t (.sl (o2.name.scopes.map rI)), .t (.sl (o2.name.kids.map Form.row)), .t (.sc (.int .i64 o2.depth)), .t (.sc (.int .i64 o2.one.kind)), .t (.sc (.str o2.one.name)), .t (.sc (.int .i64 o2.one.n)), .t (.sl (o2.one.scopes.map rI)), .t (.sl (o2.one.kids.map Form.row)), .t (.sl (o2.many.map Hit.row))])]) (.tp []) (objs [(9000, .box [.t (.sc (.bool r))]), (9001, .box [.t (.sc (.int .i64 o2.name.kind)), .t (.sc (.str o2.name.name)), .t (.sc (.int .i64 o2.name.n)), .t (.sl (o2.name.scopes.map rI)), .t (.sl (o2.name.kids.map Form.row)), .t (.sc (.int .i64 o2.depth)), .t (.sc (.int .i64 o2.one.kind)), .t (.sc (.str o2.one.name)), .t (.sc (.int .i64 o2.one.n)), .t (.sl (o2.one.scopes.map rI)), .t (.sl (o2.one.kids.map Form.row)), .t (.sl (o2.many.map Hit.row))])])
theorem m_impl_fill_2_ok (fuel : Nat) : m_impl_fill_2_AC fuel := by
 intro x1 o1 o2 r hF0
 unfold m_impl_fill_2 at hF0
 refine AC_i [] Try.func154 rfl Try.ntmps154 ?_
 intro C hC
 refine awp_seq (awp_region ?_)
 refine s_box ?_
 refine k_nil (k_seq (awp_region ?_))
 refine s_ld1 yA4 ?_
 refine s_mv ?_
 refine w_guard _ 5 hF0 ?_ ?_ <;> intro hc1 hF1
 iterate 4 refine r_no rfl ?_
 refine s_pkt ?_
 refine s_stW yS4 ?_
 refine k_nil (k_fin_end ?_)
 cases hF1
 exact ends_a _ [] Try.results154
 refine s_ldW yA34 yS34 ?_
 refine s_fa yF65_0 ?_
 refine s_ldN yA34 yS34 ?_
 obtain ⟨v2, hv2, hF2⟩ := bind_some' hF1
 refine s_pure [] (m_impl_FormSame_ok fuel _ _ _ hv2) ?_
 refine s_pkf ?_
 refine s_stW yS4 ?_
 refine k_nil (k_fin_end ?_)
 cases hF2
 exact ends_a _ [] Try.results154
def m_impl_eachForm_fill_2_AC (fuel : Nat) : Prop := ∀ (x1 : Form) (o1 : Bool) (o2 : Hit) (r : Bool), m_impl_eachForm_fill_2 fuel x1 o1 o2 = some r → AC Try.prog 153 [.ag [.t (.sc (.int .i64 x1.kind)), .t (.sc (.str x1.name)), .t (.sc (.int .i64 x1.n)), .t (.sl (x1.scopes.map rI)), .t (.sl (x1.kids.map Form.row))], .fn 154 [.rf 9000 0, .rf 9001 0]] (objs [(9000, .box [.t (.sc (.bool o1))]), (9001, .box [.t (.sc (.int .i64 o2.name.kind)), .t (.sc (.str o2.name.name)), .t (.sc (.int .i64 o2.name.n)), .t (.sl (o2.name.scopes.map rI)), .t (.sl (o2.name.kids.map Form.row)), .t (.sc (.int .i64 o2.depth)), .t (.sc (.int .i64 o2.one.kind)), .t (.sc (.str o2.one.name)), .t (.sc (.int .i64 o2.one.n)), .t (.sl (o2.one.scopes.map rI)), .t (.sl (o2.one.kids.map Form.row)), .t (.sl (o2.many.map Hit.row))])]) (.tp []) (objs [(9000, .box [.t (.sc (.bool r))]), (9001, .box [.t (.sc (.int .i64 o2.name.kind)), .t (.sc (.str o2.name.name)), .t (.sc (.int .i64 o2.name.n)), .t (.sl (o2.name.scopes.map rI)), .t (.sl (o2.name.kids.map Form.row)), .t (.sc (.int .i64 o2.depth)), .t (.sc (.int .i64 o2.one.kind)), .t (.sc (.str o2.one.name)), .t (.sc (.int .i64 o2.one.n)), .t (.sl (o2.one.scopes.map rI)), .t (.sl (o2.one.kids.map Form.row)), .t (.sl (o2.many.map Hit.row))])])
theorem m_impl_eachForm_fill_2_st (fu : Nat) (ih_m_impl_eachForm_fill_2 : ∀ k, k ≤ fu → m_impl_eachForm_fill_2_AC k) : m_impl_eachForm_fill_2_AC (fu + 1) := by
 intro x1 o1 o2 r hF0
 rw [m_impl_eachForm_fill_2] at hF0
 refine AC_i [] Try.func153 rfl Try.ntmps153 ?_
 intro C hC
 refine awp_seq (awp_region ?_)
 refine s_box ?_
 refine k_nil (k_seq (awp_seq (awp_region ?_)))
 refine s_mv ?_
 refine s_ldW yA34 yS34 ?_
 obtain ⟨v1, hv1, hF1⟩ := bind_some' hF0
 refine s_call [(9000, 9000), (9001, 9001)] [] _ _ (m_impl_fill_2_ok fu _ _ _ _ hv1) ?_
 refine k_nil (k_seq (awp_seq (awp_region ?_)))
 refine s_fa yF34_4 ?_
 refine s_ld1 yA32 ?_
 refine s_lenT yU32 ?_
 refine s_mv ?_
 refine k_nil (k_seq (awp_block ?_))
 refine awp_fr (β := Int × Bool) [5, 12, 13, 14, 15, 16, 17, 18, 19] [9000] [5] (fun a => [(12, .t (.sc (.int .i64 a.2.1)))]) (fun a => [(9000, .box [.t (.sc (.bool a.2.2))])]) (fun a => a.1 ≤ fu ∧ m_impl_eachForm_fill_2_l1 a.1 x1 o2 a.2.1 a.2.2 = some r ∧ 0 ≤ a.2.1) (fu, 0, v1) ⟨Nat.le_refl _, hF1, by simp⟩ ?_
 clear hF1
 rintro ⟨fu, g2, g3⟩ ⟨hl4, hF2, hn_g2⟩
 dsimp only at hl4 hF2 hn_g2 ⊢
 obtain _ | fu := fu
 · rw [m_impl_eachForm_fill_2_l1] at hF2; cases hF2
 rw [m_impl_eachForm_fill_2_l1] at hF2
 refine awp_seq (awp_region ?_)
 refine s_lt ?_
 refine k_nil (k_seq (awp_seq ?_))
 refine w_cond hF2 ?_ ?_ <;> intro hc5 hF3
 refine awp_lenT 10 (fun hb6 => ?_)
 refine awp_skip (k_seq (awp_seq (awp_block (awp_seq (awp_region ?_)))))
 obtain ⟨v7, hv7, hF4⟩ := bind_some' hF3
 refine s_ixT Form.row hv7 (Form.row_eq _) yE32 ?_
 refine s_ldN yA34 yS34 ?_
 refine s_alloc yZ34 ?_
 refine s_stW yS34 ?_
 refine k_nil (k_seq (awp_region ?_))
 refine s_ldW yA34 yS34 ?_
 refine s_mv ?_
 obtain ⟨v8, hv8, hF5⟩ := bind_some' hF4
 refine s_call [(9000, 9000), (9001, 9001)] [] _ _ (ih_m_impl_eachForm_fill_2 fu (by omega) _ _ _ _ hv8) ?_
 refine k_nil (k_blk (k_seq (awp_region ?_)))
 refine s_add (winc2 hc5 hb6 hn_g2) ?_
 refine s_mv ?_
 refine k_nil ?_
 exact s_rn (fu, (g2 + 1), v8) ⟨by first | omega | (dsimp only; omega), hF5, by first | omega | (dsimp only; omega)⟩
 refine awp_exit (k_seq_exit (k_rnd_exit2 (k_blk_exit (k_fin_end ?_))))
 cases hF3
 exact ends_a _ [] Try.results153
theorem m_impl_eachForm_fill_2_all (fuel : Nat) : m_impl_eachForm_fill_2_AC fuel := by
 induction fuel using Nat.strongRecOn with
 | _ N ih =>
   cases N with
   | zero => exact (by intro x1 o1 o2 r h; rw [m_impl_eachForm_fill_2] at h; cases h)
   | succ fu => exact m_impl_eachForm_fill_2_st fu (fun k hk => (ih k (by omega)))
theorem m_impl_eachForm_fill_2_ok (fuel : Nat) : m_impl_eachForm_fill_2_AC fuel := (m_impl_eachForm_fill_2_all fuel)
def m_slices_Clone_Hit_AC (fuel : Nat) : Prop := ∀ (x1 : (List Hit)) (r : (List Hit)), m_slices_Clone_Hit fuel x1 = some r → AC Try.prog 155 [.t (.sl (x1.map Hit.row))] (objs []) (.ar 9200) (objs [(9200, .arr (r.map Hit.row) 65 true)])
theorem m_slices_Clone_Hit_ok (fuel : Nat) : m_slices_Clone_Hit_AC fuel := by
 intro x1 r hF0
 unfold m_slices_Clone_Hit at hF0
 refine AC_i [.ar 9200] Try.func155 rfl Try.ntmps155 ?_
 intro C hC
 refine awp_nil 0 (fun hz => ?_) ?_
 replace hz := List.map_eq_nil_iff.mp hz; subst hz; obtain ⟨_, hF1⟩ := chk_some hF0
 refine awp_seq (awp_region ?_)
 refine s_as ?_
 refine k_nil (k_seq (awp_seq (awp_seq (awp_region ?_))))
 refine s_mv ?_
 refine s_nil yU63 ?_
 refine k_nil (k_seq (awp_true rfl ?_))
 refine awp_unnil 0 ?_
 refine awp_unnil 3 ?_
 refine awp_seq (awp_region ?_)
 refine s_as ?_
 refine k_nil (k_seq ?_)
 refine awp_own 2 9200 65 yI65.choose_spec ?_
 refine awp_ret (k_seq_ret (k_fin ?_))
 cases hF1
 exact ends_a _ [] Try.results155
 refine awp_seq (awp_region ?_)
 refine s_as ?_
 refine k_nil (k_seq (awp_seq (awp_seq (awp_region ?_))))
 refine s_mv ?_
 refine s_nil yU63 ?_
 refine k_nil (k_seq (awp_false rfl ?_))
 refine awp_unnil 0 ?_
 refine awp_unnil 3 ?_
 refine awp_skip (k_seq (awp_seq (awp_region ?_)))
 refine s_bs Hit.row ([] : List Hit) yP63 yR65 ?_
 refine s_mv ?_
 obtain ⟨hk1, hF1⟩ := chk_some hF0
 refine s_apT Hit.row (fun y => Hit.row_len y) hk1 yP63 ?_
 refine s_as ?_
 refine k_nil (k_seq ?_)
 refine awp_mv 2 7 9200 (by conv => lhs; whnf) (by conv => lhs; whnf) rfl ?_
 refine awp_ret (k_fin ?_)
 cases hF1
 exact ends_a _ [] Try.results155
def m_impl_fill_AC (fuel : Nat) : Prop := ∀ (x1 : Form) (x2 : (List Hit)) (r : (Form × Bool)), m_impl_fill fuel x1 x2 = some r → AC Try.prog 109 [.ag [.t (.sc (.int .i64 x1.kind)), .t (.sc (.str x1.name)), .t (.sc (.int .i64 x1.n)), .t (.sl (x1.scopes.map rI)), .t (.sl (x1.kids.map Form.row))], .t (.sl (x2.map Hit.row))] noOb (.tp [.ag [.t (.sc (.int .i64 r.1.kind)), .t (.sc (.str r.1.name)), .t (.sc (.int .i64 r.1.n)), .t (.sl (r.1.scopes.map rI)), .t (.sl (r.1.kids.map Form.row))], .t (.sc (.bool r.2))]) noOb
def m_impl_fill_1_AC (fuel : Nat) : Prop := ∀ (x1 : Form) (x2 : (List Hit)) (o1 : Int) (o2 : Form) (r : (Bool × Int × Form)), m_impl_fill_1 fuel x1 x2 o1 o2 = some r → AC Try.prog 151 [.ag [.t (.sc (.int .i64 x1.kind)), .t (.sc (.str x1.name)), .t (.sc (.int .i64 x1.n)), .t (.sl (x1.scopes.map rI)), .t (.sl (x1.kids.map Form.row))], .t (.sl (x2.map Hit.row)), .rf 9000 0, .rf 9001 0] (objs [(9000, .box [.t (.sc (.int .i64 o1))]), (9001, .box [.t (.sc (.int .i64 o2.kind)), .t (.sc (.str o2.name)), .t (.sc (.int .i64 o2.n)), .t (.sl (o2.scopes.map rI)), .ar 9444]), (9444, .arr (o2.kids.map Form.row) 34 true)]) (.t (.sc (.bool r.1))) (objs [(9000, .box [.t (.sc (.int .i64 r.2.1))]), (9001, .box [.t (.sc (.int .i64 r.2.2.kind)), .t (.sc (.str r.2.2.name)), .t (.sc (.int .i64 r.2.2.n)), .t (.sl (r.2.2.scopes.map rI)), .ar 10444]), (9444, .dead), (10444, .arr (r.2.2.kids.map Form.row) 34 true)])
theorem m_impl_fill_st (fu : Nat) (ih_m_impl_fill : ∀ k, k ≤ fu → m_impl_fill_AC k) (ih_m_impl_fill_1 : ∀ k, k ≤ fu → m_impl_fill_1_AC k) : m_impl_fill_AC (fu + 1) := by
 intro x1 x2 r hF0
 rw [m_impl_fill] at hF0
 refine AC_i [.ag [.t (.sc (.int .i64 r.1.kind)), .t (.sc (.str r.1.name)), .t (.sc (.int .i64 r.1.n)), .t (.sl (r.1.scopes.map rI)), .t (.sl (r.1.kids.map Form.row))], .t (.sc (.bool r.2))] Try.func109 rfl Try.ntmps109 ?_
 intro C hC
 refine awp_seq (awp_region ?_)
 refine s_box ?_
 refine s_alloc yZ34 ?_
 refine s_as ?_
 refine k_nil (k_seq (awp_seq (awp_seq (awp_region ?_))))
 refine s_fa yF34_0 ?_
 refine s_ld1 yA3 ?_
 refine s_eq ?_
 refine k_nil (k_seq ?_)
 refine w_cond hF0 ?_ ?_ <;> intro hc1 hF1
 refine awp_seq (awp_seq (awp_region ?_))
 refine s_mv ?_
 refine s_ldW yA34 yS34 ?_
 obtain ⟨v2, hv2, hF2⟩ := bind_some' hF1
 refine s_pure [] (m_impl_hitAt_ok fu _ _ _ hv2) ?_
 refine s_as ?_
 refine k_nil (k_seq (awp_seq (awp_region ?_)))
 refine s_mv ?_
 refine s_ge ?_
 refine k_nil (k_seq ?_)
 refine w_cond hF2 ?_ ?_ <;> intro hc3 hF3
 refine awp_seq (awp_region ?_)
 refine s_mv ?_
 refine s_mv ?_
 obtain ⟨v4, hv4, hF4⟩ := bind_some' hF3
 refine s_ixT Hit.row hv4 (Hit.row_eq _) yE63 ?_
 refine s_fa yF65_2 ?_
 refine s_ldN yA34 yS34 ?_
 obtain ⟨v5, hv5, hF5⟩ := bind_some' hF4
 refine s_pure [] (m_impl_copyForm_ok fu _ _ hv5) ?_
 refine s_stW yS34 ?_
 refine s_as ?_
 refine k_nil (k_seq (awp_ret (k_seq_ret (k_seq_ret (k_fin ?_)))))
 cases hF5
 exact ends_gen [] [] (by rw [Try.results109]; exact (res_agg (by conv => lhs; whnf) (by conv => lhs; whnf) yA34 yS34 rfl (res_tmp (by conv => lhs; whnf) res_nil)))
 refine awp_skip (k_seq (awp_seq (awp_region ?_)))
 refine s_ldW yA34 yS34 ?_
 obtain ⟨v6, hv6, hF4⟩ := bind_some' hF3
 refine s_pure [] (m_impl_copyForm_ok fu _ _ hv6) ?_
 refine s_stW yS34 ?_
 refine s_as ?_
 refine k_nil (k_seq (awp_ret (k_seq_ret (k_fin ?_))))
 cases hF4
 exact ends_gen [] [] (by rw [Try.results109]; exact (res_agg (by conv => lhs; whnf) (by conv => lhs; whnf) yA34 yS34 rfl (res_tmp (by conv => lhs; whnf) res_nil)))
 refine awp_skip (k_seq (awp_seq (awp_region ?_)))
 refine s_fa yF34_0 ?_
 refine s_ld1 yA3 ?_
 refine s_fa yF34_2 ?_
 refine s_ld1 yA3 ?_
 refine s_bld yZ34 yL34 ?_
 refine s_alloc yZ34 ?_
 refine s_alloc yZ3 ?_
 refine s_stW yS34 ?_
 refine s_stW yS3 ?_
 refine k_nil (k_seq ?_)
 refine awp_ownB 7 8144 34 [.t (.sc (.int .i64 x1.kind)), .t (.sc (.str (⟨#[]⟩ : ByteArray))), .t (.sc (.int .i64 x1.n)), .nl, .ar 8144] yI34.choose_spec ?_
 refine awp_seq (awp_region ?_)
 refine s_fn ?_
 refine s_as ?_
 refine k_nil (k_seq (awp_seq (awp_seq (awp_region ?_))))
 refine s_fa yF34_4 ?_
 refine s_ld1 yA32 ?_
 refine s_lenT yU32 ?_
 refine s_mv ?_
 refine k_nil (k_seq (awp_block ?_))
 refine awp_mvB 7 8144 5020 [.t (.sc (.int .i64 x1.kind)), .t (.sc (.str (⟨#[]⟩ : ByteArray))), .t (.sc (.int .i64 x1.n)), .nl, .ar 5020] ?_
 refine awp_nlB 7 3 [.t (.sc (.int .i64 x1.kind)), .t (.sc (.str (⟨#[]⟩ : ByteArray))), .t (.sc (.int .i64 x1.n)), .t (.sl (([] : List Int).map rI)), .ar 5020] (by conv => lhs; whnf) rfl rfl ?_
 refine awp_frame2 [5, 10, 11, 12, 13, 14, 15, 16, 17, 18, 20, 46, 47, 48, 49, 50, 51, 52, 53, 54, 55, 56, 57, 58, 59, 60, 61, 62, 63, 64, 65, 66, 67, 68, 69, 70, 71, 72, 73, 74, 75, 76, 77, 78, 79, 80, 81, 82, 83, 84, 85, 86, 87, 88, 89, 90, 91, 92, 93, 94, 95, 96, 97, 98, 99, 100, 101, 102, 103, 104, 105, 106, 107, 108, 109, 110, 111, 112, 113, 114, 115, 116, 117, 118, 119, 120, 121, 122, 123, 124, 125, 126, 127, 128, 129, 130, 131, 132, 133, 134, 135, 136, 137, 138, 139, 140, 141, 142] [7, 8, 5020] [11, 75, 5080, 5140, 32072] [5020] (fun a : Nat × Int × Int × ByteArray × Int × (List Int) × (List Form) × Int => a.1) (fun a : Nat × Int × Int × ByteArray × Int × (List Int) × (List Form) × Int => [(46, .t (.sc (.int .i64 a.2.1)))]) (fun a : Nat × Int × Int × ByteArray × Int × (List Int) × (List Form) × Int => [(7, .box [.t (.sc (.int .i64 a.2.2.1)), .t (.sc (.str a.2.2.2.1)), .t (.sc (.int .i64 a.2.2.2.2.1)), .t (.sl (a.2.2.2.2.2.1.map rI)), .ar 5020]), (8, .box [.t (.sc (.int .i64 a.2.2.2.2.2.2.2))]), (5020, .arr (a.2.2.2.2.2.2.1.map Form.row) 34 true)]) (fun a : Nat × Int × Int × ByteArray × Int × (List Int) × (List Form) × Int => a.1 ≤ fu ∧ m_impl_fill_l1 a.1 x1 x2 a.2.1 a.2.2.1 a.2.2.2.1 a.2.2.2.2.1 a.2.2.2.2.2.1 a.2.2.2.2.2.2.1 a.2.2.2.2.2.2.2 = some r) (fu, 0, x1.kind, (⟨#[]⟩ : ByteArray), x1.n, ([] : List Int), ([] : List Form), 0) ⟨Nat.le_refl _, hF1⟩ (by rfl) (by rfl) (fun _ => rfl) (hasF_cons (by conv => lhs; whnf) (by rfl) hasF_nil) (hasO_cons (by conv => lhs; whnf) (by rfl) (hasO_cons (by conv => lhs; whnf) (by rfl) (hasO_cons (by conv => lhs; whnf) (by rfl) hasO_nil))) (fresh_C hC rfl) (by repeat (first | exact freshS_args rfl | refine freshS_upd rfl ?_ | refine freshS_frame rfl ?_)) (by repeat (first | exact freshM_no | exact objs_fresh rfl | refine freshM_upd rfl ?_ | refine freshM_frame rfl ?_)) ?_
 clear hF1
 rintro ⟨fu, g7, g8, g9, g10, g11, g12, g13⟩ ⟨hl14, hF2⟩
 dsimp only at hl14 hF2 ⊢
 obtain _ | fu := fu
 · rw [m_impl_fill_l1] at hF2; cases hF2
 rw [m_impl_fill_l1] at hF2
 refine awp_seq (awp_region ?_)
 refine s_lt ?_
 refine k_nil (k_seq (awp_seq ?_))
 refine w_cond hF2 ?_ ?_ <;> intro hc15 hF3
 refine awp_lenT 44 (fun hb16 => ?_)
 refine awp_skip (k_seq (awp_seq (awp_block (awp_seq (awp_region ?_)))))
 refine s_mv ?_
 obtain ⟨v17, hv17, hF4⟩ := bind_some' hF3
 refine s_ixT Form.row hv17 (Form.row_eq _) yE32 ?_
 refine s_ldN yA34 yS34 ?_
 refine s_alloc yZ34 ?_
 refine s_as ?_
 refine s_stW yS34 ?_
 refine k_nil (k_seq (awp_seq (awp_seq (awp_region ?_))))
 refine s_ldW yA34 yS34 ?_
 obtain ⟨v18, hv18, hF5⟩ := bind_some' hF4
 refine s_pure [] (m_impl_named_ok fu _ _ _ hv18) ?_
 refine k_nil (k_seq ?_)
 refine w_cond hF5 ?_ ?_ <;> intro hc19 hF6
 refine awp_exit (k_seq_exit (k_blk_exit (k_seq (awp_region ?_))))
 refine s_add (winc2 hc15 hb16 (idx_some hv17).1) ?_
 refine s_mv ?_
 refine k_nil ?_
 exact s_rn (fu, (g7 + 1), g8, g9, g10, g11, g12, g13) ⟨by first | omega | (dsimp only; omega), hF6⟩
 refine awp_skip (k_seq (awp_seq ?_))
 refine awp_jn (α := Nat × Bool) [53, 54, 55, 56, 57, 58, 59, 60, 61, 62, 63, 64, 65, 66, 67, 68] [] [] (fun a => [(68, .t (.sc (.bool a.2)))]) (fun a => []) (fun a => a.1 ≤ fu ∧ m_impl_fill_j2 a.1 x1 x2 g7 g8 g9 g10 g11 g12 g13 v17 a.2 = some r) ?_ ?_
 refine awp_region ?_
 refine s_mv ?_
 refine s_add (winc2 hc15 hb16 (idx_some hv17).1) ?_
 refine s_fa yF34_4 ?_
 refine s_ld1 yA32 ?_
 refine s_lenT yU32 ?_
 refine s_eq ?_
 refine s_mv ?_
 refine w_guard _ 59 hF6 ?_ ?_ <;> intro hc20 hF7
 iterate 8 refine r_no rfl ?_
 refine s_pkt ?_
 refine k_nil ?_
 exact s_jn (fu, true) ⟨by first | omega | (dsimp only; omega), hF7⟩
 refine s_fa yF34_4 ?_
 refine s_ld1 yA32 ?_
 refine s_mv ?_
 refine s_add (winc2 hc15 hb16 (idx_some hv17).1) ?_
 obtain ⟨v21, hv21, hF8⟩ := bind_some' hF7
 refine s_ixT Form.row hv21 (Form.row_eq _) yE32 ?_
 refine s_ldN yA34 yS34 ?_
 obtain ⟨v22, hv22, hF9⟩ := bind_some' hF8
 refine s_pure [] (m_impl_named_ok fu _ _ _ hv22) ?_
 refine s_not ?_
 refine s_pkf ?_
 refine k_nil ?_
 exact s_jn (fu, (!v22)) ⟨by first | omega | (dsimp only; omega), hF9⟩
 clear hF6
 rintro ⟨fu, g23⟩ ⟨hl24, hF7⟩
 dsimp only at hl24 hF7 ⊢
 obtain _ | fu := fu
 · rw [m_impl_fill_j2] at hF7; cases hF7
 rw [m_impl_fill_j2] at hF7
 refine w_cond hF7 ?_ ?_ <;> intro hc25 hF8
 refine awp_seq (awp_seq (awp_region ?_))
 refine s_mv ?_
 refine s_ldW yA34 yS34 ?_
 refine s_mv ?_
 obtain ⟨v26, hv26, hF9⟩ := bind_some' hF8
 refine s_call [(9000, 8), (9001, 7), (9444, 5020), (10444, 32072)] [] _ _ (ih_m_impl_fill_1 fu (by omega) _ _ _ _ _ hv26) ?_
 refine s_not ?_
 refine k_nil (k_seq ?_)
 refine w_cond hF9 ?_ ?_ <;> intro hc27 hF10
 refine awp_seq (awp_region ?_)
 refine s_bld yZ34 yL34 ?_
 refine s_stW yS34 ?_
 refine s_as ?_
 refine k_nil (k_seq (awp_ret (k_seq_ret (k_seq_ret (k_blk_ret (k_seq_ret (k_rnd_ret2 (k_blk_ret (k_seq_ret (k_fin ?_))))))))))
 cases hF10
 exact ends_gen [] [] (by rw [Try.results109]; exact (res_agg (by conv => lhs; whnf) (by conv => lhs; whnf) yA34 yS34 rfl (res_tmp (by conv => lhs; whnf) res_nil)))
 refine awp_skip (k_seq (awp_exit (k_seq_exit (k_blk_exit (k_seq (awp_region ?_))))))
 refine s_add (winc2 hc15 hb16 (idx_some hv17).1) ?_
 refine s_mv ?_
 refine k_nil ?_
 exact s_rn (fu, (g7 + 1), v26.2.2.kind, v26.2.2.name, v26.2.2.n, v26.2.2.scopes, v26.2.2.kids, v26.2.1) ⟨by first | omega | (dsimp only; omega), hF10⟩ [(5020, 32072)]
 refine awp_skip (k_seq (awp_seq (awp_region ?_)))
 refine s_bs rI ([] : List Int) yP22 yR3 ?_
 refine s_as ?_
 refine s_as ?_
 refine k_nil (k_seq ?_)
 refine awp_jn (α := Nat × Int × (List Int)) [5, 12, 13, 14, 15, 16, 76, 77, 78, 79, 80, 81, 82, 83, 84, 85, 86, 87, 88, 89, 90, 91, 92, 93, 94, 95, 96, 97, 98, 99, 100, 101, 102, 103, 104, 105, 106, 107, 108, 109, 110] [75, 5080] [] (fun a => [(12, .ar 5080), (13, .t (.sc (.int .i64 a.2.1)))]) (fun a => [(75, .dead), (5080, .arr (a.2.2.map rI) 3 true)]) (fun a => a.1 ≤ fu ∧ m_impl_fill_j3 a.1 x1 x2 g7 g8 g9 g10 g11 g12 g13 v17 a.2.1 a.2.2 = some r) ?_ ?_
 refine awp_seq (awp_region ?_)
 refine s_mv ?_
 refine s_lenT yU63 ?_
 refine s_mv ?_
 refine k_nil (k_seq (awp_block ?_))
 refine awp_mv 12 75 5080 (by conv => lhs; whnf) (by conv => lhs; whnf) rfl ?_
 refine awp_frame2 [5, 12, 13, 14, 15, 16, 78, 79, 80, 81, 82, 83, 84, 85, 86, 87, 88, 89, 90, 91, 92, 93, 94, 95, 96, 97, 98, 99, 100, 101, 102, 103, 104, 105, 106, 107, 108, 109, 110] [5080] [15, 16, 95, 96] [5080] (fun a : Nat × Int × (List Int) × Int => a.1) (fun a : Nat × Int × (List Int) × Int => [(12, .ar 5080), (13, .t (.sc (.int .i64 a.2.2.2))), (78, .t (.sc (.int .i64 a.2.1)))]) (fun a : Nat × Int × (List Int) × Int => [(5080, .arr (a.2.2.1.map rI) 3 true)]) (fun a : Nat × Int × (List Int) × Int => a.1 ≤ fu ∧ m_impl_fill_l4 a.1 x1 x2 g7 g8 g9 g10 g11 g12 g13 v17 a.2.1 a.2.2.1 a.2.2.2 = some r ∧ 0 ≤ a.2.1) (fu, 0, ([] : List Int), (-1)) ⟨Nat.le_refl _, hF8, by simp⟩ (by rfl) (by rfl) (fun _ => rfl) (hasF_cons (by conv => lhs; whnf) (by rfl) (hasF_cons (by conv => lhs; whnf) (by rfl) (hasF_cons (by conv => lhs; whnf) (by rfl) hasF_nil))) (hasO_cons (by conv => lhs; whnf) (by rfl) hasO_nil) (fresh_C hC rfl) (by repeat (first | exact freshS_args rfl | refine freshS_upd rfl ?_ | refine freshS_frame rfl ?_)) (by repeat (first | exact freshM_no | exact objs_fresh rfl | refine freshM_upd rfl ?_ | refine freshM_frame rfl ?_)) ?_
 clear hF8
 rintro ⟨fu, g28, g29, g30⟩ ⟨hl31, hF9, hn_g28⟩
 dsimp only at hl31 hF9 hn_g28 ⊢
 obtain _ | fu := fu
 · rw [m_impl_fill_l4] at hF9; cases hF9
 rw [m_impl_fill_l4] at hF9
 refine awp_seq (awp_region ?_)
 refine s_lt ?_
 refine k_nil (k_seq (awp_seq ?_))
 refine w_cond hF9 ?_ ?_ <;> intro hc32 hF10
 refine awp_lenT 1 (fun hb33 => ?_)
 refine awp_skip (k_seq (awp_seq (awp_block (awp_seq (awp_region ?_)))))
 refine s_mv ?_
 obtain ⟨v34, hv34, hF11⟩ := bind_some' hF10
 refine s_ixT Hit.row hv34 (Hit.row_eq _) yE63 ?_
 refine s_ldN yA65 yS65 ?_
 refine s_alloc yZ65 ?_
 refine s_as ?_
 refine s_stW yS65 ?_
 refine k_nil (k_seq (awp_seq (awp_region ?_)))
 refine s_alloc yZ4 ?_
 refine s_stW yS4 ?_
 refine k_nil (k_seq (awp_seq (awp_region ?_)))
 refine s_ldW yA34 yS34 ?_
 refine s_fn ?_
 obtain ⟨v35, hv35, hF12⟩ := bind_some' hF11
 refine s_call [(9000, 16), (9001, 15)] [] _ _ (m_impl_eachForm_fill_2_ok fu _ _ _ _ hv35) ?_
 refine k_nil (k_seq (awp_seq ?_))
 refine awp_jn (α := Nat × Bool) [86, 87, 88, 89, 90, 91, 92] [] [] (fun a => [(92, .t (.sc (.bool a.2)))]) (fun a => []) (fun a => a.1 ≤ fu ∧ m_impl_fill_j5 a.1 x1 x2 g7 g8 g9 g10 g11 g12 g13 v17 g28 g29 g30 v34 a.2 = some r) ?_ ?_
 refine awp_region ?_
 refine s_ld1 yA4 ?_
 refine s_not ?_
 refine s_mv ?_
 refine w_guard _ 88 hF12 ?_ ?_ <;> intro hc36 hF13
 iterate 3 refine r_no rfl ?_
 refine s_pkt ?_
 refine k_nil ?_
 exact s_jn (fu, true) ⟨by first | omega | (dsimp only; omega), hF13⟩
 refine s_fa yF65_1 ?_
 refine s_ld1 yA3 ?_
 refine s_eq ?_
 refine s_pkf ?_
 refine k_nil ?_
 exact s_jn (fu, (decide (v34.depth = 0))) ⟨by first | omega | (dsimp only; omega), hF13⟩
 clear hF12
 rintro ⟨fu, g37⟩ ⟨hl38, hF13⟩
 dsimp only at hl38 hF13 ⊢
 obtain _ | fu := fu
 · rw [m_impl_fill_j5] at hF13; cases hF13
 rw [m_impl_fill_j5] at hF13
 refine w_cond hF13 ?_ ?_ <;> intro hc39 hF14
 refine awp_exit (k_seq_exit (k_blk_exit (k_seq (awp_region ?_))))
 refine s_add (winc2 hc32 hb33 hn_g28) ?_
 refine s_mv ?_
 refine k_nil ?_
 exact s_rn (fu, (g28 + 1), g29, g30) ⟨by first | omega | (dsimp only; omega), hF14, by first | omega | (dsimp only; omega)⟩
 refine awp_skip (k_seq (awp_seq (awp_region ?_)))
 refine s_mv ?_
 refine s_mv ?_
 refine s_bs rI [g28] yP22 yR3 ?_
 obtain ⟨hk40, hF15⟩ := chk_some hF14
 refine s_apT rI (fun _ => rfl) hk40 yP22 ?_
 refine s_as ?_
 refine k_nil (k_seq (awp_seq ?_))
 refine awp_jn (α := Nat × Bool) [97, 98, 99, 100, 101, 102, 103, 104, 105] [] [] (fun a => [(105, .t (.sc (.bool a.2)))]) (fun a => []) (fun a => a.1 ≤ fu ∧ m_impl_fill_j6 a.1 x1 x2 g7 g8 g9 g10 g11 g12 g13 v17 g28 g29 v34 a.2 = some r) ?_ ?_
 refine awp_region ?_
 refine s_mv ?_
 refine s_ge ?_
 refine s_mv ?_
 refine w_guard _ 99 hF15 ?_ ?_ <;> intro hc41 hF16
 refine s_mv ?_
 refine s_fa yF65_3 ?_
 refine s_ld1 yA63 ?_
 refine s_lenT yU63 ?_
 refine s_ne ?_
 refine s_pkt ?_
 refine k_nil ?_
 exact s_jn (fu, (decide (g30 ≠ (v34.many.length : Int)))) ⟨by first | omega | (dsimp only; omega), hF16⟩
 iterate 5 refine r_no rfl ?_
 refine s_pkf ?_
 refine k_nil ?_
 exact s_jn (fu, false) ⟨by first | omega | (dsimp only; omega), hF16⟩
 clear hF15
 rintro ⟨fu, g42⟩ ⟨hl43, hF16⟩
 dsimp only at hl43 hF16 ⊢
 obtain _ | fu := fu
 · rw [m_impl_fill_j6] at hF16; cases hF16
 rw [m_impl_fill_j6] at hF16
 refine w_cond hF16 ?_ ?_ <;> intro hc44 hF17
 refine awp_seq (awp_region ?_)
 refine s_bld yZ34 yL34 ?_
 refine s_stW yS34 ?_
 refine s_as ?_
 refine k_nil (k_seq (awp_ret (k_seq_ret (k_blk_ret (k_seq_ret (k_rnd_ret2 (k_blk_ret (k_jn_ret (k_blk_ret (k_seq_ret (k_rnd_ret2 (k_blk_ret (k_seq_ret (k_fin ?_))))))))))))))
 cases hF17
 exact ends_gen [] [] (by rw [Try.results109]; exact (res_agg (by conv => lhs; whnf) (by conv => lhs; whnf) yA34 yS34 rfl (res_tmp (by conv => lhs; whnf) res_nil)))
 refine awp_skip (k_seq (awp_region ?_))
 refine s_fa yF65_3 ?_
 refine s_ld1 yA63 ?_
 refine s_lenT yU63 ?_
 refine s_as ?_
 refine k_nil (k_blk (k_seq (awp_region ?_)))
 refine s_add (winc2 hc32 hb33 hn_g28) ?_
 refine s_mv ?_
 refine k_nil ?_
 exact s_rn (fu, (g28 + 1), (g29 ++ [g28]), (v34.many.length : Int)) ⟨by first | omega | (dsimp only; omega), hF17, by first | omega | (dsimp only; omega)⟩ [(5080, 96)]
 refine awp_exit (k_seq_exit (k_rnd_exit2 (k_blk_exit ?_)))
 exact s_jn (fu, g30, g29) ⟨by first | omega | (dsimp only; omega), hF10⟩
 clear hF8
 rintro ⟨fu, g45, g46⟩ ⟨hl47, hF9⟩
 dsimp only at hl47 hF9 ⊢
 obtain _ | fu := fu
 · rw [m_impl_fill_j3] at hF9; cases hF9
 rw [m_impl_fill_j3] at hF9
 refine awp_seq (awp_region ?_)
 refine s_as ?_
 refine k_nil (k_seq (awp_block ?_))
 refine awp_mvB 7 5020 5140 [.t (.sc (.int .i64 g8)), .t (.sc (.str g9)), .t (.sc (.int .i64 g10)), .t (.sl (g11.map rI)), .ar 5140] ?_
 refine awp_frame2 [5, 17, 18, 20, 111, 112, 113, 114, 115, 116, 117, 118, 119, 120, 121, 122, 123, 124, 125, 126, 127, 128, 129, 130, 131, 132, 133, 134, 135, 136, 137, 138, 139, 140, 141] [7, 8, 5140] [2117, 32139] [5140] (fun a : Nat × Int × Int × ByteArray × Int × (List Int) × (List Form) × Int => a.1) (fun a : Nat × Int × Int × ByteArray × Int × (List Int) × (List Form) × Int => [(17, .t (.sc (.int .i64 a.2.1)))]) (fun a : Nat × Int × Int × ByteArray × Int × (List Int) × (List Form) × Int => [(7, .box [.t (.sc (.int .i64 a.2.2.1)), .t (.sc (.str a.2.2.2.1)), .t (.sc (.int .i64 a.2.2.2.2.1)), .t (.sl (a.2.2.2.2.2.1.map rI)), .ar 5140]), (8, .box [.t (.sc (.int .i64 a.2.2.2.2.2.2.2))]), (5140, .arr (a.2.2.2.2.2.2.1.map Form.row) 34 true)]) (fun a : Nat × Int × Int × ByteArray × Int × (List Int) × (List Form) × Int => a.1 ≤ fu ∧ m_impl_fill_l7 a.1 x1 x2 g7 v17 g45 g46 a.2.1 a.2.2.1 a.2.2.2.1 a.2.2.2.2.1 a.2.2.2.2.2.1 a.2.2.2.2.2.2.1 a.2.2.2.2.2.2.2 = some r) (fu, 0, g8, g9, g10, g11, g12, g13) ⟨Nat.le_refl _, hF9⟩ (by rfl) (by rfl) (fun _ => rfl) (hasF_cons (by conv => lhs; whnf) (by rfl) hasF_nil) (hasO_cons (by conv => lhs; whnf) (by rfl) (hasO_cons (by conv => lhs; whnf) (by rfl) (hasO_cons (by conv => lhs; whnf) (by rfl) hasO_nil))) (fresh_C hC rfl) (by repeat (first | exact freshS_args rfl | refine freshS_upd rfl ?_ | refine freshS_frame rfl ?_)) (by repeat (first | exact freshM_no | exact objs_fresh rfl | refine freshM_upd rfl ?_ | refine freshM_frame rfl ?_)) ?_
 clear hF9
 rintro ⟨fu, g48, g49, g50, g51, g52, g53, g54⟩ ⟨hl55, hF10⟩
 dsimp only at hl55 hF10 ⊢
 obtain _ | fu := fu
 · rw [m_impl_fill_l7] at hF10; cases hF10
 rw [m_impl_fill_l7] at hF10
 refine awp_seq (awp_seq (awp_region ?_))
 refine s_mv ?_
 refine s_mv ?_
 refine s_lt ?_
 refine k_nil (k_seq ?_)
 refine w_cond hF10 ?_ ?_ <;> intro hc56 hF11
 refine awp_skip (k_seq (awp_seq (awp_block (awp_seq (awp_region ?_)))))
 refine s_mv ?_
 obtain ⟨v57, hv57, hF12⟩ := bind_some' hF11
 refine s_call [(9200, 2117)] [] _ _ (m_slices_Clone_Hit_ok fu _ _ hv57) ?_
 refine s_as ?_
 refine k_nil (k_seq ?_)
 refine awp_jn (α := Nat × (List Hit)) [20, 118, 119, 120, 121, 122, 123, 124, 125, 126, 127, 128, 129, 130, 131, 132, 133, 134, 135] [2117] [] (fun a => []) (fun a => [(2117, .arr (a.2.map Hit.row) 65 true)]) (fun a => a.1 ≤ fu ∧ m_impl_fill_j8 a.1 x1 x2 g7 v17 g45 g46 g48 g49 g50 g51 g52 g53 g54 a.2 = some r) ?_ ?_
 refine awp_seq (awp_region ?_)
 refine s_mv ?_
 refine s_lenA yU22 ?_
 refine s_mv ?_
 refine k_nil (k_seq (awp_block ?_))
 refine awp_fr (β := Int × (List Hit)) [20, 120, 121, 122, 123, 124, 125, 126, 127, 128, 129, 130, 131, 132, 133, 134, 135] [2117] [] (fun a => [(120, .t (.sc (.int .i64 a.2.1)))]) (fun a => [(2117, .arr (a.2.2.map Hit.row) 65 true)]) (fun a => a.1 ≤ fu ∧ m_impl_fill_l9 a.1 x1 x2 g7 v17 g45 g46 g48 g49 g50 g51 g52 g53 g54 a.2.1 a.2.2 = some r ∧ 0 ≤ a.2.1) (fu, 0, v57) ⟨Nat.le_refl _, hF12, by simp⟩ ?_
 clear hF12
 rintro ⟨fu, g58, g59⟩ ⟨hl60, hF13, hn_g58⟩
 dsimp only at hl60 hF13 hn_g58 ⊢
 obtain _ | fu := fu
 · rw [m_impl_fill_l9] at hF13; cases hF13
 rw [m_impl_fill_l9] at hF13
 refine awp_seq (awp_region ?_)
 refine s_lt ?_
 refine k_nil (k_seq (awp_seq ?_))
 refine w_cond hF13 ?_ ?_ <;> intro hc61 hF14
 refine awp_lenA 12 5080 (fun hb62 => ?_)
 refine awp_skip (k_seq (awp_seq (awp_block (awp_seq (awp_region ?_)))))
 obtain ⟨v63, hv63, hF15⟩ := bind_some' hF14
 refine s_ixA rI hv63 yE22 ?_
 refine s_lA1 rI hv63 rfl yA3 ?_
 refine s_as ?_
 refine k_nil (k_seq (awp_region ?_))
 iterate 4 refine s_mv ?_
 obtain ⟨v64, hv64, hF16⟩ := bind_some' hF15
 refine s_ixT Hit.row hv64 (Hit.row_eq _) yE63 ?_
 refine s_fa yF65_3 ?_
 refine s_ld1 yA63 ?_
 refine s_mv ?_
 obtain ⟨v65, hv65, hF17⟩ := bind_some' hF16
 refine s_ixT Hit.row hv65 (Hit.row_eq _) yE63 ?_
 refine s_ldN yA65 yS65 ?_
 obtain ⟨v66, hv66, hF18⟩ := bind_some' hF17
 refine s_ixA Hit.row hv66 yE63 ?_
 refine s_stA Hit.row v65 hv66 (Hit.row_eq _) (Hit.row_eq _) yS65 yS65 ?_
 refine k_nil (k_blk (k_seq (awp_region ?_)))
 refine s_add (winc2 hc61 hb62 hn_g58) ?_
 refine s_mv ?_
 refine k_nil ?_
 exact s_rn (fu, (g58 + 1), (g59.set v63.toNat v65)) ⟨by first | omega | (dsimp only; omega), hF18, by first | omega | (dsimp only; omega)⟩
 refine awp_exit (k_seq_exit (k_rnd_exit2 (k_blk_exit ?_)))
 exact s_jn (fu, g59) ⟨by first | omega | (dsimp only; omega), hF14⟩
 clear hF12
 rintro ⟨fu, g67⟩ ⟨hl68, hF13⟩
 dsimp only at hl68 hF13 ⊢
 obtain _ | fu := fu
 · rw [m_impl_fill_j8] at hF13; cases hF13
 rw [m_impl_fill_j8] at hF13
 refine awp_seq (awp_region ?_)
 refine s_mv ?_
 refine s_ldW yA34 yS34 ?_
 refine s_mv ?_
 obtain ⟨v69, hv69, hF14⟩ := bind_some' hF13
 refine s_call [(9000, 8), (9001, 7), (9444, 5140), (10444, 32139)] [2117] _ _ (ih_m_impl_fill_1 fu (by omega) _ _ _ _ _ hv69) ?_
 refine s_not ?_
 refine k_nil (k_seq ?_)
 refine w_cond hF14 ?_ ?_ <;> intro hc70 hF15
 refine awp_seq (awp_region ?_)
 refine s_bld yZ34 yL34 ?_
 refine s_stW yS34 ?_
 refine s_as ?_
 refine k_nil (k_seq (awp_ret (k_blk_ret (k_seq_ret (k_rnd_ret2 (k_blk_ret (k_blk_ret (k_seq_ret (k_rnd_ret2 (k_blk_ret (k_seq_ret (k_fin ?_))))))))))))
 cases hF15
 exact ends_gen [] [] (by rw [Try.results109]; exact (res_agg (by conv => lhs; whnf) (by conv => lhs; whnf) yA34 yS34 rfl (res_tmp (by conv => lhs; whnf) res_nil)))
 refine awp_skip (k_blk (k_seq (awp_region ?_)))
 refine s_mv ?_
 refine s_add rfl ?_
 refine s_as ?_
 refine k_nil ?_
 exact s_rn (fu, (w64 (g48 + 1)), v69.2.2.kind, v69.2.2.name, v69.2.2.n, v69.2.2.scopes, v69.2.2.kids, v69.2.1) ⟨by first | omega | (dsimp only; omega), hF15⟩ [(5140, 32139)]
 refine awp_exit (k_seq_exit (k_rnd_exit2 (k_blk_exit (k_blk (k_seq (awp_region ?_))))))
 refine s_add rfl ?_
 refine s_mv ?_
 refine k_nil ?_
 exact s_rn (fu, (w64 (g7 + 1)), g49, g50, g51, g52, g53, g54) ⟨by first | omega | (dsimp only; omega), hF11⟩ [(5020, 5140)]
 refine awp_exit (k_seq_exit (k_rnd_exit2 (k_blk_exit (k_seq (awp_seq (awp_region ?_))))))
 refine s_ldW yA34 yS34 ?_
 refine s_stW yS34 ?_
 refine s_as ?_
 refine k_nil (k_seq (awp_ret (k_fin ?_)))
 cases hF3
 exact ends_gen [] [5020] (by rw [Try.results109]; exact (res_agg (by conv => lhs; whnf) (by conv => lhs; whnf) yA34 yS34 rfl (res_tmp (by conv => lhs; whnf) res_nil)))
theorem m_impl_fill_1_st (fu : Nat) (ih_m_impl_fill : ∀ k, k ≤ fu → m_impl_fill_AC k) (ih_m_impl_fill_1 : ∀ k, k ≤ fu → m_impl_fill_1_AC k) : m_impl_fill_1_AC (fu + 1) := by
 intro x1 x2 o1 o2 r hF0
 rw [m_impl_fill_1] at hF0
 refine AC_i [.t (.sc (.bool r.1))] Try.func151 rfl Try.ntmps151 ?_
 intro C hC
 refine awp_seq (awp_region ?_)
 refine s_box ?_
 refine s_as ?_
 refine k_nil (k_seq (awp_seq (awp_region ?_)))
 refine s_ldW yA34 yS34 ?_
 refine s_mv ?_
 obtain ⟨v1, hv1, hF1⟩ := bind_some' hF0
 refine s_pure [] (ih_m_impl_fill fu (by omega) _ _ _ hv1) ?_
 refine s_mv ?_
 refine s_ext ?_
 refine s_ext ?_
 refine s_alloc yZ34 ?_
 refine s_stW yS34 ?_
 refine s_as ?_
 refine k_nil (k_seq (awp_seq (awp_seq (awp_region ?_))))
 refine s_mv ?_
 refine s_not ?_
 refine k_nil (k_seq ?_)
 refine w_cond hF1 ?_ ?_ <;> intro hc2 hF2
 refine awp_seq (awp_region ?_)
 refine s_as ?_
 refine k_nil (k_seq ?_)
 refine awp_mvB 9001 9444 10444 [.t (.sc (.int .i64 o2.kind)), .t (.sc (.str o2.name)), .t (.sc (.int .i64 o2.n)), .t (.sl (o2.scopes.map rI)), .ar 10444] ?_
 refine awp_ret (k_seq_ret (k_fin ?_))
 cases hF2
 exact ends_a _ [] Try.results151
 refine awp_skip (k_seq (awp_seq ?_))
 refine awp_draw yMix (by kernel_rfl) ?_
 refine s_ld1 yA3 ?_
 refine s_ldW yA34 yS34 ?_
 obtain ⟨v3, hv3, hF3⟩ := bind_some' hF2
 refine s_pure [] (m_impl_FormSize_ok fu _ _ hv3) ?_
 refine s_add rfl ?_
 refine s_stW yS3 ?_
 refine k_nilD (by kernel_rfl) ?_
 refine k_seq (awp_seq ?_)
 refine awp_draw yMix (by kernel_rfl) ?_
 refine s_fa yF34_4 ?_
 refine s_ld1 yA32 ?_
 refine s_ldW yA34 yS34 ?_
 refine s_lenA yU32 ?_
 refine s_bs Form.row [(Form.mk 0 (⟨#[]⟩ : ByteArray) 0 ([] : List Int) ([] : List Form))] yP32 yR34 ?_
 obtain ⟨hk4, hF4⟩ := chk_some hF3
 refine s_apT Form.row (fun y => Form.row_len y) hk4 yP32 ?_
 obtain ⟨v5, hv5, hF5⟩ := bind_some' hF4
 refine s_ixA Form.row hv5 yE32 ?_
 refine s_stA Form.row v1.1 hv5 (Form.row_eq _) (Form.row_eq _) yS34 yS34 ?_
 refine s_fa yF34_4 ?_
 refine s_stP yS32 ?_
 refine k_nilD (by kernel_rfl) ?_
 refine k_seq (awp_seq (awp_region ?_))
 refine s_ld1 yA3 ?_
 refine s_le ?_
 refine s_as ?_
 refine k_nil (k_seq ?_)
 refine awp_mvB 9001 26 10444 [.t (.sc (.int .i64 o2.kind)), .t (.sc (.str o2.name)), .t (.sc (.int .i64 o2.n)), .t (.sl (o2.scopes.map rI)), .ar 10444] ?_
 refine awp_ret (k_fin ?_)
 cases hF5
 exact ends_a _ [] Try.results151
theorem m_impl_fill_all (fuel : Nat) : m_impl_fill_AC fuel ∧ m_impl_fill_1_AC fuel := by
 induction fuel using Nat.strongRecOn with
 | _ N ih =>
   cases N with
   | zero => exact ⟨(by intro x1 x2 r h; rw [m_impl_fill] at h; cases h), (by intro x1 x2 o1 o2 r h; rw [m_impl_fill_1] at h; cases h)⟩
   | succ fu => exact ⟨m_impl_fill_st fu (fun k hk => (ih k (by omega)).1) (fun k hk => (ih k (by omega)).2), m_impl_fill_1_st fu (fun k hk => (ih k (by omega)).1) (fun k hk => (ih k (by omega)).2)⟩
theorem m_impl_fill_ok (fuel : Nat) : m_impl_fill_AC fuel := (m_impl_fill_all fuel).1
def m_impl_formOr_D_AC (fuel : Nat) : Prop := ∀ (x1 : Form) (r : (Form × Bool)), m_impl_formOr fuel x1 = some r → AC Try.prog 110 [.ag [.t (.sc (.int .i64 x1.kind)), .t (.sc (.str x1.name)), .t (.sc (.int .i64 x1.n)), .t (.sl (x1.scopes.map rI)), .t (.sl (x1.kids.map Form.row))]] (objs []) (.tp [.ag [.t (.sc (.int .i64 r.1.kind)), .t (.sc (.str r.1.name)), .t (.sc (.int .i64 r.1.n)), .ar 9203, .ar 9204], .t (.sc (.bool r.2))]) (objs [(9203, .arr (r.1.scopes.map rI) 3 true), (9204, .dar (r.1.kids.map (Form.rowD 3 34)) 34)])
theorem m_impl_formOr_D_ok (fuel : Nat) : m_impl_formOr_D_AC fuel := by
 intro x1 r hF0
 unfold m_impl_formOr at hF0
 refine AC_i [.ag [.t (.sc (.int .i64 r.1.kind)), .t (.sc (.str r.1.name)), .t (.sc (.int .i64 r.1.n)), .ar 9203, .ar 9204], .t (.sc (.bool r.2))] Try.func110 rfl Try.ntmps110 ?_
 intro C hC
 refine awp_seq (awp_region ?_)
 refine s_box ?_
 refine s_alloc yZ34 ?_
 refine s_as ?_
 refine k_nil (k_seq (awp_seq (awp_seq (awp_region ?_))))
 refine s_ldW yA34 yS34 ?_
 obtain ⟨v1, hv1, hF1⟩ := bind_some' hF0
 refine s_pure [] (m_impl_FormValid_ok fuel _ _ hv1) ?_
 refine s_not ?_
 refine k_nil (k_seq ?_)
 refine w_cond hF1 ?_ ?_ <;> intro hc2 hF2
 refine awp_seq (awp_region ?_)
 refine s_bld yZ34 yL34 ?_
 refine s_stW yS34 ?_
 refine s_as ?_
 refine k_nil (k_seq ?_)
 refine awp_ownB 2 9203 3 [.t (.sc (.int .i64 0)), .t (.sc (.str (⟨#[]⟩ : ByteArray))), .t (.sc (.int .i64 0)), .ar 9203, .nl] yI3.choose_spec ?_
 refine awp_ownB 2 9204 34 [.t (.sc (.int .i64 0)), .t (.sc (.str (⟨#[]⟩ : ByteArray))), .t (.sc (.int .i64 0)), .ar 9203, .ar 9204] yI34.choose_spec ?_
 refine awp_toD 9204 (Form.rowD 3 34) (es := ([] : List Form).map Form.row) (by (conv => lhs; whnf) <;> rfl) rfl ?_
 refine awp_ret (k_seq_ret (k_fin ?_))
 cases hF2
 exact ends_gen _ [] (by rw [Try.results110]; exact (res_agg (by conv => lhs; whnf) (by conv => lhs; whnf) yA34 yS34 rfl (res_tmp (by conv => lhs; whnf) res_nil)))
 refine awp_skip (k_seq (awp_seq (awp_region ?_)))
 refine s_ldW yA34 yS34 ?_
 obtain ⟨v3, hv3, hF3⟩ := bind_some' hF2
 refine s_call [(9203, 2009), (9204, 12009)] [] _ _ (m_impl_copyForm_D_ok fuel _ _ hv3) ?_
 refine s_stW yS34 ?_
 refine s_as ?_
 refine k_nil (k_seq ?_)
 refine awp_mvB 2 2009 9203 [.t (.sc (.int .i64 v3.kind)), .t (.sc (.str v3.name)), .t (.sc (.int .i64 v3.n)), .ar 9203, .ar 12009] ?_
 refine awp_mvBO 2 12009 9204 [.t (.sc (.int .i64 v3.kind)), .t (.sc (.str v3.name)), .t (.sc (.int .i64 v3.n)), .ar 9203, .ar 9204] ?_
 refine awp_ret (k_fin ?_)
 cases hF3
 exact ends_gen _ [] (by rw [Try.results110]; exact (res_agg (by conv => lhs; whnf) (by conv => lhs; whnf) yA34 yS34 rfl (res_tmp (by conv => lhs; whnf) res_nil)))
end Go.Abs
