/- A part of the proof: what the functions that the law calls answer, as pure values. -/
import Derived.Test.YtgicgbokgmmgdaaK21eebdf4662a
import Derived.Test.YtgicgbokgmmgdaaK241c9c2bf7b8
import Derived.Test.YtgicgbokgmmgdaaK58ab9714472f
import Derived.Test.YtgicgbokgmmgdaaK73ffd47d200d
import Derived.Test.YtgicgbokgmmgdaaK9f4dde89d81c
import Derived.Test.YtgicgbokgmmgdaaKc5c4d81e4ec6
import Derived.Test.YtgicgbokgmmgdaaKe93658964312
import Derived.Test.YtgicgbokgmmgdaaKfd39bf90ed3d
set_option linter.unusedSimpArgs false
set_option linter.unusedVariables false
set_option maxRecDepth 100000
set_option maxHeartbeats 4000000
namespace Go.Abs
open Go.Proofs
def m_spec_DrawFindHit_AC (fuel : Nat) : Prop := ∀ (x1 : (List Int)) (r : ((List Hit) × Form)), m_spec_DrawFindHit fuel x1 = some r → AC Try.prog 51 [.t (.sl (x1.map rB))] noOb (.tp [.t (.sl (r.1.map Hit.row)), .ag [.t (.sc (.int .i64 r.2.kind)), .t (.sc (.str r.2.name)), .t (.sc (.int .i64 r.2.n)), .t (.sl (r.2.scopes.map rI)), .t (.sl (r.2.kids.map Form.row))]]) noOb
theorem m_spec_DrawFindHit_ok (fuel : Nat) : m_spec_DrawFindHit_AC fuel := by
 intro x1 r hF0
 unfold m_spec_DrawFindHit at hF0
 refine AC_i [.t (.sl (r.1.map Hit.row)), .ag [.t (.sc (.int .i64 r.2.kind)), .t (.sc (.str r.2.name)), .t (.sc (.int .i64 r.2.n)), .t (.sl (r.2.scopes.map rI)), .t (.sl (r.2.kids.map Form.row))]] Try.func51 rfl Try.ntmps51 ?_
 intro C hC
 refine awp_seq (awp_region ?_)
 refine s_as ?_
 refine s_alloc yZ32 ?_
 refine k_nil (k_seq (awp_seq (awp_region ?_)))
 refine s_mv ?_
 obtain ⟨v1, hv1, hF1⟩ := bind_some' hF0
 refine s_pure [] (m_spec_l4Hits_ok fuel _ _ hv1) ?_
 refine s_mv ?_
 obtain ⟨v2, hv2, hF2⟩ := bind_some' hF1
 refine s_call [(10, 7)] [] _ _ (m_spec_l15Open_ok fuel _ _ hv2) ?_
 refine s_bs rS [(⟨#[97]⟩ : ByteArray), (⟨#[98]⟩ : ByteArray), (⟨#[120]⟩ : ByteArray), (⟨#[118]⟩ : ByteArray), (⟨#[98, 111, 100, 121]⟩ : ByteArray), (⟨#[113]⟩ : ByteArray)] yP95 yR9 ?_
 obtain ⟨v3, hv3, hF3⟩ := bind_some' hF2
 refine s_call [(9000, 7)] [8] _ _ (m_spec_l15Rd_of_ok fuel _ _ _ hv3) ?_
 obtain ⟨v4, hv4, hF4⟩ := bind_some' hF3
 refine s_pure [] (m_spec_l1Name_ok fuel _ _ hv4) ?_
 refine s_as ?_
 refine s_stW yS32 ?_
 refine k_nil (k_seq (awp_ret (k_fin ?_)))
 cases hF4
 exact ends_gen [] [] (by rw [Try.results51]; exact (res_tmp (by conv => lhs; whnf) (res_agg (by conv => lhs; whnf) (by conv => lhs; whnf) yA32 yS32 rfl res_nil)))
def m_spec_FindHit_AC (fuel : Nat) : Prop := ∀ (x1 : (List Hit)) (x2 : Form) (r : (Hit × Bool)), m_spec_FindHit fuel x1 x2 = some r → AC Try.prog 52 [.t (.sl (x1.map Hit.row)), .ag [.t (.sc (.int .i64 x2.kind)), .t (.sc (.str x2.name)), .t (.sc (.int .i64 x2.n)), .t (.sl (x2.scopes.map rI)), .t (.sl (x2.kids.map Form.row))]] noOb (.tp [.ag [.t (.sc (.int .i64 r.1.name.kind)), .t (.sc (.str r.1.name.name)), .t (.sc (.int .i64 r.1.name.n)), .t (.sl (r.1.name.scopes.map rI)), .t (.sl (r.1.name.kids.map Form.row)), .t (.sc (.int .i64 r.1.depth)), .t (.sc (.int .i64 r.1.one.kind)), .t (.sc (.str r.1.one.name)), .t (.sc (.int .i64 r.1.one.n)), .t (.sl (r.1.one.scopes.map rI)), .t (.sl (r.1.one.kids.map Form.row)), .t (.sl (r.1.many.map Hit.row))], .t (.sc (.bool r.2))]) noOb
theorem m_spec_FindHit_ok (fuel : Nat) : m_spec_FindHit_AC fuel := by
 intro x1 x2 r hF0
 unfold m_spec_FindHit at hF0
 refine AC_i [.ag [.t (.sc (.int .i64 r.1.name.kind)), .t (.sc (.str r.1.name.name)), .t (.sc (.int .i64 r.1.name.n)), .t (.sl (r.1.name.scopes.map rI)), .t (.sl (r.1.name.kids.map Form.row)), .t (.sc (.int .i64 r.1.depth)), .t (.sc (.int .i64 r.1.one.kind)), .t (.sc (.str r.1.one.name)), .t (.sc (.int .i64 r.1.one.n)), .t (.sl (r.1.one.scopes.map rI)), .t (.sl (r.1.one.kids.map Form.row)), .t (.sl (r.1.many.map Hit.row))], .t (.sc (.bool r.2))] Try.func52 rfl Try.ntmps52 ?_
 intro C hC
 refine awp_seq (awp_region ?_)
 refine s_box ?_
 refine s_alloc yZ65 ?_
 refine s_as ?_
 refine k_nil (k_seq (awp_seq (awp_region ?_)))
 refine s_mv ?_
 refine s_ldW yA32 yS32 ?_
 obtain ⟨v1, hv1, hF1⟩ := bind_some' hF0
 refine s_pure [] (m_spec_l4Find_ok fuel _ _ _ hv1) ?_
 refine s_as ?_
 refine k_nil (k_seq (awp_seq ?_))
 refine awp_jn (α := Nat × Bool) [10, 11, 12, 13, 14, 15, 16] [] [] (fun a => [(16, .t (.sc (.bool a.2)))]) (fun a => []) (fun a => a.1 ≤ fuel ∧ m_spec_FindHit_j1 a.1 x1 v1 a.2 = some r) ?_ ?_
 refine awp_region ?_
 refine s_mv ?_
 obtain ⟨v2, hv2, hF2⟩ := bind_some' hF1
 refine s_pure [] (m_spec_HitsValid_ok fuel _ _ hv2) ?_
 refine s_not ?_
 refine s_mv ?_
 refine w_guard _ 13 hF2 ?_ ?_ <;> intro hc3 hF3
 refine r_no rfl (r_no rfl ?_)
 refine s_pkt ?_
 refine k_nil ?_
 exact s_jn (fuel, true) ⟨by first | omega | (dsimp only; omega), hF3⟩
 refine s_mv ?_
 refine s_lt ?_
 refine s_pkf ?_
 refine k_nil ?_
 exact s_jn (fuel, (decide (v1 < 0))) ⟨by first | omega | (dsimp only; omega), hF3⟩
 clear hF1
 rintro ⟨fu, g4⟩ ⟨hl5, hF2⟩
 dsimp only at hl5 hF2 ⊢
 obtain _ | fu := fu
 · rw [m_spec_FindHit_j1] at hF2; cases hF2
 rw [m_spec_FindHit_j1] at hF2
 refine w_cond hF2 ?_ ?_ <;> intro hc6 hF3
 refine awp_seq (awp_region ?_)
 refine s_bld yZ65 yL65 ?_
 refine s_stW yS65 ?_
 refine s_as ?_
 refine k_nil (k_seq (awp_ret (k_seq_ret (k_fin ?_))))
 cases hF3
 exact ends_gen [] [] (by rw [Try.results52]; exact (res_agg (by conv => lhs; whnf) (by conv => lhs; whnf) yA65 yS65 rfl (res_tmp (by conv => lhs; whnf) res_nil)))
 refine awp_skip (k_seq (awp_seq (awp_region ?_)))
 refine s_mv ?_
 refine s_mv ?_
 obtain ⟨v7, hv7, hF4⟩ := bind_some' hF3
 refine s_ixT Hit.row hv7 (Hit.row_eq _) yE34 ?_
 refine s_ldN yA65 yS65 ?_
 obtain ⟨v8, hv8, hF5⟩ := bind_some' hF4
 refine s_pure [] (m_spec_l4CopyHit_ok fu _ _ hv8) ?_
 refine s_stW yS65 ?_
 refine s_as ?_
 refine k_nil (k_seq (awp_ret (k_fin ?_)))
 cases hF5
 exact ends_gen [] [] (by rw [Try.results52]; exact (res_agg (by conv => lhs; whnf) (by conv => lhs; whnf) yA65 yS65 rfl (res_tmp (by conv => lhs; whnf) res_nil)))
def m_laws_FnFindHit_AC (fuel : Nat) : Prop := ∀ (x1 : (List Int)) (r : Bool), m_laws_FnFindHit fuel x1 = some r → AC Try.prog 11 [.t (.sl (x1.map rB))] noOb (.t (.sc (.bool r))) noOb
theorem m_laws_FnFindHit_ok (fuel : Nat) : m_laws_FnFindHit_AC fuel := by
 intro x1 r hF0
 unfold m_laws_FnFindHit at hF0
 refine AC_i [.t (.sc (.bool r))] Try.func11 rfl Try.ntmps11 ?_
 intro C hC
 refine awp_seq (awp_region ?_)
 refine s_as ?_
 refine k_nil (k_seq (awp_seq (awp_seq (awp_region ?_))))
 refine s_mv ?_
 refine s_lenT yU51 ?_
 refine s_gt ?_
 refine k_nil (k_seq ?_)
 refine w_cond hF0 ?_ ?_ <;> intro hc1 hF1
 refine awp_lenT 0 (fun hb2 => ?_)
 refine awp_seq (awp_region ?_)
 refine s_as ?_
 refine k_nil (k_seq (awp_ret (k_seq_ret (k_fin ?_))))
 cases hF1
 exact ends_a [] [] Try.results11
 refine awp_skip (k_seq (awp_seq (awp_region ?_)))
 refine s_mv ?_
 obtain ⟨v3, hv3, hF2⟩ := bind_some' hF1
 refine s_pure [] (m_spec_DrawFindHit_ok fuel _ _ hv3) ?_
 refine s_mv ?_
 refine s_ext ?_
 refine s_ext ?_
 refine s_alloc yZ32 ?_
 refine s_as ?_
 refine s_stW yS32 ?_
 refine k_nil (k_seq (awp_seq (awp_region ?_)))
 refine s_mv ?_
 refine s_ldW yA32 yS32 ?_
 obtain ⟨v4, hv4, hF3⟩ := bind_some' hF2
 refine s_pure [] (m_impl_FindHit_ok fuel _ _ _ hv4) ?_
 refine s_mv ?_
 refine s_ext ?_
 refine s_ext ?_
 refine s_alloc yZ65 ?_
 refine s_stW yS65 ?_
 refine s_as ?_
 refine k_nil (k_seq (awp_seq (awp_region ?_)))
 refine s_mv ?_
 refine s_ldW yA32 yS32 ?_
 obtain ⟨v5, hv5, hF4⟩ := bind_some' hF3
 refine s_pure [] (m_spec_FindHit_ok fuel _ _ _ hv5) ?_
 refine s_mv ?_
 refine s_ext ?_
 refine s_ext ?_
 refine s_alloc yZ65 ?_
 refine s_stW yS65 ?_
 refine s_as ?_
 refine k_nil (k_seq (awp_seq ?_))
 refine awp_jn (α := Nat × Bool) [29, 30, 31, 32, 33, 34, 35, 36, 37, 38, 39, 40, 41, 42, 43] [] [30, 32] (fun a => [(43, .t (.sc (.bool a.2)))]) (fun a => []) (fun a => a.1 ≤ fuel ∧ m_laws_FnFindHit_j1 a.1 v3 v4 v5 a.2 = some r) ?_ ?_
 refine awp_region ?_
 refine s_ldW yA65 yS65 ?_
 refine s_bs Hit.row [v4.1] yP34 yR65 ?_
 refine s_ldW yA65 yS65 ?_
 refine s_bs Hit.row [v5.1] yP34 yR65 ?_
 obtain ⟨v6, hv6, hF5⟩ := bind_some' hF4
 refine s_pure [30, 32] (m_impl_HitsSame_ok fuel _ _ _ hv6) ?_
 refine s_not ?_
 refine s_mv ?_
 refine w_guard _ 35 hF5 ?_ ?_ <;> intro hc7 hF6
 iterate 3 refine r_no rfl ?_
 refine s_pkt ?_
 refine s_mv ?_
 refine r_no rfl (r_no rfl ?_)
 refine s_pkt ?_
 refine k_nil ?_
 exact s_jn (fuel, true) ⟨by first | omega | (dsimp only; omega), hF6⟩
 refine s_mv ?_
 refine s_mv ?_
 refine s_neB yU4 ?_
 refine s_pkf ?_
 refine s_mv ?_
 refine w_guard _ 40 hF6 ?_ ?_ <;> intro hc8 hF7
 refine r_no rfl (r_no rfl ?_)
 refine s_pkt ?_
 refine k_nil ?_
 exact s_jn (fuel, true) ⟨by first | omega | (dsimp only; omega), hF7⟩
 refine s_mv ?_
 refine s_not ?_
 refine s_pkf ?_
 refine k_nil ?_
 exact s_jn (fuel, (!v4.2)) ⟨by first | omega | (dsimp only; omega), hF7⟩
 clear hF4
 rintro ⟨fu, g9⟩ ⟨hl10, hF5⟩
 dsimp only at hl10 hF5 ⊢
 obtain _ | fu := fu
 · rw [m_laws_FnFindHit_j1] at hF5; cases hF5
 rw [m_laws_FnFindHit_j1] at hF5
 refine w_cond hF5 ?_ ?_ <;> intro hc11 hF6
 refine awp_jn (α := Nat × Bool) [2, 44, 45, 46, 47, 48, 49, 50, 51, 52, 53] [] [30, 32, 45, 47] (fun a => [(2, .t (.sc (.bool a.2)))]) (fun a => []) (fun a => a.1 ≤ fu ∧ m_laws_FnFindHit_j2 a.1  a.2 = some r) ?_ ?_
 refine awp_region ?_
 refine s_ldW yA65 yS65 ?_
 refine s_bs Hit.row [v4.1] yP34 yR65 ?_
 refine s_ldW yA65 yS65 ?_
 refine s_bs Hit.row [v5.1] yP34 yR65 ?_
 obtain ⟨v12, hv12, hF7⟩ := bind_some' hF6
 refine s_pure [45, 47] (m_impl_HitsSame_ok fu _ _ _ hv12) ?_
 refine s_mv ?_
 refine w_guard _ 49 hF7 ?_ ?_ <;> intro hc13 hF8
 refine s_mv ?_
 refine s_mv ?_
 refine s_eqB yU4 ?_
 refine s_pkt ?_
 refine s_as ?_
 refine k_nil ?_
 exact s_jn (fu, (decide (v4.2 = v5.2))) ⟨by first | omega | (dsimp only; omega), hF8⟩
 iterate 3 refine r_no rfl ?_
 refine s_pkf ?_
 refine s_as ?_
 refine k_nil ?_
 exact s_jn (fu, false) ⟨by first | omega | (dsimp only; omega), hF8⟩
 clear hF6
 rintro ⟨fu, g14⟩ ⟨hl15, hF7⟩
 dsimp only at hl15 hF7 ⊢
 obtain _ | fu := fu
 · rw [m_laws_FnFindHit_j2] at hF7; cases hF7
 rw [m_laws_FnFindHit_j2] at hF7
 refine awp_ret (k_seq_ret (k_fin ?_))
 cases hF7
 exact ends_a [] [] Try.results11
 refine awp_skip (k_seq (awp_seq (awp_region ?_)))
 refine s_fa yF65_0 ?_
 refine s_ldN yA32 yS32 ?_
 refine s_ldW yA32 yS32 ?_
 obtain ⟨v16, hv16, hF7⟩ := bind_some' hF6
 refine s_pure [] (m_impl_FormSame_ok fu _ _ _ hv16) ?_
 refine s_mv ?_
 refine w_guard _ 58 hF7 ?_ ?_ <;> intro hc17 hF8
 refine s_ldW yA65 yS65 ?_
 refine s_bs Hit.row [v4.1] yP34 yR65 ?_
 obtain ⟨v18, hv18, hF9⟩ := bind_some' hF8
 refine s_pure [60] (m_impl_HitsValid_ok fu _ _ hv18) ?_
 refine s_pkt ?_
 refine s_mv ?_
 refine w_guard _ 63 hF9 ?_ ?_ <;> intro hc19 hF10
 refine s_mv ?_
 obtain ⟨v20, hv20, hF11⟩ := bind_some' hF10
 refine s_pure [] (m_impl_HitsValid_ok fu _ _ hv20) ?_
 refine s_pkt ?_
 refine s_as ?_
 refine k_nil (k_seq (awp_ret (k_fin ?_)))
 cases hF11
 exact ends_a [] [] Try.results11
 refine r_no rfl (r_no rfl ?_)
 refine s_pkf ?_
 refine s_as ?_
 refine k_nil (k_seq (awp_ret (k_fin ?_)))
 cases hF10
 exact ends_a [] [] Try.results11
 iterate 3 refine r_no rfl ?_
 refine s_pkf ?_
 refine s_mv ?_
 refine r_no rfl (r_no rfl ?_)
 refine s_pkf ?_
 refine s_as ?_
 refine k_nil (k_seq (awp_ret (k_fin ?_)))
 cases hF8
 exact ends_a [] [] Try.results11
end Go.Abs
