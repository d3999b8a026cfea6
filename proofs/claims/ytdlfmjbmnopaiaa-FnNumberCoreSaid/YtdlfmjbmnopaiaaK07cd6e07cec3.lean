/- A part of the proof: what the functions that the law calls answer, as pure values. -/
import Derived.Test.YtdlfmjbmnopaiaaK39b6cf56bf27
import Derived.Test.YtdlfmjbmnopaiaaK59cdad94a9fc
import Derived.Test.YtdlfmjbmnopaiaaK780d2eb56f1c
import Derived.Test.YtdlfmjbmnopaiaaKb3c329c7c45a
import Derived.Test.YtdlfmjbmnopaiaaKd76126587010
import Derived.Test.YtdlfmjbmnopaiaaKf2381d853e25
set_option linter.unusedSimpArgs false
set_option linter.unusedVariables false
set_option maxRecDepth 100000
set_option maxHeartbeats 4000000
namespace Go.Abs
open Go.Proofs
theorem m_impl_alike_n_all (fuel : Nat) : m_impl_alike_n_AC fuel := by
 induction fuel using Nat.strongRecOn with
 | _ N ih =>
   cases N with
   | zero => exact (by intro x1 x2 r h; rw [m_impl_alike_n] at h; cases h)
   | succ fu => exact m_impl_alike_n_st fu (fun k hk => (ih k (by omega)))
theorem m_impl_alike_n_ok (fuel : Nat) : m_impl_alike_n_AC fuel := (m_impl_alike_n_all fuel)
def m_impl_CoreAlike_AC (fuel : Nat) : Prop := ∀ (x1 : Core) (x2 : Core) (r : Bool), m_impl_CoreAlike fuel x1 x2 = some r → AC Try.prog 9 [.ag [.t (.sc (.int .i64 x1.kind)), .t (.sc (.int .i64 x1.id)), .t (.sc (.str x1.name)), .t (.sc (.int .i64 x1.n)), .t (.sl (x1.ids.map rI)), .t (.sc (.int .i64 x1.data.kind)), .t (.sc (.str x1.data.name)), .t (.sc (.int .i64 x1.data.n)), .t (.sl (x1.data.scopes.map rI)), .t (.sl (x1.data.kids.map Form.row)), .t (.sl (x1.kids.map Core.row))], .ag [.t (.sc (.int .i64 x2.kind)), .t (.sc (.int .i64 x2.id)), .t (.sc (.str x2.name)), .t (.sc (.int .i64 x2.n)), .t (.sl (x2.ids.map rI)), .t (.sc (.int .i64 x2.data.kind)), .t (.sc (.str x2.data.name)), .t (.sc (.int .i64 x2.data.n)), .t (.sl (x2.data.scopes.map rI)), .t (.sl (x2.data.kids.map Form.row)), .t (.sl (x2.kids.map Core.row))]] noOb (.t (.sc (.bool r))) noOb
theorem m_impl_CoreAlike_ok (fuel : Nat) : m_impl_CoreAlike_AC fuel := by
 intro x1 x2 r hF0
 unfold m_impl_CoreAlike at hF0
 refine AC_i [.t (.sc (.bool r))] Try.func9 rfl Try.ntmps9 ?_
 intro C hC
 refine awp_seq (awp_region ?_)
 refine s_box ?_
 refine s_box ?_
 refine s_as ?_
 refine k_nil (k_seq (awp_seq (awp_region ?_)))
 refine s_ldW yA29 yS29 ?_
 obtain ⟨v1, hv1, hF1⟩ := bind_some' hF0
 refine s_pure [] (m_impl_CoreValid_ok fuel _ _ hv1) ?_
 refine s_mv ?_
 refine w_guard _ 7 hF1 ?_ ?_ <;> intro hc2 hF2
 refine s_ldW yA29 yS29 ?_
 obtain ⟨v3, hv3, hF3⟩ := bind_some' hF2
 refine s_pure [] (m_impl_CoreValid_ok fuel _ _ hv3) ?_
 refine s_pkt ?_
 refine s_mv ?_
 refine w_guard _ 11 hF3 ?_ ?_ <;> intro hc4 hF4
 refine s_ldW yA29 yS29 ?_
 refine s_ldW yA29 yS29 ?_
 obtain ⟨v5, hv5, hF5⟩ := bind_some' hF4
 refine s_pure [] (m_impl_alike_n_ok fuel _ _ _ hv5) ?_
 refine s_pkt ?_
 refine s_as ?_
 refine k_nil (k_seq (awp_ret (k_fin ?_)))
 cases hF5
 exact ends_a [] [] Try.results9
 iterate 3 refine r_no rfl ?_
 refine s_pkf ?_
 refine s_as ?_
 refine k_nil (k_seq (awp_ret (k_fin ?_)))
 cases hF4
 exact ends_a [] [] Try.results9
 refine r_no rfl (r_no rfl ?_)
 refine s_pkf ?_
 refine s_mv ?_
 iterate 3 refine r_no rfl ?_
 refine s_pkf ?_
 refine s_as ?_
 refine k_nil (k_seq (awp_ret (k_fin ?_)))
 cases hF2
 exact ends_a [] [] Try.results9
def m_laws_FnNumberCore_AC (fuel : Nat) : Prop := ∀ (x1 : (List Int)) (r : Bool), m_laws_FnNumberCore fuel x1 = some r → AC Try.prog 3 [.t (.sl (x1.map rB))] noOb (.t (.sc (.bool r))) noOb
theorem m_laws_FnNumberCore_ok (fuel : Nat) : m_laws_FnNumberCore_AC fuel := by
 intro x1 r hF0
 unfold m_laws_FnNumberCore at hF0
 refine AC_i [.t (.sc (.bool r))] Try.func3 rfl Try.ntmps3 ?_
 intro C hC
 refine awp_seq (awp_region ?_)
 refine s_as ?_
 refine k_nil (k_seq (awp_seq (awp_seq (awp_region ?_))))
 refine s_mv ?_
 refine s_lenT yU22 ?_
 refine s_gt ?_
 refine k_nil (k_seq ?_)
 refine w_cond hF0 ?_ ?_ <;> intro hc1 hF1
 refine awp_lenT 0 (fun hb2 => ?_)
 refine awp_seq (awp_region ?_)
 refine s_as ?_
 refine k_nil (k_seq (awp_ret (k_seq_ret (k_fin ?_))))
 cases hF1
 exact ends_a [] [] Try.results3
 refine awp_skip (k_seq (awp_seq (awp_region ?_)))
 refine s_mv ?_
 obtain ⟨v3, hv3, hF2⟩ := bind_some' hF1
 refine s_pure [] (m_spec_DrawNumberCore_ok fuel _ _ hv3) ?_
 refine s_alloc yZ29 ?_
 refine s_stW yS29 ?_
 refine k_nil (k_seq (awp_seq (awp_region ?_)))
 refine s_ldW yA29 yS29 ?_
 obtain ⟨v4, hv4, hF3⟩ := bind_some' hF2
 refine s_pure [] (m_impl_NumberCore_ok fuel _ _ hv4) ?_
 refine s_mv ?_
 refine s_ext ?_
 refine s_ext ?_
 refine s_alloc yZ29 ?_
 refine s_stW yS29 ?_
 refine s_as ?_
 refine k_nil (k_seq (awp_seq (awp_region ?_)))
 refine s_ldW yA29 yS29 ?_
 obtain ⟨v5, hv5, hF4⟩ := bind_some' hF3
 refine s_pure [] (m_spec_NumberCore_ok fuel _ _ hv5) ?_
 refine s_mv ?_
 refine s_ext ?_
 refine s_ext ?_
 refine s_alloc yZ29 ?_
 refine s_stW yS29 ?_
 refine s_as ?_
 refine k_nil (k_seq (awp_seq ?_))
 refine awp_jn (α := Nat × Bool) [25, 26, 27, 28, 29, 30, 31, 32, 33, 34, 35, 36, 37] [] [] (fun a => [(37, .t (.sc (.bool a.2)))]) (fun a => []) (fun a => a.1 ≤ fuel ∧ m_laws_FnNumberCore_j1 a.1 v3 v4 v5 a.2 = some r) ?_ ?_
 refine awp_region ?_
 refine s_ldW yA29 yS29 ?_
 refine s_ldW yA29 yS29 ?_
 obtain ⟨v6, hv6, hF5⟩ := bind_some' hF4
 refine s_pure [] (m_impl_CoreSame_ok fuel _ _ _ hv6) ?_
 refine s_not ?_
 refine s_mv ?_
 refine w_guard _ 29 hF5 ?_ ?_ <;> intro hc7 hF6
 iterate 3 refine r_no rfl ?_
 refine s_pkt ?_
 refine s_mv ?_
 refine r_no rfl (r_no rfl ?_)
 refine s_pkt ?_
 refine k_nil ?_
 exact s_jn (fuel, true) ⟨by first | omega | (dsimp only; omega), hF6⟩
 refine s_mv ?_
 refine s_mv ?_
 refine s_neB yU4 ?_
 refine s_pkf ?_
 refine s_mv ?_
 refine w_guard _ 34 hF6 ?_ ?_ <;> intro hc8 hF7
 refine r_no rfl (r_no rfl ?_)
 refine s_pkt ?_
 refine k_nil ?_
 exact s_jn (fuel, true) ⟨by first | omega | (dsimp only; omega), hF7⟩
 refine s_mv ?_
 refine s_not ?_
 refine s_pkf ?_
 refine k_nil ?_
 exact s_jn (fuel, (!v4.2)) ⟨by first | omega | (dsimp only; omega), hF7⟩
 clear hF4
 rintro ⟨fu, g9⟩ ⟨hl10, hF5⟩
 dsimp only at hl10 hF5 ⊢
 obtain _ | fu := fu
 · rw [m_laws_FnNumberCore_j1] at hF5; cases hF5
 rw [m_laws_FnNumberCore_j1] at hF5
 refine w_cond hF5 ?_ ?_ <;> intro hc11 hF6
 refine awp_jn (α := Nat × Bool) [2, 38, 39, 40, 41, 42, 43, 44, 45] [] [] (fun a => [(2, .t (.sc (.bool a.2)))]) (fun a => []) (fun a => a.1 ≤ fu ∧ m_laws_FnNumberCore_j2 a.1  a.2 = some r) ?_ ?_
 refine awp_region ?_
 refine s_ldW yA29 yS29 ?_
 refine s_ldW yA29 yS29 ?_
 obtain ⟨v12, hv12, hF7⟩ := bind_some' hF6
 refine s_pure [] (m_impl_CoreSame_ok fu _ _ _ hv12) ?_
 refine s_mv ?_
 refine w_guard _ 41 hF7 ?_ ?_ <;> intro hc13 hF8
 refine s_mv ?_
 refine s_mv ?_
 refine s_eqB yU4 ?_
 refine s_pkt ?_
 refine s_as ?_
 refine k_nil ?_
 exact s_jn (fu, (decide (v4.2 = v5.2))) ⟨by first | omega | (dsimp only; omega), hF8⟩
 iterate 3 refine r_no rfl ?_
 refine s_pkf ?_
 refine s_as ?_
 refine k_nil ?_
 exact s_jn (fu, false) ⟨by first | omega | (dsimp only; omega), hF8⟩
 clear hF6
 rintro ⟨fu, g14⟩ ⟨hl15, hF7⟩
 dsimp only at hl15 hF7 ⊢
 obtain _ | fu := fu
 · rw [m_laws_FnNumberCore_j2] at hF7; cases hF7
 rw [m_laws_FnNumberCore_j2] at hF7
 refine awp_ret (k_seq_ret (k_fin ?_))
 cases hF7
 exact ends_a [] [] Try.results3
 refine awp_skip (k_seq (awp_seq (awp_region ?_)))
 refine s_ldW yA29 yS29 ?_
 obtain ⟨v16, hv16, hF7⟩ := bind_some' hF6
 refine s_pure [] (m_impl_NumberCore_ok fu _ _ hv16) ?_
 refine s_mv ?_
 refine s_ext ?_
 refine s_ext ?_
 refine s_alloc yZ29 ?_
 refine s_stW yS29 ?_
 refine s_as ?_
 refine k_nil (k_seq (awp_seq (awp_region ?_)))
 refine s_ldW yA29 yS29 ?_
 obtain ⟨v17, hv17, hF8⟩ := bind_some' hF7
 refine s_pure [] (m_impl_CoreValid_ok fu _ _ hv17) ?_
 refine s_mv ?_
 refine w_guard _ 53 hF8 ?_ ?_ <;> intro hc18 hF9
 refine s_ldW yA29 yS29 ?_
 refine s_ldW yA29 yS29 ?_
 obtain ⟨v19, hv19, hF10⟩ := bind_some' hF9
 refine s_pure [] (m_impl_CoreAlike_ok fu _ _ _ hv19) ?_
 refine s_pkt ?_
 refine s_mv ?_
 refine w_guard _ 58 hF10 ?_ ?_ <;> intro hc20 hF11
 refine s_mv ?_
 refine s_pkt ?_
 refine s_mv ?_
 refine w_guard _ 61 hF11 ?_ ?_ <;> intro hc21 hF12
 refine s_ldW yA29 yS29 ?_
 refine s_ldW yA29 yS29 ?_
 obtain ⟨v22, hv22, hF13⟩ := bind_some' hF12
 refine s_pure [] (m_impl_CoreSame_ok fu _ _ _ hv22) ?_
 refine s_pkt ?_
 refine s_as ?_
 refine k_nil (k_seq (awp_ret (k_fin ?_)))
 cases hF13
 exact ends_a [] [] Try.results3
 iterate 3 refine r_no rfl ?_
 refine s_pkf ?_
 refine s_as ?_
 refine k_nil (k_seq (awp_ret (k_fin ?_)))
 cases hF12
 exact ends_a [] [] Try.results3
 refine r_no rfl ?_
 refine s_pkf ?_
 refine s_mv ?_
 iterate 3 refine r_no rfl ?_
 refine s_pkf ?_
 refine s_as ?_
 refine k_nil (k_seq (awp_ret (k_fin ?_)))
 cases hF11
 exact ends_a [] [] Try.results3
 iterate 3 refine r_no rfl ?_
 refine s_pkf ?_
 refine s_mv ?_
 refine r_no rfl ?_
 refine s_pkf ?_
 refine s_mv ?_
 iterate 3 refine r_no rfl ?_
 refine s_pkf ?_
 refine s_as ?_
 refine k_nil (k_seq (awp_ret (k_fin ?_)))
 cases hF9
 exact ends_a [] [] Try.results3
end Go.Abs
