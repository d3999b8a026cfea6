/- A part of the proof: what the functions that the law calls answer, as pure values. -/
import Derived.Test.YtbkdbbfgdjcfgaaK00b9e8259e4a
import Derived.Test.YtbkdbbfgdjcfgaaK0759272d1096
import Derived.Test.YtbkdbbfgdjcfgaaK0d894945665f
import Derived.Test.YtbkdbbfgdjcfgaaK10ac840a5047
import Derived.Test.YtbkdbbfgdjcfgaaK1dbd5033339e
import Derived.Test.YtbkdbbfgdjcfgaaK2759ad94f49e
import Derived.Test.YtbkdbbfgdjcfgaaK3a2f94805f11
import Derived.Test.YtbkdbbfgdjcfgaaK48f390beced3
import Derived.Test.YtbkdbbfgdjcfgaaK55104e13721b
import Derived.Test.YtbkdbbfgdjcfgaaK560d067bf798
import Derived.Test.YtbkdbbfgdjcfgaaKafa1c419a05e
set_option linter.unusedSimpArgs false
set_option linter.unusedVariables false
set_option maxRecDepth 100000
set_option maxHeartbeats 4000000
namespace Go.Abs
open Go.Proofs
def m_impl_FillTemplate_D_AC (fuel : Nat) : Prop := ∀ (x1 : Form) (x2 : (List Hit)) (r : (Form × Bool)), m_impl_FillTemplate fuel x1 x2 = some r → AC Try.prog 60 [.ag [.t (.sc (.int .i64 x1.kind)), .t (.sc (.str x1.name)), .t (.sc (.int .i64 x1.n)), .t (.sl (x1.scopes.map rI)), .t (.sl (x1.kids.map Form.row))], .t (.sl (x2.map Hit.row))] (objs []) (.tp [.ag [.t (.sc (.int .i64 r.1.kind)), .t (.sc (.str r.1.name)), .t (.sc (.int .i64 r.1.n)), .ar 9203, .ar 9204], .t (.sc (.bool r.2))]) (objs [(9203, .arr (r.1.scopes.map rI) 3 true), (9204, .dar (r.1.kids.map (Form.rowD 3 34)) 34)])
theorem m_impl_FillTemplate_D_ok (fuel : Nat) : m_impl_FillTemplate_D_AC fuel := by
 intro x1 x2 r hF0
 unfold m_impl_FillTemplate at hF0
 refine AC_i [.ag [.t (.sc (.int .i64 r.1.kind)), .t (.sc (.str r.1.name)), .t (.sc (.int .i64 r.1.n)), .ar 9203, .ar 9204], .t (.sc (.bool r.2))] Try.func60 rfl Try.ntmps60 ?_
 intro C hC
 refine awp_seq (awp_region ?_)
 refine s_box ?_
 refine s_alloc yZ34 ?_
 refine s_as ?_
 refine k_nil (k_seq (awp_seq (awp_seq (awp_region ?_))))
 refine s_ldW yA34 yS34 ?_
 refine s_mv ?_
 obtain ⟨v1, hv1, hF1⟩ := bind_some' hF0
 refine s_pure [] (m_impl_TemplateValid_ok fuel _ _ _ hv1) ?_
 refine s_not ?_
 refine k_nil (k_seq ?_)
 refine w_cond hF1 ?_ ?_ <;> intro hc2 hF2
 refine awp_seq (awp_region ?_)
 refine s_bld yZ34 yL34 ?_
 refine s_stW yS34 ?_
 refine s_as ?_
 refine k_nil (k_seq ?_)
 refine awp_ownB 4 9203 3 [.t (.sc (.int .i64 0)), .t (.sc (.str (⟨#[]⟩ : ByteArray))), .t (.sc (.int .i64 0)), .ar 9203, .nl] yI3.choose_spec ?_
 refine awp_ownB 4 9204 34 [.t (.sc (.int .i64 0)), .t (.sc (.str (⟨#[]⟩ : ByteArray))), .t (.sc (.int .i64 0)), .ar 9203, .ar 9204] yI34.choose_spec ?_
 refine awp_toD 9204 (Form.rowD 3 34) (es := ([] : List Form).map Form.row) (by (conv => lhs; whnf) <;> rfl) rfl ?_
 refine awp_ret (k_seq_ret (k_fin ?_))
 cases hF2
 exact ends_gen _ [] (by rw [Try.results60]; exact (res_agg (by conv => lhs; whnf) (by conv => lhs; whnf) yA34 yS34 rfl (res_tmp (by conv => lhs; whnf) res_nil)))
 refine awp_skip (k_seq (awp_seq (awp_region ?_)))
 refine s_ldW yA34 yS34 ?_
 refine s_mv ?_
 obtain ⟨v3, hv3, hF3⟩ := bind_some' hF2
 refine s_pure [] (m_impl_fill_ok fuel _ _ _ hv3) ?_
 refine s_mv ?_
 refine s_ext ?_
 refine s_ext ?_
 refine s_alloc yZ34 ?_
 refine s_stW yS34 ?_
 refine s_as ?_
 refine k_nil (k_seq (awp_seq (awp_seq (awp_region ?_))))
 refine s_mv ?_
 refine s_not ?_
 refine k_nil (k_seq ?_)
 refine w_cond hF3 ?_ ?_ <;> intro hc4 hF4
 refine awp_seq (awp_region ?_)
 refine s_bld yZ34 yL34 ?_
 refine s_stW yS34 ?_
 refine s_as ?_
 refine k_nil (k_seq ?_)
 refine awp_ownB 4 9203 3 [.t (.sc (.int .i64 0)), .t (.sc (.str (⟨#[]⟩ : ByteArray))), .t (.sc (.int .i64 0)), .ar 9203, .nl] yI3.choose_spec ?_
 refine awp_ownB 4 9204 34 [.t (.sc (.int .i64 0)), .t (.sc (.str (⟨#[]⟩ : ByteArray))), .t (.sc (.int .i64 0)), .ar 9203, .ar 9204] yI34.choose_spec ?_
 refine awp_toD 9204 (Form.rowD 3 34) (es := ([] : List Form).map Form.row) (by (conv => lhs; whnf) <;> rfl) rfl ?_
 refine awp_ret (k_seq_ret (k_fin ?_))
 cases hF4
 exact ends_gen _ [] (by rw [Try.results60]; exact (res_agg (by conv => lhs; whnf) (by conv => lhs; whnf) yA34 yS34 rfl (res_tmp (by conv => lhs; whnf) res_nil)))
 refine awp_skip (k_seq (awp_seq (awp_region ?_)))
 refine s_ldW yA34 yS34 ?_
 obtain ⟨v5, hv5, hF5⟩ := bind_some' hF4
 refine s_call [(9203, 2023), (9204, 12023)] [] _ _ (m_impl_formOr_D_ok fuel _ _ hv5) ?_
 refine s_ext ?_
 refine s_ext ?_
 refine s_stW yS34 ?_
 refine s_as ?_
 refine k_nil (k_seq ?_)
 refine awp_mvB 4 2023 9203 [.t (.sc (.int .i64 v5.1.kind)), .t (.sc (.str v5.1.name)), .t (.sc (.int .i64 v5.1.n)), .ar 9203, .ar 12023] ?_
 refine awp_mvBO 4 12023 9204 [.t (.sc (.int .i64 v5.1.kind)), .t (.sc (.str v5.1.name)), .t (.sc (.int .i64 v5.1.n)), .ar 9203, .ar 9204] ?_
 refine awp_ret (k_fin ?_)
 cases hF5
 exact ends_gen _ [] (by rw [Try.results60]; exact (res_agg (by conv => lhs; whnf) (by conv => lhs; whnf) yA34 yS34 rfl (res_tmp (by conv => lhs; whnf) res_nil)))
def m_impl_formOr_AC (fuel : Nat) : Prop := ∀ (x1 : Form) (r : (Form × Bool)), m_impl_formOr fuel x1 = some r → AC Try.prog 110 [.ag [.t (.sc (.int .i64 x1.kind)), .t (.sc (.str x1.name)), .t (.sc (.int .i64 x1.n)), .t (.sl (x1.scopes.map rI)), .t (.sl (x1.kids.map Form.row))]] noOb (.tp [.ag [.t (.sc (.int .i64 r.1.kind)), .t (.sc (.str r.1.name)), .t (.sc (.int .i64 r.1.n)), .t (.sl (r.1.scopes.map rI)), .t (.sl (r.1.kids.map Form.row))], .t (.sc (.bool r.2))]) noOb
theorem m_impl_formOr_ok (fuel : Nat) : m_impl_formOr_AC fuel := by
 intro x1 r hF0
 unfold m_impl_formOr at hF0
 refine AC_i [.ag [.t (.sc (.int .i64 r.1.kind)), .t (.sc (.str r.1.name)), .t (.sc (.int .i64 r.1.n)), .t (.sl (r.1.scopes.map rI)), .t (.sl (r.1.kids.map Form.row))], .t (.sc (.bool r.2))] Try.func110 rfl Try.ntmps110 ?_
 intro C hC
 refine awp_seq (awp_region ?_)
 refine s_box ?_
 refine s_alloc yZ34 ?_
 refine s_as ?_
 refine k_nil (k_seq (awp_seq (awp_seq (awp_region ?_))))
 refine s_ldW yA34 yS34 ?_
 obtain ⟨v1, hv1, hF1⟩ := bind_some' hF0
 refine s_pure [] (m_impl_FormValid_ok fuel _ _ hv1) ?_
 refine s_not ?_
 refine k_nil (k_seq ?_)
 refine w_cond hF1 ?_ ?_ <;> intro hc2 hF2
 refine awp_seq (awp_region ?_)
 refine s_bld yZ34 yL34 ?_
 refine s_stW yS34 ?_
 refine s_as ?_
 refine k_nil (k_seq (awp_ret (k_seq_ret (k_fin ?_))))
 cases hF2
 exact ends_gen [] [] (by rw [Try.results110]; exact (res_agg (by conv => lhs; whnf) (by conv => lhs; whnf) yA34 yS34 rfl (res_tmp (by conv => lhs; whnf) res_nil)))
 refine awp_skip (k_seq (awp_seq (awp_region ?_)))
 refine s_ldW yA34 yS34 ?_
 obtain ⟨v3, hv3, hF3⟩ := bind_some' hF2
 refine s_pure [] (m_impl_copyForm_ok fuel _ _ hv3) ?_
 refine s_stW yS34 ?_
 refine s_as ?_
 refine k_nil (k_seq (awp_ret (k_fin ?_)))
 cases hF3
 exact ends_gen [] [] (by rw [Try.results110]; exact (res_agg (by conv => lhs; whnf) (by conv => lhs; whnf) yA34 yS34 rfl (res_tmp (by conv => lhs; whnf) res_nil)))
def m_impl_FillTemplate_AC (fuel : Nat) : Prop := ∀ (x1 : Form) (x2 : (List Hit)) (r : (Form × Bool)), m_impl_FillTemplate fuel x1 x2 = some r → AC Try.prog 60 [.ag [.t (.sc (.int .i64 x1.kind)), .t (.sc (.str x1.name)), .t (.sc (.int .i64 x1.n)), .t (.sl (x1.scopes.map rI)), .t (.sl (x1.kids.map Form.row))], .t (.sl (x2.map Hit.row))] noOb (.tp [.ag [.t (.sc (.int .i64 r.1.kind)), .t (.sc (.str r.1.name)), .t (.sc (.int .i64 r.1.n)), .t (.sl (r.1.scopes.map rI)), .t (.sl (r.1.kids.map Form.row))], .t (.sc (.bool r.2))]) noOb
theorem m_impl_FillTemplate_ok (fuel : Nat) : m_impl_FillTemplate_AC fuel := by
 intro x1 x2 r hF0
 unfold m_impl_FillTemplate at hF0
 refine AC_i [.ag [.t (.sc (.int .i64 r.1.kind)), .t (.sc (.str r.1.name)), .t (.sc (.int .i64 r.1.n)), .t (.sl (r.1.scopes.map rI)), .t (.sl (r.1.kids.map Form.row))], .t (.sc (.bool r.2))] Try.func60 rfl Try.ntmps60 ?_
 intro C hC
 refine awp_seq (awp_region ?_)
 refine s_box ?_
 refine s_alloc yZ34 ?_
 refine s_as ?_
 refine k_nil (k_seq (awp_seq (awp_seq (awp_region ?_))))
 refine s_ldW yA34 yS34 ?_
 refine s_mv ?_
 obtain ⟨v1, hv1, hF1⟩ := bind_some' hF0
 refine s_pure [] (m_impl_TemplateValid_ok fuel _ _ _ hv1) ?_
 refine s_not ?_
 refine k_nil (k_seq ?_)
 refine w_cond hF1 ?_ ?_ <;> intro hc2 hF2
 refine awp_seq (awp_region ?_)
 refine s_bld yZ34 yL34 ?_
 refine s_stW yS34 ?_
 refine s_as ?_
 refine k_nil (k_seq (awp_ret (k_seq_ret (k_fin ?_))))
 cases hF2
 exact ends_gen [] [] (by rw [Try.results60]; exact (res_agg (by conv => lhs; whnf) (by conv => lhs; whnf) yA34 yS34 rfl (res_tmp (by conv => lhs; whnf) res_nil)))
 refine awp_skip (k_seq (awp_seq (awp_region ?_)))
 refine s_ldW yA34 yS34 ?_
 refine s_mv ?_
 obtain ⟨v3, hv3, hF3⟩ := bind_some' hF2
 refine s_pure [] (m_impl_fill_ok fuel _ _ _ hv3) ?_
 refine s_mv ?_
 refine s_ext ?_
 refine s_ext ?_
 refine s_alloc yZ34 ?_
 refine s_stW yS34 ?_
 refine s_as ?_
 refine k_nil (k_seq (awp_seq (awp_seq (awp_region ?_))))
 refine s_mv ?_
 refine s_not ?_
 refine k_nil (k_seq ?_)
 refine w_cond hF3 ?_ ?_ <;> intro hc4 hF4
 refine awp_seq (awp_region ?_)
 refine s_bld yZ34 yL34 ?_
 refine s_stW yS34 ?_
 refine s_as ?_
 refine k_nil (k_seq (awp_ret (k_seq_ret (k_fin ?_))))
 cases hF4
 exact ends_gen [] [] (by rw [Try.results60]; exact (res_agg (by conv => lhs; whnf) (by conv => lhs; whnf) yA34 yS34 rfl (res_tmp (by conv => lhs; whnf) res_nil)))
 refine awp_skip (k_seq (awp_seq (awp_region ?_)))
 refine s_ldW yA34 yS34 ?_
 obtain ⟨v5, hv5, hF5⟩ := bind_some' hF4
 refine s_pure [] (m_impl_formOr_ok fuel _ _ hv5) ?_
 refine s_ext ?_
 refine s_ext ?_
 refine s_stW yS34 ?_
 refine s_as ?_
 refine k_nil (k_seq (awp_ret (k_fin ?_)))
 cases hF5
 exact ends_gen [] [] (by rw [Try.results60]; exact (res_agg (by conv => lhs; whnf) (by conv => lhs; whnf) yA34 yS34 rfl (res_tmp (by conv => lhs; whnf) res_nil)))
def m_laws_FnExactFillTemplate_AC (fuel : Nat) : Prop := ∀ (x1 : Form) (x2 : (List Hit)) (r : Bool), m_laws_FnExactFillTemplate fuel x1 x2 = some r → AC Try.prog 10 [.ag [.t (.sc (.int .i64 x1.kind)), .t (.sc (.str x1.name)), .t (.sc (.int .i64 x1.n)), .t (.sl (x1.scopes.map rI)), .t (.sl (x1.kids.map Form.row))], .t (.sl (x2.map Hit.row))] noOb (.t (.sc (.bool r))) noOb
theorem m_laws_FnExactFillTemplate_ok (fuel : Nat) : m_laws_FnExactFillTemplate_AC fuel := by
 intro x1 x2 r hF0
 unfold m_laws_FnExactFillTemplate at hF0
 refine AC_i [.t (.sc (.bool r))] Try.func10 rfl Try.ntmps10 ?_
 intro C hC
 refine awp_seq (awp_region ?_)
 refine s_box ?_
 refine s_as ?_
 refine k_nil (k_seq (awp_seq (awp_region ?_)))
 refine s_as ?_
 refine k_nil (k_seq (awp_seq (awp_region ?_)))
 refine s_ldW yA25 yS25 ?_
 refine s_mv ?_
 obtain ⟨v1, hv1, hF1⟩ := bind_some' hF0
 refine s_pure [] (m_laws_szForm_ok fuel _ _ _ hv1) ?_
 refine s_as ?_
 refine k_nil (k_seq (awp_seq (awp_seq (awp_region ?_))))
 refine s_mv ?_
 refine s_lt ?_
 refine k_nil (k_seq ?_)
 refine w_cond hF1 ?_ ?_ <;> intro hc2 hF2
 refine awp_seq (awp_region ?_)
 refine s_as ?_
 refine k_nil (k_seq (awp_ret (k_seq_ret (k_fin ?_))))
 cases hF2
 exact ends_a [] [] Try.results10
 refine awp_skip (k_seq (awp_seq (awp_region ?_)))
 refine s_mv ?_
 refine s_mv ?_
 obtain ⟨v3, hv3, hF3⟩ := bind_some' hF2
 refine s_pure [] (m_laws_szHitS_ok fuel _ _ _ hv3) ?_
 refine s_as ?_
 refine k_nil (k_seq (awp_seq (awp_seq (awp_region ?_))))
 refine s_mv ?_
 refine s_lt ?_
 refine k_nil (k_seq ?_)
 refine w_cond hF3 ?_ ?_ <;> intro hc4 hF4
 refine awp_seq (awp_region ?_)
 refine s_as ?_
 refine k_nil (k_seq (awp_ret (k_seq_ret (k_fin ?_))))
 cases hF4
 exact ends_a [] [] Try.results10
 refine awp_skip (k_seq (awp_seq (awp_region ?_)))
 refine s_ldW yA25 yS25 ?_
 obtain ⟨v5, hv5, hF5⟩ := bind_some' hF4
 refine s_pure [] (m_laws_toForm_ok fuel _ _ hv5) ?_
 refine s_mv ?_
 obtain ⟨v6, hv6, hF6⟩ := bind_some' hF5
 refine s_pure [] (m_laws_toHitS_ok fuel _ _ hv6) ?_
 obtain ⟨v7, hv7, hF7⟩ := bind_some' hF6
 refine s_pure [] (m_spec_FillTemplate_ok fuel _ _ _ hv7) ?_
 refine s_mv ?_
 refine s_ext ?_
 refine s_ext ?_
 refine s_alloc yZ34 ?_
 refine s_stW yS34 ?_
 refine s_as ?_
 refine k_nil (k_seq (awp_seq (awp_region ?_)))
 refine s_ldW yA25 yS25 ?_
 obtain ⟨v8, hv8, hF8⟩ := bind_some' hF7
 refine s_call [(9203, 2036), (9204, 12036)] [] _ _ (m_laws_toForm_D_ok fuel _ _ hv8) ?_
 refine s_alloc yZ34 ?_
 refine s_stW yS34 ?_
 refine k_nil (k_seq (awp_seq (awp_region ?_)))
 refine s_mv ?_
 obtain ⟨v9, hv9, hF9⟩ := bind_some' hF8
 refine s_call [(9200, 2038)] [] _ _ (m_laws_toHitS_D_ok fuel _ _ hv9) ?_
 refine s_as ?_
 refine k_nil (k_seq (awp_seq (awp_region ?_)))
 refine s_ldW yA34 yS34 ?_
 refine s_mv ?_
 obtain ⟨v10, hv10, hF10⟩ := bind_some' hF9
 refine s_call [(9700, 2036), (9701, 12036), (9702, 2038), (9203, 2042), (9204, 12042)] [] [(9700, .arr (v8.scopes.map rI) 3 true), (9701, .dar (v8.kids.map (Form.rowD 3 34)) 34), (9702, .dar (v9.map (Hit.rowD 3 34 65)) 65)] [(9700, .arr (v8.scopes.map rI) 3 true), (9701, .dar (v8.kids.map (Form.rowD 3 34)) 34), (9702, .dar (v9.map (Hit.rowD 3 34 65)) 65), (9203, .arr (v10.1.scopes.map rI) 3 true), (9204, .dar (v10.1.kids.map (Form.rowD 3 34)) 34)] (ac_lend (args := [.ag [.t (.sc (.int .i64 v8.kind)), .t (.sc (.str v8.name)), .t (.sc (.int .i64 v8.n)), .ar 9700, .ar 9701], .ar 9702]) [(9700, .arr (v8.scopes.map rI) 3 true), (9701, .dar (v8.kids.map (Form.rowD 3 34)) 34), (9702, .dar (v9.map (Hit.rowD 3 34 65)) 65)] [(9203, .arr (v10.1.scopes.map rI) 3 true), (9204, .dar (v10.1.kids.map (Form.rowD 3 34)) 34)] (m_impl_FillTemplate_D_ok fuel _ _ _ hv10) rfl (by simp only [V.lendL, V.lend, objs_cons, objs_nil, Nat.reduceEqDiff, reduceIte, if_true, if_false, Form.lendM, Core.lendM, Hit.lendM, Rule.lendM, Bind.lendM, Macro.lendM]; try rfl) (by rfl) (by rfl) (by rfl) (by rfl) (by simp only [List.all_cons, List.all_nil, Ob.flat, flat_rI, flat_rS, Form.flatM, Core.flatM, Hit.flatM, Rule.flatM, Bind.flatM, Macro.flatM, Bool.and_self, Bool.true_and]) (by rfl)) ?_
 refine s_mv ?_
 refine s_ext ?_
 refine s_ext ?_
 refine s_alloc yZ34 ?_
 refine s_stW yS34 ?_
 refine s_as ?_
 refine k_nil (k_seq (awp_seq ?_))
 refine awp_jn (α := Nat × Bool) [45, 46, 47, 48, 49, 50, 51, 52, 53] [] [] (fun a => [(53, .t (.sc (.bool a.2)))]) (fun a => []) (fun a => a.1 ≤ fuel ∧ m_laws_FnExactFillTemplate_j1 a.1 x1 x2 v7 v8 v9 v10 a.2 = some r) ?_ ?_
 refine awp_region ?_
 refine s_ldW yA34 yS34 ?_
 refine s_ldW yA34 yS34 ?_
 obtain ⟨v11, hv11, hF11⟩ := bind_some' hF10
 refine s_call [(9700, 2042), (9701, 12042)] [] [(9700, .arr (v10.1.scopes.map rI) 3 true), (9701, .dar (v10.1.kids.map (Form.rowD 3 34)) 34)] [(9700, .arr (v10.1.scopes.map rI) 3 true), (9701, .dar (v10.1.kids.map (Form.rowD 3 34)) 34)] (ac_lend (args := [.ag [.t (.sc (.int .i64 v10.1.kind)), .t (.sc (.str v10.1.name)), .t (.sc (.int .i64 v10.1.n)), .ar 9700, .ar 9701], .ag [.t (.sc (.int .i64 v7.1.kind)), .t (.sc (.str v7.1.name)), .t (.sc (.int .i64 v7.1.n)), .t (.sl (v7.1.scopes.map rI)), .t (.sl (v7.1.kids.map Form.row))]]) [(9700, .arr (v10.1.scopes.map rI) 3 true), (9701, .dar (v10.1.kids.map (Form.rowD 3 34)) 34)] [] (m_laws_eqForm_ok fuel _ _ _ hv11) rfl (by simp only [V.lendL, V.lend, objs_cons, objs_nil, Nat.reduceEqDiff, reduceIte, if_true, if_false, Form.lendM, Core.lendM, Hit.lendM, Rule.lendM, Bind.lendM, Macro.lendM]; try rfl) (by rfl) (by rfl) (by rfl) (by rfl) (by simp only [List.all_cons, List.all_nil, Ob.flat, flat_rI, flat_rS, Form.flatM, Core.flatM, Hit.flatM, Rule.flatM, Bind.flatM, Macro.flatM, Bool.and_self, Bool.true_and]) (by rfl)) ?_
 refine s_not ?_
 refine s_mv ?_
 refine w_guard _ 49 hF11 ?_ ?_ <;> intro hc12 hF12
 iterate 3 refine r_no rfl ?_
 refine s_pkt ?_
 refine k_nil ?_
 exact s_jn (fuel, true) ⟨by first | omega | (dsimp only; omega), hF12⟩
 refine s_mv ?_
 refine s_mv ?_
 refine s_neB yU4 ?_
 refine s_pkf ?_
 refine k_nil ?_
 exact s_jn (fuel, (decide (v10.2 ≠ v7.2))) ⟨by first | omega | (dsimp only; omega), hF12⟩
 clear hF10
 rintro ⟨fu, g13⟩ ⟨hl14, hF11⟩
 dsimp only at hl14 hF11 ⊢
 obtain _ | fu := fu
 · rw [m_laws_FnExactFillTemplate_j1] at hF11; cases hF11
 rw [m_laws_FnExactFillTemplate_j1] at hF11
 refine w_cond hF11 ?_ ?_ <;> intro hc15 hF12
 refine awp_seq (awp_region ?_)
 refine s_as ?_
 refine k_nil (k_seq (awp_ret (k_seq_ret (k_fin ?_))))
 cases hF12
 exact ends_a [] [] Try.results10
 refine awp_skip (k_seq (awp_seq (awp_seq ?_)))
 refine awp_draw yMix (by kernel_rfl) ?_
 refine s_ldW yA34 yS34 ?_
 refine s_ldW yA25 yS25 ?_
 obtain ⟨v16, hv16, hF13⟩ := bind_some' hF12
 refine s_pure [] (m_laws_toForm_ok fu _ _ hv16) ?_
 obtain ⟨v17, hv17, hF14⟩ := bind_some' hF13
 refine s_call [(9700, 2036), (9701, 12036)] [] [(9700, .arr (v8.scopes.map rI) 3 true), (9701, .dar (v8.kids.map (Form.rowD 3 34)) 34)] [(9700, .arr (v8.scopes.map rI) 3 true), (9701, .dar (v8.kids.map (Form.rowD 3 34)) 34)] (ac_lend (args := [.ag [.t (.sc (.int .i64 v8.kind)), .t (.sc (.str v8.name)), .t (.sc (.int .i64 v8.n)), .ar 9700, .ar 9701], .ag [.t (.sc (.int .i64 v16.kind)), .t (.sc (.str v16.name)), .t (.sc (.int .i64 v16.n)), .t (.sl (v16.scopes.map rI)), .t (.sl (v16.kids.map Form.row))]]) [(9700, .arr (v8.scopes.map rI) 3 true), (9701, .dar (v8.kids.map (Form.rowD 3 34)) 34)] [] (m_laws_eqForm_ok fu _ _ _ hv17) rfl (by simp only [V.lendL, V.lend, objs_cons, objs_nil, Nat.reduceEqDiff, reduceIte, if_true, if_false, Form.lendM, Core.lendM, Hit.lendM, Rule.lendM, Bind.lendM, Macro.lendM]; try rfl) (by rfl) (by rfl) (by rfl) (by rfl) (by simp only [List.all_cons, List.all_nil, Ob.flat, flat_rI, flat_rS, Form.flatM, Core.flatM, Hit.flatM, Rule.flatM, Bind.flatM, Macro.flatM, Bool.and_self, Bool.true_and]) (by rfl)) ?_
 refine s_not ?_
 refine k_nilD (by kernel_rfl) ?_
 refine k_seq ?_
 refine w_cond hF14 ?_ ?_ <;> intro hc18 hF15
 refine awp_seq (awp_region ?_)
 refine s_as ?_
 refine k_nil (k_seq (awp_ret (k_seq_ret (k_fin ?_))))
 cases hF15
 exact ends_a [] [] Try.results10
 refine awp_skip (k_seq (awp_seq (awp_seq (awp_region ?_))))
 refine s_mv ?_
 refine s_mv ?_
 obtain ⟨v19, hv19, hF16⟩ := bind_some' hF15
 refine s_pure [] (m_laws_toHitS_ok fu _ _ hv19) ?_
 obtain ⟨v20, hv20, hF17⟩ := bind_some' hF16
 refine s_call [(9700, 2038)] [] [(9700, .dar (v9.map (Hit.rowD 3 34 65)) 65)] [(9700, .dar (v9.map (Hit.rowD 3 34 65)) 65)] (ac_lend (args := [.ar 9700, .t (.sl (v19.map Hit.row))]) [(9700, .dar (v9.map (Hit.rowD 3 34 65)) 65)] [] (m_laws_eqHitS_ok fu _ _ _ hv20) rfl (by simp only [V.lendL, V.lend, objs_cons, objs_nil, Nat.reduceEqDiff, reduceIte, if_true, if_false, Form.lendM, Core.lendM, Hit.lendM, Rule.lendM, Bind.lendM, Macro.lendM]; try rfl) (by rfl) (by rfl) (by rfl) (by rfl) (by simp only [List.all_cons, List.all_nil, Ob.flat, flat_rI, flat_rS, Form.flatM, Core.flatM, Hit.flatM, Rule.flatM, Bind.flatM, Macro.flatM, Bool.and_self, Bool.true_and]) (by rfl)) ?_
 refine s_not ?_
 refine k_nil (k_seq ?_)
 refine w_cond hF17 ?_ ?_ <;> intro hc21 hF18
 refine awp_seq (awp_region ?_)
 refine s_as ?_
 refine k_nil (k_seq (awp_ret (k_seq_ret (k_fin ?_))))
 cases hF18
 exact ends_a [] [] Try.results10
 refine awp_skip (k_seq (awp_seq (awp_region ?_)))
 refine s_as ?_
 refine k_nil (k_seq (awp_seq (awp_region ?_)))
 refine s_ldW yA34 yS34 ?_
 refine s_mv ?_
 obtain ⟨v22, hv22, hF19⟩ := bind_some' hF18
 refine s_call [(9303, 2036), (9304, 12036)] [] _ _ (m_laws_markForm_D_ok fu _ _ _ hv22) ?_
 refine s_as ?_
 refine k_nil (k_seq (awp_seq (awp_region ?_)))
 refine s_mv ?_
 refine s_mv ?_
 obtain ⟨v23, hv23, hF20⟩ := bind_some' hF19
 refine s_call [(9300, 2038)] [] _ _ (m_laws_markHitS_D_ok fu _ _ _ hv23) ?_
 refine s_as ?_
 refine k_nil (k_seq (awp_seq ?_))
 refine awp_jn (α := Nat × Bool) [70, 71, 72, 73, 74, 75, 76, 77, 78, 79, 80, 81, 82] [] [] (fun a => [(82, .t (.sc (.bool a.2)))]) (fun a => []) (fun a => a.1 ≤ fu ∧ m_laws_FnExactFillTemplate_j2 a.1 x1 x2 v7 v10 a.2 = some r) ?_ ?_
 refine awp_region ?_
 refine s_mv ?_
 refine s_lt ?_
 refine s_mv ?_
 refine w_guard _ 72 hF20 ?_ ?_ <;> intro hc24 hF21
 iterate 4 refine r_no rfl ?_
 refine s_pkt ?_
 refine s_mv ?_
 iterate 3 refine r_no rfl ?_
 refine s_pkt ?_
 refine k_nil ?_
 exact s_jn (fu, true) ⟨by first | omega | (dsimp only; omega), hF21⟩
 refine s_ldW yA34 yS34 ?_
 refine s_ldW yA34 yS34 ?_
 obtain ⟨v25, hv25, hF22⟩ := bind_some' hF21
 refine s_call [(9700, 2042), (9701, 12042)] [] [(9700, .arr (v10.1.scopes.map rI) 3 true), (9701, .dar (v10.1.kids.map (Form.rowD 3 34)) 34)] [(9700, .arr (v10.1.scopes.map rI) 3 true), (9701, .dar (v10.1.kids.map (Form.rowD 3 34)) 34)] (ac_lend (args := [.ag [.t (.sc (.int .i64 v10.1.kind)), .t (.sc (.str v10.1.name)), .t (.sc (.int .i64 v10.1.n)), .ar 9700, .ar 9701], .ag [.t (.sc (.int .i64 v7.1.kind)), .t (.sc (.str v7.1.name)), .t (.sc (.int .i64 v7.1.n)), .t (.sl (v7.1.scopes.map rI)), .t (.sl (v7.1.kids.map Form.row))]]) [(9700, .arr (v10.1.scopes.map rI) 3 true), (9701, .dar (v10.1.kids.map (Form.rowD 3 34)) 34)] [] (m_laws_eqForm_ok fu _ _ _ hv25) rfl (by simp only [V.lendL, V.lend, objs_cons, objs_nil, Nat.reduceEqDiff, reduceIte, if_true, if_false, Form.lendM, Core.lendM, Hit.lendM, Rule.lendM, Bind.lendM, Macro.lendM]; try rfl) (by rfl) (by rfl) (by rfl) (by rfl) (by simp only [List.all_cons, List.all_nil, Ob.flat, flat_rI, flat_rS, Form.flatM, Core.flatM, Hit.flatM, Rule.flatM, Bind.flatM, Macro.flatM, Bool.and_self, Bool.true_and]) (by rfl)) ?_
 refine s_not ?_
 refine s_pkf ?_
 refine s_mv ?_
 refine w_guard _ 78 hF22 ?_ ?_ <;> intro hc26 hF23
 iterate 3 refine r_no rfl ?_
 refine s_pkt ?_
 refine k_nil ?_
 exact s_jn (fu, true) ⟨by first | omega | (dsimp only; omega), hF23⟩
 refine s_mv ?_
 refine s_mv ?_
 refine s_neB yU4 ?_
 refine s_pkf ?_
 refine k_nil ?_
 exact s_jn (fu, (decide (v10.2 ≠ v7.2))) ⟨by first | omega | (dsimp only; omega), hF23⟩
 clear hF20
 rintro ⟨fu, g27⟩ ⟨hl28, hF21⟩
 dsimp only at hl28 hF21 ⊢
 obtain _ | fu := fu
 · rw [m_laws_FnExactFillTemplate_j2] at hF21; cases hF21
 rw [m_laws_FnExactFillTemplate_j2] at hF21
 refine w_cond hF21 ?_ ?_ <;> intro hc29 hF22
 refine awp_seq (awp_region ?_)
 refine s_as ?_
 refine k_nil (k_seq (awp_ret (k_seq_ret (k_fin ?_))))
 cases hF22
 exact ends_a [] [] Try.results10
 refine awp_skip (k_seq (awp_seq (awp_region ?_)))
 refine s_as ?_
 refine k_nil (k_seq (awp_seq (awp_region ?_)))
 refine s_ldW yA34 yS34 ?_
 refine s_mv ?_
 obtain ⟨v30, hv30, hF23⟩ := bind_some' hF22
 refine s_call [(9303, 2042), (9304, 12042)] [] _ _ (m_laws_markForm_D_ok fu _ _ _ hv30) ?_
 refine s_as ?_
 refine k_nil (k_seq (awp_seq (awp_region ?_)))
 refine s_as ?_
 refine k_nil (k_seq (awp_seq (awp_region ?_)))
 refine s_ldW yA34 yS34 ?_
 refine s_mv ?_
 obtain ⟨v31, hv31, hF24⟩ := bind_some' hF23
 refine s_call [(9700, 2042), (9701, 12042)] [] [(9700, .arr (v30.2.1.map rI) 3 true), (9701, .dar (v30.2.2.map (Form.rowD 3 34)) 34)] [(9700, .arr (v30.2.1.map rI) 3 true), (9701, .dar (v30.2.2.map (Form.rowD 3 34)) 34)] (ac_lend (args := [.ag [.t (.sc (.int .i64 v10.1.kind)), .t (.sc (.str v10.1.name)), .t (.sc (.int .i64 v10.1.n)), .ar 9700, .ar 9701], .t (.sc (.int .i64 1))]) [(9700, .arr (v30.2.1.map rI) 3 true), (9701, .dar (v30.2.2.map (Form.rowD 3 34)) 34)] [] (m_laws_heldForm_ok fu _ _ _ hv31) rfl (by simp only [V.lendL, V.lend, objs_cons, objs_nil, Nat.reduceEqDiff, reduceIte, if_true, if_false, Form.lendM, Core.lendM, Hit.lendM, Rule.lendM, Bind.lendM, Macro.lendM]; try rfl) (by rfl) (by rfl) (by rfl) (by rfl) (by simp only [List.all_cons, List.all_nil, Ob.flat, flat_rI, flat_rS, Form.flatM, Core.flatM, Hit.flatM, Rule.flatM, Bind.flatM, Macro.flatM, Bool.and_self, Bool.true_and]) (by rfl)) ?_
 refine s_as ?_
 refine k_nil (k_seq (awp_seq (awp_seq (awp_region ?_))))
 refine s_mv ?_
 refine s_lt ?_
 refine k_nil (k_seq ?_)
 refine w_cond hF24 ?_ ?_ <;> intro hc32 hF25
 refine awp_seq (awp_region ?_)
 refine s_as ?_
 refine k_nil (k_seq (awp_ret (k_seq_ret (k_fin ?_))))
 cases hF25
 exact ends_a [] [] Try.results10
 refine awp_skip (k_seq (awp_seq (awp_seq (awp_region ?_))))
 refine s_mv ?_
 refine s_mv ?_
 refine s_ne ?_
 refine k_nil (k_seq ?_)
 refine w_cond hF25 ?_ ?_ <;> intro hc33 hF26
 refine awp_seq (awp_region ?_)
 refine s_as ?_
 refine k_nil (k_seq (awp_ret (k_seq_ret (k_fin ?_))))
 cases hF26
 exact ends_a [] [] Try.results10
 refine awp_skip (k_seq (awp_seq (awp_region ?_)))
 refine s_ldW yA25 yS25 ?_
 obtain ⟨v34, hv34, hF27⟩ := bind_some' hF26
 refine s_pure [] (m_laws_toForm_ok fu _ _ hv34) ?_
 refine s_mv ?_
 obtain ⟨v35, hv35, hF28⟩ := bind_some' hF27
 refine s_pure [] (m_laws_toHitS_ok fu _ _ hv35) ?_
 obtain ⟨v36, hv36, hF29⟩ := bind_some' hF28
 refine s_pure [] (m_impl_FillTemplate_ok fu _ _ _ hv36) ?_
 refine s_mv ?_
 refine s_ext ?_
 refine s_ext ?_
 refine s_alloc yZ34 ?_
 refine s_stW yS34 ?_
 refine s_as ?_
 refine k_nil (k_seq (awp_seq ?_))
 refine awp_jn (α := Nat × Bool) [102, 103, 104, 105, 106, 107, 108, 109, 110] [] [] (fun a => [(110, .t (.sc (.bool a.2)))]) (fun a => []) (fun a => a.1 ≤ fu ∧ m_laws_FnExactFillTemplate_j3 a.1 v10 v30 a.2 = some r) ?_ ?_
 refine awp_region ?_
 refine s_ldW yA34 yS34 ?_
 refine s_ldW yA34 yS34 ?_
 obtain ⟨v37, hv37, hF30⟩ := bind_some' hF29
 refine s_pure [] (m_laws_eqForm_ok fu _ _ _ hv37) ?_
 refine s_not ?_
 refine s_mv ?_
 refine w_guard _ 106 hF30 ?_ ?_ <;> intro hc38 hF31
 iterate 3 refine r_no rfl ?_
 refine s_pkt ?_
 refine k_nil ?_
 exact s_jn (fu, true) ⟨by first | omega | (dsimp only; omega), hF31⟩
 refine s_mv ?_
 refine s_mv ?_
 refine s_neB yU4 ?_
 refine s_pkf ?_
 refine k_nil ?_
 exact s_jn (fu, (decide (v36.2 ≠ v7.2))) ⟨by first | omega | (dsimp only; omega), hF31⟩
 clear hF29
 rintro ⟨fu, g39⟩ ⟨hl40, hF30⟩
 dsimp only at hl40 hF30 ⊢
 obtain _ | fu := fu
 · rw [m_laws_FnExactFillTemplate_j3] at hF30; cases hF30
 rw [m_laws_FnExactFillTemplate_j3] at hF30
 refine w_cond hF30 ?_ ?_ <;> intro hc41 hF31
 refine awp_seq (awp_region ?_)
 refine s_as ?_
 refine k_nil (k_seq (awp_ret (k_seq_ret (k_fin ?_))))
 cases hF31
 exact ends_a [] [] Try.results10
 refine awp_skip (k_seq (awp_seq (awp_region ?_)))
 refine s_as ?_
 refine k_nil (k_seq (awp_seq (awp_region ?_)))
 refine s_ldW yA34 yS34 ?_
 refine s_mv ?_
 obtain ⟨v42, hv42, hF32⟩ := bind_some' hF31
 refine s_call [(9700, 2042), (9701, 12042)] [] [(9700, .arr (v30.2.1.map rI) 3 true), (9701, .dar (v30.2.2.map (Form.rowD 3 34)) 34)] [(9700, .arr (v30.2.1.map rI) 3 true), (9701, .dar (v30.2.2.map (Form.rowD 3 34)) 34)] (ac_lend (args := [.ag [.t (.sc (.int .i64 v10.1.kind)), .t (.sc (.str v10.1.name)), .t (.sc (.int .i64 v10.1.n)), .ar 9700, .ar 9701], .t (.sc (.int .i64 1))]) [(9700, .arr (v30.2.1.map rI) 3 true), (9701, .dar (v30.2.2.map (Form.rowD 3 34)) 34)] [] (m_laws_heldForm_ok fu _ _ _ hv42) rfl (by simp only [V.lendL, V.lend, objs_cons, objs_nil, Nat.reduceEqDiff, reduceIte, if_true, if_false, Form.lendM, Core.lendM, Hit.lendM, Rule.lendM, Bind.lendM, Macro.lendM]; try rfl) (by rfl) (by rfl) (by rfl) (by rfl) (by simp only [List.all_cons, List.all_nil, Ob.flat, flat_rI, flat_rS, Form.flatM, Core.flatM, Hit.flatM, Rule.flatM, Bind.flatM, Macro.flatM, Bool.and_self, Bool.true_and]) (by rfl)) ?_
 refine s_as ?_
 refine k_nil (k_seq (awp_seq (awp_seq (awp_region ?_))))
 refine s_mv ?_
 refine s_lt ?_
 refine k_nil (k_seq ?_)
 refine w_cond hF32 ?_ ?_ <;> intro hc43 hF33
 refine awp_seq (awp_region ?_)
 refine s_as ?_
 refine k_nil (k_seq (awp_ret (k_seq_ret (k_fin ?_))))
 cases hF33
 exact ends_a [] [] Try.results10
 refine awp_skip (k_seq (awp_seq (awp_seq (awp_region ?_))))
 refine s_mv ?_
 refine s_mv ?_
 refine s_ne ?_
 refine k_nil (k_seq ?_)
 refine w_cond hF33 ?_ ?_ <;> intro hc44 hF34
 refine awp_seq (awp_region ?_)
 refine s_as ?_
 refine k_nil (k_seq (awp_ret (k_seq_ret (k_fin ?_))))
 cases hF34
 exact ends_a [] [] Try.results10
 refine awp_skip (k_seq (awp_seq (awp_region ?_)))
 refine s_as ?_
 refine k_nil (k_seq (awp_ret (k_fin ?_)))
 cases hF34
 exact ends_a [] [] Try.results10
end Go.Abs
