/- A part of the proof: what the functions that the law calls answer, as pure values. -/
import Derived.Test.YtbkdbbfgdjcfgaaK095c9cd77914
import Derived.Test.YtbkdbbfgdjcfgaaK304035285530
import Derived.Test.YtbkdbbfgdjcfgaaK59f2f0d3f59e
import Derived.Test.YtbkdbbfgdjcfgaaK71f3fdb1c4f3
import Derived.Test.YtbkdbbfgdjcfgaaK9526398f249b
import Derived.Test.YtbkdbbfgdjcfgaaKe176bb8ad65c
import Derived.Test.YtbkdbbfgdjcfgaaKf1a731074c56
set_option linter.unusedSimpArgs false
set_option linter.unusedVariables false
set_option maxRecDepth 100000
set_option maxHeartbeats 4000000
namespace Go.Abs
open Go.Proofs
theorem m_laws_toCore_D_st (fu : Nat) (ih_m_laws_toCoreS_D : ∀ k, k ≤ fu → m_laws_toCoreS_D_AC k) (ih_m_laws_toCore_D : ∀ k, k ≤ fu → m_laws_toCore_D_AC k) : m_laws_toCore_D_AC (fu + 1) := by
 intro x1 r hF0
 rw [m_laws_toCore] at hF0
 refine AC_i [.ag [.t (.sc (.int .i64 r.kind)), .t (.sc (.int .i64 r.id)), .t (.sc (.str r.name)), .t (.sc (.int .i64 r.n)), .ar 9204, .t (.sc (.int .i64 r.data.kind)), .t (.sc (.str r.data.name)), .t (.sc (.int .i64 r.data.n)), .ar 9208, .ar 9209, .ar 9210]] Try.func13 rfl Try.ntmps13 ?_
 intro C hC
 refine awp_seq (awp_region ?_)
 refine s_box ?_
 refine s_alloc yZ37 ?_
 refine k_nil (k_seq (awp_seq (awp_region ?_)))
 refine s_alloc yZ37 ?_
 refine k_nil (k_seq (awp_seq (awp_region ?_)))
 refine s_fa yF28_0 ?_
 refine s_ld1 yA3 ?_
 refine s_fa yF37_0 ?_
 refine s_stP yS3 ?_
 refine k_nil (k_seq (awp_seq (awp_region ?_)))
 refine s_fa yF28_1 ?_
 refine s_ld1 yA3 ?_
 refine s_fa yF37_1 ?_
 refine s_stP yS3 ?_
 refine k_nil (k_seq (awp_seq (awp_region ?_)))
 refine s_fa yF28_2 ?_
 refine s_ld1 yA9 ?_
 refine s_fa yF37_2 ?_
 refine s_stP yS9 ?_
 refine k_nil (k_seq (awp_seq (awp_region ?_)))
 refine s_fa yF28_3 ?_
 refine s_ld1 yA3 ?_
 refine s_fa yF37_3 ?_
 refine s_stP yS3 ?_
 refine k_nil (k_seq (awp_seq (awp_region ?_)))
 refine s_fa yF28_4 ?_
 refine s_ld1 yA22 ?_
 obtain ⟨v1, hv1, hF1⟩ := bind_some' hF0
 refine s_call [(9200, 2018)] [] _ _ (m_laws_toIntS_D_ok fu _ _ hv1) ?_
 refine s_fa yF37_4 ?_
 refine s_stP yS22 ?_
 refine k_nil (k_seq (awp_seq (awp_region ?_)))
 refine s_fa yF28_5 ?_
 refine s_ldN yA25 yS25 ?_
 obtain ⟨v2, hv2, hF2⟩ := bind_some' hF1
 refine s_call [(9203, 2022), (9204, 12022)] [] _ _ (m_laws_toForm_D_ok fu _ _ hv2) ?_
 refine s_fa yF37_5 ?_
 refine s_stP yS34 ?_
 refine k_nil (k_seq (awp_seq (awp_region ?_)))
 refine s_fa yF28_6 ?_
 refine s_ld1 yA26 ?_
 obtain ⟨v3, hv3, hF3⟩ := bind_some' hF2
 refine s_call [(9200, 2026)] [] _ _ (ih_m_laws_toCoreS_D fu (by omega) _ _ hv3) ?_
 refine s_fa yF37_6 ?_
 refine s_stP yS35 ?_
 refine k_nil (k_seq (awp_seq (awp_region ?_)))
 refine s_ldW yA37 yS37 ?_
 refine s_stW yS37 ?_
 refine k_nil (k_seq ?_)
 refine awp_mvB 2 2018 9204 [.t (.sc (.int .i64 x1.kind)), .t (.sc (.int .i64 x1.id)), .t (.sc (.str x1.name)), .t (.sc (.int .i64 x1.n)), .ar 9204, .t (.sc (.int .i64 v2.kind)), .t (.sc (.str v2.name)), .t (.sc (.int .i64 v2.n)), .ar 2022, .ar 12022, .ar 2026] ?_
 refine awp_mvB 2 2022 9208 [.t (.sc (.int .i64 x1.kind)), .t (.sc (.int .i64 x1.id)), .t (.sc (.str x1.name)), .t (.sc (.int .i64 x1.n)), .ar 9204, .t (.sc (.int .i64 v2.kind)), .t (.sc (.str v2.name)), .t (.sc (.int .i64 v2.n)), .ar 9208, .ar 12022, .ar 2026] ?_
 refine awp_mvBO 2 12022 9209 [.t (.sc (.int .i64 x1.kind)), .t (.sc (.int .i64 x1.id)), .t (.sc (.str x1.name)), .t (.sc (.int .i64 x1.n)), .ar 9204, .t (.sc (.int .i64 v2.kind)), .t (.sc (.str v2.name)), .t (.sc (.int .i64 v2.n)), .ar 9208, .ar 9209, .ar 2026] ?_
 refine awp_mvBO 2 2026 9210 [.t (.sc (.int .i64 x1.kind)), .t (.sc (.int .i64 x1.id)), .t (.sc (.str x1.name)), .t (.sc (.int .i64 x1.n)), .ar 9204, .t (.sc (.int .i64 v2.kind)), .t (.sc (.str v2.name)), .t (.sc (.int .i64 v2.n)), .ar 9208, .ar 9209, .ar 9210] ?_
 refine awp_ret (k_fin ?_)
 cases hF3
 exact ends_gen _ [] (by rw [Try.results13]; exact (res_agg (by conv => lhs; whnf) (by conv => lhs; whnf) yA37 yS37 rfl res_nil))
theorem m_laws_toCoreS_D_all (fuel : Nat) : m_laws_toCoreS_D_AC fuel ∧ m_laws_toCore_D_AC fuel := by
 induction fuel using Nat.strongRecOn with
 | _ N ih =>
   cases N with
   | zero => exact ⟨(by intro x1 r h; rw [m_laws_toCoreS] at h; cases h), (by intro x1 r h; rw [m_laws_toCore] at h; cases h)⟩
   | succ fu => exact ⟨m_laws_toCoreS_D_st fu (fun k hk => (ih k (by omega)).1) (fun k hk => (ih k (by omega)).2), m_laws_toCore_D_st fu (fun k hk => (ih k (by omega)).1) (fun k hk => (ih k (by omega)).2)⟩
theorem m_laws_toCore_D_ok (fuel : Nat) : m_laws_toCore_D_AC fuel := (m_laws_toCoreS_D_all fuel).2
def m_slices_Index_int_AC (fuel : Nat) : Prop := ∀ (x1 : (List Int)) (x2 : Int) (r : Int), m_slices_Index_int fuel x1 x2 = some r → AC Try.prog 182 [.t (.sl (x1.map rI)), .t (.sc (.int .i64 x2))] noOb (.t (.sc (.int .i64 r))) noOb
theorem m_slices_Index_int_ok (fuel : Nat) : m_slices_Index_int_AC fuel := by
 intro x1 x2 r hF0
 unfold m_slices_Index_int at hF0
 refine AC_i [.t (.sc (.int .i64 r))] Try.func182 rfl Try.ntmps182 ?_
 intro C hC
 refine awp_seq (awp_region ?_)
 refine s_as ?_
 refine k_nil (k_seq (awp_seq (awp_seq (awp_region ?_))))
 refine s_mv ?_
 refine s_lenT yU22 ?_
 refine s_mv ?_
 refine k_nil (k_seq (awp_block ?_))
 refine awp_fr (β := Int) [4, 5, 8, 9, 10, 11, 12, 13, 14, 15, 16, 17, 18] [] [] (fun a => [(8, .t (.sc (.int .i64 a.2)))]) (fun a => []) (fun a => a.1 ≤ fuel ∧ m_slices_Index_int_l1 a.1 x1 x2 a.2 = some r ∧ 0 ≤ a.2) (fuel, 0) ⟨Nat.le_refl _, hF0, by simp⟩ ?_
 clear hF0
 rintro ⟨fu, g1⟩ ⟨hl2, hF1, hn_g1⟩
 dsimp only at hl2 hF1 hn_g1 ⊢
 obtain _ | fu := fu
 · rw [m_slices_Index_int_l1] at hF1; cases hF1
 rw [m_slices_Index_int_l1] at hF1
 refine awp_seq (awp_region ?_)
 refine s_lt ?_
 refine k_nil (k_seq (awp_seq ?_))
 refine w_cond hF1 ?_ ?_ <;> intro hc3 hF2
 refine awp_lenT 0 (fun hb4 => ?_)
 refine awp_skip (k_seq (awp_seq (awp_block (awp_seq (awp_region ?_)))))
 refine s_mv ?_
 refine s_as ?_
 refine k_nil (k_seq (awp_seq (awp_region ?_)))
 iterate 3 refine s_mv ?_
 obtain ⟨v5, hv5, hF3⟩ := bind_some' hF2
 refine s_ixT rI hv5 rfl yE22 ?_
 refine s_ld1 yA3 ?_
 refine s_eq ?_
 refine k_nil (k_seq ?_)
 refine w_cond hF3 ?_ ?_ <;> intro hc6 hF4
 refine awp_seq (awp_region ?_)
 refine s_mv ?_
 refine s_as ?_
 refine k_nil (k_seq (awp_ret (k_blk_ret (k_seq_ret (k_rnd_ret2 (k_blk_ret (k_seq_ret (k_fin ?_))))))))
 cases hF4
 exact ends_a [] [] Try.results182
 refine awp_skip (k_blk (k_seq (awp_region ?_)))
 refine s_add (winc2 hc3 hb4 hn_g1) ?_
 refine s_mv ?_
 refine k_nil ?_
 exact s_rn (fu, (g1 + 1)) ⟨by first | omega | (dsimp only; omega), hF4, by first | omega | (dsimp only; omega)⟩
 refine awp_exit (k_seq_exit (k_rnd_exit2 (k_blk_exit (k_seq (awp_seq (awp_region ?_))))))
 refine s_as ?_
 refine k_nil (k_seq (awp_ret (k_fin ?_)))
 cases hF2
 exact ends_a [] [] Try.results182
def m_slices_Contains_int_AC (fuel : Nat) : Prop := ∀ (x1 : (List Int)) (x2 : Int) (r : Bool), m_slices_Contains_int fuel x1 x2 = some r → AC Try.prog 167 [.t (.sl (x1.map rI)), .t (.sc (.int .i64 x2))] noOb (.t (.sc (.bool r))) noOb
theorem m_slices_Contains_int_ok (fuel : Nat) : m_slices_Contains_int_AC fuel := by
 intro x1 x2 r hF0
 unfold m_slices_Contains_int at hF0
 refine AC_i [.t (.sc (.bool r))] Try.func167 rfl Try.ntmps167 ?_
 intro C hC
 refine awp_seq (awp_region ?_)
 refine s_as ?_
 refine k_nil (k_seq (awp_seq (awp_region ?_)))
 refine s_mv ?_
 refine s_mv ?_
 obtain ⟨v1, hv1, hF1⟩ := bind_some' hF0
 refine s_pure [] (m_slices_Index_int_ok fuel _ _ _ hv1) ?_
 refine s_ge ?_
 refine s_as ?_
 refine k_nil (k_seq (awp_ret (k_fin ?_)))
 cases hF1
 exact ends_a [] [] Try.results167
def m_impl_ScopesOf_1_AC (fuel : Nat) : Prop := ∀ (x1 : Form) (o1 : (List Int)) (r : (List Int)), m_impl_ScopesOf_1 fuel x1 o1 = some r → AC Try.prog 184 [.ag [.t (.sc (.int .i64 x1.kind)), .t (.sc (.str x1.name)), .t (.sc (.int .i64 x1.n)), .t (.sl (x1.scopes.map rI)), .t (.sl (x1.kids.map Form.row))], .rf 9000 0] (objs [(9000, .box [.ar 9420]), (9420, .arr (o1.map rI) 3 true)]) (.tp []) (objs [(9000, .box [.ar 10420]), (9420, .dead), (10420, .arr (r.map rI) 3 true)])
theorem m_impl_ScopesOf_1_ok (fuel : Nat) : m_impl_ScopesOf_1_AC fuel := by
 intro x1 o1 r hF0
 unfold m_impl_ScopesOf_1 at hF0
 refine AC_i [] Try.func184 rfl Try.ntmps184 ?_
 intro C hC
 refine awp_thw ?_
 refine awp_seq (awp_region ?_)
 refine s_box ?_
 refine k_nil (k_seq (awp_region ?_))
 refine s_ld1 yA22 ?_
 refine s_fa yF34_3 ?_
 refine s_ld1 yA22 ?_
 obtain ⟨hk1, hF1⟩ := chk_some hF0
 refine s_apT rI (fun _ => rfl) hk1 yP22 ?_
 refine s_stW yS22 ?_
 refine k_nil ?_
 refine thw_mvB 9000 6 10420 [.ar 10420] ?_
 refine thw_id ?_
 refine k_fin_end ?_
 cases hF1
 exact ends_a _ [] Try.results184
def m_impl_eachForm_ScopesOf_1_AC (fuel : Nat) : Prop := ∀ (x1 : Form) (o1 : (List Int)) (r : (List Int)), m_impl_eachForm_ScopesOf_1 fuel x1 o1 = some r → AC Try.prog 153 [.ag [.t (.sc (.int .i64 x1.kind)), .t (.sc (.str x1.name)), .t (.sc (.int .i64 x1.n)), .t (.sl (x1.scopes.map rI)), .t (.sl (x1.kids.map Form.row))], .fn 184 [.rf 9000 0]] (objs [(9000, .box [.ar 9420]), (9420, .arr (o1.map rI) 3 true)]) (.tp []) (objs [(9000, .box [.ar 10420]), (9420, .dead), (10420, .arr (r.map rI) 3 true)])
theorem m_impl_eachForm_ScopesOf_1_st (fu : Nat) (ih_m_impl_eachForm_ScopesOf_1 : ∀ k, k ≤ fu → m_impl_eachForm_ScopesOf_1_AC k) : m_impl_eachForm_ScopesOf_1_AC (fu + 1) := by
 intro x1 o1 r hF0
 rw [m_impl_eachForm_ScopesOf_1] at hF0
 refine AC_i [] Try.func153 rfl Try.ntmps153 ?_
 intro C hC
 refine awp_seq (awp_region ?_)
 refine s_box ?_
 refine k_nil (k_seq (awp_seq (awp_region ?_)))
 refine s_mv ?_
 refine s_ldW yA34 yS34 ?_
 obtain ⟨v1, hv1, hF1⟩ := bind_some' hF0
 refine s_call [(9000, 9000), (9420, 9420), (10420, 22008)] [] _ _ (m_impl_ScopesOf_1_ok fu _ _ _ hv1) ?_
 refine k_nil (k_seq (awp_seq (awp_region ?_)))
 refine s_fa yF34_4 ?_
 refine s_ld1 yA32 ?_
 refine s_lenT yU32 ?_
 refine s_mv ?_
 refine k_nil (k_seq (awp_block ?_))
 refine awp_mvB 9000 22008 5020 [.ar 5020] ?_
 refine awp_frame2 [5, 12, 13, 14, 15, 16, 17, 18, 19] [5020, 9000] [5, 22018] [5020] (fun a : Nat × Int × (List Int) => a.1) (fun a : Nat × Int × (List Int) => [(12, .t (.sc (.int .i64 a.2.1)))]) (fun a : Nat × Int × (List Int) => [(5020, .arr (a.2.2.map rI) 3 true), (9000, .box [.ar 5020])]) (fun a : Nat × Int × (List Int) => a.1 ≤ fu ∧ m_impl_eachForm_ScopesOf_1_l1 a.1 x1 a.2.1 a.2.2 = some r ∧ 0 ≤ a.2.1) (fu, 0, v1) ⟨Nat.le_refl _, hF1, by simp⟩ (by rfl) (by rfl) (fun _ => rfl) (hasF_cons (by conv => lhs; whnf) (by rfl) hasF_nil) (hasO_cons (by conv => lhs; whnf) (by rfl) (hasO_cons (by conv => lhs; whnf) (by rfl) hasO_nil)) (fresh_C hC rfl) (by repeat (first | exact freshS_args rfl | refine freshS_upd rfl ?_ | refine freshS_frame rfl ?_)) (by repeat (first | exact freshM_no | exact objs_fresh rfl | refine freshM_upd rfl ?_ | refine freshM_frame rfl ?_)) ?_
 clear hF1
 rintro ⟨fu, g2, g3⟩ ⟨hl4, hF2, hn_g2⟩
 dsimp only at hl4 hF2 hn_g2 ⊢
 obtain _ | fu := fu
 · rw [m_impl_eachForm_ScopesOf_1_l1] at hF2; cases hF2
 rw [m_impl_eachForm_ScopesOf_1_l1] at hF2
 refine awp_seq (awp_region ?_)
 refine s_lt ?_
 refine k_nil (k_seq (awp_seq ?_))
 refine w_cond hF2 ?_ ?_ <;> intro hc5 hF3
 refine awp_lenT 10 (fun hb6 => ?_)
 refine awp_skip (k_seq (awp_seq (awp_block (awp_seq (awp_region ?_)))))
 obtain ⟨v7, hv7, hF4⟩ := bind_some' hF3
 refine s_ixT Form.row hv7 (Form.row_eq _) yE32 ?_
 refine s_ldN yA34 yS34 ?_
 refine s_alloc yZ34 ?_
 refine s_stW yS34 ?_
 refine k_nil (k_seq (awp_region ?_))
 refine s_ldW yA34 yS34 ?_
 refine s_mv ?_
 obtain ⟨v8, hv8, hF5⟩ := bind_some' hF4
 refine s_call [(9000, 9000), (9420, 5020), (10420, 22018)] [] _ _ (ih_m_impl_eachForm_ScopesOf_1 fu (by omega) _ _ _ hv8) ?_
 refine k_nil (k_blk (k_seq (awp_region ?_)))
 refine s_add (winc2 hc5 hb6 hn_g2) ?_
 refine s_mv ?_
 refine k_nil ?_
 exact s_rn (fu, (g2 + 1), v8) ⟨by first | omega | (dsimp only; omega), hF5, by first | omega | (dsimp only; omega)⟩ [(5020, 22018)]
 refine awp_mvB 9000 5020 10420 [.ar 10420] ?_
 refine awp_exit (k_seq_exit (k_rnd_exit2 (k_blk_exit (k_fin_end ?_))))
 cases hF3
 exact ends_a _ [] Try.results153
theorem m_impl_eachForm_ScopesOf_1_all (fuel : Nat) : m_impl_eachForm_ScopesOf_1_AC fuel := by
 induction fuel using Nat.strongRecOn with
 | _ N ih =>
   cases N with
   | zero => exact (by intro x1 o1 r h; rw [m_impl_eachForm_ScopesOf_1] at h; cases h)
   | succ fu => exact m_impl_eachForm_ScopesOf_1_st fu (fun k hk => (ih k (by omega)))
theorem m_impl_eachForm_ScopesOf_1_ok (fuel : Nat) : m_impl_eachForm_ScopesOf_1_AC fuel := (m_impl_eachForm_ScopesOf_1_all fuel)
def m_slices_Sort_int_AC (fuel : Nat) : Prop := ∀ (x1 : (List Int)) (r : (List Int)), m_slices_Sort_int fuel x1 = some r → AC Try.prog 185 [.ar 9300] (objs [(9300, .arr (x1.map rI) 3 true)]) (.tp []) (objs [(9300, .arr (r.map rI) 3 true)])
theorem m_slices_Sort_int_ok (fuel : Nat) : m_slices_Sort_int_AC fuel := by
 intro x1 r h
 obtain ⟨hc, h⟩ := chk_some h
 obtain rfl := Option.some.inj h
 exact ac_sort x1 ⟨_, Try.func185, by kernel_rfl, by kernel_rfl⟩ (by kernel_rfl) (by simpa using hc) (fun blk cap w hH hb => Try.slices_Sort_int blk 0 cap x1 w hH hb (by simpa using hc)) (fun A w => Try.slices_Sort_int_none A 0 w)
def m_slices_Compact_int_AC (fuel : Nat) : Prop := ∀ (x1 : (List Int)) (r : (List Int)), m_slices_Compact_int fuel x1 = some r → AC Try.prog 186 [.ar 9300] (objs [(9300, .arr (x1.map rI) 3 true)]) (.ar 9200) (objs [(9300, .dead), (9200, .arr (r.map rI) 3 true)])
theorem m_slices_Compact_int_ok (fuel : Nat) : m_slices_Compact_int_AC fuel := by
 intro x1 r h
 obtain rfl := Option.some.inj h
 exact ac_compact x1 ⟨_, Try.func186, by kernel_rfl, by kernel_rfl⟩ (by kernel_rfl) (fun blk cap w hH h1 h2 => Try.slices_Compact_int blk 0 cap x1 w hH h1 h2) (fun A w => Try.slices_Compact_int_empty A 0 w)
def m_impl_ScopesOf_AC (fuel : Nat) : Prop := ∀ (x1 : Form) (r : (List Int)), m_impl_ScopesOf fuel x1 = some r → AC Try.prog 169 [.ag [.t (.sc (.int .i64 x1.kind)), .t (.sc (.str x1.name)), .t (.sc (.int .i64 x1.n)), .t (.sl (x1.scopes.map rI)), .t (.sl (x1.kids.map Form.row))]] noOb (.t (.sl (r.map rI))) noOb
theorem m_impl_ScopesOf_ok (fuel : Nat) : m_impl_ScopesOf_AC fuel := by
 intro x1 r hF0
 unfold m_impl_ScopesOf at hF0
 refine AC_i [.t (.sl (r.map rI))] Try.func169 rfl Try.ntmps169 ?_
 intro C hC
 refine awp_seq (awp_region ?_)
 refine s_box ?_
 refine s_as ?_
 refine k_nil (k_seq (awp_seq (awp_region ?_)))
 refine s_bs rI ([] : List Int) yP22 yR3 ?_
 refine s_alloc yZ22 ?_
 refine s_stW yS22 ?_
 refine k_nil (k_seq (awp_seq (awp_seq (awp_region ?_))))
 refine s_ldW yA34 yS34 ?_
 obtain ⟨v1, hv1, hF1⟩ := bind_some' hF0
 refine s_pure [] (m_impl_FormValid_ok fuel _ _ hv1) ?_
 refine s_not ?_
 refine k_nil (k_seq ?_)
 refine w_cond hF1 ?_ ?_ <;> intro hc2 hF2
 refine awp_seq (awp_region ?_)
 refine s_ld1 yA22 ?_
 refine s_as ?_
 refine k_nil (k_seq (awp_ret (k_seq_ret (k_fin ?_))))
 cases hF2
 exact ends_a [] [4] Try.results169
 refine awp_skip (k_seq (awp_seq (awp_region ?_)))
 refine s_ldW yA34 yS34 ?_
 refine s_fn ?_
 obtain ⟨v3, hv3, hF3⟩ := bind_some' hF2
 refine s_call [(9000, 3), (9420, 4), (10420, 22011)] [] _ _ (m_impl_eachForm_ScopesOf_1_ok fuel _ _ _ hv3) ?_
 refine k_nil (k_seq (awp_seq (awp_region ?_)))
 refine s_ld1 yA22 ?_
 obtain ⟨v4, hv4, hF4⟩ := bind_some' hF3
 refine s_call [(9300, 22011)] [] _ _ (m_slices_Sort_int_ok fuel _ _ hv4) ?_
 refine k_nil (k_seq (awp_seq (awp_region ?_)))
 refine s_ld1 yA22 ?_
 obtain ⟨v5, hv5, hF5⟩ := bind_some' hF4
 refine s_call [(9300, 22011), (9200, 12015)] [] _ _ (m_slices_Compact_int_ok fuel _ _ hv5) ?_
 refine s_as ?_
 refine k_nil (k_seq (awp_ret (k_fin ?_)))
 cases hF5
 exact ends_a [] [12015] Try.results169
def m_impl_sameCore_AC (fuel : Nat) : Prop := ∀ (x1 : Core) (x2 : Core) (r : Bool), m_impl_sameCore fuel x1 x2 = some r → AC Try.prog 170 [.ag [.t (.sc (.int .i64 x1.kind)), .t (.sc (.int .i64 x1.id)), .t (.sc (.str x1.name)), .t (.sc (.int .i64 x1.n)), .t (.sl (x1.ids.map rI)), .t (.sc (.int .i64 x1.data.kind)), .t (.sc (.str x1.data.name)), .t (.sc (.int .i64 x1.data.n)), .t (.sl (x1.data.scopes.map rI)), .t (.sl (x1.data.kids.map Form.row)), .t (.sl (x1.kids.map Core.row))], .ag [.t (.sc (.int .i64 x2.kind)), .t (.sc (.int .i64 x2.id)), .t (.sc (.str x2.name)), .t (.sc (.int .i64 x2.n)), .t (.sl (x2.ids.map rI)), .t (.sc (.int .i64 x2.data.kind)), .t (.sc (.str x2.data.name)), .t (.sc (.int .i64 x2.data.n)), .t (.sl (x2.data.scopes.map rI)), .t (.sl (x2.data.kids.map Form.row)), .t (.sl (x2.kids.map Core.row))]] noOb (.t (.sc (.bool r))) noOb
def m_slices_EqualFunc_Core_sameCore_AC (fuel : Nat) : Prop := ∀ (x1 : (List Core)) (x2 : (List Core)) (r : Bool), m_slices_EqualFunc_Core_sameCore fuel x1 x2 = some r → AC Try.prog 187 [.t (.sl (x1.map Core.row)), .t (.sl (x2.map Core.row)), .fn 170 []] noOb (.t (.sc (.bool r))) noOb
theorem m_impl_sameCore_st (fu : Nat) (ih_m_impl_sameCore : ∀ k, k ≤ fu → m_impl_sameCore_AC k) (ih_m_slices_EqualFunc_Core_sameCore : ∀ k, k ≤ fu → m_slices_EqualFunc_Core_sameCore_AC k) : m_impl_sameCore_AC (fu + 1) := by
 intro x1 x2 r hF0
 rw [m_impl_sameCore] at hF0
 refine AC_i [.t (.sc (.bool r))] Try.func170 rfl Try.ntmps170 ?_
 intro C hC
 refine awp_seq (awp_region ?_)
 refine s_box ?_
 refine s_box ?_
 refine s_as ?_
 refine k_nil (k_seq (awp_seq (awp_region ?_)))
 refine s_fa yF37_0 ?_
 refine s_ld1 yA3 ?_
 refine s_fa yF37_0 ?_
 refine s_ld1 yA3 ?_
 refine s_eq ?_
 refine s_mv ?_
 refine w_guard _ 10 hF0 ?_ ?_ <;> intro hc1 hF1
 refine s_fa yF37_1 ?_
 refine s_ld1 yA3 ?_
 refine s_fa yF37_1 ?_
 refine s_ld1 yA3 ?_
 refine s_eq ?_
 refine s_pkt ?_
 refine s_mv ?_
 refine w_guard _ 17 hF1 ?_ ?_ <;> intro hc2 hF2
 refine s_fa yF37_2 ?_
 refine s_ld1 yA9 ?_
 refine s_fa yF37_2 ?_
 refine s_ld1 yA9 ?_
 refine s_eqS ?_
 refine s_pkt ?_
 refine s_mv ?_
 refine w_guard _ 24 hF2 ?_ ?_ <;> intro hc3 hF3
 refine s_fa yF37_3 ?_
 refine s_ld1 yA3 ?_
 refine s_fa yF37_3 ?_
 refine s_ld1 yA3 ?_
 refine s_eq ?_
 refine s_pkt ?_
 refine s_mv ?_
 refine w_guard _ 31 hF3 ?_ ?_ <;> intro hc4 hF4
 refine s_fa yF37_4 ?_
 refine s_ld1 yA22 ?_
 refine s_fa yF37_4 ?_
 refine s_ld1 yA22 ?_
 obtain ⟨v5, hv5, hF5⟩ := bind_some' hF4
 refine s_pure [] (m_slices_Equal_int_ok fu _ _ _ hv5) ?_
 refine s_pkt ?_
 refine s_mv ?_
 refine w_guard _ 38 hF5 ?_ ?_ <;> intro hc6 hF6
 refine s_fa yF37_5 ?_
 refine s_ldN yA34 yS34 ?_
 refine s_fa yF37_5 ?_
 refine s_ldN yA34 yS34 ?_
 obtain ⟨v7, hv7, hF7⟩ := bind_some' hF6
 refine s_pure [] (m_impl_FormSame_ok fu _ _ _ hv7) ?_
 refine s_pkt ?_
 refine s_mv ?_
 refine w_guard _ 45 hF7 ?_ ?_ <;> intro hc8 hF8
 refine s_fa yF37_6 ?_
 refine s_ld1 yA35 ?_
 refine s_fa yF37_6 ?_
 refine s_ld1 yA35 ?_
 obtain ⟨v9, hv9, hF9⟩ := bind_some' hF8
 refine s_pure [] (ih_m_slices_EqualFunc_Core_sameCore fu (by omega) _ _ _ hv9) ?_
 refine s_pkt ?_
 refine s_as ?_
 refine k_nil (k_seq (awp_ret (k_fin ?_)))
 cases hF9
 exact ends_a [] [] Try.results170
 iterate 5 refine r_no rfl ?_
 refine s_pkf ?_
 refine s_as ?_
 refine k_nil (k_seq (awp_ret (k_fin ?_)))
 cases hF8
 exact ends_a [] [] Try.results170
 iterate 5 refine r_no rfl ?_
 refine s_pkf ?_
 refine s_mv ?_
 iterate 5 refine r_no rfl ?_
 refine s_pkf ?_
 refine s_as ?_
 refine k_nil (k_seq (awp_ret (k_fin ?_)))
 cases hF6
 exact ends_a [] [] Try.results170
 iterate 5 refine r_no rfl ?_
 refine s_pkf ?_
 refine s_mv ?_
 iterate 5 refine r_no rfl ?_
 refine s_pkf ?_
 refine s_mv ?_
 iterate 5 refine r_no rfl ?_
 refine s_pkf ?_
 refine s_as ?_
 refine k_nil (k_seq (awp_ret (k_fin ?_)))
 cases hF4
 exact ends_a [] [] Try.results170
 iterate 5 refine r_no rfl ?_
 refine s_pkf ?_
 refine s_mv ?_
 iterate 5 refine r_no rfl ?_
 refine s_pkf ?_
 refine s_mv ?_
 iterate 5 refine r_no rfl ?_
 refine s_pkf ?_
 refine s_mv ?_
 iterate 5 refine r_no rfl ?_
 refine s_pkf ?_
 refine s_as ?_
 refine k_nil (k_seq (awp_ret (k_fin ?_)))
 cases hF3
 exact ends_a [] [] Try.results170
 iterate 5 refine r_no rfl ?_
 refine s_pkf ?_
 refine s_mv ?_
 iterate 5 refine r_no rfl ?_
 refine s_pkf ?_
 refine s_mv ?_
 iterate 5 refine r_no rfl ?_
 refine s_pkf ?_
 refine s_mv ?_
 iterate 5 refine r_no rfl ?_
 refine s_pkf ?_
 refine s_mv ?_
 iterate 5 refine r_no rfl ?_
 refine s_pkf ?_
 refine s_as ?_
 refine k_nil (k_seq (awp_ret (k_fin ?_)))
 cases hF2
 exact ends_a [] [] Try.results170
 iterate 5 refine r_no rfl ?_
 refine s_pkf ?_
 refine s_mv ?_
 iterate 5 refine r_no rfl ?_
 refine s_pkf ?_
 refine s_mv ?_
 iterate 5 refine r_no rfl ?_
 refine s_pkf ?_
 refine s_mv ?_
 iterate 5 refine r_no rfl ?_
 refine s_pkf ?_
 refine s_mv ?_
 iterate 5 refine r_no rfl ?_
 refine s_pkf ?_
 refine s_mv ?_
 iterate 5 refine r_no rfl ?_
 refine s_pkf ?_
 refine s_as ?_
 refine k_nil (k_seq (awp_ret (k_fin ?_)))
 cases hF1
 exact ends_a [] [] Try.results170
theorem m_slices_EqualFunc_Core_sameCore_st (fu : Nat) (ih_m_impl_sameCore : ∀ k, k ≤ fu → m_impl_sameCore_AC k) (ih_m_slices_EqualFunc_Core_sameCore : ∀ k, k ≤ fu → m_slices_EqualFunc_Core_sameCore_AC k) : m_slices_EqualFunc_Core_sameCore_AC (fu + 1) := by
 intro x1 x2 r hF0
 rw [m_slices_EqualFunc_Core_sameCore] at hF0
 refine AC_i [.t (.sc (.bool r))] Try.func187 rfl Try.ntmps187 ?_
 intro C hC
 refine awp_seq (awp_region ?_)
 refine s_as ?_
 refine k_nil (k_seq (awp_seq (awp_seq (awp_region ?_))))
 refine s_mv ?_
 refine s_lenT yU35 ?_
 refine s_mv ?_
 refine s_lenT yU35 ?_
 refine s_ne ?_
 refine k_nil (k_seq ?_)
 refine w_cond hF0 ?_ ?_ <;> intro hc1 hF1
 refine awp_seq (awp_region ?_)
 refine s_as ?_
 refine k_nil (k_seq (awp_ret (k_seq_ret (k_fin ?_))))
 cases hF1
 exact ends_a [] [] Try.results187
 refine awp_skip (k_seq (awp_seq (awp_seq (awp_region ?_))))
 refine s_mv ?_
 refine s_lenT yU35 ?_
 refine s_mv ?_
 refine k_nil (k_seq (awp_block ?_))
 refine awp_fr (β := Int) [6, 7, 8, 9, 17, 18, 19, 20, 21, 22, 23, 24, 25, 26, 27, 28, 29, 30, 31] [] [8, 9] (fun a => [(17, .t (.sc (.int .i64 a.2)))]) (fun a => []) (fun a => a.1 ≤ fu ∧ m_slices_EqualFunc_Core_sameCore_l1 a.1 x1 x2 a.2 = some r ∧ 0 ≤ a.2) (fu, 0) ⟨Nat.le_refl _, hF1, by simp⟩ ?_
 clear hF1
 rintro ⟨fu, g2⟩ ⟨hl3, hF2, hn_g2⟩
 dsimp only at hl3 hF2 hn_g2 ⊢
 obtain _ | fu := fu
 · rw [m_slices_EqualFunc_Core_sameCore_l1] at hF2; cases hF2
 rw [m_slices_EqualFunc_Core_sameCore_l1] at hF2
 refine awp_seq (awp_region ?_)
 refine s_lt ?_
 refine k_nil (k_seq (awp_seq ?_))
 refine w_cond hF2 ?_ ?_ <;> intro hc4 hF3
 refine awp_lenT 0 (fun hb5 => ?_)
 refine awp_skip (k_seq (awp_seq (awp_block (awp_seq (awp_region ?_)))))
 refine s_mv ?_
 obtain ⟨v6, hv6, hF4⟩ := bind_some' hF3
 refine s_ixT Core.row hv6 (Core.row_eq _) yE35 ?_
 refine s_ldN yA37 yS37 ?_
 refine s_alloc yZ37 ?_
 refine s_as ?_
 refine s_stW yS37 ?_
 refine k_nil (k_seq (awp_seq (awp_region ?_)))
 refine s_mv ?_
 refine s_mv ?_
 obtain ⟨v7, hv7, hF5⟩ := bind_some' hF4
 refine s_ixT Core.row hv7 (Core.row_eq _) yE35 ?_
 refine s_ldN yA37 yS37 ?_
 refine s_alloc yZ37 ?_
 refine s_stW yS37 ?_
 refine k_nil (k_seq (awp_seq (awp_region ?_)))
 refine s_mv ?_
 refine s_ldW yA37 yS37 ?_
 refine s_ldW yA37 yS37 ?_
 obtain ⟨v8, hv8, hF6⟩ := bind_some' hF5
 refine s_pure [] (ih_m_impl_sameCore fu (by omega) _ _ _ hv8) ?_
 refine s_not ?_
 refine k_nil (k_seq ?_)
 refine w_cond hF6 ?_ ?_ <;> intro hc9 hF7
 refine awp_seq (awp_region ?_)
 refine s_as ?_
 refine k_nil (k_seq (awp_ret (k_blk_ret (k_seq_ret (k_rnd_ret2 (k_blk_ret (k_seq_ret (k_fin ?_))))))))
 cases hF7
 exact ends_a [] [] Try.results187
 refine awp_skip (k_blk (k_seq (awp_region ?_)))
 refine s_add (winc2 hc4 hb5 hn_g2) ?_
 refine s_mv ?_
 refine k_nil ?_
 exact s_rn (fu, (g2 + 1)) ⟨by first | omega | (dsimp only; omega), hF7, by first | omega | (dsimp only; omega)⟩
 refine awp_exit (k_seq_exit (k_rnd_exit2 (k_blk_exit (k_seq (awp_seq (awp_region ?_))))))
 refine s_as ?_
 refine k_nil (k_seq (awp_ret (k_fin ?_)))
 cases hF3
 exact ends_a [] [] Try.results187
theorem m_impl_sameCore_all (fuel : Nat) : m_impl_sameCore_AC fuel ∧ m_slices_EqualFunc_Core_sameCore_AC fuel := by
 induction fuel using Nat.strongRecOn with
 | _ N ih =>
   cases N with
   | zero => exact ⟨(by intro x1 x2 r h; rw [m_impl_sameCore] at h; cases h), (by intro x1 x2 r h; rw [m_slices_EqualFunc_Core_sameCore] at h; cases h)⟩
   | succ fu => exact ⟨m_impl_sameCore_st fu (fun k hk => (ih k (by omega)).1) (fun k hk => (ih k (by omega)).2), m_slices_EqualFunc_Core_sameCore_st fu (fun k hk => (ih k (by omega)).1) (fun k hk => (ih k (by omega)).2)⟩
theorem m_impl_sameCore_ok (fuel : Nat) : m_impl_sameCore_AC fuel := (m_impl_sameCore_all fuel).1
def m_impl_coreOk_AC (fuel : Nat) : Prop := ∀ (x1 : Core) (x2 : (List Int)) (x3 : Int) (o1 : Int) (r : (Bool × Int)), m_impl_coreOk fuel x1 x2 x3 o1 = some r → AC Try.prog 142 [.ag [.t (.sc (.int .i64 x1.kind)), .t (.sc (.int .i64 x1.id)), .t (.sc (.str x1.name)), .t (.sc (.int .i64 x1.n)), .t (.sl (x1.ids.map rI)), .t (.sc (.int .i64 x1.data.kind)), .t (.sc (.str x1.data.name)), .t (.sc (.int .i64 x1.data.n)), .t (.sl (x1.data.scopes.map rI)), .t (.sl (x1.data.kids.map Form.row)), .t (.sl (x1.kids.map Core.row))], .t (.sl (x2.map rI)), .t (.sc (.int .i64 x3)), .rf 9000 0] (objs [(9000, .box [.t (.sc (.int .i64 o1))])]) (.t (.sc (.bool r.1))) (objs [(9000, .box [.t (.sc (.int .i64 r.2))])])
theorem m_impl_coreOk_st (fu : Nat) (ih_m_impl_coreOk : ∀ k, k ≤ fu → m_impl_coreOk_AC k) : m_impl_coreOk_AC (fu + 1) := by
 intro x1 x2 x3 o1 r hF0
 rw [m_impl_coreOk] at hF0
 refine AC_i [.t (.sc (.bool r.1))] Try.func142 rfl Try.ntmps142 ?_
 intro C hC
 refine awp_seq (awp_region ?_)
 refine s_box ?_
 refine s_as ?_
 refine k_nil (k_seq (awp_seq (awp_region ?_)))
 refine s_mv ?_
 refine s_nc ?_
 refine s_ld1 yA3 ?_
 refine s_sub rfl ?_
 refine s_nc ?_
 refine s_stW yS3 ?_
 refine k_nil (k_seq (awp_seq ?_))
 refine awp_jn (α := Nat × Bool) [21, 22, 23, 24, 25, 26, 27, 28] [] [] (fun a => [(28, .t (.sc (.bool a.2)))]) (fun a => []) (fun a => a.1 ≤ fu ∧ m_impl_coreOk_j1 a.1 x1 x2 x3 o1 a.2 = some r) ?_ ?_
 refine awp_region ?_
 refine s_mv ?_
 refine s_nc ?_
 refine s_ld1 yA3 ?_
 refine s_lt ?_
 refine s_mv ?_
 refine w_guard _ 25 hF0 ?_ ?_ <;> intro hc1 hF1
 refine r_no rfl (r_no rfl ?_)
 refine s_pkt ?_
 refine k_nil ?_
 exact s_jn (fu, true) ⟨by first | omega | (dsimp only; omega), hF1⟩
 refine s_mv ?_
 refine s_gt ?_
 refine s_pkf ?_
 refine k_nil ?_
 exact s_jn (fu, (decide (120 < x3))) ⟨by first | omega | (dsimp only; omega), hF1⟩
 clear hF0
 rintro ⟨fu, g2⟩ ⟨hl3, hF1⟩
 dsimp only at hl3 hF1 ⊢
 obtain _ | fu := fu
 · rw [m_impl_coreOk_j1] at hF1; cases hF1
 rw [m_impl_coreOk_j1] at hF1
 refine w_cond hF1 ?_ ?_ <;> intro hc4 hF2
 refine awp_seq (awp_region ?_)
 refine s_as ?_
 refine k_nil (k_seq (awp_ret (k_seq_ret (k_fin ?_))))
 cases hF2
 exact ends_a _ [] Try.results142
 refine awp_skip (k_seq (awp_seq (awp_region ?_)))
 refine s_fa yF37_0 ?_
 refine s_ld1 yA3 ?_
 refine s_fa yF37_6 ?_
 refine s_ld1 yA35 ?_
 refine s_bld yZ37 yL37 ?_
 refine s_mv ?_
 refine s_alloc yZ37 ?_
 refine s_stW yS37 ?_
 refine s_as ?_
 refine s_as ?_
 refine k_nil (k_seq ?_)
 refine awp_jn (α := Nat × Int × (List Int) × Int × ByteArray × Int × (List Int) × Int × ByteArray × Int × (List Int) × (List Form)) [8, 10, 11, 13, 35, 36, 37, 38, 39, 40, 41, 42, 43, 44, 45, 46, 47, 48, 49, 50, 51, 52, 53, 54, 55, 56, 57, 58, 59, 60, 61, 62, 63, 64, 65, 66, 67, 68, 69, 70, 71, 72, 73, 74, 75, 76, 77, 78, 79, 80, 81, 82, 83, 84, 85, 86, 87, 88, 89, 90, 91, 92, 93, 94, 95, 96, 97, 98, 99, 100, 101, 102, 103, 104, 105, 106, 107, 108, 109, 110, 111, 112, 113, 114, 115, 116, 117, 118, 119, 120, 121] [9] [2093, 5060] (fun a => [(10, .t (.sc (.int .i64 a.2.1))), (11, .t (.sl (a.2.2.1.map rI)))]) (fun a => [(9, .box [.t (.sc (.int .i64 x1.kind)), .t (.sc (.int .i64 a.2.2.2.1)), .t (.sc (.str a.2.2.2.2.1)), .t (.sc (.int .i64 a.2.2.2.2.2.1)), .t (.sl (a.2.2.2.2.2.2.1.map rI)), .t (.sc (.int .i64 a.2.2.2.2.2.2.2.1)), .t (.sc (.str a.2.2.2.2.2.2.2.2.1)), .t (.sc (.int .i64 a.2.2.2.2.2.2.2.2.2.1)), .t (.sl (a.2.2.2.2.2.2.2.2.2.2.1.map rI)), .t (.sl (a.2.2.2.2.2.2.2.2.2.2.2.map Form.row)), .t (.sl (x1.kids.map Core.row))])]) (fun a => a.1 ≤ fu ∧ m_impl_coreOk_j2 a.1 x1 x3 o1 a.2.1 a.2.2.1 a.2.2.2.1 a.2.2.2.2.1 a.2.2.2.2.2.1 a.2.2.2.2.2.2.1 a.2.2.2.2.2.2.2.1 a.2.2.2.2.2.2.2.2.1 a.2.2.2.2.2.2.2.2.2.1 a.2.2.2.2.2.2.2.2.2.2.1 a.2.2.2.2.2.2.2.2.2.2.2 = some r) ?_ ?_
 refine awp_seq (awp_region ?_)
 refine s_fa yF37_0 ?_
 refine s_ld1 yA3 ?_
 refine k_nil (k_seq (awp_block (awp_seq (awp_region ?_))))
 refine s_eq ?_
 refine s_as ?_
 refine k_nil (k_seq ?_)
 refine w_cond hF2 ?_ ?_ <;> intro hc5 hF3
 refine awp_seq (awp_region ?_)
 refine s_fa yF37_1 ?_
 refine s_ld1 yA3 ?_
 refine s_fa yF37_1 ?_
 refine s_stP yS3 ?_
 refine k_nil (k_seq (awp_seq (awp_region ?_)))
 refine s_fa yF37_1 ?_
 refine s_ld1 yA3 ?_
 obtain ⟨v6, hv6, hF4⟩ := bind_some' hF3
 refine s_pure [] (m_impl_within_ok fu _ _ _ _ hv6) ?_
 refine s_not ?_
 refine s_mv ?_
 refine w_guard _ 46 hF4 ?_ ?_ <;> intro hc7 hF5
 iterate 5 refine r_no rfl ?_
 refine s_pkt ?_
 refine k_nil (k_seq (awp_true rfl (awp_seq (awp_region ?_))))
 refine s_as ?_
 refine k_nil (k_seq (awp_ret (k_blk_ret (k_jn_ret (k_fin ?_)))))
 cases hF5
 exact ends_a _ [] Try.results142
 refine s_mv ?_
 refine s_fa yF37_1 ?_
 refine s_ld1 yA3 ?_
 obtain ⟨v8, hv8, hF6⟩ := bind_some' hF5
 refine s_pure [] (m_slices_Contains_int_ok fu _ _ _ hv8) ?_
 refine s_not ?_
 refine s_pkf ?_
 refine k_nil (k_seq ?_)
 refine w_cond hF6 ?_ ?_ <;> intro hc9 hF7
 refine awp_seq (awp_region ?_)
 refine s_as ?_
 refine k_nil (k_seq (awp_ret (k_blk_ret (k_jn_ret (k_fin ?_)))))
 cases hF7
 exact ends_a _ [] Try.results142
 refine awp_nlB 9 4 [.t (.sc (.int .i64 x1.kind)), .t (.sc (.int .i64 x1.id)), .t (.sc (.str (⟨#[]⟩ : ByteArray))), .t (.sc (.int .i64 0)), .t (.sl (([] : List Int).map rI)), .t (.sc (.int .i64 0)), .t (.sc (.str (⟨#[]⟩ : ByteArray))), .t (.sc (.int .i64 0)), .nl, .nl, .t (.sl (x1.kids.map Core.row))] (by conv => lhs; whnf) rfl rfl ?_
 refine awp_nlB 9 8 [.t (.sc (.int .i64 x1.kind)), .t (.sc (.int .i64 x1.id)), .t (.sc (.str (⟨#[]⟩ : ByteArray))), .t (.sc (.int .i64 0)), .t (.sl (([] : List Int).map rI)), .t (.sc (.int .i64 0)), .t (.sc (.str (⟨#[]⟩ : ByteArray))), .t (.sc (.int .i64 0)), .t (.sl (([] : List Int).map rI)), .nl, .t (.sl (x1.kids.map Core.row))] (by conv => lhs; whnf) rfl rfl ?_
 refine awp_nlB 9 9 [.t (.sc (.int .i64 x1.kind)), .t (.sc (.int .i64 x1.id)), .t (.sc (.str (⟨#[]⟩ : ByteArray))), .t (.sc (.int .i64 0)), .t (.sl (([] : List Int).map rI)), .t (.sc (.int .i64 0)), .t (.sc (.str (⟨#[]⟩ : ByteArray))), .t (.sc (.int .i64 0)), .t (.sl (([] : List Int).map rI)), .t (.sl (([] : List Form).map Form.row)), .t (.sl (x1.kids.map Core.row))] (by conv => lhs; whnf) rfl rfl ?_
 refine awp_skip (k_blk ?_)
 exact s_jn (fu, 0, x2, x1.id, (⟨#[]⟩ : ByteArray), 0, ([] : List Int), 0, (⟨#[]⟩ : ByteArray), 0, ([] : List Int), ([] : List Form)) ⟨by first | omega | (dsimp only; omega), hF7⟩
 refine awp_seq (awp_region ?_)
 refine s_eq ?_
 refine s_as ?_
 refine k_nil (k_seq ?_)
 refine w_cond hF3 ?_ ?_ <;> intro hc10 hF4
 refine awp_seq (awp_region ?_)
 refine s_fa yF37_2 ?_
 refine s_ld1 yA9 ?_
 refine s_fa yF37_2 ?_
 refine s_stP yS9 ?_
 refine k_nil (k_seq (awp_seq (awp_region ?_)))
 refine s_fa yF37_2 ?_
 refine s_ld1 yA9 ?_
 obtain ⟨v11, hv11, hF5⟩ := bind_some' hF4
 refine s_pure [] (m_impl_NameValid_ok fu _ _ hv11) ?_
 refine s_not ?_
 refine k_nil (k_seq ?_)
 refine w_cond hF5 ?_ ?_ <;> intro hc12 hF6
 refine awp_seq (awp_region ?_)
 refine s_as ?_
 refine k_nil (k_seq (awp_ret (k_blk_ret (k_jn_ret (k_fin ?_)))))
 cases hF6
 exact ends_a _ [] Try.results142
 refine awp_nlB 9 4 [.t (.sc (.int .i64 x1.kind)), .t (.sc (.int .i64 0)), .t (.sc (.str x1.name)), .t (.sc (.int .i64 0)), .t (.sl (([] : List Int).map rI)), .t (.sc (.int .i64 0)), .t (.sc (.str (⟨#[]⟩ : ByteArray))), .t (.sc (.int .i64 0)), .nl, .nl, .t (.sl (x1.kids.map Core.row))] (by conv => lhs; whnf) rfl rfl ?_
 refine awp_nlB 9 8 [.t (.sc (.int .i64 x1.kind)), .t (.sc (.int .i64 0)), .t (.sc (.str x1.name)), .t (.sc (.int .i64 0)), .t (.sl (([] : List Int).map rI)), .t (.sc (.int .i64 0)), .t (.sc (.str (⟨#[]⟩ : ByteArray))), .t (.sc (.int .i64 0)), .t (.sl (([] : List Int).map rI)), .nl, .t (.sl (x1.kids.map Core.row))] (by conv => lhs; whnf) rfl rfl ?_
 refine awp_nlB 9 9 [.t (.sc (.int .i64 x1.kind)), .t (.sc (.int .i64 0)), .t (.sc (.str x1.name)), .t (.sc (.int .i64 0)), .t (.sl (([] : List Int).map rI)), .t (.sc (.int .i64 0)), .t (.sc (.str (⟨#[]⟩ : ByteArray))), .t (.sc (.int .i64 0)), .t (.sl (([] : List Int).map rI)), .t (.sl (([] : List Form).map Form.row)), .t (.sl (x1.kids.map Core.row))] (by conv => lhs; whnf) rfl rfl ?_
 refine awp_skip (k_blk ?_)
 exact s_jn (fu, 0, x2, 0, x1.name, 0, ([] : List Int), 0, (⟨#[]⟩ : ByteArray), 0, ([] : List Int), ([] : List Form)) ⟨by first | omega | (dsimp only; omega), hF6⟩
 refine awp_seq (awp_region ?_)
 refine s_eq ?_
 refine s_as ?_
 refine k_nil (k_seq ?_)
 refine w_cond hF4 ?_ ?_ <;> intro hc13 hF5
 refine awp_seq (awp_region ?_)
 refine s_fa yF37_3 ?_
 refine s_ld1 yA3 ?_
 refine s_fa yF37_3 ?_
 refine s_stP yS3 ?_
 refine k_nil (k_seq (awp_seq (awp_region ?_)))
 refine s_fa yF37_3 ?_
 refine s_ld1 yA3 ?_
 obtain ⟨v14, hv14, hF6⟩ := bind_some' hF5
 refine s_pure [] (m_impl_within_ok fu _ _ _ _ hv14) ?_
 refine s_not ?_
 refine k_nil (k_seq ?_)
 refine w_cond hF6 ?_ ?_ <;> intro hc15 hF7
 refine awp_seq (awp_region ?_)
 refine s_as ?_
 refine k_nil (k_seq (awp_ret (k_blk_ret (k_jn_ret (k_fin ?_)))))
 cases hF7
 exact ends_a _ [] Try.results142
 refine awp_nlB 9 4 [.t (.sc (.int .i64 x1.kind)), .t (.sc (.int .i64 0)), .t (.sc (.str (⟨#[]⟩ : ByteArray))), .t (.sc (.int .i64 x1.n)), .t (.sl (([] : List Int).map rI)), .t (.sc (.int .i64 0)), .t (.sc (.str (⟨#[]⟩ : ByteArray))), .t (.sc (.int .i64 0)), .nl, .nl, .t (.sl (x1.kids.map Core.row))] (by conv => lhs; whnf) rfl rfl ?_
 refine awp_nlB 9 8 [.t (.sc (.int .i64 x1.kind)), .t (.sc (.int .i64 0)), .t (.sc (.str (⟨#[]⟩ : ByteArray))), .t (.sc (.int .i64 x1.n)), .t (.sl (([] : List Int).map rI)), .t (.sc (.int .i64 0)), .t (.sc (.str (⟨#[]⟩ : ByteArray))), .t (.sc (.int .i64 0)), .t (.sl (([] : List Int).map rI)), .nl, .t (.sl (x1.kids.map Core.row))] (by conv => lhs; whnf) rfl rfl ?_
 refine awp_nlB 9 9 [.t (.sc (.int .i64 x1.kind)), .t (.sc (.int .i64 0)), .t (.sc (.str (⟨#[]⟩ : ByteArray))), .t (.sc (.int .i64 x1.n)), .t (.sl (([] : List Int).map rI)), .t (.sc (.int .i64 0)), .t (.sc (.str (⟨#[]⟩ : ByteArray))), .t (.sc (.int .i64 0)), .t (.sl (([] : List Int).map rI)), .t (.sl (([] : List Form).map Form.row)), .t (.sl (x1.kids.map Core.row))] (by conv => lhs; whnf) rfl rfl ?_
 refine awp_skip (k_blk ?_)
 exact s_jn (fu, 0, x2, 0, (⟨#[]⟩ : ByteArray), x1.n, ([] : List Int), 0, (⟨#[]⟩ : ByteArray), 0, ([] : List Int), ([] : List Form)) ⟨by first | omega | (dsimp only; omega), hF7⟩
 refine awp_seq (awp_region ?_)
 refine s_eq ?_
 refine s_as ?_
 refine k_nil (k_seq ?_)
 refine w_cond hF5 ?_ ?_ <;> intro hc16 hF6
 refine awp_seq (awp_region ?_)
 refine s_fa yF37_5 ?_
 refine s_ldN yA34 yS34 ?_
 refine s_fa yF37_5 ?_
 refine s_stP yS34 ?_
 refine k_nil (k_seq (awp_seq (awp_region ?_)))
 refine s_fa yF37_5 ?_
 refine s_ldN yA34 yS34 ?_
 obtain ⟨v17, hv17, hF7⟩ := bind_some' hF6
 refine s_pure [] (m_impl_FormValid_ok fu _ _ hv17) ?_
 refine s_not ?_
 refine s_mv ?_
 refine w_guard _ 80 hF7 ?_ ?_ <;> intro hc18 hF8
 iterate 5 refine r_no rfl ?_
 refine s_pkt ?_
 refine k_nil (k_seq (awp_true rfl (awp_seq (awp_region ?_))))
 refine s_as ?_
 refine k_nil (k_seq (awp_ret (k_blk_ret (k_jn_ret (k_fin ?_)))))
 cases hF8
 exact ends_a _ [] Try.results142
 refine s_fa yF37_5 ?_
 refine s_ldN yA34 yS34 ?_
 obtain ⟨v19, hv19, hF9⟩ := bind_some' hF8
 refine s_pure [] (m_impl_ScopesOf_ok fu _ _ hv19) ?_
 refine s_lenT yU22 ?_
 refine s_gt ?_
 refine s_pkf ?_
 refine k_nil (k_seq ?_)
 refine w_cond hF9 ?_ ?_ <;> intro hc20 hF10
 refine awp_lenT 83 (fun hb21 => ?_)
 refine awp_seq (awp_region ?_)
 refine s_as ?_
 refine k_nil (k_seq (awp_ret (k_blk_ret (k_jn_ret (k_fin ?_)))))
 cases hF10
 exact ends_a _ [] Try.results142
 refine awp_nlB 9 4 [.t (.sc (.int .i64 x1.kind)), .t (.sc (.int .i64 0)), .t (.sc (.str (⟨#[]⟩ : ByteArray))), .t (.sc (.int .i64 0)), .t (.sl (([] : List Int).map rI)), .t (.sc (.int .i64 x1.data.kind)), .t (.sc (.str x1.data.name)), .t (.sc (.int .i64 x1.data.n)), .t (.sl (x1.data.scopes.map rI)), .t (.sl (x1.data.kids.map Form.row)), .t (.sl (x1.kids.map Core.row))] (by conv => lhs; whnf) rfl rfl ?_
 refine awp_skip (k_blk ?_)
 exact s_jn (fu, 0, x2, 0, (⟨#[]⟩ : ByteArray), 0, ([] : List Int), x1.data.kind, x1.data.name, x1.data.n, x1.data.scopes, x1.data.kids) ⟨by first | omega | (dsimp only; omega), hF10⟩
 refine awp_seq (awp_region ?_)
 refine s_eq ?_
 refine s_as ?_
 refine k_nil (k_seq ?_)
 refine w_cond hF6 ?_ ?_ <;> intro hc22 hF7
 refine awp_seq (awp_region ?_)
 refine s_fa yF37_4 ?_
 refine s_ld1 yA22 ?_
 refine s_fa yF37_4 ?_
 refine s_stP yS22 ?_
 refine s_as ?_
 refine k_nil (k_seq (awp_seq (awp_region ?_)))
 refine s_mv ?_
 obtain ⟨v23, hv23, hF8⟩ := bind_some' hF7
 refine s_call [(9200, 2093)] [] _ _ (m_slices_Clone_int_ok fu _ _ hv23) ?_
 refine s_as ?_
 refine k_nil (k_seq (awp_seq (awp_region ?_)))
 refine s_fa yF37_4 ?_
 refine s_ld1 yA22 ?_
 refine s_lenT yU22 ?_
 refine s_mv ?_
 refine k_nil (k_seq (awp_block ?_))
 refine awp_mv 11 2093 5060 (by conv => lhs; whnf) (by conv => lhs; whnf) rfl ?_
 refine awp_frz 5060 (by conv => lhs; whnf) ?_
 refine awp_frame2 [8, 11, 13, 97, 98, 99, 100, 101, 102, 103, 104, 105, 106, 107, 108, 109, 110, 111, 112, 113] [5060] [111, 112] [5060] (fun a : Nat × (List Int) × Int => a.1) (fun a : Nat × (List Int) × Int => [(11, .ar 5060), (97, .t (.sc (.int .i64 a.2.2)))]) (fun a : Nat × (List Int) × Int => [(5060, .arr (a.2.1.map rI) 3 false)]) (fun a : Nat × (List Int) × Int => a.1 ≤ fu ∧ m_impl_coreOk_l3 a.1 x1 x3 o1 a.2.1 a.2.2 = some r ∧ 0 ≤ a.2.2) (fu, v23, 0) ⟨Nat.le_refl _, hF8, by simp⟩ (by rfl) (by rfl) (fun _ => rfl) (hasF_cons (by conv => lhs; whnf) (by rfl) (hasF_cons (by conv => lhs; whnf) (by rfl) hasF_nil)) (hasO_cons (by conv => lhs; whnf) (by rfl) hasO_nil) (fresh_C hC rfl) (by repeat (first | exact freshS_args rfl | refine freshS_upd rfl ?_ | refine freshS_frame rfl ?_)) (by repeat (first | exact freshM_no | exact objs_fresh rfl | refine freshM_upd rfl ?_ | refine freshM_frame rfl ?_)) ?_
 clear hF8
 rintro ⟨fu, g24, g25⟩ ⟨hl26, hF9, hn_g25⟩
 dsimp only at hl26 hF9 hn_g25 ⊢
 obtain _ | fu := fu
 · rw [m_impl_coreOk_l3] at hF9; cases hF9
 rw [m_impl_coreOk_l3] at hF9
 refine awp_seq (awp_region ?_)
 refine s_lt ?_
 refine k_nil (k_seq (awp_seq ?_))
 refine w_cond hF9 ?_ ?_ <;> intro hc27 hF10
 refine awp_lenT 90 (fun hb28 => ?_)
 refine awp_skip (k_seq (awp_seq (awp_block (awp_seq (awp_region ?_)))))
 obtain ⟨v29, hv29, hF11⟩ := bind_some' hF10
 refine s_ixT rI hv29 rfl yE22 ?_
 refine s_ld1 yA3 ?_
 refine s_as ?_
 refine k_nil (k_seq (awp_seq (awp_seq (awp_region ?_))))
 refine s_mv ?_
 obtain ⟨v30, hv30, hF12⟩ := bind_some' hF11
 refine s_pure [] (m_impl_within_ok fu _ _ _ _ hv30) ?_
 refine s_not ?_
 refine s_mv ?_
 refine w_guard _ 104 hF12 ?_ ?_ <;> intro hc31 hF13
 iterate 3 refine r_no rfl ?_
 refine s_pkt ?_
 refine k_nil (k_seq (awp_true rfl (awp_seq (awp_region ?_))))
 refine s_as ?_
 refine k_nil (k_seq (awp_ret (k_seq_ret (k_blk_ret (k_seq_ret (k_rnd_ret2 (k_blk_ret (k_blk_ret (k_jn_ret (k_fin ?_))))))))))
 cases hF13
 exact ends_a _ [] Try.results142
 refine s_mv ?_
 refine s_mv ?_
 obtain ⟨v32, hv32, hF14⟩ := bind_some' hF13
 refine s_pure [5060] (m_slices_Contains_int_ok fu _ _ _ hv32) ?_
 refine s_pkf ?_
 refine k_nil (k_seq ?_)
 refine w_cond hF14 ?_ ?_ <;> intro hc33 hF15
 refine awp_seq (awp_region ?_)
 refine s_as ?_
 refine k_nil (k_seq (awp_ret (k_seq_ret (k_blk_ret (k_seq_ret (k_rnd_ret2 (k_blk_ret (k_blk_ret (k_jn_ret (k_fin ?_))))))))))
 cases hF15
 exact ends_a _ [] Try.results142
 refine awp_skip (k_seq (awp_region ?_))
 refine s_mv ?_
 refine s_mv ?_
 refine s_bs rI [v29] yP22 yR3 ?_
 obtain ⟨hk34, hF16⟩ := chk_some hF15
 refine s_apF rI (fun _ => rfl) hk34 yP22 ?_
 refine s_as ?_
 refine k_nil (k_blk (k_seq (awp_region ?_)))
 refine s_add (winc2 hc27 hb28 hn_g25) ?_
 refine s_mv ?_
 refine k_nil ?_
 exact s_rn (fu, (g24 ++ [v29]), (g25 + 1)) ⟨by first | omega | (dsimp only; omega), hF16, by first | omega | (dsimp only; omega)⟩ [(5060, 112)]
 refine awp_nlB 9 8 [.t (.sc (.int .i64 x1.kind)), .t (.sc (.int .i64 0)), .t (.sc (.str (⟨#[]⟩ : ByteArray))), .t (.sc (.int .i64 0)), .t (.sl (x1.ids.map rI)), .t (.sc (.int .i64 0)), .t (.sc (.str (⟨#[]⟩ : ByteArray))), .t (.sc (.int .i64 0)), .t (.sl (([] : List Int).map rI)), .nl, .t (.sl (x1.kids.map Core.row))] (by conv => lhs; whnf) rfl rfl ?_
 refine awp_nlB 9 9 [.t (.sc (.int .i64 x1.kind)), .t (.sc (.int .i64 0)), .t (.sc (.str (⟨#[]⟩ : ByteArray))), .t (.sc (.int .i64 0)), .t (.sl (x1.ids.map rI)), .t (.sc (.int .i64 0)), .t (.sc (.str (⟨#[]⟩ : ByteArray))), .t (.sc (.int .i64 0)), .t (.sl (([] : List Int).map rI)), .t (.sl (([] : List Form).map Form.row)), .t (.sl (x1.kids.map Core.row))] (by conv => lhs; whnf) rfl rfl ?_
 refine awp_pz 11 ?_
 refine awp_exit (k_seq_exit (k_rnd_exit2 (k_blk_exit (k_blk ?_))))
 exact s_jn (fu, 1, g24, 0, (⟨#[]⟩ : ByteArray), 0, x1.ids, 0, (⟨#[]⟩ : ByteArray), 0, ([] : List Int), ([] : List Form)) ⟨by first | omega | (dsimp only; omega), hF10⟩
 refine awp_seq (awp_region ?_)
 refine s_eq ?_
 refine s_as ?_
 refine k_nil (k_seq ?_)
 refine w_cond hF7 ?_ ?_ <;> intro hc35 hF8
 refine awp_nlB 9 4 [.t (.sc (.int .i64 x1.kind)), .t (.sc (.int .i64 0)), .t (.sc (.str (⟨#[]⟩ : ByteArray))), .t (.sc (.int .i64 0)), .t (.sl (([] : List Int).map rI)), .t (.sc (.int .i64 0)), .t (.sc (.str (⟨#[]⟩ : ByteArray))), .t (.sc (.int .i64 0)), .nl, .nl, .t (.sl (x1.kids.map Core.row))] (by conv => lhs; whnf) rfl rfl ?_
 refine awp_nlB 9 8 [.t (.sc (.int .i64 x1.kind)), .t (.sc (.int .i64 0)), .t (.sc (.str (⟨#[]⟩ : ByteArray))), .t (.sc (.int .i64 0)), .t (.sl (([] : List Int).map rI)), .t (.sc (.int .i64 0)), .t (.sc (.str (⟨#[]⟩ : ByteArray))), .t (.sc (.int .i64 0)), .t (.sl (([] : List Int).map rI)), .nl, .t (.sl (x1.kids.map Core.row))] (by conv => lhs; whnf) rfl rfl ?_
 refine awp_nlB 9 9 [.t (.sc (.int .i64 x1.kind)), .t (.sc (.int .i64 0)), .t (.sc (.str (⟨#[]⟩ : ByteArray))), .t (.sc (.int .i64 0)), .t (.sl (([] : List Int).map rI)), .t (.sc (.int .i64 0)), .t (.sc (.str (⟨#[]⟩ : ByteArray))), .t (.sc (.int .i64 0)), .t (.sl (([] : List Int).map rI)), .t (.sl (([] : List Form).map Form.row)), .t (.sl (x1.kids.map Core.row))] (by conv => lhs; whnf) rfl rfl ?_
 refine awp_region ?_
 refine s_fa yF37_6 ?_
 refine s_ld1 yA35 ?_
 refine s_lenT yU35 ?_
 refine s_max ?_
 refine s_as ?_
 refine k_nil (k_blk ?_)
 exact s_jn (fu, (if (x1.kids.length : Int) > 1 then (x1.kids.length : Int) else 1), x2, 0, (⟨#[]⟩ : ByteArray), 0, ([] : List Int), 0, (⟨#[]⟩ : ByteArray), 0, ([] : List Int), ([] : List Form)) ⟨by first | omega | (dsimp only; omega), hF8⟩
 refine awp_seq (awp_region ?_)
 refine s_eq ?_
 refine s_as ?_
 refine k_nil (k_seq ?_)
 refine w_cond hF8 ?_ ?_ <;> intro hc36 hF9
 refine awp_nlB 9 4 [.t (.sc (.int .i64 x1.kind)), .t (.sc (.int .i64 0)), .t (.sc (.str (⟨#[]⟩ : ByteArray))), .t (.sc (.int .i64 0)), .t (.sl (([] : List Int).map rI)), .t (.sc (.int .i64 0)), .t (.sc (.str (⟨#[]⟩ : ByteArray))), .t (.sc (.int .i64 0)), .nl, .nl, .t (.sl (x1.kids.map Core.row))] (by conv => lhs; whnf) rfl rfl ?_
 refine awp_nlB 9 8 [.t (.sc (.int .i64 x1.kind)), .t (.sc (.int .i64 0)), .t (.sc (.str (⟨#[]⟩ : ByteArray))), .t (.sc (.int .i64 0)), .t (.sl (([] : List Int).map rI)), .t (.sc (.int .i64 0)), .t (.sc (.str (⟨#[]⟩ : ByteArray))), .t (.sc (.int .i64 0)), .t (.sl (([] : List Int).map rI)), .nl, .t (.sl (x1.kids.map Core.row))] (by conv => lhs; whnf) rfl rfl ?_
 refine awp_nlB 9 9 [.t (.sc (.int .i64 x1.kind)), .t (.sc (.int .i64 0)), .t (.sc (.str (⟨#[]⟩ : ByteArray))), .t (.sc (.int .i64 0)), .t (.sl (([] : List Int).map rI)), .t (.sc (.int .i64 0)), .t (.sc (.str (⟨#[]⟩ : ByteArray))), .t (.sc (.int .i64 0)), .t (.sl (([] : List Int).map rI)), .t (.sl (([] : List Form).map Form.row)), .t (.sl (x1.kids.map Core.row))] (by conv => lhs; whnf) rfl rfl ?_
 refine awp_region ?_
 refine s_as ?_
 refine k_nil (k_blk ?_)
 exact s_jn (fu, 3, x2, 0, (⟨#[]⟩ : ByteArray), 0, ([] : List Int), 0, (⟨#[]⟩ : ByteArray), 0, ([] : List Int), ([] : List Form)) ⟨by first | omega | (dsimp only; omega), hF9⟩
 refine awp_seq (awp_region ?_)
 refine s_as ?_
 refine k_nil (k_seq (awp_ret (k_blk_ret (k_jn_ret (k_fin ?_)))))
 cases hF9
 exact ends_a _ [] Try.results142
 clear hF2
 rintro ⟨fu, g37, g38, g39, g40, g41, g42, g43, g44, g45, g46, g47⟩ ⟨hl48, hF3⟩
 dsimp only at hl48 hF3 ⊢
 obtain _ | fu := fu
 · rw [m_impl_coreOk_j2] at hF3; cases hF3
 rw [m_impl_coreOk_j2] at hF3
 refine awp_seq ?_
 refine awp_jn (α := Nat × Bool) [122, 123, 124, 125, 126, 127, 128, 129, 130, 131, 132] [] [] (fun a => [(132, .t (.sc (.bool a.2)))]) (fun a => []) (fun a => a.1 ≤ fu ∧ m_impl_coreOk_j4 a.1 x1 x3 o1 g38 a.2 = some r) ?_ ?_
 refine awp_region ?_
 refine s_fa yF37_6 ?_
 refine s_ld1 yA35 ?_
 refine s_lenT yU35 ?_
 refine s_mv ?_
 refine s_ne ?_
 refine s_mv ?_
 refine w_guard _ 127 hF3 ?_ ?_ <;> intro hc49 hF4
 iterate 4 refine r_no rfl ?_
 refine s_pkt ?_
 refine k_nil ?_
 exact s_jn (fu, true) ⟨by first | omega | (dsimp only; omega), hF4⟩
 refine s_ldW yA37 yS37 ?_
 refine s_ldW yA37 yS37 ?_
 obtain ⟨v50, hv50, hF5⟩ := bind_some' hF4
 refine s_pure [] (m_impl_sameCore_ok fu _ _ _ hv50) ?_
 refine s_not ?_
 refine s_pkf ?_
 refine k_nil ?_
 exact s_jn (fu, (!v50)) ⟨by first | omega | (dsimp only; omega), hF5⟩
 clear hF3
 rintro ⟨fu, g51⟩ ⟨hl52, hF4⟩
 dsimp only at hl52 hF4 ⊢
 obtain _ | fu := fu
 · rw [m_impl_coreOk_j4] at hF4; cases hF4
 rw [m_impl_coreOk_j4] at hF4
 refine w_cond hF4 ?_ ?_ <;> intro hc53 hF5
 refine awp_seq (awp_region ?_)
 refine s_as ?_
 refine k_nil (k_seq (awp_ret (k_seq_ret (k_fin ?_))))
 cases hF5
 exact ends_a _ [] Try.results142
 refine awp_skip (k_seq (awp_seq (awp_seq (awp_region ?_))))
 refine s_fa yF37_6 ?_
 refine s_ld1 yA35 ?_
 refine s_lenT yU35 ?_
 refine s_mv ?_
 refine k_nil (k_seq (awp_block ?_))
 refine awp_fr (β := Int × Int) [8, 15, 136, 137, 138, 139, 140, 141, 142, 143, 144, 145, 146, 147] [9000] [15] (fun a => [(136, .t (.sc (.int .i64 a.2.1)))]) (fun a => [(9000, .box [.t (.sc (.int .i64 a.2.2))])]) (fun a => a.1 ≤ fu ∧ m_impl_coreOk_l5 a.1 x1 x3 g38 a.2.1 a.2.2 = some r ∧ 0 ≤ a.2.1) (fu, 0, (w64 (o1 - 1))) ⟨Nat.le_refl _, hF5, by simp⟩ ?_
 clear hF5
 rintro ⟨fu, g54, g55⟩ ⟨hl56, hF6, hn_g54⟩
 dsimp only at hl56 hF6 hn_g54 ⊢
 obtain _ | fu := fu
 · rw [m_impl_coreOk_l5] at hF6; cases hF6
 rw [m_impl_coreOk_l5] at hF6
 refine awp_seq (awp_region ?_)
 refine s_lt ?_
 refine k_nil (k_seq (awp_seq ?_))
 refine w_cond hF6 ?_ ?_ <;> intro hc57 hF7
 refine awp_lenT 32 (fun hb58 => ?_)
 refine awp_skip (k_seq (awp_seq (awp_block (awp_seq (awp_region ?_)))))
 obtain ⟨v59, hv59, hF8⟩ := bind_some' hF7
 refine s_ixT Core.row hv59 (Core.row_eq _) yE35 ?_
 refine s_ldN yA37 yS37 ?_
 refine s_alloc yZ37 ?_
 refine s_stW yS37 ?_
 refine k_nil (k_seq (awp_seq (awp_region ?_)))
 refine s_ldW yA37 yS37 ?_
 refine s_mv ?_
 refine s_mv ?_
 refine s_add rfl ?_
 refine s_mv ?_
 obtain ⟨v60, hv60, hF9⟩ := bind_some' hF8
 refine s_call [(9000, 9000)] [] _ _ (ih_m_impl_coreOk fu (by omega) _ _ _ _ _ hv60) ?_
 refine s_not ?_
 refine k_nil (k_seq ?_)
 refine w_cond hF9 ?_ ?_ <;> intro hc61 hF10
 refine awp_seq (awp_region ?_)
 refine s_as ?_
 refine k_nil (k_seq (awp_ret (k_blk_ret (k_seq_ret (k_rnd_ret2 (k_blk_ret (k_seq_ret (k_fin ?_))))))))
 cases hF10
 exact ends_a _ [] Try.results142
 refine awp_skip (k_blk (k_seq (awp_region ?_)))
 refine s_add (winc2 hc57 hb58 hn_g54) ?_
 refine s_mv ?_
 refine k_nil ?_
 exact s_rn (fu, (g54 + 1), v60.2) ⟨by first | omega | (dsimp only; omega), hF10, by first | omega | (dsimp only; omega)⟩
 refine awp_exit (k_seq_exit (k_rnd_exit2 (k_blk_exit (k_seq (awp_seq (awp_region ?_))))))
 refine s_as ?_
 refine k_nil (k_seq (awp_ret (k_fin ?_)))
 cases hF7
 exact ends_a _ [] Try.results142
end Go.Abs
