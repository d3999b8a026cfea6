/- A part of the proof: what the functions that the law calls answer, as pure values. -/
import Derived.Test.YtbkdbbfgdjcfgaaK3df603bde016
import Derived.Test.YtbkdbbfgdjcfgaaK3ef0f18fb090
import Derived.Test.YtbkdbbfgdjcfgaaK5b3bfc25a8da
import Derived.Test.YtbkdbbfgdjcfgaaK75a37ea34d8d
import Derived.Test.YtbkdbbfgdjcfgaaK85a8d2422f81
import Derived.Test.YtbkdbbfgdjcfgaaK8f22f7558984
import Derived.Test.YtbkdbbfgdjcfgaaKae5851bf4855
import Derived.Test.YtbkdbbfgdjcfgaaKfd1ac0d337e1
set_option linter.unusedSimpArgs false
set_option linter.unusedVariables false
set_option maxRecDepth 100000
set_option maxHeartbeats 4000000
namespace Go.Abs
open Go.Proofs
theorem m_impl_copyHit_D_all (fuel : Nat) : m_impl_copyHit_D_AC fuel := by
 induction fuel using Nat.strongRecOn with
 | _ N ih =>
   cases N with
   | zero => exact (by intro x1 r h; rw [m_impl_copyHit] at h; cases h)
   | succ fu => exact m_impl_copyHit_D_st fu (fun k hk => (ih k (by omega)))
theorem m_impl_copyHit_D_ok (fuel : Nat) : m_impl_copyHit_D_AC fuel := (m_impl_copyHit_D_all fuel)
def m_impl_FindHit_D_AC (fuel : Nat) : Prop := ∀ (x1 : (List Hit)) (x2 : Form) (r : (Hit × Bool)), m_impl_FindHit fuel x1 x2 = some r → AC Try.prog 49 [.t (.sl (x1.map Hit.row)), .ag [.t (.sc (.int .i64 x2.kind)), .t (.sc (.str x2.name)), .t (.sc (.int .i64 x2.n)), .t (.sl (x2.scopes.map rI)), .t (.sl (x2.kids.map Form.row))]] (objs []) (.tp [.ag [.t (.sc (.int .i64 r.1.name.kind)), .t (.sc (.str r.1.name.name)), .t (.sc (.int .i64 r.1.name.n)), .ar 9203, .ar 9204, .t (.sc (.int .i64 r.1.depth)), .t (.sc (.int .i64 r.1.one.kind)), .t (.sc (.str r.1.one.name)), .t (.sc (.int .i64 r.1.one.n)), .ar 9209, .ar 9210, .ar 9211], .t (.sc (.bool r.2))]) (objs [(9203, .arr (r.1.name.scopes.map rI) 3 true), (9204, .dar (r.1.name.kids.map (Form.rowD 3 34)) 34), (9209, .arr (r.1.one.scopes.map rI) 3 true), (9210, .dar (r.1.one.kids.map (Form.rowD 3 34)) 34), (9211, .dar (r.1.many.map (Hit.rowD 3 34 65)) 65)])
theorem m_impl_FindHit_D_ok (fuel : Nat) : m_impl_FindHit_D_AC fuel := by
 intro x1 x2 r hF0
 unfold m_impl_FindHit at hF0
 refine AC_i [.ag [.t (.sc (.int .i64 r.1.name.kind)), .t (.sc (.str r.1.name.name)), .t (.sc (.int .i64 r.1.name.n)), .ar 9203, .ar 9204, .t (.sc (.int .i64 r.1.depth)), .t (.sc (.int .i64 r.1.one.kind)), .t (.sc (.str r.1.one.name)), .t (.sc (.int .i64 r.1.one.n)), .ar 9209, .ar 9210, .ar 9211], .t (.sc (.bool r.2))] Try.func49 rfl Try.ntmps49 ?_
 intro C hC
 refine awp_seq (awp_region ?_)
 refine s_box ?_
 refine s_alloc yZ65 ?_
 refine s_as ?_
 refine k_nil (k_seq (awp_seq (awp_region ?_)))
 refine s_mv ?_
 refine s_ldW yA34 yS34 ?_
 obtain ⟨v1, hv1, hF1⟩ := bind_some' hF0
 refine s_pure [] (m_impl_hitAt_ok fuel _ _ _ hv1) ?_
 refine s_as ?_
 refine k_nil (k_seq (awp_seq ?_))
 refine awp_jn (α := Nat × Bool) [10, 11, 12, 13, 14, 15, 16] [] [] (fun a => [(16, .t (.sc (.bool a.2)))]) (fun a => []) (fun a => a.1 ≤ fuel ∧ m_impl_FindHit_j1 a.1 x1 v1 a.2 = some r) ?_ ?_
 refine awp_region ?_
 refine s_mv ?_
 obtain ⟨v2, hv2, hF2⟩ := bind_some' hF1
 refine s_pure [] (m_impl_HitsValid_ok fuel _ _ hv2) ?_
 refine s_not ?_
 refine s_mv ?_
 refine w_guard _ 13 hF2 ?_ ?_ <;> intro hc3 hF3
 refine r_no rfl (r_no rfl ?_)
 refine s_pkt ?_
 refine k_nil ?_
 exact s_jn (fuel, true) ⟨by first | omega | (dsimp only; omega), hF3⟩
 refine s_mv ?_
 refine s_lt ?_
 refine s_pkf ?_
 refine k_nil ?_
 exact s_jn (fuel, (decide (v1 < 0))) ⟨by first | omega | (dsimp only; omega), hF3⟩
 clear hF1
 rintro ⟨fu, g4⟩ ⟨hl5, hF2⟩
 dsimp only at hl5 hF2 ⊢
 obtain _ | fu := fu
 · rw [m_impl_FindHit_j1] at hF2; cases hF2
 rw [m_impl_FindHit_j1] at hF2
 refine w_cond hF2 ?_ ?_ <;> intro hc6 hF3
 refine awp_seq (awp_region ?_)
 refine s_bld yZ65 yL65 ?_
 refine s_stW yS65 ?_
 refine s_as ?_
 refine k_nil (k_seq ?_)
 refine awp_ownB 4 9203 3 [.t (.sc (.int .i64 0)), .t (.sc (.str (⟨#[]⟩ : ByteArray))), .t (.sc (.int .i64 0)), .ar 9203, .nl, .t (.sc (.int .i64 0)), .t (.sc (.int .i64 0)), .t (.sc (.str (⟨#[]⟩ : ByteArray))), .t (.sc (.int .i64 0)), .nl, .nl, .nl] yI3.choose_spec ?_
 refine awp_ownB 4 9204 34 [.t (.sc (.int .i64 0)), .t (.sc (.str (⟨#[]⟩ : ByteArray))), .t (.sc (.int .i64 0)), .ar 9203, .ar 9204, .t (.sc (.int .i64 0)), .t (.sc (.int .i64 0)), .t (.sc (.str (⟨#[]⟩ : ByteArray))), .t (.sc (.int .i64 0)), .nl, .nl, .nl] yI34.choose_spec ?_
 refine awp_toD 9204 (Form.rowD 3 34) (es := ([] : List Form).map Form.row) (by (conv => lhs; whnf) <;> rfl) rfl ?_
 refine awp_ownB 4 9209 3 [.t (.sc (.int .i64 0)), .t (.sc (.str (⟨#[]⟩ : ByteArray))), .t (.sc (.int .i64 0)), .ar 9203, .ar 9204, .t (.sc (.int .i64 0)), .t (.sc (.int .i64 0)), .t (.sc (.str (⟨#[]⟩ : ByteArray))), .t (.sc (.int .i64 0)), .ar 9209, .nl, .nl] yI3.choose_spec ?_
 refine awp_ownB 4 9210 34 [.t (.sc (.int .i64 0)), .t (.sc (.str (⟨#[]⟩ : ByteArray))), .t (.sc (.int .i64 0)), .ar 9203, .ar 9204, .t (.sc (.int .i64 0)), .t (.sc (.int .i64 0)), .t (.sc (.str (⟨#[]⟩ : ByteArray))), .t (.sc (.int .i64 0)), .ar 9209, .ar 9210, .nl] yI34.choose_spec ?_
 refine awp_toD 9210 (Form.rowD 3 34) (es := ([] : List Form).map Form.row) (by (conv => lhs; whnf) <;> rfl) rfl ?_
 refine awp_ownB 4 9211 65 [.t (.sc (.int .i64 0)), .t (.sc (.str (⟨#[]⟩ : ByteArray))), .t (.sc (.int .i64 0)), .ar 9203, .ar 9204, .t (.sc (.int .i64 0)), .t (.sc (.int .i64 0)), .t (.sc (.str (⟨#[]⟩ : ByteArray))), .t (.sc (.int .i64 0)), .ar 9209, .ar 9210, .ar 9211] yI65.choose_spec ?_
 refine awp_toD 9211 (Hit.rowD 3 34 65) (es := ([] : List Hit).map Hit.row) (by (conv => lhs; whnf) <;> rfl) rfl ?_
 refine awp_ret (k_seq_ret (k_fin ?_))
 cases hF3
 exact ends_gen _ [] (by rw [Try.results49]; exact (res_agg (by conv => lhs; whnf) (by conv => lhs; whnf) yA65 yS65 rfl (res_tmp (by conv => lhs; whnf) res_nil)))
 refine awp_skip (k_seq (awp_seq (awp_region ?_)))
 refine s_mv ?_
 refine s_mv ?_
 obtain ⟨v7, hv7, hF4⟩ := bind_some' hF3
 refine s_ixT Hit.row hv7 (Hit.row_eq _) yE63 ?_
 refine s_ldN yA65 yS65 ?_
 obtain ⟨v8, hv8, hF5⟩ := bind_some' hF4
 refine s_call [(9203, 2022), (9204, 12022), (9209, 22022), (9210, 32022), (9211, 42022)] [] _ _ (m_impl_copyHit_D_ok fu _ _ hv8) ?_
 refine s_stW yS65 ?_
 refine s_as ?_
 refine k_nil (k_seq ?_)
 refine awp_mvB 4 2022 9203 [.t (.sc (.int .i64 v8.name.kind)), .t (.sc (.str v8.name.name)), .t (.sc (.int .i64 v8.name.n)), .ar 9203, .ar 12022, .t (.sc (.int .i64 v8.depth)), .t (.sc (.int .i64 v8.one.kind)), .t (.sc (.str v8.one.name)), .t (.sc (.int .i64 v8.one.n)), .ar 22022, .ar 32022, .ar 42022] ?_
 refine awp_mvBO 4 12022 9204 [.t (.sc (.int .i64 v8.name.kind)), .t (.sc (.str v8.name.name)), .t (.sc (.int .i64 v8.name.n)), .ar 9203, .ar 9204, .t (.sc (.int .i64 v8.depth)), .t (.sc (.int .i64 v8.one.kind)), .t (.sc (.str v8.one.name)), .t (.sc (.int .i64 v8.one.n)), .ar 22022, .ar 32022, .ar 42022] ?_
 refine awp_mvB 4 22022 9209 [.t (.sc (.int .i64 v8.name.kind)), .t (.sc (.str v8.name.name)), .t (.sc (.int .i64 v8.name.n)), .ar 9203, .ar 9204, .t (.sc (.int .i64 v8.depth)), .t (.sc (.int .i64 v8.one.kind)), .t (.sc (.str v8.one.name)), .t (.sc (.int .i64 v8.one.n)), .ar 9209, .ar 32022, .ar 42022] ?_
 refine awp_mvBO 4 32022 9210 [.t (.sc (.int .i64 v8.name.kind)), .t (.sc (.str v8.name.name)), .t (.sc (.int .i64 v8.name.n)), .ar 9203, .ar 9204, .t (.sc (.int .i64 v8.depth)), .t (.sc (.int .i64 v8.one.kind)), .t (.sc (.str v8.one.name)), .t (.sc (.int .i64 v8.one.n)), .ar 9209, .ar 9210, .ar 42022] ?_
 refine awp_mvBO 4 42022 9211 [.t (.sc (.int .i64 v8.name.kind)), .t (.sc (.str v8.name.name)), .t (.sc (.int .i64 v8.name.n)), .ar 9203, .ar 9204, .t (.sc (.int .i64 v8.depth)), .t (.sc (.int .i64 v8.one.kind)), .t (.sc (.str v8.one.name)), .t (.sc (.int .i64 v8.one.n)), .ar 9209, .ar 9210, .ar 9211] ?_
 refine awp_ret (k_fin ?_)
 cases hF5
 exact ends_gen _ [] (by rw [Try.results49]; exact (res_agg (by conv => lhs; whnf) (by conv => lhs; whnf) yA65 yS65 rfl (res_tmp (by conv => lhs; whnf) res_nil)))
def m_laws_heldForm_AC (fuel : Nat) : Prop := ∀ (x1 : Form) (x2 : Int) (r : Int), m_laws_heldForm fuel x1 x2 = some r → AC Try.prog 61 [.ag [.t (.sc (.int .i64 x1.kind)), .t (.sc (.str x1.name)), .t (.sc (.int .i64 x1.n)), .t (.sl (x1.scopes.map rI)), .t (.sl (x1.kids.map Form.row))], .t (.sc (.int .i64 x2))] noOb (.t (.sc (.int .i64 r))) noOb
theorem m_laws_heldForm_ok (fuel : Nat) : m_laws_heldForm_AC fuel := by
 intro x1 x2 r hF0
 unfold m_laws_heldForm at hF0
 refine AC_i [.t (.sc (.int .i64 r))] Try.func61 rfl Try.ntmps61 ?_
 intro C hC
 refine awp_seq (awp_region ?_)
 refine s_box ?_
 refine s_as ?_
 refine k_nil (k_seq (awp_seq (awp_region ?_)))
 refine s_fa yF34_3 ?_
 refine s_ld1 yA22 ?_
 refine s_mv ?_
 obtain ⟨v1, hv1, hF1⟩ := bind_some' hF0
 refine s_pure [] (m_laws_heldIntS_ok fuel _ _ _ hv1) ?_
 refine s_as ?_
 refine k_nil (k_seq (awp_seq (awp_seq (awp_region ?_))))
 refine s_mv ?_
 refine s_lt ?_
 refine k_nil (k_seq ?_)
 refine w_cond hF1 ?_ ?_ <;> intro hc2 hF2
 refine awp_seq (awp_region ?_)
 refine s_as ?_
 refine k_nil (k_seq (awp_ret (k_seq_ret (k_fin ?_))))
 cases hF2
 exact ends_a [] [] Try.results61
 refine awp_skip (k_seq (awp_seq (awp_region ?_)))
 refine s_fa yF34_4 ?_
 refine s_ld1 yA32 ?_
 refine s_mv ?_
 obtain ⟨v3, hv3, hF3⟩ := bind_some' hF2
 refine s_pure [] (m_laws_heldFormS_ok fuel _ _ _ hv3) ?_
 refine s_as ?_
 refine k_nil (k_seq (awp_seq (awp_seq (awp_region ?_))))
 refine s_mv ?_
 refine s_lt ?_
 refine k_nil (k_seq ?_)
 refine w_cond hF3 ?_ ?_ <;> intro hc4 hF4
 refine awp_seq (awp_region ?_)
 refine s_as ?_
 refine k_nil (k_seq (awp_ret (k_seq_ret (k_fin ?_))))
 cases hF4
 exact ends_a [] [] Try.results61
 refine awp_skip (k_seq (awp_seq (awp_region ?_)))
 refine s_mv ?_
 refine s_as ?_
 refine k_nil (k_seq (awp_ret (k_fin ?_)))
 cases hF4
 exact ends_a [] [] Try.results61
def m_laws_heldHitS_AC (fuel : Nat) : Prop := ∀ (x1 : (List Hit)) (x2 : Int) (r : Int), m_laws_heldHitS fuel x1 x2 = some r → AC Try.prog 96 [.t (.sl (x1.map Hit.row)), .t (.sc (.int .i64 x2))] noOb (.t (.sc (.int .i64 r))) noOb
theorem m_laws_heldHitS_st (fu : Nat) (ih_m_laws_heldHitS : ∀ k, k ≤ fu → m_laws_heldHitS_AC k) : m_laws_heldHitS_AC (fu + 1) := by
 intro x1 x2 r hF0
 rw [m_laws_heldHitS] at hF0
 refine AC_i [.t (.sc (.int .i64 r))] Try.func96 rfl Try.ntmps96 ?_
 intro C hC
 refine awp_seq (awp_region ?_)
 refine s_as ?_
 refine k_nil (k_seq (awp_seq (awp_seq (awp_region ?_))))
 refine s_as ?_
 refine k_nil (k_seq (awp_block ?_))
 refine awp_fr (β := Int × Int) [1, 4, 5, 6, 7, 8, 9, 10, 11, 12, 13, 14, 15, 16, 17, 18, 19, 20, 21, 22, 23, 24, 25, 26, 27, 28, 29, 30, 31, 32, 33, 34, 35, 36, 37, 38, 39, 40, 41, 42, 43, 44, 45, 46, 47, 48, 49, 50, 51, 52, 53, 54, 55, 56, 57, 58, 59, 60, 61, 62, 63, 64, 65, 66, 67, 68, 69, 70, 71, 72, 73, 74, 75, 76, 77, 78, 79, 80, 81, 82, 83, 84, 85, 86, 87, 88, 89, 90, 91, 92, 93, 94, 95, 96, 97, 98, 99, 100, 101, 102, 103, 104, 105, 106, 107, 108, 109, 110, 111, 112, 113, 114, 115, 116, 117, 118, 119, 120, 121, 122, 123, 124, 125, 126, 127, 128, 129, 130, 131] [] [] (fun a => [(1, .t (.sc (.int .i64 a.2.1))), (5, .t (.sc (.int .i64 a.2.2)))]) (fun a => []) (fun a => a.1 ≤ fu ∧ m_laws_heldHitS_l1 a.1 x1 a.2.1 a.2.2 = some r ∧ 0 ≤ a.2.2) (fu, x2, 0) ⟨Nat.le_refl _, hF0, by simp⟩ ?_
 clear hF0
 rintro ⟨fu, g1, g2⟩ ⟨hl3, hF1, hn_g2⟩
 dsimp only at hl3 hF1 hn_g2 ⊢
 obtain _ | fu := fu
 · rw [m_laws_heldHitS_l1] at hF1; cases hF1
 rw [m_laws_heldHitS_l1] at hF1
 refine awp_seq (awp_seq (awp_region ?_))
 refine s_mv ?_
 refine s_mv ?_
 refine s_lenT yU63 ?_
 refine s_lt ?_
 refine k_nil (k_seq ?_)
 refine w_cond hF1 ?_ ?_ <;> intro hc4 hF2
 refine awp_lenT 0 (fun hb5 => ?_)
 refine awp_skip (k_seq (awp_seq (awp_block (awp_seq (awp_seq (awp_region ?_))))))
 refine s_mv ?_
 refine s_mv ?_
 obtain ⟨v6, hv6, hF3⟩ := bind_some' hF2
 refine s_ixT Hit.row hv6 (Hit.row_eq _) yE63 ?_
 refine s_fa yF65_0 ?_
 refine s_fa yF34_0 ?_
 refine s_ld1 yA3 ?_
 refine s_mv ?_
 refine s_ne ?_
 refine k_nil (k_seq ?_)
 refine w_cond hF3 ?_ ?_ <;> intro hc7 hF4
 refine awp_seq (awp_region ?_)
 refine s_as ?_
 refine k_nil (k_seq (awp_ret (k_seq_ret (k_blk_ret (k_seq_ret (k_rnd_ret2 (k_blk_ret (k_seq_ret (k_fin ?_)))))))))
 cases hF4
 exact ends_a [] [] Try.results96
 refine awp_skip (k_seq (awp_seq (awp_region ?_)))
 refine s_mv ?_
 refine s_add rfl ?_
 refine s_as ?_
 refine k_nil (k_seq (awp_seq (awp_seq ?_)))
 refine awp_draw yMix (by kernel_rfl) ?_
 refine s_mv ?_
 refine s_mv ?_
 obtain ⟨v8, hv8, hF5⟩ := bind_some' hF4
 refine s_ixT Hit.row hv8 (Hit.row_eq _) yE63 ?_
 refine s_fa yF65_0 ?_
 refine s_fa yF34_1 ?_
 refine s_ld1 yA9 ?_
 refine s_mv ?_
 obtain ⟨v9, hv9, hF6⟩ := bind_some' hF5
 refine s_pure [] (m_laws_markText_D_ok fu _ _ hv9) ?_
 refine s_neS ?_
 refine k_nilD (by kernel_rfl) ?_
 refine k_seq ?_
 refine w_cond hF6 ?_ ?_ <;> intro hc10 hF7
 refine awp_seq (awp_region ?_)
 refine s_as ?_
 refine k_nil (k_seq (awp_ret (k_seq_ret (k_blk_ret (k_seq_ret (k_rnd_ret2 (k_blk_ret (k_seq_ret (k_fin ?_)))))))))
 cases hF7
 exact ends_a [] [] Try.results96
 refine awp_skip (k_seq (awp_seq (awp_region ?_)))
 refine s_mv ?_
 refine s_add rfl ?_
 refine s_as ?_
 refine k_nil (k_seq (awp_seq (awp_seq (awp_region ?_))))
 refine s_mv ?_
 refine s_mv ?_
 obtain ⟨v11, hv11, hF8⟩ := bind_some' hF7
 refine s_ixT Hit.row hv11 (Hit.row_eq _) yE63 ?_
 refine s_fa yF65_0 ?_
 refine s_fa yF34_2 ?_
 refine s_ld1 yA3 ?_
 refine s_mv ?_
 refine s_ne ?_
 refine k_nil (k_seq ?_)
 refine w_cond hF8 ?_ ?_ <;> intro hc12 hF9
 refine awp_seq (awp_region ?_)
 refine s_as ?_
 refine k_nil (k_seq (awp_ret (k_seq_ret (k_blk_ret (k_seq_ret (k_rnd_ret2 (k_blk_ret (k_seq_ret (k_fin ?_)))))))))
 cases hF9
 exact ends_a [] [] Try.results96
 refine awp_skip (k_seq (awp_seq (awp_region ?_)))
 refine s_mv ?_
 refine s_add rfl ?_
 refine s_as ?_
 refine k_nil (k_seq (awp_seq (awp_region ?_)))
 refine s_mv ?_
 refine s_mv ?_
 obtain ⟨v13, hv13, hF10⟩ := bind_some' hF9
 refine s_ixT Hit.row hv13 (Hit.row_eq _) yE63 ?_
 refine s_fa yF65_0 ?_
 refine s_fa yF34_3 ?_
 refine s_ld1 yA22 ?_
 refine s_mv ?_
 obtain ⟨v14, hv14, hF11⟩ := bind_some' hF10
 refine s_pure [] (m_laws_heldIntS_ok fu _ _ _ hv14) ?_
 refine s_as ?_
 refine k_nil (k_seq (awp_seq (awp_seq (awp_region ?_))))
 refine s_mv ?_
 refine s_lt ?_
 refine k_nil (k_seq ?_)
 refine w_cond hF11 ?_ ?_ <;> intro hc15 hF12
 refine awp_seq (awp_region ?_)
 refine s_as ?_
 refine k_nil (k_seq (awp_ret (k_seq_ret (k_blk_ret (k_seq_ret (k_rnd_ret2 (k_blk_ret (k_seq_ret (k_fin ?_)))))))))
 cases hF12
 exact ends_a [] [] Try.results96
 refine awp_skip (k_seq (awp_seq (awp_region ?_)))
 refine s_mv ?_
 refine s_mv ?_
 obtain ⟨v16, hv16, hF13⟩ := bind_some' hF12
 refine s_ixT Hit.row hv16 (Hit.row_eq _) yE63 ?_
 refine s_fa yF65_0 ?_
 refine s_fa yF34_4 ?_
 refine s_ld1 yA32 ?_
 refine s_mv ?_
 obtain ⟨v17, hv17, hF14⟩ := bind_some' hF13
 refine s_pure [] (m_laws_heldFormS_ok fu _ _ _ hv17) ?_
 refine s_as ?_
 refine k_nil (k_seq (awp_seq (awp_seq (awp_region ?_))))
 refine s_mv ?_
 refine s_lt ?_
 refine k_nil (k_seq ?_)
 refine w_cond hF14 ?_ ?_ <;> intro hc18 hF15
 refine awp_seq (awp_region ?_)
 refine s_as ?_
 refine k_nil (k_seq (awp_ret (k_seq_ret (k_blk_ret (k_seq_ret (k_rnd_ret2 (k_blk_ret (k_seq_ret (k_fin ?_)))))))))
 cases hF15
 exact ends_a [] [] Try.results96
 refine awp_skip (k_seq (awp_seq (awp_seq (awp_region ?_))))
 refine s_mv ?_
 refine s_mv ?_
 obtain ⟨v19, hv19, hF16⟩ := bind_some' hF15
 refine s_ixT Hit.row hv19 (Hit.row_eq _) yE63 ?_
 refine s_fa yF65_1 ?_
 refine s_ld1 yA3 ?_
 refine s_mv ?_
 refine s_ne ?_
 refine k_nil (k_seq ?_)
 refine w_cond hF16 ?_ ?_ <;> intro hc20 hF17
 refine awp_seq (awp_region ?_)
 refine s_as ?_
 refine k_nil (k_seq (awp_ret (k_seq_ret (k_blk_ret (k_seq_ret (k_rnd_ret2 (k_blk_ret (k_seq_ret (k_fin ?_)))))))))
 cases hF17
 exact ends_a [] [] Try.results96
 refine awp_skip (k_seq (awp_seq (awp_region ?_)))
 refine s_mv ?_
 refine s_add rfl ?_
 refine s_as ?_
 refine k_nil (k_seq (awp_seq (awp_seq (awp_region ?_))))
 refine s_mv ?_
 refine s_mv ?_
 obtain ⟨v21, hv21, hF18⟩ := bind_some' hF17
 refine s_ixT Hit.row hv21 (Hit.row_eq _) yE63 ?_
 refine s_fa yF65_2 ?_
 refine s_fa yF34_0 ?_
 refine s_ld1 yA3 ?_
 refine s_mv ?_
 refine s_ne ?_
 refine k_nil (k_seq ?_)
 refine w_cond hF18 ?_ ?_ <;> intro hc22 hF19
 refine awp_seq (awp_region ?_)
 refine s_as ?_
 refine k_nil (k_seq (awp_ret (k_seq_ret (k_blk_ret (k_seq_ret (k_rnd_ret2 (k_blk_ret (k_seq_ret (k_fin ?_)))))))))
 cases hF19
 exact ends_a [] [] Try.results96
 refine awp_skip (k_seq (awp_seq (awp_region ?_)))
 refine s_mv ?_
 refine s_add rfl ?_
 refine s_as ?_
 refine k_nil (k_seq (awp_seq (awp_seq ?_)))
 refine awp_draw yMix (by kernel_rfl) ?_
 refine s_mv ?_
 refine s_mv ?_
 obtain ⟨v23, hv23, hF20⟩ := bind_some' hF19
 refine s_ixT Hit.row hv23 (Hit.row_eq _) yE63 ?_
 refine s_fa yF65_2 ?_
 refine s_fa yF34_1 ?_
 refine s_ld1 yA9 ?_
 refine s_mv ?_
 obtain ⟨v24, hv24, hF21⟩ := bind_some' hF20
 refine s_pure [] (m_laws_markText_D_ok fu _ _ hv24) ?_
 refine s_neS ?_
 refine k_nilD (by kernel_rfl) ?_
 refine k_seq ?_
 refine w_cond hF21 ?_ ?_ <;> intro hc25 hF22
 refine awp_seq (awp_region ?_)
 refine s_as ?_
 refine k_nil (k_seq (awp_ret (k_seq_ret (k_blk_ret (k_seq_ret (k_rnd_ret2 (k_blk_ret (k_seq_ret (k_fin ?_)))))))))
 cases hF22
 exact ends_a [] [] Try.results96
 refine awp_skip (k_seq (awp_seq (awp_region ?_)))
 refine s_mv ?_
 refine s_add rfl ?_
 refine s_as ?_
 refine k_nil (k_seq (awp_seq (awp_seq (awp_region ?_))))
 refine s_mv ?_
 refine s_mv ?_
 obtain ⟨v26, hv26, hF23⟩ := bind_some' hF22
 refine s_ixT Hit.row hv26 (Hit.row_eq _) yE63 ?_
 refine s_fa yF65_2 ?_
 refine s_fa yF34_2 ?_
 refine s_ld1 yA3 ?_
 refine s_mv ?_
 refine s_ne ?_
 refine k_nil (k_seq ?_)
 refine w_cond hF23 ?_ ?_ <;> intro hc27 hF24
 refine awp_seq (awp_region ?_)
 refine s_as ?_
 refine k_nil (k_seq (awp_ret (k_seq_ret (k_blk_ret (k_seq_ret (k_rnd_ret2 (k_blk_ret (k_seq_ret (k_fin ?_)))))))))
 cases hF24
 exact ends_a [] [] Try.results96
 refine awp_skip (k_seq (awp_seq (awp_region ?_)))
 refine s_mv ?_
 refine s_add rfl ?_
 refine s_as ?_
 refine k_nil (k_seq (awp_seq (awp_region ?_)))
 refine s_mv ?_
 refine s_mv ?_
 obtain ⟨v28, hv28, hF25⟩ := bind_some' hF24
 refine s_ixT Hit.row hv28 (Hit.row_eq _) yE63 ?_
 refine s_fa yF65_2 ?_
 refine s_fa yF34_3 ?_
 refine s_ld1 yA22 ?_
 refine s_mv ?_
 obtain ⟨v29, hv29, hF26⟩ := bind_some' hF25
 refine s_pure [] (m_laws_heldIntS_ok fu _ _ _ hv29) ?_
 refine s_as ?_
 refine k_nil (k_seq (awp_seq (awp_seq (awp_region ?_))))
 refine s_mv ?_
 refine s_lt ?_
 refine k_nil (k_seq ?_)
 refine w_cond hF26 ?_ ?_ <;> intro hc30 hF27
 refine awp_seq (awp_region ?_)
 refine s_as ?_
 refine k_nil (k_seq (awp_ret (k_seq_ret (k_blk_ret (k_seq_ret (k_rnd_ret2 (k_blk_ret (k_seq_ret (k_fin ?_)))))))))
 cases hF27
 exact ends_a [] [] Try.results96
 refine awp_skip (k_seq (awp_seq (awp_region ?_)))
 refine s_mv ?_
 refine s_mv ?_
 obtain ⟨v31, hv31, hF28⟩ := bind_some' hF27
 refine s_ixT Hit.row hv31 (Hit.row_eq _) yE63 ?_
 refine s_fa yF65_2 ?_
 refine s_fa yF34_4 ?_
 refine s_ld1 yA32 ?_
 refine s_mv ?_
 obtain ⟨v32, hv32, hF29⟩ := bind_some' hF28
 refine s_pure [] (m_laws_heldFormS_ok fu _ _ _ hv32) ?_
 refine s_as ?_
 refine k_nil (k_seq (awp_seq (awp_seq (awp_region ?_))))
 refine s_mv ?_
 refine s_lt ?_
 refine k_nil (k_seq ?_)
 refine w_cond hF29 ?_ ?_ <;> intro hc33 hF30
 refine awp_seq (awp_region ?_)
 refine s_as ?_
 refine k_nil (k_seq (awp_ret (k_seq_ret (k_blk_ret (k_seq_ret (k_rnd_ret2 (k_blk_ret (k_seq_ret (k_fin ?_)))))))))
 cases hF30
 exact ends_a [] [] Try.results96
 refine awp_skip (k_seq (awp_seq (awp_region ?_)))
 refine s_mv ?_
 refine s_mv ?_
 obtain ⟨v34, hv34, hF31⟩ := bind_some' hF30
 refine s_ixT Hit.row hv34 (Hit.row_eq _) yE63 ?_
 refine s_fa yF65_3 ?_
 refine s_ld1 yA63 ?_
 refine s_mv ?_
 obtain ⟨v35, hv35, hF32⟩ := bind_some' hF31
 refine s_pure [] (ih_m_laws_heldHitS fu (by omega) _ _ _ hv35) ?_
 refine s_as ?_
 refine k_nil (k_seq (awp_seq (awp_region ?_)))
 refine s_mv ?_
 refine s_lt ?_
 refine k_nil (k_seq ?_)
 refine w_cond hF32 ?_ ?_ <;> intro hc36 hF33
 refine awp_seq (awp_region ?_)
 refine s_as ?_
 refine k_nil (k_seq (awp_ret (k_blk_ret (k_seq_ret (k_rnd_ret2 (k_blk_ret (k_seq_ret (k_fin ?_))))))))
 cases hF33
 exact ends_a [] [] Try.results96
 refine awp_skip (k_blk (k_seq (awp_region ?_)))
 refine s_mv ?_
 refine s_add (winc2 hc4 hb5 hn_g2) ?_
 refine s_as ?_
 refine k_nil ?_
 exact s_rn (fu, v35, (g2 + 1)) ⟨by first | omega | (dsimp only; omega), hF33, by first | omega | (dsimp only; omega)⟩
 refine awp_exit (k_seq_exit (k_rnd_exit2 (k_blk_exit (k_seq (awp_seq (awp_region ?_))))))
 refine s_mv ?_
 refine s_as ?_
 refine k_nil (k_seq (awp_ret (k_fin ?_)))
 cases hF2
 exact ends_a [] [] Try.results96
theorem m_laws_heldHitS_all (fuel : Nat) : m_laws_heldHitS_AC fuel := by
 induction fuel using Nat.strongRecOn with
 | _ N ih =>
   cases N with
   | zero => exact (by intro x1 x2 r h; rw [m_laws_heldHitS] at h; cases h)
   | succ fu => exact m_laws_heldHitS_st fu (fun k hk => (ih k (by omega)))
theorem m_laws_heldHitS_ok (fuel : Nat) : m_laws_heldHitS_AC fuel := (m_laws_heldHitS_all fuel)
def m_laws_heldHit_AC (fuel : Nat) : Prop := ∀ (x1 : Hit) (x2 : Int) (r : Int), m_laws_heldHit fuel x1 x2 = some r → AC Try.prog 52 [.ag [.t (.sc (.int .i64 x1.name.kind)), .t (.sc (.str x1.name.name)), .t (.sc (.int .i64 x1.name.n)), .t (.sl (x1.name.scopes.map rI)), .t (.sl (x1.name.kids.map Form.row)), .t (.sc (.int .i64 x1.depth)), .t (.sc (.int .i64 x1.one.kind)), .t (.sc (.str x1.one.name)), .t (.sc (.int .i64 x1.one.n)), .t (.sl (x1.one.scopes.map rI)), .t (.sl (x1.one.kids.map Form.row)), .t (.sl (x1.many.map Hit.row))], .t (.sc (.int .i64 x2))] noOb (.t (.sc (.int .i64 r))) noOb
theorem m_laws_heldHit_ok (fuel : Nat) : m_laws_heldHit_AC fuel := by
 intro x1 x2 r hF0
 unfold m_laws_heldHit at hF0
 refine AC_i [.t (.sc (.int .i64 r))] Try.func52 rfl Try.ntmps52 ?_
 intro C hC
 refine awp_seq (awp_region ?_)
 refine s_box ?_
 refine s_as ?_
 refine k_nil (k_seq (awp_seq (awp_region ?_)))
 refine s_fa yF65_0 ?_
 refine s_ldN yA34 yS34 ?_
 refine s_mv ?_
 obtain ⟨v1, hv1, hF1⟩ := bind_some' hF0
 refine s_pure [] (m_laws_heldForm_ok fuel _ _ _ hv1) ?_
 refine s_as ?_
 refine k_nil (k_seq (awp_seq (awp_seq (awp_region ?_))))
 refine s_mv ?_
 refine s_lt ?_
 refine k_nil (k_seq ?_)
 refine w_cond hF1 ?_ ?_ <;> intro hc2 hF2
 refine awp_seq (awp_region ?_)
 refine s_as ?_
 refine k_nil (k_seq (awp_ret (k_seq_ret (k_fin ?_))))
 cases hF2
 exact ends_a [] [] Try.results52
 refine awp_skip (k_seq (awp_seq (awp_region ?_)))
 refine s_fa yF65_2 ?_
 refine s_ldN yA34 yS34 ?_
 refine s_mv ?_
 obtain ⟨v3, hv3, hF3⟩ := bind_some' hF2
 refine s_pure [] (m_laws_heldForm_ok fuel _ _ _ hv3) ?_
 refine s_as ?_
 refine k_nil (k_seq (awp_seq (awp_seq (awp_region ?_))))
 refine s_mv ?_
 refine s_lt ?_
 refine k_nil (k_seq ?_)
 refine w_cond hF3 ?_ ?_ <;> intro hc4 hF4
 refine awp_seq (awp_region ?_)
 refine s_as ?_
 refine k_nil (k_seq (awp_ret (k_seq_ret (k_fin ?_))))
 cases hF4
 exact ends_a [] [] Try.results52
 refine awp_skip (k_seq (awp_seq (awp_region ?_)))
 refine s_fa yF65_3 ?_
 refine s_ld1 yA63 ?_
 refine s_mv ?_
 obtain ⟨v5, hv5, hF5⟩ := bind_some' hF4
 refine s_pure [] (m_laws_heldHitS_ok fuel _ _ _ hv5) ?_
 refine s_as ?_
 refine k_nil (k_seq (awp_seq (awp_seq (awp_region ?_))))
 refine s_mv ?_
 refine s_lt ?_
 refine k_nil (k_seq ?_)
 refine w_cond hF5 ?_ ?_ <;> intro hc6 hF6
 refine awp_seq (awp_region ?_)
 refine s_as ?_
 refine k_nil (k_seq (awp_ret (k_seq_ret (k_fin ?_))))
 cases hF6
 exact ends_a [] [] Try.results52
 refine awp_skip (k_seq (awp_seq (awp_region ?_)))
 refine s_mv ?_
 refine s_as ?_
 refine k_nil (k_seq (awp_ret (k_fin ?_)))
 cases hF6
 exact ends_a [] [] Try.results52
def m_impl_copyHit_AC (fuel : Nat) : Prop := ∀ (x1 : Hit) (r : Hit), m_impl_copyHit fuel x1 = some r → AC Try.prog 95 [.ag [.t (.sc (.int .i64 x1.name.kind)), .t (.sc (.str x1.name.name)), .t (.sc (.int .i64 x1.name.n)), .t (.sl (x1.name.scopes.map rI)), .t (.sl (x1.name.kids.map Form.row)), .t (.sc (.int .i64 x1.depth)), .t (.sc (.int .i64 x1.one.kind)), .t (.sc (.str x1.one.name)), .t (.sc (.int .i64 x1.one.n)), .t (.sl (x1.one.scopes.map rI)), .t (.sl (x1.one.kids.map Form.row)), .t (.sl (x1.many.map Hit.row))]] noOb (.ag [.t (.sc (.int .i64 r.name.kind)), .t (.sc (.str r.name.name)), .t (.sc (.int .i64 r.name.n)), .t (.sl (r.name.scopes.map rI)), .t (.sl (r.name.kids.map Form.row)), .t (.sc (.int .i64 r.depth)), .t (.sc (.int .i64 r.one.kind)), .t (.sc (.str r.one.name)), .t (.sc (.int .i64 r.one.n)), .t (.sl (r.one.scopes.map rI)), .t (.sl (r.one.kids.map Form.row)), .t (.sl (r.many.map Hit.row))]) noOb
theorem m_impl_copyHit_st (fu : Nat) (ih_m_impl_copyHit : ∀ k, k ≤ fu → m_impl_copyHit_AC k) : m_impl_copyHit_AC (fu + 1) := by
 intro x1 r hF0
 rw [m_impl_copyHit] at hF0
 refine AC_i [.ag [.t (.sc (.int .i64 r.name.kind)), .t (.sc (.str r.name.name)), .t (.sc (.int .i64 r.name.n)), .t (.sl (r.name.scopes.map rI)), .t (.sl (r.name.kids.map Form.row)), .t (.sc (.int .i64 r.depth)), .t (.sc (.int .i64 r.one.kind)), .t (.sc (.str r.one.name)), .t (.sc (.int .i64 r.one.n)), .t (.sl (r.one.scopes.map rI)), .t (.sl (r.one.kids.map Form.row)), .t (.sl (r.many.map Hit.row))]] Try.func95 rfl Try.ntmps95 ?_
 intro C hC
 refine awp_seq (awp_region ?_)
 refine s_box ?_
 refine s_alloc yZ65 ?_
 refine k_nil (k_seq (awp_seq ?_))
 refine awp_draw yMix (by kernel_rfl) ?_
 refine s_fa yF65_0 ?_
 refine s_ldN yA34 yS34 ?_
 obtain ⟨v1, hv1, hF1⟩ := bind_some' hF0
 refine s_pure [] (m_impl_copyForm_ok fu _ _ hv1) ?_
 refine s_fa yF65_1 ?_
 refine s_ld1 yA3 ?_
 refine s_fa yF65_2 ?_
 refine s_ldN yA34 yS34 ?_
 obtain ⟨v2, hv2, hF2⟩ := bind_some' hF1
 refine s_pure [] (m_impl_copyForm_ok fu _ _ hv2) ?_
 refine s_bld yZ65 yL65 ?_
 refine s_alloc yZ65 ?_
 refine s_stW yS65 ?_
 refine k_nilD (by kernel_rfl) ?_
 refine k_seq (awp_seq (awp_seq (awp_region ?_)))
 refine s_fa yF65_3 ?_
 refine s_ld1 yA63 ?_
 refine s_lenT yU63 ?_
 refine s_mv ?_
 refine k_nil (k_seq (awp_block ?_))
 refine awp_ownB 3 5020 65 [.t (.sc (.int .i64 v1.kind)), .t (.sc (.str v1.name)), .t (.sc (.int .i64 v1.n)), .t (.sl (v1.scopes.map rI)), .t (.sl (v1.kids.map Form.row)), .t (.sc (.int .i64 x1.depth)), .t (.sc (.int .i64 v2.kind)), .t (.sc (.str v2.name)), .t (.sc (.int .i64 v2.n)), .t (.sl (v2.scopes.map rI)), .t (.sl (v2.kids.map Form.row)), .ar 5020] yI65.choose_spec ?_
 refine awp_frame2 [5, 18, 19, 20, 21, 22, 23, 24, 25, 26, 27, 28, 29] [3, 5020] [5, 26, 27] [5020] (fun a : Nat × Int × (List Hit) => a.1) (fun a : Nat × Int × (List Hit) => [(18, .t (.sc (.int .i64 a.2.1)))]) (fun a : Nat × Int × (List Hit) => [(3, .box [.t (.sc (.int .i64 v1.kind)), .t (.sc (.str v1.name)), .t (.sc (.int .i64 v1.n)), .t (.sl (v1.scopes.map rI)), .t (.sl (v1.kids.map Form.row)), .t (.sc (.int .i64 x1.depth)), .t (.sc (.int .i64 v2.kind)), .t (.sc (.str v2.name)), .t (.sc (.int .i64 v2.n)), .t (.sl (v2.scopes.map rI)), .t (.sl (v2.kids.map Form.row)), .ar 5020]), (5020, .arr (a.2.2.map Hit.row) 65 true)]) (fun a : Nat × Int × (List Hit) => a.1 ≤ fu ∧ m_impl_copyHit_l1 a.1 x1 v1 v2 a.2.1 a.2.2 = some r ∧ 0 ≤ a.2.1) (fu, 0, ([] : List Hit)) ⟨Nat.le_refl _, hF2, by simp⟩ (by rfl) (by rfl) (fun _ => rfl) (hasF_cons (by conv => lhs; whnf) (by rfl) hasF_nil) (hasO_cons (by conv => lhs; whnf) (by rfl) (hasO_cons (by conv => lhs; whnf) (by rfl) hasO_nil)) (fresh_C hC rfl) (by repeat (first | exact freshS_args rfl | refine freshS_upd rfl ?_ | refine freshS_frame rfl ?_)) (by repeat (first | exact freshM_no | exact objs_fresh rfl | refine freshM_upd rfl ?_ | refine freshM_frame rfl ?_)) ?_
 clear hF2
 rintro ⟨fu, g3, g4⟩ ⟨hl5, hF3, hn_g3⟩
 dsimp only at hl5 hF3 hn_g3 ⊢
 obtain _ | fu := fu
 · rw [m_impl_copyHit_l1] at hF3; cases hF3
 rw [m_impl_copyHit_l1] at hF3
 refine awp_seq (awp_region ?_)
 refine s_lt ?_
 refine k_nil (k_seq (awp_seq ?_))
 refine w_cond hF3 ?_ ?_ <;> intro hc6 hF4
 refine awp_lenT 16 (fun hb7 => ?_)
 refine awp_skip (k_seq (awp_seq (awp_block (awp_seq (awp_region ?_)))))
 obtain ⟨v8, hv8, hF5⟩ := bind_some' hF4
 refine s_ixT Hit.row hv8 (Hit.row_eq _) yE63 ?_
 refine s_ldN yA65 yS65 ?_
 refine s_alloc yZ65 ?_
 refine s_stW yS65 ?_
 refine k_nil (k_seq ?_)
 refine awp_draw yMix (by kernel_rfl) ?_
 refine s_fa yF65_3 ?_
 refine s_ld1 yA63 ?_
 refine s_ldW yA65 yS65 ?_
 obtain ⟨v9, hv9, hF6⟩ := bind_some' hF5
 refine s_pure [] (ih_m_impl_copyHit fu (by omega) _ _ hv9) ?_
 refine s_bs Hit.row [v9] yP63 yR65 ?_
 obtain ⟨hk10, hF7⟩ := chk_some hF6
 refine s_apT Hit.row (fun y => Hit.row_len y) hk10 yP63 ?_
 refine s_fa yF65_3 ?_
 refine s_stP yS63 ?_
 refine k_nilD (by kernel_rfl) ?_
 refine k_blk (k_seq (awp_region ?_))
 refine s_add (winc2 hc6 hb7 hn_g3) ?_
 refine s_mv ?_
 refine k_nil ?_
 exact s_rn (fu, (g3 + 1), (g4 ++ [v9])) ⟨by first | omega | (dsimp only; omega), hF7, by first | omega | (dsimp only; omega)⟩ [(5020, 27)]
 refine awp_exit (k_seq_exit (k_rnd_exit2 (k_blk_exit (k_seq (awp_seq (awp_region ?_))))))
 refine s_ldW yA65 yS65 ?_
 refine s_stW yS65 ?_
 refine k_nil (k_seq (awp_ret (k_fin ?_)))
 cases hF4
 exact ends_gen [] [5020] (by rw [Try.results95]; exact (res_agg (by conv => lhs; whnf) (by conv => lhs; whnf) yA65 yS65 rfl res_nil))
theorem m_impl_copyHit_all (fuel : Nat) : m_impl_copyHit_AC fuel := by
 induction fuel using Nat.strongRecOn with
 | _ N ih =>
   cases N with
   | zero => exact (by intro x1 r h; rw [m_impl_copyHit] at h; cases h)
   | succ fu => exact m_impl_copyHit_st fu (fun k hk => (ih k (by omega)))
theorem m_impl_copyHit_ok (fuel : Nat) : m_impl_copyHit_AC fuel := (m_impl_copyHit_all fuel)
def m_impl_FindHit_AC (fuel : Nat) : Prop := ∀ (x1 : (List Hit)) (x2 : Form) (r : (Hit × Bool)), m_impl_FindHit fuel x1 x2 = some r → AC Try.prog 49 [.t (.sl (x1.map Hit.row)), .ag [.t (.sc (.int .i64 x2.kind)), .t (.sc (.str x2.name)), .t (.sc (.int .i64 x2.n)), .t (.sl (x2.scopes.map rI)), .t (.sl (x2.kids.map Form.row))]] noOb (.tp [.ag [.t (.sc (.int .i64 r.1.name.kind)), .t (.sc (.str r.1.name.name)), .t (.sc (.int .i64 r.1.name.n)), .t (.sl (r.1.name.scopes.map rI)), .t (.sl (r.1.name.kids.map Form.row)), .t (.sc (.int .i64 r.1.depth)), .t (.sc (.int .i64 r.1.one.kind)), .t (.sc (.str r.1.one.name)), .t (.sc (.int .i64 r.1.one.n)), .t (.sl (r.1.one.scopes.map rI)), .t (.sl (r.1.one.kids.map Form.row)), .t (.sl (r.1.many.map Hit.row))], .t (.sc (.bool r.2))]) noOb
theorem m_impl_FindHit_ok (fuel : Nat) : m_impl_FindHit_AC fuel := by
 intro x1 x2 r hF0
 unfold m_impl_FindHit at hF0
 refine AC_i [.ag [.t (.sc (.int .i64 r.1.name.kind)), .t (.sc (.str r.1.name.name)), .t (.sc (.int .i64 r.1.name.n)), .t (.sl (r.1.name.scopes.map rI)), .t (.sl (r.1.name.kids.map Form.row)), .t (.sc (.int .i64 r.1.depth)), .t (.sc (.int .i64 r.1.one.kind)), .t (.sc (.str r.1.one.name)), .t (.sc (.int .i64 r.1.one.n)), .t (.sl (r.1.one.scopes.map rI)), .t (.sl (r.1.one.kids.map Form.row)), .t (.sl (r.1.many.map Hit.row))], .t (.sc (.bool r.2))] Try.func49 rfl Try.ntmps49 ?_
 intro C hC
 refine awp_seq (awp_region ?_)
 refine s_box ?_
 refine s_alloc yZ65 ?_
 refine s_as ?_
 refine k_nil (k_seq (awp_seq (awp_region ?_)))
 refine s_mv ?_
 refine s_ldW yA34 yS34 ?_
 obtain ⟨v1, hv1, hF1⟩ := bind_some' hF0
 refine s_pure [] (m_impl_hitAt_ok fuel _ _ _ hv1) ?_
 refine s_as ?_
 refine k_nil (k_seq (awp_seq ?_))
 refine awp_jn (α := Nat × Bool) [10, 11, 12, 13, 14, 15, 16] [] [] (fun a => [(16, .t (.sc (.bool a.2)))]) (fun a => []) (fun a => a.1 ≤ fuel ∧ m_impl_FindHit_j1 a.1 x1 v1 a.2 = some r) ?_ ?_
 refine awp_region ?_
 refine s_mv ?_
 obtain ⟨v2, hv2, hF2⟩ := bind_some' hF1
 refine s_pure [] (m_impl_HitsValid_ok fuel _ _ hv2) ?_
 refine s_not ?_
 refine s_mv ?_
 refine w_guard _ 13 hF2 ?_ ?_ <;> intro hc3 hF3
 refine r_no rfl (r_no rfl ?_)
 refine s_pkt ?_
 refine k_nil ?_
 exact s_jn (fuel, true) ⟨by first | omega | (dsimp only; omega), hF3⟩
 refine s_mv ?_
 refine s_lt ?_
 refine s_pkf ?_
 refine k_nil ?_
 exact s_jn (fuel, (decide (v1 < 0))) ⟨by first | omega | (dsimp only; omega), hF3⟩
 clear hF1
 rintro ⟨fu, g4⟩ ⟨hl5, hF2⟩
 dsimp only at hl5 hF2 ⊢
 obtain _ | fu := fu
 · rw [m_impl_FindHit_j1] at hF2; cases hF2
 rw [m_impl_FindHit_j1] at hF2
 refine w_cond hF2 ?_ ?_ <;> intro hc6 hF3
 refine awp_seq (awp_region ?_)
 refine s_bld yZ65 yL65 ?_
 refine s_stW yS65 ?_
 refine s_as ?_
 refine k_nil (k_seq (awp_ret (k_seq_ret (k_fin ?_))))
 cases hF3
 exact ends_gen [] [] (by rw [Try.results49]; exact (res_agg (by conv => lhs; whnf) (by conv => lhs; whnf) yA65 yS65 rfl (res_tmp (by conv => lhs; whnf) res_nil)))
 refine awp_skip (k_seq (awp_seq (awp_region ?_)))
 refine s_mv ?_
 refine s_mv ?_
 obtain ⟨v7, hv7, hF4⟩ := bind_some' hF3
 refine s_ixT Hit.row hv7 (Hit.row_eq _) yE63 ?_
 refine s_ldN yA65 yS65 ?_
 obtain ⟨v8, hv8, hF5⟩ := bind_some' hF4
 refine s_pure [] (m_impl_copyHit_ok fu _ _ hv8) ?_
 refine s_stW yS65 ?_
 refine s_as ?_
 refine k_nil (k_seq (awp_ret (k_fin ?_)))
 cases hF5
 exact ends_gen [] [] (by rw [Try.results49]; exact (res_agg (by conv => lhs; whnf) (by conv => lhs; whnf) yA65 yS65 rfl (res_tmp (by conv => lhs; whnf) res_nil)))
def m_laws_FnExactFindHit_AC (fuel : Nat) : Prop := ∀ (x1 : (List Hit)) (x2 : Form) (r : Bool), m_laws_FnExactFindHit fuel x1 x2 = some r → AC Try.prog 7 [.t (.sl (x1.map Hit.row)), .ag [.t (.sc (.int .i64 x2.kind)), .t (.sc (.str x2.name)), .t (.sc (.int .i64 x2.n)), .t (.sl (x2.scopes.map rI)), .t (.sl (x2.kids.map Form.row))]] noOb (.t (.sc (.bool r))) noOb
theorem m_laws_FnExactFindHit_ok (fuel : Nat) : m_laws_FnExactFindHit_AC fuel := by
 intro x1 x2 r hF0
 unfold m_laws_FnExactFindHit at hF0
 refine AC_i [.t (.sc (.bool r))] Try.func7 rfl Try.ntmps7 ?_
 intro C hC
 refine awp_seq (awp_region ?_)
 refine s_box ?_
 refine s_as ?_
 refine k_nil (k_seq (awp_seq (awp_region ?_)))
 refine s_as ?_
 refine k_nil (k_seq (awp_seq (awp_region ?_)))
 refine s_mv ?_
 refine s_mv ?_
 obtain ⟨v1, hv1, hF1⟩ := bind_some' hF0
 refine s_pure [] (m_laws_szHitS_ok fuel _ _ _ hv1) ?_
 refine s_as ?_
 refine k_nil (k_seq (awp_seq (awp_seq (awp_region ?_))))
 refine s_mv ?_
 refine s_lt ?_
 refine k_nil (k_seq ?_)
 refine w_cond hF1 ?_ ?_ <;> intro hc2 hF2
 refine awp_seq (awp_region ?_)
 refine s_as ?_
 refine k_nil (k_seq (awp_ret (k_seq_ret (k_fin ?_))))
 cases hF2
 exact ends_a [] [] Try.results7
 refine awp_skip (k_seq (awp_seq (awp_region ?_)))
 refine s_ldW yA25 yS25 ?_
 refine s_mv ?_
 obtain ⟨v3, hv3, hF3⟩ := bind_some' hF2
 refine s_pure [] (m_laws_szForm_ok fuel _ _ _ hv3) ?_
 refine s_as ?_
 refine k_nil (k_seq (awp_seq (awp_seq (awp_region ?_))))
 refine s_mv ?_
 refine s_lt ?_
 refine k_nil (k_seq ?_)
 refine w_cond hF3 ?_ ?_ <;> intro hc4 hF4
 refine awp_seq (awp_region ?_)
 refine s_as ?_
 refine k_nil (k_seq (awp_ret (k_seq_ret (k_fin ?_))))
 cases hF4
 exact ends_a [] [] Try.results7
 refine awp_skip (k_seq (awp_seq ?_))
 refine awp_draw yMix (by kernel_rfl) ?_
 refine s_mv ?_
 obtain ⟨v5, hv5, hF5⟩ := bind_some' hF4
 refine s_pure [] (m_laws_toHitS_ok fuel _ _ hv5) ?_
 refine s_ldW yA25 yS25 ?_
 obtain ⟨v6, hv6, hF6⟩ := bind_some' hF5
 refine s_pure [] (m_laws_toForm_ok fuel _ _ hv6) ?_
 obtain ⟨v7, hv7, hF7⟩ := bind_some' hF6
 refine s_pure [] (m_spec_FindHit_ok fuel _ _ _ hv7) ?_
 refine s_mv ?_
 refine s_ext ?_
 refine s_ext ?_
 refine s_alloc yZ65 ?_
 refine s_stW yS65 ?_
 refine s_as ?_
 refine k_nilD (by kernel_rfl) ?_
 refine k_seq (awp_seq (awp_region ?_))
 refine s_mv ?_
 obtain ⟨v8, hv8, hF8⟩ := bind_some' hF7
 refine s_call [(9200, 2036)] [] _ _ (m_laws_toHitS_D_ok fuel _ _ hv8) ?_
 refine s_as ?_
 refine k_nil (k_seq (awp_seq (awp_region ?_)))
 refine s_ldW yA25 yS25 ?_
 obtain ⟨v9, hv9, hF9⟩ := bind_some' hF8
 refine s_call [(9203, 2038), (9204, 12038)] [] _ _ (m_laws_toForm_D_ok fuel _ _ hv9) ?_
 refine s_alloc yZ34 ?_
 refine s_stW yS34 ?_
 refine k_nil (k_seq (awp_seq (awp_region ?_)))
 refine s_mv ?_
 refine s_ldW yA34 yS34 ?_
 obtain ⟨v10, hv10, hF10⟩ := bind_some' hF9
 refine s_call [(9700, 2036), (9701, 2038), (9702, 12038), (9203, 2042), (9204, 12042), (9209, 22042), (9210, 32042), (9211, 42042)] [] [(9700, .dar (v8.map (Hit.rowD 3 34 65)) 65), (9701, .arr (v9.scopes.map rI) 3 true), (9702, .dar (v9.kids.map (Form.rowD 3 34)) 34)] [(9700, .dar (v8.map (Hit.rowD 3 34 65)) 65), (9701, .arr (v9.scopes.map rI) 3 true), (9702, .dar (v9.kids.map (Form.rowD 3 34)) 34), (9203, .arr (v10.1.name.scopes.map rI) 3 true), (9204, .dar (v10.1.name.kids.map (Form.rowD 3 34)) 34), (9209, .arr (v10.1.one.scopes.map rI) 3 true), (9210, .dar (v10.1.one.kids.map (Form.rowD 3 34)) 34), (9211, .dar (v10.1.many.map (Hit.rowD 3 34 65)) 65)] (ac_lend (args := [.ar 9700, .ag [.t (.sc (.int .i64 v9.kind)), .t (.sc (.str v9.name)), .t (.sc (.int .i64 v9.n)), .ar 9701, .ar 9702]]) [(9700, .dar (v8.map (Hit.rowD 3 34 65)) 65), (9701, .arr (v9.scopes.map rI) 3 true), (9702, .dar (v9.kids.map (Form.rowD 3 34)) 34)] [(9203, .arr (v10.1.name.scopes.map rI) 3 true), (9204, .dar (v10.1.name.kids.map (Form.rowD 3 34)) 34), (9209, .arr (v10.1.one.scopes.map rI) 3 true), (9210, .dar (v10.1.one.kids.map (Form.rowD 3 34)) 34), (9211, .dar (v10.1.many.map (Hit.rowD 3 34 65)) 65)] (m_impl_FindHit_D_ok fuel _ _ _ hv10) rfl (by simp only [V.lendL, V.lend, objs_cons, objs_nil, Nat.reduceEqDiff, reduceIte, if_true, if_false, Form.lendM, Core.lendM, Hit.lendM, Rule.lendM, Bind.lendM, Macro.lendM]; try rfl) (by rfl) (by rfl) (by rfl) (by rfl) (by simp only [List.all_cons, List.all_nil, Ob.flat, flat_rI, flat_rS, Form.flatM, Core.flatM, Hit.flatM, Rule.flatM, Bind.flatM, Macro.flatM, Bool.and_self, Bool.true_and]) (by rfl)) ?_
 refine s_mv ?_
 refine s_ext ?_
 refine s_ext ?_
 refine s_alloc yZ65 ?_
 refine s_stW yS65 ?_
 refine s_as ?_
 refine k_nil (k_seq (awp_seq ?_))
 refine awp_jn (α := Nat × Bool) [45, 46, 47, 48, 49, 50, 51, 52, 53] [] [] (fun a => [(53, .t (.sc (.bool a.2)))]) (fun a => []) (fun a => a.1 ≤ fuel ∧ m_laws_FnExactFindHit_j1 a.1 x1 x2 v7 v8 v9 v10 a.2 = some r) ?_ ?_
 refine awp_region ?_
 refine s_ldW yA65 yS65 ?_
 refine s_ldW yA65 yS65 ?_
 obtain ⟨v11, hv11, hF11⟩ := bind_some' hF10
 refine s_call [(9700, 2042), (9701, 12042), (9702, 22042), (9703, 32042), (9704, 42042)] [] [(9700, .arr (v10.1.name.scopes.map rI) 3 true), (9701, .dar (v10.1.name.kids.map (Form.rowD 3 34)) 34), (9702, .arr (v10.1.one.scopes.map rI) 3 true), (9703, .dar (v10.1.one.kids.map (Form.rowD 3 34)) 34), (9704, .dar (v10.1.many.map (Hit.rowD 3 34 65)) 65)] [(9700, .arr (v10.1.name.scopes.map rI) 3 true), (9701, .dar (v10.1.name.kids.map (Form.rowD 3 34)) 34), (9702, .arr (v10.1.one.scopes.map rI) 3 true), (9703, .dar (v10.1.one.kids.map (Form.rowD 3 34)) 34), (9704, .dar (v10.1.many.map (Hit.rowD 3 34 65)) 65)] (ac_lend (args := [.ag [.t (.sc (.int .i64 v10.1.name.kind)), .t (.sc (.str v10.1.name.name)), .t (.sc (.int .i64 v10.1.name.n)), .ar 9700, .ar 9701, .t (.sc (.int .i64 v10.1.depth)), .t (.sc (.int .i64 v10.1.one.kind)), .t (.sc (.str v10.1.one.name)), .t (.sc (.int .i64 v10.1.one.n)), .ar 9702, .ar 9703, .ar 9704], .ag [.t (.sc (.int .i64 v7.1.name.kind)), .t (.sc (.str v7.1.name.name)), .t (.sc (.int .i64 v7.1.name.n)), .t (.sl (v7.1.name.scopes.map rI)), .t (.sl (v7.1.name.kids.map Form.row)), .t (.sc (.int .i64 v7.1.depth)), .t (.sc (.int .i64 v7.1.one.kind)), .t (.sc (.str v7.1.one.name)), .t (.sc (.int .i64 v7.1.one.n)), .t (.sl (v7.1.one.scopes.map rI)), .t (.sl (v7.1.one.kids.map Form.row)), .t (.sl (v7.1.many.map Hit.row))]]) [(9700, .arr (v10.1.name.scopes.map rI) 3 true), (9701, .dar (v10.1.name.kids.map (Form.rowD 3 34)) 34), (9702, .arr (v10.1.one.scopes.map rI) 3 true), (9703, .dar (v10.1.one.kids.map (Form.rowD 3 34)) 34), (9704, .dar (v10.1.many.map (Hit.rowD 3 34 65)) 65)] [] (m_laws_eqHit_ok fuel _ _ _ hv11) rfl (by simp only [V.lendL, V.lend, objs_cons, objs_nil, Nat.reduceEqDiff, reduceIte, if_true, if_false, Form.lendM, Core.lendM, Hit.lendM, Rule.lendM, Bind.lendM, Macro.lendM]; try rfl) (by rfl) (by rfl) (by rfl) (by rfl) (by simp only [List.all_cons, List.all_nil, Ob.flat, flat_rI, flat_rS, Form.flatM, Core.flatM, Hit.flatM, Rule.flatM, Bind.flatM, Macro.flatM, Bool.and_self, Bool.true_and]) (by rfl)) ?_
 refine s_not ?_
 refine s_mv ?_
 refine w_guard _ 49 hF11 ?_ ?_ <;> intro hc12 hF12
 iterate 3 refine r_no rfl ?_
 refine s_pkt ?_
 refine k_nil ?_
 exact s_jn (fuel, true) ⟨by first | omega | (dsimp only; omega), hF12⟩
 refine s_mv ?_
 refine s_mv ?_
 refine s_neB yU4 ?_
 refine s_pkf ?_
 refine k_nil ?_
 exact s_jn (fuel, (decide (v10.2 ≠ v7.2))) ⟨by first | omega | (dsimp only; omega), hF12⟩
 clear hF10
 rintro ⟨fu, g13⟩ ⟨hl14, hF11⟩
 dsimp only at hl14 hF11 ⊢
 obtain _ | fu := fu
 · rw [m_laws_FnExactFindHit_j1] at hF11; cases hF11
 rw [m_laws_FnExactFindHit_j1] at hF11
 refine w_cond hF11 ?_ ?_ <;> intro hc15 hF12
 refine awp_seq (awp_region ?_)
 refine s_as ?_
 refine k_nil (k_seq (awp_ret (k_seq_ret (k_fin ?_))))
 cases hF12
 exact ends_a [] [] Try.results7
 refine awp_skip (k_seq (awp_seq (awp_seq (awp_region ?_))))
 refine s_mv ?_
 refine s_mv ?_
 obtain ⟨v16, hv16, hF13⟩ := bind_some' hF12
 refine s_pure [] (m_laws_toHitS_ok fu _ _ hv16) ?_
 obtain ⟨v17, hv17, hF14⟩ := bind_some' hF13
 refine s_call [(9700, 2036)] [] [(9700, .dar (v8.map (Hit.rowD 3 34 65)) 65)] [(9700, .dar (v8.map (Hit.rowD 3 34 65)) 65)] (ac_lend (args := [.ar 9700, .t (.sl (v16.map Hit.row))]) [(9700, .dar (v8.map (Hit.rowD 3 34 65)) 65)] [] (m_laws_eqHitS_ok fu _ _ _ hv17) rfl (by simp only [V.lendL, V.lend, objs_cons, objs_nil, Nat.reduceEqDiff, reduceIte, if_true, if_false, Form.lendM, Core.lendM, Hit.lendM, Rule.lendM, Bind.lendM, Macro.lendM]; try rfl) (by rfl) (by rfl) (by rfl) (by rfl) (by simp only [List.all_cons, List.all_nil, Ob.flat, flat_rI, flat_rS, Form.flatM, Core.flatM, Hit.flatM, Rule.flatM, Bind.flatM, Macro.flatM, Bool.and_self, Bool.true_and]) (by rfl)) ?_
 refine s_not ?_
 refine k_nil (k_seq ?_)
 refine w_cond hF14 ?_ ?_ <;> intro hc18 hF15
 refine awp_seq (awp_region ?_)
 refine s_as ?_
 refine k_nil (k_seq (awp_ret (k_seq_ret (k_fin ?_))))
 cases hF15
 exact ends_a [] [] Try.results7
 refine awp_skip (k_seq (awp_seq (awp_seq ?_)))
 refine awp_draw yMix (by kernel_rfl) ?_
 refine s_ldW yA34 yS34 ?_
 refine s_ldW yA25 yS25 ?_
 obtain ⟨v19, hv19, hF16⟩ := bind_some' hF15
 refine s_pure [] (m_laws_toForm_ok fu _ _ hv19) ?_
 obtain ⟨v20, hv20, hF17⟩ := bind_some' hF16
 refine s_call [(9700, 2038), (9701, 12038)] [] [(9700, .arr (v9.scopes.map rI) 3 true), (9701, .dar (v9.kids.map (Form.rowD 3 34)) 34)] [(9700, .arr (v9.scopes.map rI) 3 true), (9701, .dar (v9.kids.map (Form.rowD 3 34)) 34)] (ac_lend (args := [.ag [.t (.sc (.int .i64 v9.kind)), .t (.sc (.str v9.name)), .t (.sc (.int .i64 v9.n)), .ar 9700, .ar 9701], .ag [.t (.sc (.int .i64 v19.kind)), .t (.sc (.str v19.name)), .t (.sc (.int .i64 v19.n)), .t (.sl (v19.scopes.map rI)), .t (.sl (v19.kids.map Form.row))]]) [(9700, .arr (v9.scopes.map rI) 3 true), (9701, .dar (v9.kids.map (Form.rowD 3 34)) 34)] [] (m_laws_eqForm_ok fu _ _ _ hv20) rfl (by simp only [V.lendL, V.lend, objs_cons, objs_nil, Nat.reduceEqDiff, reduceIte, if_true, if_false, Form.lendM, Core.lendM, Hit.lendM, Rule.lendM, Bind.lendM, Macro.lendM]; try rfl) (by rfl) (by rfl) (by rfl) (by rfl) (by simp only [List.all_cons, List.all_nil, Ob.flat, flat_rI, flat_rS, Form.flatM, Core.flatM, Hit.flatM, Rule.flatM, Bind.flatM, Macro.flatM, Bool.and_self, Bool.true_and]) (by rfl)) ?_
 refine s_not ?_
 refine k_nilD (by kernel_rfl) ?_
 refine k_seq ?_
 refine w_cond hF17 ?_ ?_ <;> intro hc21 hF18
 refine awp_seq (awp_region ?_)
 refine s_as ?_
 refine k_nil (k_seq (awp_ret (k_seq_ret (k_fin ?_))))
 cases hF18
 exact ends_a [] [] Try.results7
 refine awp_skip (k_seq (awp_seq (awp_region ?_)))
 refine s_as ?_
 refine k_nil (k_seq (awp_seq (awp_region ?_)))
 refine s_mv ?_
 refine s_mv ?_
 obtain ⟨v22, hv22, hF19⟩ := bind_some' hF18
 refine s_call [(9300, 2036)] [] _ _ (m_laws_markHitS_D_ok fu _ _ _ hv22) ?_
 refine s_as ?_
 refine k_nil (k_seq (awp_seq (awp_region ?_)))
 refine s_ldW yA34 yS34 ?_
 refine s_mv ?_
 obtain ⟨v23, hv23, hF20⟩ := bind_some' hF19
 refine s_call [(9303, 2038), (9304, 12038)] [] _ _ (m_laws_markForm_D_ok fu _ _ _ hv23) ?_
 refine s_as ?_
 refine k_nil (k_seq (awp_seq ?_))
 refine awp_jn (α := Nat × Bool) [70, 71, 72, 73, 74, 75, 76, 77, 78, 79, 80, 81, 82] [] [] (fun a => [(82, .t (.sc (.bool a.2)))]) (fun a => []) (fun a => a.1 ≤ fu ∧ m_laws_FnExactFindHit_j2 a.1 x1 x2 v7 v10 a.2 = some r) ?_ ?_
 refine awp_region ?_
 refine s_mv ?_
 refine s_lt ?_
 refine s_mv ?_
 refine w_guard _ 72 hF20 ?_ ?_ <;> intro hc24 hF21
 iterate 4 refine r_no rfl ?_
 refine s_pkt ?_
 refine s_mv ?_
 iterate 3 refine r_no rfl ?_
 refine s_pkt ?_
 refine k_nil ?_
 exact s_jn (fu, true) ⟨by first | omega | (dsimp only; omega), hF21⟩
 refine s_ldW yA65 yS65 ?_
 refine s_ldW yA65 yS65 ?_
 obtain ⟨v25, hv25, hF22⟩ := bind_some' hF21
 refine s_call [(9700, 2042), (9701, 12042), (9702, 22042), (9703, 32042), (9704, 42042)] [] [(9700, .arr (v10.1.name.scopes.map rI) 3 true), (9701, .dar (v10.1.name.kids.map (Form.rowD 3 34)) 34), (9702, .arr (v10.1.one.scopes.map rI) 3 true), (9703, .dar (v10.1.one.kids.map (Form.rowD 3 34)) 34), (9704, .dar (v10.1.many.map (Hit.rowD 3 34 65)) 65)] [(9700, .arr (v10.1.name.scopes.map rI) 3 true), (9701, .dar (v10.1.name.kids.map (Form.rowD 3 34)) 34), (9702, .arr (v10.1.one.scopes.map rI) 3 true), (9703, .dar (v10.1.one.kids.map (Form.rowD 3 34)) 34), (9704, .dar (v10.1.many.map (Hit.rowD 3 34 65)) 65)] (ac_lend (args := [.ag [.t (.sc (.int .i64 v10.1.name.kind)), .t (.sc (.str v10.1.name.name)), .t (.sc (.int .i64 v10.1.name.n)), .ar 9700, .ar 9701, .t (.sc (.int .i64 v10.1.depth)), .t (.sc (.int .i64 v10.1.one.kind)), .t (.sc (.str v10.1.one.name)), .t (.sc (.int .i64 v10.1.one.n)), .ar 9702, .ar 9703, .ar 9704], .ag [.t (.sc (.int .i64 v7.1.name.kind)), .t (.sc (.str v7.1.name.name)), .t (.sc (.int .i64 v7.1.name.n)), .t (.sl (v7.1.name.scopes.map rI)), .t (.sl (v7.1.name.kids.map Form.row)), .t (.sc (.int .i64 v7.1.depth)), .t (.sc (.int .i64 v7.1.one.kind)), .t (.sc (.str v7.1.one.name)), .t (.sc (.int .i64 v7.1.one.n)), .t (.sl (v7.1.one.scopes.map rI)), .t (.sl (v7.1.one.kids.map Form.row)), .t (.sl (v7.1.many.map Hit.row))]]) [(9700, .arr (v10.1.name.scopes.map rI) 3 true), (9701, .dar (v10.1.name.kids.map (Form.rowD 3 34)) 34), (9702, .arr (v10.1.one.scopes.map rI) 3 true), (9703, .dar (v10.1.one.kids.map (Form.rowD 3 34)) 34), (9704, .dar (v10.1.many.map (Hit.rowD 3 34 65)) 65)] [] (m_laws_eqHit_ok fu _ _ _ hv25) rfl (by simp only [V.lendL, V.lend, objs_cons, objs_nil, Nat.reduceEqDiff, reduceIte, if_true, if_false, Form.lendM, Core.lendM, Hit.lendM, Rule.lendM, Bind.lendM, Macro.lendM]; try rfl) (by rfl) (by rfl) (by rfl) (by rfl) (by simp only [List.all_cons, List.all_nil, Ob.flat, flat_rI, flat_rS, Form.flatM, Core.flatM, Hit.flatM, Rule.flatM, Bind.flatM, Macro.flatM, Bool.and_self, Bool.true_and]) (by rfl)) ?_
 refine s_not ?_
 refine s_pkf ?_
 refine s_mv ?_
 refine w_guard _ 78 hF22 ?_ ?_ <;> intro hc26 hF23
 iterate 3 refine r_no rfl ?_
 refine s_pkt ?_
 refine k_nil ?_
 exact s_jn (fu, true) ⟨by first | omega | (dsimp only; omega), hF23⟩
 refine s_mv ?_
 refine s_mv ?_
 refine s_neB yU4 ?_
 refine s_pkf ?_
 refine k_nil ?_
 exact s_jn (fu, (decide (v10.2 ≠ v7.2))) ⟨by first | omega | (dsimp only; omega), hF23⟩
 clear hF20
 rintro ⟨fu, g27⟩ ⟨hl28, hF21⟩
 dsimp only at hl28 hF21 ⊢
 obtain _ | fu := fu
 · rw [m_laws_FnExactFindHit_j2] at hF21; cases hF21
 rw [m_laws_FnExactFindHit_j2] at hF21
 refine w_cond hF21 ?_ ?_ <;> intro hc29 hF22
 refine awp_seq (awp_region ?_)
 refine s_as ?_
 refine k_nil (k_seq (awp_ret (k_seq_ret (k_fin ?_))))
 cases hF22
 exact ends_a [] [] Try.results7
 refine awp_skip (k_seq (awp_seq (awp_region ?_)))
 refine s_as ?_
 refine k_nil (k_seq (awp_seq (awp_region ?_)))
 refine s_ldW yA65 yS65 ?_
 refine s_mv ?_
 obtain ⟨v30, hv30, hF23⟩ := bind_some' hF22
 refine s_call [(9303, 2042), (9304, 12042), (9309, 22042), (9310, 32042), (9311, 42042)] [] _ _ (m_laws_markHit_D_ok fu _ _ _ hv30) ?_
 refine s_as ?_
 refine k_nil (k_seq (awp_seq (awp_region ?_)))
 refine s_as ?_
 refine k_nil (k_seq (awp_seq (awp_region ?_)))
 refine s_ldW yA65 yS65 ?_
 refine s_mv ?_
 obtain ⟨v31, hv31, hF24⟩ := bind_some' hF23
 refine s_call [(9700, 2042), (9701, 12042), (9702, 22042), (9703, 32042), (9704, 42042)] [] [(9700, .arr (v30.2.1.map rI) 3 true), (9701, .dar (v30.2.2.1.map (Form.rowD 3 34)) 34), (9702, .arr (v30.2.2.2.1.map rI) 3 true), (9703, .dar (v30.2.2.2.2.1.map (Form.rowD 3 34)) 34), (9704, .dar (v30.2.2.2.2.2.map (Hit.rowD 3 34 65)) 65)] [(9700, .arr (v30.2.1.map rI) 3 true), (9701, .dar (v30.2.2.1.map (Form.rowD 3 34)) 34), (9702, .arr (v30.2.2.2.1.map rI) 3 true), (9703, .dar (v30.2.2.2.2.1.map (Form.rowD 3 34)) 34), (9704, .dar (v30.2.2.2.2.2.map (Hit.rowD 3 34 65)) 65)] (ac_lend (args := [.ag [.t (.sc (.int .i64 v10.1.name.kind)), .t (.sc (.str v10.1.name.name)), .t (.sc (.int .i64 v10.1.name.n)), .ar 9700, .ar 9701, .t (.sc (.int .i64 v10.1.depth)), .t (.sc (.int .i64 v10.1.one.kind)), .t (.sc (.str v10.1.one.name)), .t (.sc (.int .i64 v10.1.one.n)), .ar 9702, .ar 9703, .ar 9704], .t (.sc (.int .i64 1))]) [(9700, .arr (v30.2.1.map rI) 3 true), (9701, .dar (v30.2.2.1.map (Form.rowD 3 34)) 34), (9702, .arr (v30.2.2.2.1.map rI) 3 true), (9703, .dar (v30.2.2.2.2.1.map (Form.rowD 3 34)) 34), (9704, .dar (v30.2.2.2.2.2.map (Hit.rowD 3 34 65)) 65)] [] (m_laws_heldHit_ok fu _ _ _ hv31) rfl (by simp only [V.lendL, V.lend, objs_cons, objs_nil, Nat.reduceEqDiff, reduceIte, if_true, if_false, Form.lendM, Core.lendM, Hit.lendM, Rule.lendM, Bind.lendM, Macro.lendM]; try rfl) (by rfl) (by rfl) (by rfl) (by rfl) (by simp only [List.all_cons, List.all_nil, Ob.flat, flat_rI, flat_rS, Form.flatM, Core.flatM, Hit.flatM, Rule.flatM, Bind.flatM, Macro.flatM, Bool.and_self, Bool.true_and]) (by rfl)) ?_
 refine s_as ?_
 refine k_nil (k_seq (awp_seq (awp_seq (awp_region ?_))))
 refine s_mv ?_
 refine s_lt ?_
 refine k_nil (k_seq ?_)
 refine w_cond hF24 ?_ ?_ <;> intro hc32 hF25
 refine awp_seq (awp_region ?_)
 refine s_as ?_
 refine k_nil (k_seq (awp_ret (k_seq_ret (k_fin ?_))))
 cases hF25
 exact ends_a [] [] Try.results7
 refine awp_skip (k_seq (awp_seq (awp_seq (awp_region ?_))))
 refine s_mv ?_
 refine s_mv ?_
 refine s_ne ?_
 refine k_nil (k_seq ?_)
 refine w_cond hF25 ?_ ?_ <;> intro hc33 hF26
 refine awp_seq (awp_region ?_)
 refine s_as ?_
 refine k_nil (k_seq (awp_ret (k_seq_ret (k_fin ?_))))
 cases hF26
 exact ends_a [] [] Try.results7
 refine awp_skip (k_seq (awp_seq ?_))
 refine awp_draw yMix (by kernel_rfl) ?_
 refine s_mv ?_
 obtain ⟨v34, hv34, hF27⟩ := bind_some' hF26
 refine s_pure [] (m_laws_toHitS_ok fu _ _ hv34) ?_
 refine s_ldW yA25 yS25 ?_
 obtain ⟨v35, hv35, hF28⟩ := bind_some' hF27
 refine s_pure [] (m_laws_toForm_ok fu _ _ hv35) ?_
 obtain ⟨v36, hv36, hF29⟩ := bind_some' hF28
 refine s_pure [] (m_impl_FindHit_ok fu _ _ _ hv36) ?_
 refine s_mv ?_
 refine s_ext ?_
 refine s_ext ?_
 refine s_alloc yZ65 ?_
 refine s_stW yS65 ?_
 refine s_as ?_
 refine k_nilD (by kernel_rfl) ?_
 refine k_seq (awp_seq ?_)
 refine awp_jn (α := Nat × Bool) [102, 103, 104, 105, 106, 107, 108, 109, 110] [] [] (fun a => [(110, .t (.sc (.bool a.2)))]) (fun a => []) (fun a => a.1 ≤ fu ∧ m_laws_FnExactFindHit_j3 a.1 v10 v30 a.2 = some r) ?_ ?_
 refine awp_region ?_
 refine s_ldW yA65 yS65 ?_
 refine s_ldW yA65 yS65 ?_
 obtain ⟨v37, hv37, hF30⟩ := bind_some' hF29
 refine s_pure [] (m_laws_eqHit_ok fu _ _ _ hv37) ?_
 refine s_not ?_
 refine s_mv ?_
 refine w_guard _ 106 hF30 ?_ ?_ <;> intro hc38 hF31
 iterate 3 refine r_no rfl ?_
 refine s_pkt ?_
 refine k_nil ?_
 exact s_jn (fu, true) ⟨by first | omega | (dsimp only; omega), hF31⟩
 refine s_mv ?_
 refine s_mv ?_
 refine s_neB yU4 ?_
 refine s_pkf ?_
 refine k_nil ?_
 exact s_jn (fu, (decide (v36.2 ≠ v7.2))) ⟨by first | omega | (dsimp only; omega), hF31⟩
 clear hF29
 rintro ⟨fu, g39⟩ ⟨hl40, hF30⟩
 dsimp only at hl40 hF30 ⊢
 obtain _ | fu := fu
 · rw [m_laws_FnExactFindHit_j3] at hF30; cases hF30
 rw [m_laws_FnExactFindHit_j3] at hF30
 refine w_cond hF30 ?_ ?_ <;> intro hc41 hF31
 refine awp_seq (awp_region ?_)
 refine s_as ?_
 refine k_nil (k_seq (awp_ret (k_seq_ret (k_fin ?_))))
 cases hF31
 exact ends_a [] [] Try.results7
 refine awp_skip (k_seq (awp_seq (awp_region ?_)))
 refine s_as ?_
 refine k_nil (k_seq (awp_seq (awp_region ?_)))
 refine s_ldW yA65 yS65 ?_
 refine s_mv ?_
 obtain ⟨v42, hv42, hF32⟩ := bind_some' hF31
 refine s_call [(9700, 2042), (9701, 12042), (9702, 22042), (9703, 32042), (9704, 42042)] [] [(9700, .arr (v30.2.1.map rI) 3 true), (9701, .dar (v30.2.2.1.map (Form.rowD 3 34)) 34), (9702, .arr (v30.2.2.2.1.map rI) 3 true), (9703, .dar (v30.2.2.2.2.1.map (Form.rowD 3 34)) 34), (9704, .dar (v30.2.2.2.2.2.map (Hit.rowD 3 34 65)) 65)] [(9700, .arr (v30.2.1.map rI) 3 true), (9701, .dar (v30.2.2.1.map (Form.rowD 3 34)) 34), (9702, .arr (v30.2.2.2.1.map rI) 3 true), (9703, .dar (v30.2.2.2.2.1.map (Form.rowD 3 34)) 34), (9704, .dar (v30.2.2.2.2.2.map (Hit.rowD 3 34 65)) 65)] (ac_lend (args := [.ag [.t (.sc (.int .i64 v10.1.name.kind)), .t (.sc (.str v10.1.name.name)), .t (.sc (.int .i64 v10.1.name.n)), .ar 9700, .ar 9701, .t (.sc (.int .i64 v10.1.depth)), .t (.sc (.int .i64 v10.1.one.kind)), .t (.sc (.str v10.1.one.name)), .t (.sc (.int .i64 v10.1.one.n)), .ar 9702, .ar 9703, .ar 9704], .t (.sc (.int .i64 1))]) [(9700, .arr (v30.2.1.map rI) 3 true), (9701, .dar (v30.2.2.1.map (Form.rowD 3 34)) 34), (9702, .arr (v30.2.2.2.1.map rI) 3 true), (9703, .dar (v30.2.2.2.2.1.map (Form.rowD 3 34)) 34), (9704, .dar (v30.2.2.2.2.2.map (Hit.rowD 3 34 65)) 65)] [] (m_laws_heldHit_ok fu _ _ _ hv42) rfl (by simp only [V.lendL, V.lend, objs_cons, objs_nil, Nat.reduceEqDiff, reduceIte, if_true, if_false, Form.lendM, Core.lendM, Hit.lendM, Rule.lendM, Bind.lendM, Macro.lendM]; try rfl) (by rfl) (by rfl) (by rfl) (by rfl) (by simp only [List.all_cons, List.all_nil, Ob.flat, flat_rI, flat_rS, Form.flatM, Core.flatM, Hit.flatM, Rule.flatM, Bind.flatM, Macro.flatM, Bool.and_self, Bool.true_and]) (by rfl)) ?_
 refine s_as ?_
 refine k_nil (k_seq (awp_seq (awp_seq (awp_region ?_))))
 refine s_mv ?_
 refine s_lt ?_
 refine k_nil (k_seq ?_)
 refine w_cond hF32 ?_ ?_ <;> intro hc43 hF33
 refine awp_seq (awp_region ?_)
 refine s_as ?_
 refine k_nil (k_seq (awp_ret (k_seq_ret (k_fin ?_))))
 cases hF33
 exact ends_a [] [] Try.results7
 refine awp_skip (k_seq (awp_seq (awp_seq (awp_region ?_))))
 refine s_mv ?_
 refine s_mv ?_
 refine s_ne ?_
 refine k_nil (k_seq ?_)
 refine w_cond hF33 ?_ ?_ <;> intro hc44 hF34
 refine awp_seq (awp_region ?_)
 refine s_as ?_
 refine k_nil (k_seq (awp_ret (k_seq_ret (k_fin ?_))))
 cases hF34
 exact ends_a [] [] Try.results7
 refine awp_skip (k_seq (awp_seq (awp_region ?_)))
 refine s_as ?_
 refine k_nil (k_seq (awp_ret (k_fin ?_)))
 cases hF34
 exact ends_a [] [] Try.results7
end Go.Abs
