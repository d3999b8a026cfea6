/- A part of the proof: what the functions that the law calls answer, as pure values. -/
import Derived.Test.YtbkdbbfgdjcfgaaK3df603bde016
import Derived.Test.YtbkdbbfgdjcfgaaK5b3bfc25a8da
import Derived.Test.YtbkdbbfgdjcfgaaK85a8d2422f81
import Derived.Test.YtbkdbbfgdjcfgaaKae5851bf4855
import Derived.Test.YtbkdbbfgdjcfgaaKe080a0add61d
import Derived.Test.YtbkdbbfgdjcfgaaKfd1ac0d337e1
set_option linter.unusedSimpArgs false
set_option linter.unusedVariables false
set_option maxRecDepth 100000
set_option maxHeartbeats 4000000
namespace Go.Abs
open Go.Proofs
theorem m_laws_heldFormS_all (fuel : Nat) : m_laws_heldFormS_AC fuel := by
 induction fuel using Nat.strongRecOn with
 | _ N ih =>
   cases N with
   | zero => exact (by intro x1 x2 r h; rw [m_laws_heldFormS] at h; cases h)
   | succ fu => exact m_laws_heldFormS_st fu (fun k hk => (ih k (by omega)))
theorem m_laws_heldFormS_ok (fuel : Nat) : m_laws_heldFormS_AC fuel := (m_laws_heldFormS_all fuel)
def m_slices_Clone_int_AC (fuel : Nat) : Prop := ∀ (x1 : (List Int)) (r : (List Int)), m_slices_Clone_int fuel x1 = some r → AC Try.prog 136 [.t (.sl (x1.map rI))] (objs []) (.ar 9200) (objs [(9200, .arr (r.map rI) 3 true)])
theorem m_slices_Clone_int_ok (fuel : Nat) : m_slices_Clone_int_AC fuel := by
 intro x1 r hF0
 unfold m_slices_Clone_int at hF0
 refine AC_i [.ar 9200] Try.func136 rfl Try.ntmps136 ?_
 intro C hC
 refine awp_nil 0 (fun hz => ?_) ?_
 replace hz := List.map_eq_nil_iff.mp hz; subst hz; obtain ⟨_, hF1⟩ := chk_some hF0
 refine awp_seq (awp_region ?_)
 refine s_as ?_
 refine k_nil (k_seq (awp_seq (awp_seq (awp_region ?_))))
 refine s_mv ?_
 refine s_nil yU22 ?_
 refine k_nil (k_seq (awp_true rfl ?_))
 refine awp_unnil 0 ?_
 refine awp_unnil 3 ?_
 refine awp_seq (awp_region ?_)
 refine s_as ?_
 refine k_nil (k_seq ?_)
 refine awp_own 2 9200 3 yI3.choose_spec ?_
 refine awp_ret (k_seq_ret (k_fin ?_))
 cases hF1
 exact ends_a _ [] Try.results136
 refine awp_seq (awp_region ?_)
 refine s_as ?_
 refine k_nil (k_seq (awp_seq (awp_seq (awp_region ?_))))
 refine s_mv ?_
 refine s_nil yU22 ?_
 refine k_nil (k_seq (awp_false rfl ?_))
 refine awp_unnil 0 ?_
 refine awp_unnil 3 ?_
 refine awp_skip (k_seq (awp_seq (awp_region ?_)))
 refine s_bs rI ([] : List Int) yP22 yR3 ?_
 refine s_mv ?_
 obtain ⟨hk1, hF1⟩ := chk_some hF0
 refine s_apT rI (fun _ => rfl) hk1 yP22 ?_
 refine s_as ?_
 refine k_nil (k_seq ?_)
 refine awp_mv 2 7 9200 (by conv => lhs; whnf) (by conv => lhs; whnf) rfl ?_
 refine awp_ret (k_fin ?_)
 cases hF1
 exact ends_a _ [] Try.results136
def m_impl_copyForm_AC (fuel : Nat) : Prop := ∀ (x1 : Form) (r : Form), m_impl_copyForm fuel x1 = some r → AC Try.prog 89 [.ag [.t (.sc (.int .i64 x1.kind)), .t (.sc (.str x1.name)), .t (.sc (.int .i64 x1.n)), .t (.sl (x1.scopes.map rI)), .t (.sl (x1.kids.map Form.row))]] noOb (.ag [.t (.sc (.int .i64 r.kind)), .t (.sc (.str r.name)), .t (.sc (.int .i64 r.n)), .t (.sl (r.scopes.map rI)), .t (.sl (r.kids.map Form.row))]) noOb
theorem m_impl_copyForm_st (fu : Nat) (ih_m_impl_copyForm : ∀ k, k ≤ fu → m_impl_copyForm_AC k) : m_impl_copyForm_AC (fu + 1) := by
 intro x1 r hF0
 rw [m_impl_copyForm] at hF0
 refine AC_i [.ag [.t (.sc (.int .i64 r.kind)), .t (.sc (.str r.name)), .t (.sc (.int .i64 r.n)), .t (.sl (r.scopes.map rI)), .t (.sl (r.kids.map Form.row))]] Try.func89 rfl Try.ntmps89 ?_
 intro C hC
 refine awp_seq (awp_region ?_)
 refine s_box ?_
 refine s_alloc yZ34 ?_
 refine k_nil (k_seq (awp_seq ?_))
 refine awp_draw yMix (by kernel_rfl) ?_
 refine s_fa yF34_0 ?_
 refine s_ld1 yA3 ?_
 refine s_fa yF34_1 ?_
 refine s_ld1 yA9 ?_
 refine s_fa yF34_2 ?_
 refine s_ld1 yA3 ?_
 refine s_fa yF34_3 ?_
 refine s_ld1 yA22 ?_
 obtain ⟨v1, hv1, hF1⟩ := bind_some' hF0
 refine s_call [(9200, 2014)] [] _ _ (m_slices_Clone_int_ok fu _ _ hv1) ?_
 refine s_bld yZ34 yL34 ?_
 refine s_alloc yZ34 ?_
 refine s_stW yS34 ?_
 refine k_nilD (by kernel_rfl) ?_
 refine k_seq (awp_seq (awp_seq (awp_region ?_)))
 refine s_fa yF34_4 ?_
 refine s_ld1 yA32 ?_
 refine s_lenT yU32 ?_
 refine s_mv ?_
 refine k_nil (k_seq (awp_block ?_))
 refine awp_ownB 3 5020 34 [.t (.sc (.int .i64 x1.kind)), .t (.sc (.str x1.name)), .t (.sc (.int .i64 x1.n)), .ar 2014, .ar 5020] yI34.choose_spec ?_
 refine awp_frame2 [5, 19, 20, 21, 22, 23, 24, 25, 26, 27, 28, 29, 30] [3, 5020] [5, 27, 28] [5020] (fun a : Nat × Int × (List Form) => a.1) (fun a : Nat × Int × (List Form) => [(19, .t (.sc (.int .i64 a.2.1)))]) (fun a : Nat × Int × (List Form) => [(3, .box [.t (.sc (.int .i64 x1.kind)), .t (.sc (.str x1.name)), .t (.sc (.int .i64 x1.n)), .ar 2014, .ar 5020]), (5020, .arr (a.2.2.map Form.row) 34 true)]) (fun a : Nat × Int × (List Form) => a.1 ≤ fu ∧ m_impl_copyForm_l1 a.1 x1 v1 a.2.1 a.2.2 = some r ∧ 0 ≤ a.2.1) (fu, 0, ([] : List Form)) ⟨Nat.le_refl _, hF1, by simp⟩ (by rfl) (by rfl) (fun _ => rfl) (hasF_cons (by conv => lhs; whnf) (by rfl) hasF_nil) (hasO_cons (by conv => lhs; whnf) (by rfl) (hasO_cons (by conv => lhs; whnf) (by rfl) hasO_nil)) (fresh_C hC rfl) (by repeat (first | exact freshS_args rfl | refine freshS_upd rfl ?_ | refine freshS_frame rfl ?_)) (by repeat (first | exact freshM_no | exact objs_fresh rfl | refine freshM_upd rfl ?_ | refine freshM_frame rfl ?_)) ?_
 clear hF1
 rintro ⟨fu, g2, g3⟩ ⟨hl4, hF2, hn_g2⟩
 dsimp only at hl4 hF2 hn_g2 ⊢
 obtain _ | fu := fu
 · rw [m_impl_copyForm_l1] at hF2; cases hF2
 rw [m_impl_copyForm_l1] at hF2
 refine awp_seq (awp_region ?_)
 refine s_lt ?_
 refine k_nil (k_seq (awp_seq ?_))
 refine w_cond hF2 ?_ ?_ <;> intro hc5 hF3
 refine awp_lenT 17 (fun hb6 => ?_)
 refine awp_skip (k_seq (awp_seq (awp_block (awp_seq (awp_region ?_)))))
 obtain ⟨v7, hv7, hF4⟩ := bind_some' hF3
 refine s_ixT Form.row hv7 (Form.row_eq _) yE32 ?_
 refine s_ldN yA34 yS34 ?_
 refine s_alloc yZ34 ?_
 refine s_stW yS34 ?_
 refine k_nil (k_seq ?_)
 refine awp_draw yMix (by kernel_rfl) ?_
 refine s_fa yF34_4 ?_
 refine s_ld1 yA32 ?_
 refine s_ldW yA34 yS34 ?_
 obtain ⟨v8, hv8, hF5⟩ := bind_some' hF4
 refine s_pure [] (ih_m_impl_copyForm fu (by omega) _ _ hv8) ?_
 refine s_bs Form.row [v8] yP32 yR34 ?_
 obtain ⟨hk9, hF6⟩ := chk_some hF5
 refine s_apT Form.row (fun y => Form.row_len y) hk9 yP32 ?_
 refine s_fa yF34_4 ?_
 refine s_stP yS32 ?_
 refine k_nilD (by kernel_rfl) ?_
 refine k_blk (k_seq (awp_region ?_))
 refine s_add (winc2 hc5 hb6 hn_g2) ?_
 refine s_mv ?_
 refine k_nil ?_
 exact s_rn (fu, (g2 + 1), (g3 ++ [v8])) ⟨by first | omega | (dsimp only; omega), hF6, by first | omega | (dsimp only; omega)⟩ [(5020, 28)]
 refine awp_exit (k_seq_exit (k_rnd_exit2 (k_blk_exit (k_seq (awp_seq (awp_region ?_))))))
 refine s_ldW yA34 yS34 ?_
 refine s_stW yS34 ?_
 refine k_nil (k_seq (awp_ret (k_fin ?_)))
 cases hF3
 exact ends_gen [] [2014, 5020] (by rw [Try.results89]; exact (res_agg (by conv => lhs; whnf) (by conv => lhs; whnf) yA34 yS34 rfl res_nil))
theorem m_impl_copyForm_all (fuel : Nat) : m_impl_copyForm_AC fuel := by
 induction fuel using Nat.strongRecOn with
 | _ N ih =>
   cases N with
   | zero => exact (by intro x1 r h; rw [m_impl_copyForm] at h; cases h)
   | succ fu => exact m_impl_copyForm_st fu (fun k hk => (ih k (by omega)))
theorem m_impl_copyForm_ok (fuel : Nat) : m_impl_copyForm_AC fuel := (m_impl_copyForm_all fuel)
def m_spec_l4Find_AC (fuel : Nat) : Prop := ∀ (x1 : (List Hit)) (x2 : Form) (r : Int), m_spec_l4Find fuel x1 x2 = some r → AC Try.prog 90 [.t (.sl (x1.map Hit.row)), .ag [.t (.sc (.int .i64 x2.kind)), .t (.sc (.str x2.name)), .t (.sc (.int .i64 x2.n)), .t (.sl (x2.scopes.map rI)), .t (.sl (x2.kids.map Form.row))]] noOb (.t (.sc (.int .i64 r))) noOb
theorem m_spec_l4Find_ok (fuel : Nat) : m_spec_l4Find_AC fuel := by
 intro x1 x2 r hF0
 unfold m_spec_l4Find at hF0
 refine AC_i [.t (.sc (.int .i64 r))] Try.func90 rfl Try.ntmps90 ?_
 intro C hC
 refine awp_seq (awp_region ?_)
 refine s_box ?_
 refine s_as ?_
 refine k_nil (k_seq (awp_seq (awp_seq (awp_region ?_))))
 refine s_as ?_
 refine k_nil (k_seq (awp_block ?_))
 refine awp_fr (β := Int) [4, 5, 6, 7, 8, 9, 10, 11, 12, 13, 14, 15, 16, 17, 18, 19] [] [] (fun a => [(5, .t (.sc (.int .i64 a.2)))]) (fun a => []) (fun a => a.1 ≤ fuel ∧ m_spec_l4Find_l1 a.1 x1 x2 a.2 = some r ∧ 0 ≤ a.2) (fuel, 0) ⟨Nat.le_refl _, hF0, by simp⟩ ?_
 clear hF0
 rintro ⟨fu, g1⟩ ⟨hl2, hF1, hn_g1⟩
 dsimp only at hl2 hF1 hn_g1 ⊢
 obtain _ | fu := fu
 · rw [m_spec_l4Find_l1] at hF1; cases hF1
 rw [m_spec_l4Find_l1] at hF1
 refine awp_seq (awp_seq (awp_region ?_))
 refine s_mv ?_
 refine s_mv ?_
 refine s_lenT yU63 ?_
 refine s_lt ?_
 refine k_nil (k_seq ?_)
 refine w_cond hF1 ?_ ?_ <;> intro hc3 hF2
 refine awp_lenT 0 (fun hb4 => ?_)
 refine awp_skip (k_seq (awp_seq (awp_block (awp_seq ?_))))
 refine awp_draw yMix (by kernel_rfl) ?_
 refine s_mv ?_
 refine s_mv ?_
 obtain ⟨v5, hv5, hF3⟩ := bind_some' hF2
 refine s_ixT Hit.row hv5 (Hit.row_eq _) yE63 ?_
 refine s_fa yF65_0 ?_
 refine s_ldN yA34 yS34 ?_
 refine s_ldW yA34 yS34 ?_
 obtain ⟨v6, hv6, hF4⟩ := bind_some' hF3
 refine s_pure [] (m_spec_FormSame_ok fu _ _ _ hv6) ?_
 refine k_nilD (by kernel_rfl) ?_
 refine k_seq ?_
 refine w_cond hF4 ?_ ?_ <;> intro hc7 hF5
 refine awp_seq (awp_region ?_)
 refine s_mv ?_
 refine s_as ?_
 refine k_nil (k_seq (awp_ret (k_blk_ret (k_seq_ret (k_rnd_ret2 (k_blk_ret (k_seq_ret (k_fin ?_))))))))
 cases hF5
 exact ends_a [] [] Try.results90
 refine awp_skip (k_blk (k_seq (awp_region ?_)))
 refine s_mv ?_
 refine s_add (winc2 hc3 hb4 hn_g1) ?_
 refine s_as ?_
 refine k_nil ?_
 exact s_rn (fu, (g1 + 1)) ⟨by first | omega | (dsimp only; omega), hF5, by first | omega | (dsimp only; omega)⟩
 refine awp_exit (k_seq_exit (k_rnd_exit2 (k_blk_exit (k_seq (awp_seq (awp_region ?_))))))
 refine s_as ?_
 refine k_nil (k_seq (awp_ret (k_fin ?_)))
 cases hF2
 exact ends_a [] [] Try.results90
def m_spec_HitsValid_AC (fuel : Nat) : Prop := ∀ (x1 : (List Hit)) (r : Bool), m_spec_HitsValid fuel x1 = some r → AC Try.prog 91 [.t (.sl (x1.map Hit.row))] noOb (.t (.sc (.bool r))) noOb
theorem m_spec_HitsValid_ok (fuel : Nat) : m_spec_HitsValid_AC fuel := by
 intro x1 r hF0
 unfold m_spec_HitsValid at hF0
 refine AC_i [.t (.sc (.bool r))] Try.func91 rfl Try.ntmps91 ?_
 intro C hC
 refine awp_seq (awp_region ?_)
 refine s_as ?_
 refine k_nil (k_seq (awp_seq (awp_seq (awp_region ?_))))
 refine s_as ?_
 refine k_nil (k_seq (awp_block ?_))
 refine awp_fr (β := Int) [2, 3, 4, 5, 6, 7, 8, 9, 10, 11, 12, 13, 14, 15, 16, 17, 18, 19, 20, 21, 22, 23, 24, 25, 26, 27, 28, 29, 30, 31, 32, 33, 34, 35, 36, 37, 38, 39, 40, 41] [] [] (fun a => [(2, .t (.sc (.bool false))), (3, .t (.sc (.int .i64 a.2)))]) (fun a => []) (fun a => a.1 ≤ fuel ∧ m_spec_HitsValid_l1 a.1 x1 a.2 = some r) (fuel, 0) ⟨Nat.le_refl _, hF0⟩ ?_
 clear hF0
 rintro ⟨fu, g1⟩ ⟨hl2, hF1⟩
 dsimp only at hl2 hF1 ⊢
 obtain _ | fu := fu
 · rw [m_spec_HitsValid_l1] at hF1; cases hF1
 rw [m_spec_HitsValid_l1] at hF1
 refine awp_seq (awp_seq (awp_region ?_))
 refine s_mv ?_
 refine s_mv ?_
 refine s_lenT yU63 ?_
 refine s_lt ?_
 refine s_mv ?_
 refine w_guard _ 9 hF1 ?_ ?_ <;> intro hc3 hF2
 refine s_mv ?_
 refine s_le ?_
 refine s_pkt ?_
 refine k_nil (k_seq ?_)
 refine w_cond hF2 ?_ ?_ <;> intro hc4 hF3
 refine awp_skip (k_seq (awp_seq (awp_block (awp_seq (awp_seq ?_)))))
 refine awp_draw yMix (by kernel_rfl) ?_
 refine s_mv ?_
 refine s_mv ?_
 obtain ⟨v5, hv5, hF4⟩ := bind_some' hF3
 refine s_ixT Hit.row hv5 (Hit.row_eq _) yE63 ?_
 refine s_ldN yA65 yS65 ?_
 refine s_mv ?_
 refine s_mv ?_
 obtain ⟨v6, hv6, hF5⟩ := bind_some' hF4
 refine s_ixT Hit.row hv6 (Hit.row_eq _) yE63 ?_
 refine s_fa yF65_1 ?_
 refine s_ld1 yA3 ?_
 obtain ⟨v7, hv7, hF6⟩ := bind_some' hF5
 refine s_pure [] (m_spec_l4Hit_ok fu _ _ _ hv7) ?_
 refine s_not ?_
 refine k_nilD (by kernel_rfl) ?_
 refine k_seq ?_
 refine w_cond hF6 ?_ ?_ <;> intro hc8 hF7
 refine awp_seq (awp_region ?_)
 refine s_as ?_
 refine k_nil (k_seq (awp_ret (k_seq_ret (k_blk_ret (k_seq_ret (k_rnd_ret2 (k_blk_ret (k_seq_ret (k_fin ?_)))))))))
 cases hF7
 exact ends_a [] [] Try.results91
 refine awp_skip (k_seq (awp_seq (awp_region ?_)))
 refine s_as ?_
 refine k_nil (k_seq (awp_block ?_))
 refine awp_fr (β := Int) [2, 4, 26, 27, 28, 29, 30, 31, 32, 33, 34, 35, 36, 37, 38, 39, 40, 41] [] [] (fun a => [(2, .t (.sc (.bool false))), (4, .t (.sc (.int .i64 a.2)))]) (fun a => []) (fun a => a.1 ≤ fu ∧ m_spec_HitsValid_l2 a.1 x1 g1 a.2 = some r) (fu, 0) ⟨Nat.le_refl _, hF7⟩ ?_
 clear hF7
 rintro ⟨fu, g9⟩ ⟨hl10, hF8⟩
 dsimp only at hl10 hF8 ⊢
 obtain _ | fu := fu
 · rw [m_spec_HitsValid_l2] at hF8; cases hF8
 rw [m_spec_HitsValid_l2] at hF8
 refine awp_seq (awp_seq (awp_region ?_))
 refine s_mv ?_
 refine s_mv ?_
 refine s_lt ?_
 refine k_nil (k_seq ?_)
 refine w_cond hF8 ?_ ?_ <;> intro hc11 hF9
 refine awp_skip (k_seq (awp_seq (awp_block (awp_seq ?_))))
 refine awp_draw yMix (by kernel_rfl) ?_
 refine s_mv ?_
 refine s_mv ?_
 obtain ⟨v12, hv12, hF10⟩ := bind_some' hF9
 refine s_ixT Hit.row hv12 (Hit.row_eq _) yE63 ?_
 refine s_fa yF65_0 ?_
 refine s_ldN yA34 yS34 ?_
 refine s_mv ?_
 refine s_mv ?_
 obtain ⟨v13, hv13, hF11⟩ := bind_some' hF10
 refine s_ixT Hit.row hv13 (Hit.row_eq _) yE63 ?_
 refine s_fa yF65_0 ?_
 refine s_ldN yA34 yS34 ?_
 obtain ⟨v14, hv14, hF12⟩ := bind_some' hF11
 refine s_pure [] (m_spec_FormSame_ok fu _ _ _ hv14) ?_
 refine k_nilD (by kernel_rfl) ?_
 refine k_seq ?_
 refine w_cond hF12 ?_ ?_ <;> intro hc15 hF13
 refine awp_seq (awp_region ?_)
 refine s_as ?_
 refine k_nil (k_seq (awp_ret (k_blk_ret (k_seq_ret (k_rnd_ret2 (k_blk_ret (k_blk_ret (k_seq_ret (k_rnd_ret2 (k_blk_ret (k_seq_ret (k_fin ?_))))))))))))
 cases hF13
 exact ends_a [] [] Try.results91
 refine awp_skip (k_blk (k_seq (awp_region ?_)))
 refine s_mv ?_
 refine s_add rfl ?_
 refine s_as ?_
 refine k_nil ?_
 exact s_rn (fu, (w64 (g9 + 1))) ⟨by first | omega | (dsimp only; omega), hF13⟩
 refine awp_exit (k_seq_exit (k_rnd_exit2 (k_blk_exit (k_blk (k_seq (awp_region ?_))))))
 refine s_mv ?_
 refine s_add rfl ?_
 refine s_as ?_
 refine k_nil ?_
 exact s_rn (fu, (w64 (g1 + 1))) ⟨by first | omega | (dsimp only; omega), hF9⟩
 refine awp_exit (k_seq_exit (k_rnd_exit2 (k_blk_exit (k_seq (awp_seq (awp_region ?_))))))
 refine s_mv ?_
 refine s_lenT yU63 ?_
 refine s_le ?_
 refine s_as ?_
 refine k_nil (k_seq (awp_ret (k_fin ?_)))
 cases hF3
 exact ends_a [] [] Try.results91
 refine r_no rfl (r_no rfl ?_)
 refine s_pkf ?_
 refine k_nil (k_seq (awp_false rfl (awp_exit (k_seq_exit (k_rnd_exit2 (k_blk_exit (k_seq (awp_seq (awp_region ?_)))))))))
 refine s_mv ?_
 refine s_lenT yU63 ?_
 refine s_le ?_
 refine s_as ?_
 refine k_nil (k_seq (awp_ret (k_fin ?_)))
 cases hF2
 exact ends_a [] [] Try.results91
def m_spec_l4CopyHit_AC (fuel : Nat) : Prop := ∀ (x1 : Hit) (r : Hit), m_spec_l4CopyHit fuel x1 = some r → AC Try.prog 92 [.ag [.t (.sc (.int .i64 x1.name.kind)), .t (.sc (.str x1.name.name)), .t (.sc (.int .i64 x1.name.n)), .t (.sl (x1.name.scopes.map rI)), .t (.sl (x1.name.kids.map Form.row)), .t (.sc (.int .i64 x1.depth)), .t (.sc (.int .i64 x1.one.kind)), .t (.sc (.str x1.one.name)), .t (.sc (.int .i64 x1.one.n)), .t (.sl (x1.one.scopes.map rI)), .t (.sl (x1.one.kids.map Form.row)), .t (.sl (x1.many.map Hit.row))]] noOb (.ag [.t (.sc (.int .i64 r.name.kind)), .t (.sc (.str r.name.name)), .t (.sc (.int .i64 r.name.n)), .t (.sl (r.name.scopes.map rI)), .t (.sl (r.name.kids.map Form.row)), .t (.sc (.int .i64 r.depth)), .t (.sc (.int .i64 r.one.kind)), .t (.sc (.str r.one.name)), .t (.sc (.int .i64 r.one.n)), .t (.sl (r.one.scopes.map rI)), .t (.sl (r.one.kids.map Form.row)), .t (.sl (r.many.map Hit.row))]) noOb
theorem m_spec_l4CopyHit_st (fu : Nat) (ih_m_spec_l4CopyHit : ∀ k, k ≤ fu → m_spec_l4CopyHit_AC k) : m_spec_l4CopyHit_AC (fu + 1) := by
 intro x1 r hF0
 rw [m_spec_l4CopyHit] at hF0
 refine AC_i [.ag [.t (.sc (.int .i64 r.name.kind)), .t (.sc (.str r.name.name)), .t (.sc (.int .i64 r.name.n)), .t (.sl (r.name.scopes.map rI)), .t (.sl (r.name.kids.map Form.row)), .t (.sc (.int .i64 r.depth)), .t (.sc (.int .i64 r.one.kind)), .t (.sc (.str r.one.name)), .t (.sc (.int .i64 r.one.n)), .t (.sl (r.one.scopes.map rI)), .t (.sl (r.one.kids.map Form.row)), .t (.sl (r.many.map Hit.row))]] Try.func92 rfl Try.ntmps92 ?_
 intro C hC
 refine awp_seq (awp_region ?_)
 refine s_box ?_
 refine s_alloc yZ65 ?_
 refine k_nil (k_seq (awp_seq ?_))
 refine awp_draw yMix (by kernel_rfl) ?_
 refine s_fa yF65_0 ?_
 refine s_ldN yA34 yS34 ?_
 obtain ⟨v1, hv1, hF1⟩ := bind_some' hF0
 refine s_call [(9203, 2007), (9204, 12007)] [] _ _ (m_spec_l1Copy_ok fu _ _ hv1) ?_
 refine s_fa yF65_1 ?_
 refine s_ld1 yA3 ?_
 refine s_fa yF65_2 ?_
 refine s_ldN yA34 yS34 ?_
 obtain ⟨v2, hv2, hF2⟩ := bind_some' hF1
 refine s_call [(9203, 2012), (9204, 12012)] [] _ _ (m_spec_l1Copy_ok fu _ _ hv2) ?_
 refine s_bld yZ65 yL65 ?_
 refine s_alloc yZ65 ?_
 refine s_stW yS65 ?_
 refine k_nilD (by kernel_rfl) ?_
 refine k_seq (awp_seq (awp_seq (awp_region ?_)))
 refine s_as ?_
 refine k_nil (k_seq (awp_block ?_))
 refine awp_ownB 3 5020 65 [.t (.sc (.int .i64 v1.kind)), .t (.sc (.str v1.name)), .t (.sc (.int .i64 v1.n)), .ar 2007, .ar 12007, .t (.sc (.int .i64 x1.depth)), .t (.sc (.int .i64 v2.kind)), .t (.sc (.str v2.name)), .t (.sc (.int .i64 v2.n)), .ar 2012, .ar 12012, .ar 5020] yI65.choose_spec ?_
 refine awp_frame2 [4, 14, 15, 16, 17, 18, 19, 20, 21, 22, 23, 24, 25, 26, 27, 28, 29, 30, 31] [3, 5020] [29, 30] [5020] (fun a : Nat × Int × (List Hit) => a.1) (fun a : Nat × Int × (List Hit) => [(4, .t (.sc (.int .i64 a.2.1)))]) (fun a : Nat × Int × (List Hit) => [(3, .box [.t (.sc (.int .i64 v1.kind)), .t (.sc (.str v1.name)), .t (.sc (.int .i64 v1.n)), .ar 2007, .ar 12007, .t (.sc (.int .i64 x1.depth)), .t (.sc (.int .i64 v2.kind)), .t (.sc (.str v2.name)), .t (.sc (.int .i64 v2.n)), .ar 2012, .ar 12012, .ar 5020]), (5020, .arr (a.2.2.map Hit.row) 65 true)]) (fun a : Nat × Int × (List Hit) => a.1 ≤ fu ∧ m_spec_l4CopyHit_l1 a.1 x1 v1 v2 a.2.1 a.2.2 = some r ∧ 0 ≤ a.2.1) (fu, 0, ([] : List Hit)) ⟨Nat.le_refl _, hF2, by simp⟩ (by rfl) (by rfl) (fun _ => rfl) (hasF_cons (by conv => lhs; whnf) (by rfl) hasF_nil) (hasO_cons (by conv => lhs; whnf) (by rfl) (hasO_cons (by conv => lhs; whnf) (by rfl) hasO_nil)) (fresh_C hC rfl) (by repeat (first | exact freshS_args rfl | refine freshS_upd rfl ?_ | refine freshS_frame rfl ?_)) (by repeat (first | exact freshM_no | exact objs_fresh rfl | refine freshM_upd rfl ?_ | refine freshM_frame rfl ?_)) ?_
 clear hF2
 rintro ⟨fu, g3, g4⟩ ⟨hl5, hF3, hn_g3⟩
 dsimp only at hl5 hF3 hn_g3 ⊢
 obtain _ | fu := fu
 · rw [m_spec_l4CopyHit_l1] at hF3; cases hF3
 rw [m_spec_l4CopyHit_l1] at hF3
 refine awp_seq (awp_seq (awp_region ?_))
 refine s_mv ?_
 refine s_fa yF65_3 ?_
 refine s_ld1 yA63 ?_
 refine s_lenT yU63 ?_
 refine s_lt ?_
 refine k_nil (k_seq ?_)
 refine w_cond hF3 ?_ ?_ <;> intro hc6 hF4
 refine awp_lenT 16 (fun hb7 => ?_)
 refine awp_skip (k_seq (awp_seq (awp_block ?_)))
 refine awp_draw yMix (by kernel_rfl) ?_
 refine s_fa yF65_3 ?_
 refine s_ld1 yA63 ?_
 refine s_fa yF65_3 ?_
 refine s_ld1 yA63 ?_
 refine s_mv ?_
 obtain ⟨v8, hv8, hF5⟩ := bind_some' hF4
 refine s_ixT Hit.row hv8 (Hit.row_eq _) yE63 ?_
 refine s_ldN yA65 yS65 ?_
 obtain ⟨v9, hv9, hF6⟩ := bind_some' hF5
 refine s_pure [] (ih_m_spec_l4CopyHit fu (by omega) _ _ hv9) ?_
 refine s_bs Hit.row [v9] yP63 yR65 ?_
 obtain ⟨hk10, hF7⟩ := chk_some hF6
 refine s_apT Hit.row (fun y => Hit.row_len y) hk10 yP63 ?_
 refine s_fa yF65_3 ?_
 refine s_stP yS63 ?_
 refine k_nilD (by kernel_rfl) ?_
 refine k_blk (k_seq (awp_region ?_))
 refine s_mv ?_
 refine s_add (winc2 hc6 hb7 hn_g3) ?_
 refine s_as ?_
 refine k_nil ?_
 exact s_rn (fu, (g3 + 1), (g4 ++ [v9])) ⟨by first | omega | (dsimp only; omega), hF7, by first | omega | (dsimp only; omega)⟩ [(5020, 30)]
 refine awp_exit (k_seq_exit (k_rnd_exit2 (k_blk_exit (k_seq (awp_seq (awp_region ?_))))))
 refine s_ldW yA65 yS65 ?_
 refine s_stW yS65 ?_
 refine k_nil (k_seq (awp_ret (k_fin ?_)))
 cases hF4
 exact ends_gen [] [2007, 12007, 2012, 12012, 5020] (by rw [Try.results92]; exact (res_agg (by conv => lhs; whnf) (by conv => lhs; whnf) yA65 yS65 rfl res_nil))
theorem m_spec_l4CopyHit_all (fuel : Nat) : m_spec_l4CopyHit_AC fuel := by
 induction fuel using Nat.strongRecOn with
 | _ N ih =>
   cases N with
   | zero => exact (by intro x1 r h; rw [m_spec_l4CopyHit] at h; cases h)
   | succ fu => exact m_spec_l4CopyHit_st fu (fun k hk => (ih k (by omega)))
theorem m_spec_l4CopyHit_ok (fuel : Nat) : m_spec_l4CopyHit_AC fuel := (m_spec_l4CopyHit_all fuel)
def m_spec_FindHit_AC (fuel : Nat) : Prop := ∀ (x1 : (List Hit)) (x2 : Form) (r : (Hit × Bool)), m_spec_FindHit fuel x1 x2 = some r → AC Try.prog 47 [.t (.sl (x1.map Hit.row)), .ag [.t (.sc (.int .i64 x2.kind)), .t (.sc (.str x2.name)), .t (.sc (.int .i64 x2.n)), .t (.sl (x2.scopes.map rI)), .t (.sl (x2.kids.map Form.row))]] noOb (.tp [.ag [.t (.sc (.int .i64 r.1.name.kind)), .t (.sc (.str r.1.name.name)), .t (.sc (.int .i64 r.1.name.n)), .t (.sl (r.1.name.scopes.map rI)), .t (.sl (r.1.name.kids.map Form.row)), .t (.sc (.int .i64 r.1.depth)), .t (.sc (.int .i64 r.1.one.kind)), .t (.sc (.str r.1.one.name)), .t (.sc (.int .i64 r.1.one.n)), .t (.sl (r.1.one.scopes.map rI)), .t (.sl (r.1.one.kids.map Form.row)), .t (.sl (r.1.many.map Hit.row))], .t (.sc (.bool r.2))]) noOb
theorem m_spec_FindHit_ok (fuel : Nat) : m_spec_FindHit_AC fuel := by
 intro x1 x2 r hF0
 unfold m_spec_FindHit at hF0
 refine AC_i [.ag [.t (.sc (.int .i64 r.1.name.kind)), .t (.sc (.str r.1.name.name)), .t (.sc (.int .i64 r.1.name.n)), .t (.sl (r.1.name.scopes.map rI)), .t (.sl (r.1.name.kids.map Form.row)), .t (.sc (.int .i64 r.1.depth)), .t (.sc (.int .i64 r.1.one.kind)), .t (.sc (.str r.1.one.name)), .t (.sc (.int .i64 r.1.one.n)), .t (.sl (r.1.one.scopes.map rI)), .t (.sl (r.1.one.kids.map Form.row)), .t (.sl (r.1.many.map Hit.row))], .t (.sc (.bool r.2))] Try.func47 rfl Try.ntmps47 ?_
 intro C hC
 refine awp_seq (awp_region ?_)
 refine s_box ?_
 refine s_alloc yZ65 ?_
 refine s_as ?_
 refine k_nil (k_seq (awp_seq (awp_region ?_)))
 refine s_mv ?_
 refine s_ldW yA34 yS34 ?_
 obtain ⟨v1, hv1, hF1⟩ := bind_some' hF0
 refine s_pure [] (m_spec_l4Find_ok fuel _ _ _ hv1) ?_
 refine s_as ?_
 refine k_nil (k_seq (awp_seq ?_))
 refine awp_jn (α := Nat × Bool) [10, 11, 12, 13, 14, 15, 16] [] [] (fun a => [(16, .t (.sc (.bool a.2)))]) (fun a => []) (fun a => a.1 ≤ fuel ∧ m_spec_FindHit_j1 a.1 x1 v1 a.2 = some r) ?_ ?_
 refine awp_region ?_
 refine s_mv ?_
 obtain ⟨v2, hv2, hF2⟩ := bind_some' hF1
 refine s_pure [] (m_spec_HitsValid_ok fuel _ _ hv2) ?_
 refine s_not ?_
 refine s_mv ?_
 refine w_guard _ 13 hF2 ?_ ?_ <;> intro hc3 hF3
 refine r_no rfl (r_no rfl ?_)
 refine s_pkt ?_
 refine k_nil ?_
 exact s_jn (fuel, true) ⟨by first | omega | (dsimp only; omega), hF3⟩
 refine s_mv ?_
 refine s_lt ?_
 refine s_pkf ?_
 refine k_nil ?_
 exact s_jn (fuel, (decide (v1 < 0))) ⟨by first | omega | (dsimp only; omega), hF3⟩
 clear hF1
 rintro ⟨fu, g4⟩ ⟨hl5, hF2⟩
 dsimp only at hl5 hF2 ⊢
 obtain _ | fu := fu
 · rw [m_spec_FindHit_j1] at hF2; cases hF2
 rw [m_spec_FindHit_j1] at hF2
 refine w_cond hF2 ?_ ?_ <;> intro hc6 hF3
 refine awp_seq (awp_region ?_)
 refine s_bld yZ65 yL65 ?_
 refine s_stW yS65 ?_
 refine s_as ?_
 refine k_nil (k_seq (awp_ret (k_seq_ret (k_fin ?_))))
 cases hF3
 exact ends_gen [] [] (by rw [Try.results47]; exact (res_agg (by conv => lhs; whnf) (by conv => lhs; whnf) yA65 yS65 rfl (res_tmp (by conv => lhs; whnf) res_nil)))
 refine awp_skip (k_seq (awp_seq (awp_region ?_)))
 refine s_mv ?_
 refine s_mv ?_
 obtain ⟨v7, hv7, hF4⟩ := bind_some' hF3
 refine s_ixT Hit.row hv7 (Hit.row_eq _) yE63 ?_
 refine s_ldN yA65 yS65 ?_
 obtain ⟨v8, hv8, hF5⟩ := bind_some' hF4
 refine s_pure [] (m_spec_l4CopyHit_ok fu _ _ hv8) ?_
 refine s_stW yS65 ?_
 refine s_as ?_
 refine k_nil (k_seq (awp_ret (k_fin ?_)))
 cases hF5
 exact ends_gen [] [] (by rw [Try.results47]; exact (res_agg (by conv => lhs; whnf) (by conv => lhs; whnf) yA65 yS65 rfl (res_tmp (by conv => lhs; whnf) res_nil)))
def m_impl_hitAt_1_AC (fuel : Nat) : Prop := ∀ (x1 : Hit) (o1 : Form) (r : Bool), m_impl_hitAt_1 fuel x1 o1 = some r → AC Try.prog 138 [.ag [.t (.sc (.int .i64 x1.name.kind)), .t (.sc (.str x1.name.name)), .t (.sc (.int .i64 x1.name.n)), .t (.sl (x1.name.scopes.map rI)), .t (.sl (x1.name.kids.map Form.row)), .t (.sc (.int .i64 x1.depth)), .t (.sc (.int .i64 x1.one.kind)), .t (.sc (.str x1.one.name)), .t (.sc (.int .i64 x1.one.n)), .t (.sl (x1.one.scopes.map rI)), .t (.sl (x1.one.kids.map Form.row)), .t (.sl (x1.many.map Hit.row))], .rf 9000 0] (objs [(9000, .box [.t (.sc (.int .i64 o1.kind)), .t (.sc (.str o1.name)), .t (.sc (.int .i64 o1.n)), .t (.sl (o1.scopes.map rI)), .t (.sl (o1.kids.map Form.row))])]) (.t (.sc (.bool r))) (objs [(9000, .box [.t (.sc (.int .i64 o1.kind)), .t (.sc (.str o1.name)), .t (.sc (.int .i64 o1.n)), .t (.sl (o1.scopes.map rI)), .t (.sl (o1.kids.map Form.row))])])
theorem m_impl_hitAt_1_ok (fuel : Nat) : m_impl_hitAt_1_AC fuel := by
 intro x1 o1 r hF0
 unfold m_impl_hitAt_1 at hF0
 refine AC_i [.t (.sc (.bool r))] Try.func138 rfl Try.ntmps138 ?_
 intro C hC
 refine awp_seq (awp_region ?_)
 refine s_box ?_
 refine s_as ?_
 refine k_nil (k_seq (awp_seq (awp_region ?_)))
 refine s_fa yF65_0 ?_
 refine s_ldN yA34 yS34 ?_
 refine s_ldW yA34 yS34 ?_
 obtain ⟨v1, hv1, hF1⟩ := bind_some' hF0
 refine s_pure [] (m_impl_FormSame_ok fuel _ _ _ hv1) ?_
 refine s_as ?_
 refine k_nil (k_seq (awp_ret (k_fin ?_)))
 cases hF1
 exact ends_a _ [] Try.results138
def m_slices_IndexFunc_Hit_hitAt_1_AC (fuel : Nat) : Prop := ∀ (x1 : (List Hit)) (o1 : Form) (r : Int), m_slices_IndexFunc_Hit_hitAt_1 fuel x1 o1 = some r → AC Try.prog 137 [.t (.sl (x1.map Hit.row)), .fn 138 [.rf 9000 0]] (objs [(9000, .box [.t (.sc (.int .i64 o1.kind)), .t (.sc (.str o1.name)), .t (.sc (.int .i64 o1.n)), .t (.sl (o1.scopes.map rI)), .t (.sl (o1.kids.map Form.row))])]) (.t (.sc (.int .i64 r))) (objs [(9000, .box [.t (.sc (.int .i64 o1.kind)), .t (.sc (.str o1.name)), .t (.sc (.int .i64 o1.n)), .t (.sl (o1.scopes.map rI)), .t (.sl (o1.kids.map Form.row))])])
theorem m_slices_IndexFunc_Hit_hitAt_1_ok (fuel : Nat) : m_slices_IndexFunc_Hit_hitAt_1_AC fuel := by
 intro x1 o1 r hF0
 unfold m_slices_IndexFunc_Hit_hitAt_1 at hF0
 refine AC_i [.t (.sc (.int .i64 r))] Try.func137 rfl Try.ntmps137 ?_
 intro C hC
 refine awp_seq (awp_region ?_)
 refine s_as ?_
 refine k_nil (k_seq (awp_seq (awp_seq (awp_region ?_))))
 refine s_mv ?_
 refine s_lenT yU63 ?_
 refine s_mv ?_
 refine k_nil (k_seq (awp_block ?_))
 refine awp_fr (β := Int) [4, 5, 8, 9, 10, 11, 12, 13, 14, 15, 16, 17, 18] [] [] (fun a => [(8, .t (.sc (.int .i64 a.2)))]) (fun a => []) (fun a => a.1 ≤ fuel ∧ m_slices_IndexFunc_Hit_hitAt_1_l1 a.1 x1 o1 a.2 = some r ∧ 0 ≤ a.2) (fuel, 0) ⟨Nat.le_refl _, hF0, by simp⟩ ?_
 clear hF0
 rintro ⟨fu, g1⟩ ⟨hl2, hF1, hn_g1⟩
 dsimp only at hl2 hF1 hn_g1 ⊢
 obtain _ | fu := fu
 · rw [m_slices_IndexFunc_Hit_hitAt_1_l1] at hF1; cases hF1
 rw [m_slices_IndexFunc_Hit_hitAt_1_l1] at hF1
 refine awp_seq (awp_region ?_)
 refine s_lt ?_
 refine k_nil (k_seq (awp_seq ?_))
 refine w_cond hF1 ?_ ?_ <;> intro hc3 hF2
 refine awp_lenT 0 (fun hb4 => ?_)
 refine awp_skip (k_seq (awp_seq (awp_block (awp_seq (awp_region ?_)))))
 refine s_mv ?_
 refine s_as ?_
 refine k_nil (k_seq (awp_seq (awp_region ?_)))
 iterate 3 refine s_mv ?_
 obtain ⟨v5, hv5, hF3⟩ := bind_some' hF2
 refine s_ixT Hit.row hv5 (Hit.row_eq _) yE63 ?_
 refine s_ldN yA65 yS65 ?_
 obtain ⟨v6, hv6, hF4⟩ := bind_some' hF3
 refine s_call [(9000, 9000)] [] _ _ (m_impl_hitAt_1_ok fu _ _ _ hv6) ?_
 refine k_nil (k_seq ?_)
 refine w_cond hF4 ?_ ?_ <;> intro hc7 hF5
 refine awp_seq (awp_region ?_)
 refine s_mv ?_
 refine s_as ?_
 refine k_nil (k_seq (awp_ret (k_blk_ret (k_seq_ret (k_rnd_ret2 (k_blk_ret (k_seq_ret (k_fin ?_))))))))
 cases hF5
 exact ends_a _ [] Try.results137
 refine awp_skip (k_blk (k_seq (awp_region ?_)))
 refine s_add (winc2 hc3 hb4 hn_g1) ?_
 refine s_mv ?_
 refine k_nil ?_
 exact s_rn (fu, (g1 + 1)) ⟨by first | omega | (dsimp only; omega), hF5, by first | omega | (dsimp only; omega)⟩
 refine awp_exit (k_seq_exit (k_rnd_exit2 (k_blk_exit (k_seq (awp_seq (awp_region ?_))))))
 refine s_as ?_
 refine k_nil (k_seq (awp_ret (k_fin ?_)))
 cases hF2
 exact ends_a _ [] Try.results137
def m_impl_hitAt_AC (fuel : Nat) : Prop := ∀ (x1 : (List Hit)) (x2 : Form) (r : Int), m_impl_hitAt fuel x1 x2 = some r → AC Try.prog 93 [.t (.sl (x1.map Hit.row)), .ag [.t (.sc (.int .i64 x2.kind)), .t (.sc (.str x2.name)), .t (.sc (.int .i64 x2.n)), .t (.sl (x2.scopes.map rI)), .t (.sl (x2.kids.map Form.row))]] noOb (.t (.sc (.int .i64 r))) noOb
theorem m_impl_hitAt_ok (fuel : Nat) : m_impl_hitAt_AC fuel := by
 intro x1 x2 r hF0
 unfold m_impl_hitAt at hF0
 refine AC_i [.t (.sc (.int .i64 r))] Try.func93 rfl Try.ntmps93 ?_
 intro C hC
 refine awp_seq (awp_region ?_)
 refine s_box ?_
 refine s_as ?_
 refine k_nil (k_seq (awp_seq (awp_region ?_)))
 refine s_mv ?_
 refine s_fn ?_
 obtain ⟨v1, hv1, hF1⟩ := bind_some' hF0
 refine s_call [(9000, 3)] [] _ _ (m_slices_IndexFunc_Hit_hitAt_1_ok fuel _ _ _ hv1) ?_
 refine s_as ?_
 refine k_nil (k_seq (awp_ret (k_fin ?_)))
 cases hF1
 exact ends_a [] [] Try.results93
def m_impl_HitsValid_AC (fuel : Nat) : Prop := ∀ (x1 : (List Hit)) (r : Bool), m_impl_HitsValid fuel x1 = some r → AC Try.prog 94 [.t (.sl (x1.map Hit.row))] noOb (.t (.sc (.bool r))) noOb
theorem m_impl_HitsValid_ok (fuel : Nat) : m_impl_HitsValid_AC fuel := by
 intro x1 r hF0
 unfold m_impl_HitsValid at hF0
 refine AC_i [.t (.sc (.bool r))] Try.func94 rfl Try.ntmps94 ?_
 intro C hC
 refine awp_seq (awp_region ?_)
 refine s_as ?_
 refine k_nil (k_seq (awp_seq (awp_seq (awp_region ?_))))
 refine s_mv ?_
 refine s_lenT yU63 ?_
 refine s_mv ?_
 refine k_nil (k_seq (awp_block ?_))
 refine awp_fr (β := Int) [2, 3, 4, 7, 8, 9, 10, 11, 12, 13, 14, 15, 16, 17, 18, 19, 20, 21, 22, 23, 24] [] [4] (fun a => [(7, .t (.sc (.int .i64 a.2)))]) (fun a => []) (fun a => a.1 ≤ fuel ∧ m_impl_HitsValid_l1 a.1 x1 a.2 = some r ∧ 0 ≤ a.2) (fuel, 0) ⟨Nat.le_refl _, hF0, by simp⟩ ?_
 clear hF0
 rintro ⟨fu, g1⟩ ⟨hl2, hF1, hn_g1⟩
 dsimp only at hl2 hF1 hn_g1 ⊢
 obtain _ | fu := fu
 · rw [m_impl_HitsValid_l1] at hF1; cases hF1
 rw [m_impl_HitsValid_l1] at hF1
 refine awp_seq (awp_region ?_)
 refine s_lt ?_
 refine k_nil (k_seq (awp_seq ?_))
 refine w_cond hF1 ?_ ?_ <;> intro hc3 hF2
 refine awp_lenT 0 (fun hb4 => ?_)
 refine awp_skip (k_seq (awp_seq (awp_block (awp_seq (awp_region ?_)))))
 refine s_mv ?_
 obtain ⟨v5, hv5, hF3⟩ := bind_some' hF2
 refine s_ixT Hit.row hv5 (Hit.row_eq _) yE63 ?_
 refine s_ldN yA65 yS65 ?_
 refine s_alloc yZ65 ?_
 refine s_as ?_
 refine s_stW yS65 ?_
 refine k_nil (k_seq (awp_seq ?_))
 refine awp_draw yMix (by kernel_rfl) ?_
 refine s_ldW yA65 yS65 ?_
 obtain ⟨v6, hv6, hF4⟩ := bind_some' hF3
 refine s_pure [] (m_impl_hitOk_ok fu _ _ hv6) ?_
 refine s_not ?_
 refine s_mv ?_
 refine w_guard _ 15 hF4 ?_ ?_ <;> intro hc7 hF5
 iterate 7 refine r_no rfl ?_
 refine s_pkt ?_
 refine k_nilD (by kernel_rfl) ?_
 refine k_seq (awp_true rfl (awp_seq (awp_region ?_)))
 refine s_as ?_
 refine k_nil (k_seq (awp_ret (k_blk_ret (k_seq_ret (k_rnd_ret2 (k_blk_ret (k_seq_ret (k_fin ?_))))))))
 cases hF5
 exact ends_a [] [] Try.results94
 refine s_mv ?_
 refine s_mv ?_
 obtain ⟨v8, hv8, hF6⟩ := bind_some' hF5
 refine s_sl01 Hit.row (fun y => Hit.row_len y) hv8 yU63 yE63 ?_
 refine s_fa yF65_0 ?_
 refine s_ldN yA34 yS34 ?_
 obtain ⟨v9, hv9, hF7⟩ := bind_some' hF6
 refine s_pure [] (m_impl_hitAt_ok fu _ _ _ hv9) ?_
 refine s_ge ?_
 refine s_pkf ?_
 refine k_nilD (by kernel_rfl) ?_
 refine k_seq ?_
 refine w_cond hF7 ?_ ?_ <;> intro hc10 hF8
 refine awp_seq (awp_region ?_)
 refine s_as ?_
 refine k_nil (k_seq (awp_ret (k_blk_ret (k_seq_ret (k_rnd_ret2 (k_blk_ret (k_seq_ret (k_fin ?_))))))))
 cases hF8
 exact ends_a [] [] Try.results94
 refine awp_skip (k_blk (k_seq (awp_region ?_)))
 refine s_add (winc2 hc3 hb4 hn_g1) ?_
 refine s_mv ?_
 refine k_nil ?_
 exact s_rn (fu, (g1 + 1)) ⟨by first | omega | (dsimp only; omega), hF8, by first | omega | (dsimp only; omega)⟩
 refine awp_exit (k_seq_exit (k_rnd_exit2 (k_blk_exit (k_seq (awp_seq (awp_region ?_))))))
 refine s_mv ?_
 refine s_lenT yU63 ?_
 refine s_le ?_
 refine s_as ?_
 refine k_nil (k_seq (awp_ret (k_fin ?_)))
 cases hF2
 exact ends_a [] [] Try.results94
def m_impl_copyHit_D_AC (fuel : Nat) : Prop := ∀ (x1 : Hit) (r : Hit), m_impl_copyHit fuel x1 = some r → AC Try.prog 95 [.ag [.t (.sc (.int .i64 x1.name.kind)), .t (.sc (.str x1.name.name)), .t (.sc (.int .i64 x1.name.n)), .t (.sl (x1.name.scopes.map rI)), .t (.sl (x1.name.kids.map Form.row)), .t (.sc (.int .i64 x1.depth)), .t (.sc (.int .i64 x1.one.kind)), .t (.sc (.str x1.one.name)), .t (.sc (.int .i64 x1.one.n)), .t (.sl (x1.one.scopes.map rI)), .t (.sl (x1.one.kids.map Form.row)), .t (.sl (x1.many.map Hit.row))]] (objs []) (.ag [.t (.sc (.int .i64 r.name.kind)), .t (.sc (.str r.name.name)), .t (.sc (.int .i64 r.name.n)), .ar 9203, .ar 9204, .t (.sc (.int .i64 r.depth)), .t (.sc (.int .i64 r.one.kind)), .t (.sc (.str r.one.name)), .t (.sc (.int .i64 r.one.n)), .ar 9209, .ar 9210, .ar 9211]) (objs [(9203, .arr (r.name.scopes.map rI) 3 true), (9204, .dar (r.name.kids.map (Form.rowD 3 34)) 34), (9209, .arr (r.one.scopes.map rI) 3 true), (9210, .dar (r.one.kids.map (Form.rowD 3 34)) 34), (9211, .dar (r.many.map (Hit.rowD 3 34 65)) 65)])
theorem m_impl_copyHit_D_st (fu : Nat) (ih_m_impl_copyHit_D : ∀ k, k ≤ fu → m_impl_copyHit_D_AC k) : m_impl_copyHit_D_AC (fu + 1) := by
 intro x1 r hF0
 rw [m_impl_copyHit] at hF0
 refine AC_i [.ag [.t (.sc (.int .i64 r.name.kind)), .t (.sc (.str r.name.name)), .t (.sc (.int .i64 r.name.n)), .ar 9203, .ar 9204, .t (.sc (.int .i64 r.depth)), .t (.sc (.int .i64 r.one.kind)), .t (.sc (.str r.one.name)), .t (.sc (.int .i64 r.one.n)), .ar 9209, .ar 9210, .ar 9211]] Try.func95 rfl Try.ntmps95 ?_
 intro C hC
 refine awp_seq (awp_region ?_)
 refine s_box ?_
 refine s_alloc yZ65 ?_
 refine k_nil (k_seq (awp_seq ?_))
 refine awp_draw yMix (by kernel_rfl) ?_
 refine s_fa yF65_0 ?_
 refine s_ldN yA34 yS34 ?_
 obtain ⟨v1, hv1, hF1⟩ := bind_some' hF0
 refine s_call [(9203, 2008), (9204, 12008)] [] _ _ (m_impl_copyForm_D_ok fu _ _ hv1) ?_
 refine s_fa yF65_1 ?_
 refine s_ld1 yA3 ?_
 refine s_fa yF65_2 ?_
 refine s_ldN yA34 yS34 ?_
 obtain ⟨v2, hv2, hF2⟩ := bind_some' hF1
 refine s_call [(9203, 2013), (9204, 12013)] [] _ _ (m_impl_copyForm_D_ok fu _ _ hv2) ?_
 refine s_bld yZ65 yL65 ?_
 refine s_alloc yZ65 ?_
 refine s_stW yS65 ?_
 refine k_nilD (by kernel_rfl) ?_
 refine k_seq (awp_seq (awp_seq (awp_region ?_)))
 refine s_fa yF65_3 ?_
 refine s_ld1 yA63 ?_
 refine s_lenT yU63 ?_
 refine s_mv ?_
 refine k_nil (k_seq (awp_block ?_))
 refine awp_ownB 3 5020 65 [.t (.sc (.int .i64 v1.kind)), .t (.sc (.str v1.name)), .t (.sc (.int .i64 v1.n)), .ar 2008, .ar 12008, .t (.sc (.int .i64 x1.depth)), .t (.sc (.int .i64 v2.kind)), .t (.sc (.str v2.name)), .t (.sc (.int .i64 v2.n)), .ar 2013, .ar 12013, .ar 5020] yI65.choose_spec ?_
 refine awp_toD 5020 (Hit.rowD 3 34 65) (es := ([] : List Hit).map Hit.row) (by (conv => lhs; whnf) <;> rfl) rfl ?_
 refine awp_frame2 [5, 18, 19, 20, 21, 22, 23, 24, 25, 26, 27, 28, 29] [3, 5020] [5, 26, 27, 2025, 12025, 22025, 32025, 42025] [5020] (fun a : Nat × Int × (List Hit) => a.1) (fun a : Nat × Int × (List Hit) => [(18, .t (.sc (.int .i64 a.2.1)))]) (fun a : Nat × Int × (List Hit) => [(3, .box [.t (.sc (.int .i64 v1.kind)), .t (.sc (.str v1.name)), .t (.sc (.int .i64 v1.n)), .ar 2008, .ar 12008, .t (.sc (.int .i64 x1.depth)), .t (.sc (.int .i64 v2.kind)), .t (.sc (.str v2.name)), .t (.sc (.int .i64 v2.n)), .ar 2013, .ar 12013, .ar 5020]), (5020, .dar (a.2.2.map (Hit.rowD 3 34 65)) 65)]) (fun a : Nat × Int × (List Hit) => a.1 ≤ fu ∧ m_impl_copyHit_l1 a.1 x1 v1 v2 a.2.1 a.2.2 = some r ∧ 0 ≤ a.2.1) (fu, 0, ([] : List Hit)) ⟨Nat.le_refl _, hF2, by simp⟩ (by rfl) (by rfl) (fun _ => rfl) (hasF_cons (by conv => lhs; whnf) (by rfl) hasF_nil) (hasO_cons (by conv => lhs; whnf) (by rfl) (hasO_cons (by conv => lhs; whnf) (by rfl) hasO_nil)) (fresh_C hC rfl) (by repeat (first | exact freshS_args rfl | refine freshS_upd rfl ?_ | refine freshS_frame rfl ?_)) (by repeat (first | exact freshM_no | exact objs_fresh rfl | refine freshM_upd rfl ?_ | refine freshM_frame rfl ?_)) ?_
 clear hF2
 rintro ⟨fu, g3, g4⟩ ⟨hl5, hF3, hn_g3⟩
 dsimp only at hl5 hF3 hn_g3 ⊢
 obtain _ | fu := fu
 · rw [m_impl_copyHit_l1] at hF3; cases hF3
 rw [m_impl_copyHit_l1] at hF3
 refine awp_seq (awp_region ?_)
 refine s_lt ?_
 refine k_nil (k_seq (awp_seq ?_))
 refine w_cond hF3 ?_ ?_ <;> intro hc6 hF4
 refine awp_lenT 16 (fun hb7 => ?_)
 refine awp_skip (k_seq (awp_seq (awp_block (awp_seq (awp_region ?_)))))
 obtain ⟨v8, hv8, hF5⟩ := bind_some' hF4
 refine s_ixT Hit.row hv8 (Hit.row_eq _) yE63 ?_
 refine s_ldN yA65 yS65 ?_
 refine s_alloc yZ65 ?_
 refine s_stW yS65 ?_
 refine k_nil (k_seq ?_)
 refine awp_draw yMix (by kernel_rfl) ?_
 refine s_fa yF65_3 ?_
 refine s_ld1 yA63 ?_
 refine s_ldW yA65 yS65 ?_
 obtain ⟨v9, hv9, hF6⟩ := bind_some' hF5
 refine s_call [(9203, 2025), (9204, 12025), (9209, 22025), (9210, 32025), (9211, 42025)] [] _ _ (ih_m_impl_copyHit_D fu (by omega) _ _ hv9) ?_
 refine s_bsD [.sc (.int .i64 v9.name.kind), .sc (.str v9.name.name), .sc (.int .i64 v9.name.n), .any, .any, .sc (.int .i64 v9.depth), .sc (.int .i64 v9.one.kind), .sc (.str v9.one.name), .sc (.int .i64 v9.one.n), .any, .any, .any] [(0, 3, 2025), (0, 4, 12025), (0, 9, 22025), (0, 10, 32025), (0, 11, 42025)] yP63 ?_
 obtain ⟨hk10, hF7⟩ := chk_some hF6
 refine s_apH (Hit.rowD 3 34 65) [(g4.length, 3, 2025), (g4.length, 4, 12025), (g4.length, 9, 22025), (g4.length, 10, 32025), (g4.length, 11, 42025)] hk10 yP63 ?_
 refine s_fa yF65_3 ?_
 refine s_stP yS63 ?_
 refine k_nilD (by kernel_rfl) ?_
 refine k_blk (k_seq ?_)
 refine awp_jaA 27 2025 [.sc (.int .i64 v9.name.kind), .sc (.str v9.name.name), .sc (.int .i64 v9.name.n), .ow 3 (v9.name.scopes.map rI), .any, .sc (.int .i64 v9.depth), .sc (.int .i64 v9.one.kind), .sc (.str v9.one.name), .sc (.int .i64 v9.one.n), .any, .any, .any] ?_
 refine awp_jaD 27 12025 [.sc (.int .i64 v9.name.kind), .sc (.str v9.name.name), .sc (.int .i64 v9.name.n), .ow 3 (v9.name.scopes.map rI), .ow 34 (v9.name.kids.map (Form.rowD 3 34)), .sc (.int .i64 v9.depth), .sc (.int .i64 v9.one.kind), .sc (.str v9.one.name), .sc (.int .i64 v9.one.n), .any, .any, .any] ?_
 refine awp_jaA 27 22025 [.sc (.int .i64 v9.name.kind), .sc (.str v9.name.name), .sc (.int .i64 v9.name.n), .ow 3 (v9.name.scopes.map rI), .ow 34 (v9.name.kids.map (Form.rowD 3 34)), .sc (.int .i64 v9.depth), .sc (.int .i64 v9.one.kind), .sc (.str v9.one.name), .sc (.int .i64 v9.one.n), .ow 3 (v9.one.scopes.map rI), .any, .any] ?_
 refine awp_jaD 27 32025 [.sc (.int .i64 v9.name.kind), .sc (.str v9.name.name), .sc (.int .i64 v9.name.n), .ow 3 (v9.name.scopes.map rI), .ow 34 (v9.name.kids.map (Form.rowD 3 34)), .sc (.int .i64 v9.depth), .sc (.int .i64 v9.one.kind), .sc (.str v9.one.name), .sc (.int .i64 v9.one.n), .ow 3 (v9.one.scopes.map rI), .ow 34 (v9.one.kids.map (Form.rowD 3 34)), .any] ?_
 refine awp_jaD 27 42025 [.sc (.int .i64 v9.name.kind), .sc (.str v9.name.name), .sc (.int .i64 v9.name.n), .ow 3 (v9.name.scopes.map rI), .ow 34 (v9.name.kids.map (Form.rowD 3 34)), .sc (.int .i64 v9.depth), .sc (.int .i64 v9.one.kind), .sc (.str v9.one.name), .sc (.int .i64 v9.one.n), .ow 3 (v9.one.scopes.map rI), .ow 34 (v9.one.kids.map (Form.rowD 3 34)), .ow 65 (v9.many.map (Hit.rowD 3 34 65))] ?_
 refine awp_naH 27 (row := (Hit.rowD 3 34 65)) (fs := [.sc (.int .i64 v9.name.kind), .sc (.str v9.name.name), .sc (.int .i64 v9.name.n), .ow 3 (v9.name.scopes.map rI), .ow 34 (v9.name.kids.map (Form.rowD 3 34)), .sc (.int .i64 v9.depth), .sc (.int .i64 v9.one.kind), .sc (.str v9.one.name), .sc (.int .i64 v9.one.n), .ow 3 (v9.one.scopes.map rI), .ow 34 (v9.one.kids.map (Form.rowD 3 34)), .ow 65 (v9.many.map (Hit.rowD 3 34 65))]) v9 (Hit.rowDE _ _ _ _) ?_
 refine awp_region ?_
 refine s_add (winc2 hc6 hb7 hn_g3) ?_
 refine s_mv ?_
 refine k_nil ?_
 exact s_rn (fu, (g3 + 1), (g4 ++ [v9])) ⟨by first | omega | (dsimp only; omega), hF7, by first | omega | (dsimp only; omega)⟩ [(5020, 27)]
 refine awp_exit (k_seq_exit (k_rnd_exit2 (k_blk_exit (k_seq (awp_seq (awp_region ?_))))))
 refine s_ldW yA65 yS65 ?_
 refine s_stW yS65 ?_
 refine k_nil (k_seq ?_)
 refine awp_mvB 2 2008 9203 [.t (.sc (.int .i64 v1.kind)), .t (.sc (.str v1.name)), .t (.sc (.int .i64 v1.n)), .ar 9203, .ar 12008, .t (.sc (.int .i64 x1.depth)), .t (.sc (.int .i64 v2.kind)), .t (.sc (.str v2.name)), .t (.sc (.int .i64 v2.n)), .ar 2013, .ar 12013, .ar 5020] ?_
 refine awp_mvBO 2 12008 9204 [.t (.sc (.int .i64 v1.kind)), .t (.sc (.str v1.name)), .t (.sc (.int .i64 v1.n)), .ar 9203, .ar 9204, .t (.sc (.int .i64 x1.depth)), .t (.sc (.int .i64 v2.kind)), .t (.sc (.str v2.name)), .t (.sc (.int .i64 v2.n)), .ar 2013, .ar 12013, .ar 5020] ?_
 refine awp_mvB 2 2013 9209 [.t (.sc (.int .i64 v1.kind)), .t (.sc (.str v1.name)), .t (.sc (.int .i64 v1.n)), .ar 9203, .ar 9204, .t (.sc (.int .i64 x1.depth)), .t (.sc (.int .i64 v2.kind)), .t (.sc (.str v2.name)), .t (.sc (.int .i64 v2.n)), .ar 9209, .ar 12013, .ar 5020] ?_
 refine awp_mvBO 2 12013 9210 [.t (.sc (.int .i64 v1.kind)), .t (.sc (.str v1.name)), .t (.sc (.int .i64 v1.n)), .ar 9203, .ar 9204, .t (.sc (.int .i64 x1.depth)), .t (.sc (.int .i64 v2.kind)), .t (.sc (.str v2.name)), .t (.sc (.int .i64 v2.n)), .ar 9209, .ar 9210, .ar 5020] ?_
 refine awp_mvBO 2 5020 9211 [.t (.sc (.int .i64 v1.kind)), .t (.sc (.str v1.name)), .t (.sc (.int .i64 v1.n)), .ar 9203, .ar 9204, .t (.sc (.int .i64 x1.depth)), .t (.sc (.int .i64 v2.kind)), .t (.sc (.str v2.name)), .t (.sc (.int .i64 v2.n)), .ar 9209, .ar 9210, .ar 9211] ?_
 refine awp_ret (k_fin ?_)
 cases hF4
 exact ends_gen _ [] (by rw [Try.results95]; exact (res_agg (by conv => lhs; whnf) (by conv => lhs; whnf) yA65 yS65 rfl res_nil))
end Go.Abs
