/- A part of the proof: what the functions that the law calls answer, as pure values. -/
import Derived.Test.YtdlfmjbmnopaiaaK566d99bbca90
import Derived.Test.YtdlfmjbmnopaiaaK780d2eb56f1c
import Derived.Test.YtdlfmjbmnopaiaaKd76126587010
import Derived.Test.YtdlfmjbmnopaiaaKf2381d853e25
set_option linter.unusedSimpArgs false
set_option linter.unusedVariables false
set_option maxRecDepth 100000
set_option maxHeartbeats 4000000
namespace Go.Abs
open Go.Proofs
theorem m_impl_renumber_all (fuel : Nat) : m_impl_renumber_AC fuel := by
 induction fuel using Nat.strongRecOn with
 | _ N ih =>
   cases N with
   | zero => exact (by intro x1 x2 o1 r h; rw [m_impl_renumber] at h; cases h)
   | succ fu => exact m_impl_renumber_st fu (fun k hk => (ih k (by omega)))
theorem m_impl_renumber_ok (fuel : Nat) : m_impl_renumber_AC fuel := (m_impl_renumber_all fuel)
def m_impl_renumber_n_AC (fuel : Nat) : Prop := ∀ (x1 : Core) (o1 : Int) (r : (Core × Int)), m_impl_renumber_n fuel x1 o1 = some r → AC Try.prog 11 [.ag [.t (.sc (.int .i64 x1.kind)), .t (.sc (.int .i64 x1.id)), .t (.sc (.str x1.name)), .t (.sc (.int .i64 x1.n)), .t (.sl (x1.ids.map rI)), .t (.sc (.int .i64 x1.data.kind)), .t (.sc (.str x1.data.name)), .t (.sc (.int .i64 x1.data.n)), .t (.sl (x1.data.scopes.map rI)), .t (.sl (x1.data.kids.map Form.row)), .t (.sl (x1.kids.map Core.row))], .t (.sc .nim), .rf 9000 0] (objs [(9000, .box [.t (.sc (.int .i64 o1))])]) (.ag [.t (.sc (.int .i64 r.1.kind)), .t (.sc (.int .i64 r.1.id)), .t (.sc (.str r.1.name)), .t (.sc (.int .i64 r.1.n)), .t (.sl (r.1.ids.map rI)), .t (.sc (.int .i64 r.1.data.kind)), .t (.sc (.str r.1.data.name)), .t (.sc (.int .i64 r.1.data.n)), .t (.sl (r.1.data.scopes.map rI)), .t (.sl (r.1.data.kids.map Form.row)), .t (.sl (r.1.kids.map Core.row))]) (objs [(9000, .box [.t (.sc (.int .i64 r.2))])])
theorem m_impl_renumber_n_ok (fuel : Nat) : m_impl_renumber_n_AC fuel := by
 intro x1 o1 r hF0
 unfold m_impl_renumber_n at hF0
 refine AC_i [.ag [.t (.sc (.int .i64 r.1.kind)), .t (.sc (.int .i64 r.1.id)), .t (.sc (.str r.1.name)), .t (.sc (.int .i64 r.1.n)), .t (.sl (r.1.ids.map rI)), .t (.sc (.int .i64 r.1.data.kind)), .t (.sc (.str r.1.data.name)), .t (.sc (.int .i64 r.1.data.n)), .t (.sl (r.1.data.scopes.map rI)), .t (.sl (r.1.data.kids.map Form.row)), .t (.sl (r.1.kids.map Core.row))]] Try.func11 rfl Try.ntmps11 ?_
 intro C hC
 refine awp_seq (awp_region ?_)
 refine s_box ?_
 refine s_alloc yZ29 ?_
 refine k_nil (k_seq (awp_seq ?_))
 refine awp_draw yMix (by kernel_rfl) ?_
 refine s_fa yF29_0 ?_
 refine s_ld1 yA3 ?_
 refine s_fa yF29_1 ?_
 refine s_ld1 yA3 ?_
 refine s_fa yF29_2 ?_
 refine s_ld1 yA9 ?_
 refine s_fa yF29_3 ?_
 refine s_ld1 yA3 ?_
 refine s_fa yF29_5 ?_
 refine s_ldN yA26 yS26 ?_
 obtain ⟨v1, hv1, hF1⟩ := bind_some' hF0
 refine s_pure [] (m_impl_copyForm_ok fuel _ _ hv1) ?_
 refine s_bld yZ29 yL29 ?_
 refine s_alloc yZ29 ?_
 refine s_stW yS29 ?_
 refine k_nilD (by kernel_rfl) ?_
 refine k_seq ?_
 refine awp_jn (α := Nat × Int) [27, 28, 29, 30, 31, 32, 33, 34] [7] [] (fun a => []) (fun a => [(7, .box [.t (.sc (.int .i64 x1.kind)), .t (.sc (.int .i64 a.2)), .t (.sc (.str x1.name)), .t (.sc (.int .i64 x1.n)), .nl, .t (.sc (.int .i64 v1.kind)), .t (.sc (.str v1.name)), .t (.sc (.int .i64 v1.n)), .t (.sl (v1.scopes.map rI)), .t (.sl (v1.kids.map Form.row)), .nl])]) (fun a => a.1 ≤ fuel ∧ m_impl_renumber_n_j1 a.1 x1 o1 v1 a.2 = some r) ?_ ?_
 refine awp_seq (awp_region ?_)
 refine s_fa yF29_0 ?_
 refine s_ld1 yA3 ?_
 refine s_eq ?_
 refine k_nil (k_seq ?_)
 refine w_cond hF1 ?_ ?_ <;> intro hc2 hF2
 refine awp_region ?_
 refine s_mv ?_
 refine s_fa yF29_1 ?_
 refine s_ld1 yA3 ?_
 refine s_lookN yM48 ?_
 refine s_fa yF29_1 ?_
 refine s_stP yS3 ?_
 refine k_nil ?_
 exact s_jn (fuel, 0) ⟨by first | omega | (dsimp only; omega), hF2⟩
 refine awp_skip ?_
 exact s_jn (fuel, x1.id) ⟨by first | omega | (dsimp only; omega), hF2⟩
 clear hF1
 rintro ⟨fu, g3⟩ ⟨hl4, hF2⟩
 dsimp only at hl4 hF2 ⊢
 obtain _ | fu := fu
 · rw [m_impl_renumber_n_j1] at hF2; cases hF2
 rw [m_impl_renumber_n_j1] at hF2
 refine awp_seq (awp_region ?_)
 refine s_mkm ?_
 refine s_as ?_
 refine k_nil (k_seq (awp_seq (awp_seq (awp_region ?_))))
 refine s_mv ?_
 refine s_rangeN yM48 ?_
 refine k_nil (k_seq (awp_block ?_))
 refine awp_fr (β := Unit) [9, 10, 38, 39, 40, 41, 42, 43, 44, 45] [] [] (fun a => []) (fun a => []) (fun a => True) (0, ()) trivial ?_
 rintro ⟨_, _⟩ _
 refine awp_seq (awp_region ?_)
 refine s_nextN ?_
 refine s_ext ?_
 refine k_nil (k_seq (awp_seq (awp_false rfl ?_)))
 refine awp_exit (k_seq_exit (k_rnd_exit2 (k_blk_exit ?_)))
 refine k_seq ?_
 refine awp_kill 37 rfl ?_
 refine awp_jn (α := Nat × Int × (Int → Option Int) × (List Int)) [12, 46, 47, 48, 49, 50, 51, 52, 53, 54, 55, 56, 57, 58, 59, 60, 61, 62, 63, 64, 65, 66, 67, 68, 69, 70, 71] [7, 35, 5060, 9000] [] (fun a => []) (fun a => [(7, .box [.t (.sc (.int .i64 x1.kind)), .t (.sc (.int .i64 g3)), .t (.sc (.str x1.name)), .t (.sc (.int .i64 x1.n)), .ar 5060, .t (.sc (.int .i64 v1.kind)), .t (.sc (.str v1.name)), .t (.sc (.int .i64 v1.n)), .t (.sl (v1.scopes.map rI)), .t (.sl (v1.kids.map Form.row)), .nl]), (35, .mp a.2.2.1), (5060, .arr (a.2.2.2.map rI) 3 true), (9000, .box [.t (.sc (.int .i64 a.2.1))])]) (fun a => a.1 ≤ fu ∧ m_impl_renumber_j2 a.1 x1 v1 g3 a.2.1 a.2.2.1 a.2.2.2 = some r) ?_ ?_
 refine awp_seq (awp_region ?_)
 refine s_fa yF29_4 ?_
 refine s_ld1 yA23 ?_
 refine s_lenT yU23 ?_
 refine s_mv ?_
 refine k_nil (k_seq (awp_block ?_))
 refine awp_ownB 7 5060 3 [.t (.sc (.int .i64 x1.kind)), .t (.sc (.int .i64 g3)), .t (.sc (.str x1.name)), .t (.sc (.int .i64 x1.n)), .ar 5060, .t (.sc (.int .i64 v1.kind)), .t (.sc (.str v1.name)), .t (.sc (.int .i64 v1.n)), .t (.sl (v1.scopes.map rI)), .t (.sl (v1.kids.map Form.row)), .nl] yI3.choose_spec ?_
 refine awp_frame2 [12, 49, 50, 51, 52, 53, 54, 55, 56, 57, 58, 59, 60, 61, 62, 63, 64, 65, 66, 67, 68, 69, 70, 71] [7, 35, 5060, 9000] [68, 69] [5060] (fun a : Nat × Int × Int × (List Int) × (Int → Option Int) => a.1) (fun a : Nat × Int × Int × (List Int) × (Int → Option Int) => [(49, .t (.sc (.int .i64 a.2.1)))]) (fun a : Nat × Int × Int × (List Int) × (Int → Option Int) => [(7, .box [.t (.sc (.int .i64 x1.kind)), .t (.sc (.int .i64 g3)), .t (.sc (.str x1.name)), .t (.sc (.int .i64 x1.n)), .ar 5060, .t (.sc (.int .i64 v1.kind)), .t (.sc (.str v1.name)), .t (.sc (.int .i64 v1.n)), .t (.sl (v1.scopes.map rI)), .t (.sl (v1.kids.map Form.row)), .nl]), (35, .mp a.2.2.2.2), (5060, .arr (a.2.2.2.1.map rI) 3 true), (9000, .box [.t (.sc (.int .i64 a.2.2.1))])]) (fun a : Nat × Int × Int × (List Int) × (Int → Option Int) => a.1 ≤ fu ∧ m_impl_renumber_l3 a.1 x1 v1 g3 a.2.1 a.2.2.1 a.2.2.2.1 a.2.2.2.2 = some r ∧ 0 ≤ a.2.1) (fu, 0, o1, ([] : List Int), map0) ⟨Nat.le_refl _, hF2, by simp⟩ (by rfl) (by rfl) (fun _ => rfl) (hasF_cons (by conv => lhs; whnf) (by rfl) hasF_nil) (hasO_cons (by conv => lhs; whnf) (by rfl) (hasO_cons (by conv => lhs; whnf) (by rfl) (hasO_cons (by conv => lhs; whnf) (by rfl) (hasO_cons (by conv => lhs; whnf) (by rfl) hasO_nil)))) (fresh_C hC rfl) (by repeat (first | exact freshS_args rfl | refine freshS_upd rfl ?_ | refine freshS_frame rfl ?_)) (by repeat (first | exact freshM_no | exact objs_fresh rfl | refine freshM_upd rfl ?_ | refine freshM_frame rfl ?_)) ?_
 clear hF2
 rintro ⟨fu, g5, g6, g7, g8⟩ ⟨hl9, hF3, hn_g5⟩
 dsimp only at hl9 hF3 hn_g5 ⊢
 obtain _ | fu := fu
 · rw [m_impl_renumber_l3] at hF3; cases hF3
 rw [m_impl_renumber_l3] at hF3
 refine awp_seq (awp_region ?_)
 refine s_lt ?_
 refine k_nil (k_seq (awp_seq ?_))
 refine w_cond hF3 ?_ ?_ <;> intro hc10 hF4
 refine awp_lenT 47 (fun hb11 => ?_)
 refine awp_skip (k_seq (awp_seq (awp_block (awp_seq (awp_region ?_)))))
 obtain ⟨v12, hv12, hF5⟩ := bind_some' hF4
 refine s_ixT rI hv12 rfl yE23 ?_
 refine s_ld1 yA3 ?_
 refine s_as ?_
 refine k_nil (k_seq (awp_seq (awp_region ?_)))
 refine s_mv ?_
 refine s_nc ?_
 refine s_ld1 yA3 ?_
 refine s_add rfl ?_
 refine s_nc ?_
 refine s_stW yS3 ?_
 refine k_nil (k_seq (awp_seq (awp_region ?_)))
 iterate 3 refine s_mv ?_
 refine s_nc ?_
 refine s_ld1 yA3 ?_
 refine s_mupd yM48 ?_
 refine k_nil (k_seq ?_)
 refine awp_draw yMix (by kernel_rfl) ?_
 refine s_fa yF29_4 ?_
 refine s_ld1 yA23 ?_
 refine s_mv0 ?_
 refine s_nc ?_
 refine s_ld1 yA3 ?_
 refine s_bs rI [(w64 (g6 + 1))] yP23 yR3 ?_
 obtain ⟨hk13, hF6⟩ := chk_some hF5
 refine s_apT rI (fun _ => rfl) hk13 yP23 ?_
 refine s_fa yF29_4 ?_
 refine s_stP yS23 ?_
 refine k_nilD (by kernel_rfl) ?_
 refine k_blk (k_seq (awp_region ?_))
 refine s_add (winc2 hc10 hb11 hn_g5) ?_
 refine s_mv ?_
 refine k_nil ?_
 exact s_rn (fu, (g5 + 1), (w64 (g6 + 1)), (g7 ++ [(w64 (g6 + 1))]), (mapSet g8 v12 (w64 (g6 + 1)))) ⟨by first | omega | (dsimp only; omega), hF6, by first | omega | (dsimp only; omega)⟩ [(5060, 69)]
 refine awp_exit (k_seq_exit (k_rnd_exit2 (k_blk_exit ?_)))
 exact s_jn (fu, g6, g8, g7) ⟨by first | omega | (dsimp only; omega), hF4⟩
 clear hF2
 rintro ⟨fu, g14, g15, g16⟩ ⟨hl17, hF3⟩
 dsimp only at hl17 hF3 ⊢
 obtain _ | fu := fu
 · rw [m_impl_renumber_j2] at hF3; cases hF3
 rw [m_impl_renumber_j2] at hF3
 refine awp_seq (awp_seq (awp_region ?_))
 refine s_fa yF29_6 ?_
 refine s_ld1 yA27 ?_
 refine s_lenT yU27 ?_
 refine s_mv ?_
 refine k_nil (k_seq (awp_block ?_))
 refine awp_ownB 7 5080 29 [.t (.sc (.int .i64 x1.kind)), .t (.sc (.int .i64 g3)), .t (.sc (.str x1.name)), .t (.sc (.int .i64 x1.n)), .ar 5060, .t (.sc (.int .i64 v1.kind)), .t (.sc (.str v1.name)), .t (.sc (.int .i64 v1.n)), .t (.sl (v1.scopes.map rI)), .t (.sl (v1.kids.map Form.row)), .ar 5080] yI29.choose_spec ?_
 refine awp_frame2 [14, 75, 76, 77, 78, 79, 80, 81, 82, 83, 84, 85, 86, 87, 88] [7, 5080, 9000] [14, 85, 86] [5080] (fun a : Nat × Int × Int × (List Core) => a.1) (fun a : Nat × Int × Int × (List Core) => [(75, .t (.sc (.int .i64 a.2.1)))]) (fun a : Nat × Int × Int × (List Core) => [(7, .box [.t (.sc (.int .i64 x1.kind)), .t (.sc (.int .i64 g3)), .t (.sc (.str x1.name)), .t (.sc (.int .i64 x1.n)), .ar 5060, .t (.sc (.int .i64 v1.kind)), .t (.sc (.str v1.name)), .t (.sc (.int .i64 v1.n)), .t (.sl (v1.scopes.map rI)), .t (.sl (v1.kids.map Form.row)), .ar 5080]), (5080, .arr (a.2.2.2.map Core.row) 29 true), (9000, .box [.t (.sc (.int .i64 a.2.2.1))])]) (fun a : Nat × Int × Int × (List Core) => a.1 ≤ fu ∧ m_impl_renumber_l4 a.1 x1 v1 g3 g15 g16 a.2.1 a.2.2.1 a.2.2.2 = some r ∧ 0 ≤ a.2.1) (fu, 0, g14, ([] : List Core)) ⟨Nat.le_refl _, hF3, by simp⟩ (by rfl) (by rfl) (fun _ => rfl) (hasF_cons (by conv => lhs; whnf) (by rfl) hasF_nil) (hasO_cons (by conv => lhs; whnf) (by rfl) (hasO_cons (by conv => lhs; whnf) (by rfl) (hasO_cons (by conv => lhs; whnf) (by rfl) hasO_nil))) (fresh_C hC rfl) (by repeat (first | exact freshS_args rfl | refine freshS_upd rfl ?_ | refine freshS_frame rfl ?_)) (by repeat (first | exact freshM_no | exact objs_fresh rfl | refine freshM_upd rfl ?_ | refine freshM_frame rfl ?_)) ?_
 clear hF3
 rintro ⟨fu, g18, g19, g20⟩ ⟨hl21, hF4, hn_g18⟩
 dsimp only at hl21 hF4 hn_g18 ⊢
 obtain _ | fu := fu
 · rw [m_impl_renumber_l4] at hF4; cases hF4
 rw [m_impl_renumber_l4] at hF4
 refine awp_seq (awp_region ?_)
 refine s_lt ?_
 refine k_nil (k_seq (awp_seq ?_))
 refine w_cond hF4 ?_ ?_ <;> intro hc22 hF5
 refine awp_lenT 73 (fun hb23 => ?_)
 refine awp_skip (k_seq (awp_seq (awp_block (awp_seq (awp_region ?_)))))
 obtain ⟨v24, hv24, hF6⟩ := bind_some' hF5
 refine s_ixT Core.row hv24 (Core.row_eq _) yE27 ?_
 refine s_ldN yA29 yS29 ?_
 refine s_alloc yZ29 ?_
 refine s_stW yS29 ?_
 refine k_nil (k_seq ?_)
 refine awp_draw yMix (by kernel_rfl) ?_
 refine s_fa yF29_6 ?_
 refine s_ld1 yA27 ?_
 refine s_ldW yA29 yS29 ?_
 refine s_mv0 ?_
 refine s_mv0 ?_
 obtain ⟨v25, hv25, hF7⟩ := bind_some' hF6
 refine s_call [(9301, 35), (9000, 9000)] [] _ _ (m_impl_renumber_ok fu _ _ _ _ hv25) ?_
 refine s_bs Core.row [v25.1] yP27 yR29 ?_
 obtain ⟨hk26, hF8⟩ := chk_some hF7
 refine s_apT Core.row (fun y => Core.row_len y) hk26 yP27 ?_
 refine s_fa yF29_6 ?_
 refine s_stP yS27 ?_
 refine k_nilD (by kernel_rfl) ?_
 refine k_blk (k_seq (awp_region ?_))
 refine s_add (winc2 hc22 hb23 hn_g18) ?_
 refine s_mv ?_
 refine k_nil ?_
 exact s_rn (fu, (g18 + 1), v25.2, (g20 ++ [v25.1])) ⟨by first | omega | (dsimp only; omega), hF8, by first | omega | (dsimp only; omega)⟩ [(5080, 86)]
 refine awp_exit (k_seq_exit (k_rnd_exit2 (k_blk_exit (k_seq (awp_seq (awp_region ?_))))))
 refine s_ldW yA29 yS29 ?_
 refine s_stW yS29 ?_
 refine k_nil (k_seq (awp_ret (k_fin ?_)))
 cases hF5
 exact ends_gen _ [5060, 5080] (by rw [Try.results11]; exact (res_agg (by conv => lhs; whnf) (by conv => lhs; whnf) yA29 yS29 rfl res_nil))
def m_impl_NumberCore_AC (fuel : Nat) : Prop := ∀ (x1 : Core) (r : (Core × Bool)), m_impl_NumberCore fuel x1 = some r → AC Try.prog 5 [.ag [.t (.sc (.int .i64 x1.kind)), .t (.sc (.int .i64 x1.id)), .t (.sc (.str x1.name)), .t (.sc (.int .i64 x1.n)), .t (.sl (x1.ids.map rI)), .t (.sc (.int .i64 x1.data.kind)), .t (.sc (.str x1.data.name)), .t (.sc (.int .i64 x1.data.n)), .t (.sl (x1.data.scopes.map rI)), .t (.sl (x1.data.kids.map Form.row)), .t (.sl (x1.kids.map Core.row))]] noOb (.tp [.ag [.t (.sc (.int .i64 r.1.kind)), .t (.sc (.int .i64 r.1.id)), .t (.sc (.str r.1.name)), .t (.sc (.int .i64 r.1.n)), .t (.sl (r.1.ids.map rI)), .t (.sc (.int .i64 r.1.data.kind)), .t (.sc (.str r.1.data.name)), .t (.sc (.int .i64 r.1.data.n)), .t (.sl (r.1.data.scopes.map rI)), .t (.sl (r.1.data.kids.map Form.row)), .t (.sl (r.1.kids.map Core.row))], .t (.sc (.bool r.2))]) noOb
theorem m_impl_NumberCore_ok (fuel : Nat) : m_impl_NumberCore_AC fuel := by
 intro x1 r hF0
 unfold m_impl_NumberCore at hF0
 refine AC_i [.ag [.t (.sc (.int .i64 r.1.kind)), .t (.sc (.int .i64 r.1.id)), .t (.sc (.str r.1.name)), .t (.sc (.int .i64 r.1.n)), .t (.sl (r.1.ids.map rI)), .t (.sc (.int .i64 r.1.data.kind)), .t (.sc (.str r.1.data.name)), .t (.sc (.int .i64 r.1.data.n)), .t (.sl (r.1.data.scopes.map rI)), .t (.sl (r.1.data.kids.map Form.row)), .t (.sl (r.1.kids.map Core.row))], .t (.sc (.bool r.2))] Try.func5 rfl Try.ntmps5 ?_
 intro C hC
 refine awp_seq (awp_region ?_)
 refine s_box ?_
 refine s_alloc yZ29 ?_
 refine s_as ?_
 refine k_nil (k_seq (awp_seq (awp_seq (awp_region ?_))))
 refine s_ldW yA29 yS29 ?_
 obtain ⟨v1, hv1, hF1⟩ := bind_some' hF0
 refine s_pure [] (m_impl_CoreValid_ok fuel _ _ hv1) ?_
 refine s_not ?_
 refine k_nil (k_seq ?_)
 refine w_cond hF1 ?_ ?_ <;> intro hc2 hF2
 refine awp_seq (awp_region ?_)
 refine s_bld yZ29 yL29 ?_
 refine s_stW yS29 ?_
 refine s_as ?_
 refine k_nil (k_seq (awp_ret (k_seq_ret (k_fin ?_))))
 cases hF2
 exact ends_gen [] [] (by rw [Try.results5]; exact (res_agg (by conv => lhs; whnf) (by conv => lhs; whnf) yA29 yS29 rfl (res_tmp (by conv => lhs; whnf) res_nil)))
 refine awp_skip (k_seq (awp_seq (awp_region ?_)))
 refine s_alloc yZ3 ?_
 refine s_stW yS3 ?_
 refine k_nil (k_seq (awp_seq (awp_region ?_)))
 refine s_ldW yA29 yS29 ?_
 obtain ⟨v3, hv3, hF3⟩ := bind_some' hF2
 refine s_call [(9000, 4)] [] _ _ (m_impl_renumber_n_ok fuel _ _ _ hv3) ?_
 refine s_alloc yZ29 ?_
 refine s_stW yS29 ?_
 refine k_nil (k_seq (awp_seq (awp_seq (awp_region ?_))))
 refine s_ld1 yA3 ?_
 refine s_gt ?_
 refine k_nil (k_seq ?_)
 refine w_cond hF3 ?_ ?_ <;> intro hc4 hF4
 refine awp_seq (awp_region ?_)
 refine s_bld yZ29 yL29 ?_
 refine s_stW yS29 ?_
 refine s_as ?_
 refine k_nil (k_seq (awp_ret (k_seq_ret (k_fin ?_))))
 cases hF4
 exact ends_gen [] [] (by rw [Try.results5]; exact (res_agg (by conv => lhs; whnf) (by conv => lhs; whnf) yA29 yS29 rfl (res_tmp (by conv => lhs; whnf) res_nil)))
 refine awp_skip (k_seq (awp_seq (awp_region ?_)))
 refine s_ldW yA29 yS29 ?_
 refine s_stW yS29 ?_
 refine s_as ?_
 refine k_nil (k_seq (awp_ret (k_fin ?_)))
 cases hF4
 exact ends_gen [] [] (by rw [Try.results5]; exact (res_agg (by conv => lhs; whnf) (by conv => lhs; whnf) yA29 yS29 rfl (res_tmp (by conv => lhs; whnf) res_nil)))
def m_spec_l6Kids_AC (fuel : Nat) : Prop := ∀ (x1 : Int) (x2 : Int) (r : Bool), m_spec_l6Kids fuel x1 x2 = some r → AC Try.prog 39 [.t (.sc (.int .i64 x1)), .t (.sc (.int .i64 x2))] noOb (.t (.sc (.bool r))) noOb
theorem m_spec_l6Kids_ok (fuel : Nat) : m_spec_l6Kids_AC fuel := by
 intro x1 x2 r hF0
 unfold m_spec_l6Kids at hF0
 refine AC_i [.t (.sc (.bool r))] Try.func39 rfl Try.ntmps39 ?_
 intro C hC
 refine awp_seq (awp_region ?_)
 refine s_as ?_
 refine k_nil (k_seq (awp_seq (awp_seq (awp_region ?_))))
 refine s_mv ?_
 refine k_nil (k_seq (awp_block ?_))
 refine awp_jn (α := Nat × Bool) [6, 7, 8, 9, 10] [] [] (fun a => [(6, .t (.sc (.bool a.2)))]) (fun a => []) (fun a => a.1 ≤ fuel ∧ m_spec_l6Kids_j1 a.1 x1 x2 a.2 = some r) ?_ ?_
 refine awp_seq (awp_region ?_)
 refine s_eq ?_
 refine s_as ?_
 refine k_nil (k_seq ?_)
 refine w_cond hF0 ?_ ?_ <;> intro hc1 hF1
 refine awp_skip ?_
 exact s_jn (fuel, (decide (x1 = 1))) ⟨by first | omega | (dsimp only; omega), hF1⟩
 refine awp_seq (awp_region ?_)
 refine s_eq ?_
 refine s_as ?_
 refine k_nil (k_seq ?_)
 refine w_cond hF1 ?_ ?_ <;> intro hc2 hF2
 refine awp_skip ?_
 exact s_jn (fuel, (decide (x1 = 2))) ⟨by first | omega | (dsimp only; omega), hF2⟩
 refine awp_seq (awp_region ?_)
 refine s_eq ?_
 refine s_as ?_
 refine k_nil (k_seq ?_)
 refine w_cond hF2 ?_ ?_ <;> intro hc3 hF3
 refine awp_skip ?_
 exact s_jn (fuel, (decide (x1 = 3))) ⟨by first | omega | (dsimp only; omega), hF3⟩
 refine awp_region ?_
 refine s_eq ?_
 refine s_as ?_
 refine k_nil ?_
 exact s_jn (fuel, (decide (x1 = 4))) ⟨by first | omega | (dsimp only; omega), hF3⟩
 clear hF0
 rintro ⟨fu, g4⟩ ⟨hl5, hF1⟩
 dsimp only at hl5 hF1 ⊢
 obtain _ | fu := fu
 · rw [m_spec_l6Kids_j1] at hF1; cases hF1
 rw [m_spec_l6Kids_j1] at hF1
 refine w_cond hF1 ?_ ?_ <;> intro hc6 hF2
 refine awp_seq (awp_region ?_)
 refine s_mv ?_
 refine s_eq ?_
 refine s_as ?_
 refine k_nil (k_seq (awp_ret (k_blk_ret (k_seq_ret (k_fin ?_)))))
 cases hF2
 exact ends_a [] [] Try.results39
 refine awp_seq (awp_region ?_)
 refine s_eq ?_
 refine s_as ?_
 refine k_nil (k_seq ?_)
 refine w_cond hF2 ?_ ?_ <;> intro hc7 hF3
 refine awp_seq (awp_region ?_)
 refine s_mv ?_
 refine s_eq ?_
 refine s_as ?_
 refine k_nil (k_seq (awp_ret (k_blk_ret (k_seq_ret (k_fin ?_)))))
 cases hF3
 exact ends_a [] [] Try.results39
 refine awp_seq (awp_region ?_)
 refine s_eq ?_
 refine s_as ?_
 refine k_nil (k_seq ?_)
 refine w_cond hF3 ?_ ?_ <;> intro hc8 hF4
 refine awp_seq (awp_region ?_)
 refine s_mv ?_
 refine s_ge ?_
 refine s_as ?_
 refine k_nil (k_seq (awp_ret (k_blk_ret (k_seq_ret (k_fin ?_)))))
 cases hF4
 exact ends_a [] [] Try.results39
 refine awp_skip (k_blk (k_seq (awp_seq (awp_region ?_))))
 refine s_mv ?_
 refine s_eq ?_
 refine s_mv ?_
 refine w_guard _ 23 hF4 ?_ ?_ <;> intro hc9 hF5
 refine s_mv ?_
 refine s_eq ?_
 refine s_pkt ?_
 refine s_as ?_
 refine k_nil (k_seq (awp_ret (k_fin ?_)))
 cases hF5
 exact ends_a [] [] Try.results39
 refine r_no rfl (r_no rfl ?_)
 refine s_pkf ?_
 refine s_as ?_
 refine k_nil (k_seq (awp_ret (k_fin ?_)))
 cases hF5
 exact ends_a [] [] Try.results39
def m_spec_l1Letter_AC (fuel : Nat) : Prop := ∀ (x1 : Int) (x2 : Bool) (r : Bool), m_spec_l1Letter fuel x1 x2 = some r → AC Try.prog 59 [.t (.sc (.int .u8 x1)), .t (.sc (.bool x2))] noOb (.t (.sc (.bool r))) noOb
theorem m_spec_l1Letter_ok (fuel : Nat) : m_spec_l1Letter_AC fuel := by
 intro x1 x2 r hF0
 unfold m_spec_l1Letter at hF0
 refine AC_i [.t (.sc (.bool r))] Try.func59 rfl Try.ntmps59 ?_
 intro C hC
 refine awp_seq (awp_region ?_)
 refine s_as ?_
 refine k_nil (k_seq (awp_seq (awp_seq (awp_region ?_))))
 refine s_mv ?_
 refine s_ge ?_
 refine s_mv ?_
 refine w_guard _ 7 hF0 ?_ ?_ <;> intro hc1 hF1
 refine s_mv ?_
 refine s_le ?_
 refine s_pkt ?_
 refine s_mv ?_
 refine w_guard _ 11 hF1 ?_ ?_ <;> intro hc2 hF2
 refine r_no rfl (r_no rfl ?_)
 refine s_pkt ?_
 refine s_mv ?_
 refine r_no rfl (r_no rfl ?_)
 refine s_pkt ?_
 refine s_mv ?_
 refine r_no rfl (r_no rfl ?_)
 refine s_pkt ?_
 refine s_mv ?_
 refine r_no rfl (r_no rfl ?_)
 refine s_pkt ?_
 refine s_mv ?_
 refine r_no rfl (r_no rfl ?_)
 refine s_pkt ?_
 refine k_nil (k_seq (awp_true rfl (awp_seq (awp_region ?_))))
 refine s_as ?_
 refine k_nil (k_seq (awp_ret (k_seq_ret (k_fin ?_))))
 cases hF2
 exact ends_a [] [] Try.results59
 refine s_mv ?_
 refine s_eq ?_
 refine s_pkf ?_
 refine s_mv ?_
 refine w_guard _ 15 hF2 ?_ ?_ <;> intro hc3 hF3
 refine r_no rfl (r_no rfl ?_)
 refine s_pkt ?_
 refine s_mv ?_
 refine r_no rfl (r_no rfl ?_)
 refine s_pkt ?_
 refine s_mv ?_
 refine r_no rfl (r_no rfl ?_)
 refine s_pkt ?_
 refine s_mv ?_
 refine r_no rfl (r_no rfl ?_)
 refine s_pkt ?_
 refine k_nil (k_seq (awp_true rfl (awp_seq (awp_region ?_))))
 refine s_as ?_
 refine k_nil (k_seq (awp_ret (k_seq_ret (k_fin ?_))))
 cases hF3
 exact ends_a [] [] Try.results59
 refine s_mv ?_
 refine s_eq ?_
 refine s_pkf ?_
 refine s_mv ?_
 refine w_guard _ 19 hF3 ?_ ?_ <;> intro hc4 hF4
 refine r_no rfl (r_no rfl ?_)
 refine s_pkt ?_
 refine s_mv ?_
 refine r_no rfl (r_no rfl ?_)
 refine s_pkt ?_
 refine s_mv ?_
 refine r_no rfl (r_no rfl ?_)
 refine s_pkt ?_
 refine k_nil (k_seq (awp_true rfl (awp_seq (awp_region ?_))))
 refine s_as ?_
 refine k_nil (k_seq (awp_ret (k_seq_ret (k_fin ?_))))
 cases hF4
 exact ends_a [] [] Try.results59
 refine s_mv ?_
 refine s_eq ?_
 refine s_pkf ?_
 refine s_mv ?_
 refine w_guard _ 23 hF4 ?_ ?_ <;> intro hc5 hF5
 refine r_no rfl (r_no rfl ?_)
 refine s_pkt ?_
 refine s_mv ?_
 refine r_no rfl (r_no rfl ?_)
 refine s_pkt ?_
 refine k_nil (k_seq (awp_true rfl (awp_seq (awp_region ?_))))
 refine s_as ?_
 refine k_nil (k_seq (awp_ret (k_seq_ret (k_fin ?_))))
 cases hF5
 exact ends_a [] [] Try.results59
 refine s_mv ?_
 refine s_eq ?_
 refine s_pkf ?_
 refine s_mv ?_
 refine w_guard _ 27 hF5 ?_ ?_ <;> intro hc6 hF6
 refine r_no rfl (r_no rfl ?_)
 refine s_pkt ?_
 refine k_nil (k_seq (awp_true rfl (awp_seq (awp_region ?_))))
 refine s_as ?_
 refine k_nil (k_seq (awp_ret (k_seq_ret (k_fin ?_))))
 cases hF6
 exact ends_a [] [] Try.results59
 refine s_mv ?_
 refine s_eq ?_
 refine s_pkf ?_
 refine k_nil (k_seq ?_)
 refine w_cond hF6 ?_ ?_ <;> intro hc7 hF7
 refine awp_seq (awp_region ?_)
 refine s_as ?_
 refine k_nil (k_seq (awp_ret (k_seq_ret (k_fin ?_))))
 cases hF7
 exact ends_a [] [] Try.results59
 refine awp_skip (k_seq (awp_seq (awp_region ?_)))
 refine s_mv ?_
 refine s_not ?_
 refine s_mv ?_
 refine w_guard _ 33 hF7 ?_ ?_ <;> intro hc8 hF8
 refine s_mv ?_
 refine s_ge ?_
 refine s_mv ?_
 refine w_guard _ 36 hF8 ?_ ?_ <;> intro hc9 hF9
 refine s_mv ?_
 refine s_le ?_
 refine s_pkt ?_
 refine s_mv ?_
 refine w_guard _ 40 hF9 ?_ ?_ <;> intro hc10 hF10
 refine r_no rfl (r_no rfl ?_)
 refine s_pkt ?_
 refine s_pkt ?_
 refine s_as ?_
 refine k_nil (k_seq (awp_ret (k_fin ?_)))
 cases hF10
 exact ends_a [] [] Try.results59
 refine s_mv ?_
 refine s_eq ?_
 refine s_pkf ?_
 refine s_pkt ?_
 refine s_as ?_
 refine k_nil (k_seq (awp_ret (k_fin ?_)))
 cases hF10
 exact ends_a [] [] Try.results59
 refine r_no rfl (r_no rfl ?_)
 refine s_pkf ?_
 refine s_mv ?_
 refine s_mv ?_
 refine s_eq ?_
 refine s_pkf ?_
 refine s_pkt ?_
 refine s_as ?_
 refine k_nil (k_seq (awp_ret (k_fin ?_)))
 cases hF9
 exact ends_a [] [] Try.results59
 iterate 10 refine r_no rfl ?_
 refine s_pkf ?_
 refine s_as ?_
 refine k_nil (k_seq (awp_ret (k_fin ?_)))
 cases hF8
 exact ends_a [] [] Try.results59
 refine r_no rfl (r_no rfl ?_)
 refine s_pkf ?_
 refine s_mv ?_
 refine s_mv ?_
 refine s_eq ?_
 refine s_pkf ?_
 refine s_mv ?_
 refine w_guard _ 15 hF1 ?_ ?_ <;> intro hc11 hF2
 refine r_no rfl (r_no rfl ?_)
 refine s_pkt ?_
 refine s_mv ?_
 refine r_no rfl (r_no rfl ?_)
 refine s_pkt ?_
 refine s_mv ?_
 refine r_no rfl (r_no rfl ?_)
 refine s_pkt ?_
 refine s_mv ?_
 refine r_no rfl (r_no rfl ?_)
 refine s_pkt ?_
 refine k_nil (k_seq (awp_true rfl (awp_seq (awp_region ?_))))
 refine s_as ?_
 refine k_nil (k_seq (awp_ret (k_seq_ret (k_fin ?_))))
 cases hF2
 exact ends_a [] [] Try.results59
 refine s_mv ?_
 refine s_eq ?_
 refine s_pkf ?_
 refine s_mv ?_
 refine w_guard _ 19 hF2 ?_ ?_ <;> intro hc12 hF3
 refine r_no rfl (r_no rfl ?_)
 refine s_pkt ?_
 refine s_mv ?_
 refine r_no rfl (r_no rfl ?_)
 refine s_pkt ?_
 refine s_mv ?_
 refine r_no rfl (r_no rfl ?_)
 refine s_pkt ?_
 refine k_nil (k_seq (awp_true rfl (awp_seq (awp_region ?_))))
 refine s_as ?_
 refine k_nil (k_seq (awp_ret (k_seq_ret (k_fin ?_))))
 cases hF3
 exact ends_a [] [] Try.results59
 refine s_mv ?_
 refine s_eq ?_
 refine s_pkf ?_
 refine s_mv ?_
 refine w_guard _ 23 hF3 ?_ ?_ <;> intro hc13 hF4
 refine r_no rfl (r_no rfl ?_)
 refine s_pkt ?_
 refine s_mv ?_
 refine r_no rfl (r_no rfl ?_)
 refine s_pkt ?_
 refine k_nil (k_seq (awp_true rfl (awp_seq (awp_region ?_))))
 refine s_as ?_
 refine k_nil (k_seq (awp_ret (k_seq_ret (k_fin ?_))))
 cases hF4
 exact ends_a [] [] Try.results59
 refine s_mv ?_
 refine s_eq ?_
 refine s_pkf ?_
 refine s_mv ?_
 refine w_guard _ 27 hF4 ?_ ?_ <;> intro hc14 hF5
 refine r_no rfl (r_no rfl ?_)
 refine s_pkt ?_
 refine k_nil (k_seq (awp_true rfl (awp_seq (awp_region ?_))))
 refine s_as ?_
 refine k_nil (k_seq (awp_ret (k_seq_ret (k_fin ?_))))
 cases hF5
 exact ends_a [] [] Try.results59
 refine s_mv ?_
 refine s_eq ?_
 refine s_pkf ?_
 refine k_nil (k_seq ?_)
 refine w_cond hF5 ?_ ?_ <;> intro hc15 hF6
 refine awp_seq (awp_region ?_)
 refine s_as ?_
 refine k_nil (k_seq (awp_ret (k_seq_ret (k_fin ?_))))
 cases hF6
 exact ends_a [] [] Try.results59
 refine awp_skip (k_seq (awp_seq (awp_region ?_)))
 refine s_mv ?_
 refine s_not ?_
 refine s_mv ?_
 refine w_guard _ 33 hF6 ?_ ?_ <;> intro hc16 hF7
 refine s_mv ?_
 refine s_ge ?_
 refine s_mv ?_
 refine w_guard _ 36 hF7 ?_ ?_ <;> intro hc17 hF8
 refine s_mv ?_
 refine s_le ?_
 refine s_pkt ?_
 refine s_mv ?_
 refine w_guard _ 40 hF8 ?_ ?_ <;> intro hc18 hF9
 refine r_no rfl (r_no rfl ?_)
 refine s_pkt ?_
 refine s_pkt ?_
 refine s_as ?_
 refine k_nil (k_seq (awp_ret (k_fin ?_)))
 cases hF9
 exact ends_a [] [] Try.results59
 refine s_mv ?_
 refine s_eq ?_
 refine s_pkf ?_
 refine s_pkt ?_
 refine s_as ?_
 refine k_nil (k_seq (awp_ret (k_fin ?_)))
 cases hF9
 exact ends_a [] [] Try.results59
 refine r_no rfl (r_no rfl ?_)
 refine s_pkf ?_
 refine s_mv ?_
 refine s_mv ?_
 refine s_eq ?_
 refine s_pkf ?_
 refine s_pkt ?_
 refine s_as ?_
 refine k_nil (k_seq (awp_ret (k_fin ?_)))
 cases hF8
 exact ends_a [] [] Try.results59
 iterate 10 refine r_no rfl ?_
 refine s_pkf ?_
 refine s_as ?_
 refine k_nil (k_seq (awp_ret (k_fin ?_)))
 cases hF7
 exact ends_a [] [] Try.results59
def m_spec_NameValid_AC (fuel : Nat) : Prop := ∀ (x1 : ByteArray) (r : Bool), m_spec_NameValid fuel x1 = some r → AC Try.prog 51 [.t (.sc (.str x1))] noOb (.t (.sc (.bool r))) noOb
theorem m_spec_NameValid_ok (fuel : Nat) : m_spec_NameValid_AC fuel := by
 intro x1 r hF0
 unfold m_spec_NameValid at hF0
 refine AC_i [.t (.sc (.bool r))] Try.func51 rfl Try.ntmps51 ?_
 intro C hC
 refine awp_seq (awp_region ?_)
 refine s_as ?_
 refine k_nil (k_seq (awp_seq (awp_seq (awp_region ?_))))
 refine s_mv ?_
 refine s_eqS ?_
 refine s_mv ?_
 refine w_guard _ 6 hF0 ?_ ?_ <;> intro hc1 hF1
 refine r_no rfl (r_no rfl ?_)
 refine s_pkt ?_
 refine k_nil (k_seq (awp_true rfl (awp_seq (awp_region ?_))))
 refine s_as ?_
 refine k_nil (k_seq (awp_ret (k_seq_ret (k_fin ?_))))
 cases hF1
 exact ends_a [] [] Try.results51
 refine s_mv ?_
 refine s_eqS ?_
 refine s_pkf ?_
 refine k_nil (k_seq ?_)
 refine w_cond hF1 ?_ ?_ <;> intro hc2 hF2
 refine awp_seq (awp_region ?_)
 refine s_as ?_
 refine k_nil (k_seq (awp_ret (k_seq_ret (k_fin ?_))))
 cases hF2
 exact ends_a [] [] Try.results51
 refine awp_skip (k_seq (awp_seq (awp_seq (awp_region ?_))))
 refine s_as ?_
 refine k_nil (k_seq (awp_block ?_))
 refine awp_fr (β := Int) [2, 3, 10, 11, 12, 13, 14, 15, 16, 17, 18, 19, 20, 21, 22, 23, 24, 25, 26] [] [] (fun a => [(3, .t (.sc (.int .i64 a.2)))]) (fun a => []) (fun a => a.1 ≤ fuel ∧ m_spec_NameValid_l1 a.1 x1 a.2 = some r) (fuel, 0) ⟨Nat.le_refl _, hF2⟩ ?_
 clear hF2
 rintro ⟨fu, g3⟩ ⟨hl4, hF3⟩
 dsimp only at hl4 hF3 ⊢
 obtain _ | fu := fu
 · rw [m_spec_NameValid_l1] at hF3; cases hF3
 rw [m_spec_NameValid_l1] at hF3
 refine awp_seq (awp_seq (awp_region ?_))
 refine s_mv ?_
 refine s_mv ?_
 refine s_lenS yU9 ?_
 refine s_lt ?_
 refine s_mv ?_
 refine w_guard _ 14 hF3 ?_ ?_ <;> intro hc5 hF4
 refine s_mv ?_
 refine s_le ?_
 refine s_pkt ?_
 refine k_nil (k_seq ?_)
 refine w_cond hF4 ?_ ?_ <;> intro hc6 hF5
 refine awp_skip (k_seq (awp_seq (awp_block (awp_seq (awp_region ?_)))))
 refine s_mv ?_
 refine s_mv ?_
 obtain ⟨v7, hv7, hF6⟩ := bind_some' hF5
 refine s_ixS hv7 yU9 ?_
 refine s_mv ?_
 refine s_eq ?_
 obtain ⟨v8, hv8, hF7⟩ := bind_some' hF6
 refine s_pure [] (m_spec_l1Letter_ok fu _ _ _ hv8) ?_
 refine s_not ?_
 refine k_nil (k_seq ?_)
 refine w_cond hF7 ?_ ?_ <;> intro hc9 hF8
 refine awp_seq (awp_region ?_)
 refine s_as ?_
 refine k_nil (k_seq (awp_ret (k_blk_ret (k_seq_ret (k_rnd_ret2 (k_blk_ret (k_seq_ret (k_fin ?_))))))))
 cases hF8
 exact ends_a [] [] Try.results51
 refine awp_skip (k_blk (k_seq (awp_region ?_)))
 refine s_mv ?_
 refine s_add rfl ?_
 refine s_as ?_
 refine k_nil ?_
 exact s_rn (fu, (w64 (g3 + 1))) ⟨by first | omega | (dsimp only; omega), hF8⟩
 refine awp_exit (k_seq_exit (k_rnd_exit2 (k_blk_exit (k_seq (awp_seq (awp_region ?_))))))
 refine s_mv ?_
 refine s_lenS yU9 ?_
 refine s_ge ?_
 refine s_mv ?_
 refine w_guard _ 30 hF5 ?_ ?_ <;> intro hc10 hF6
 refine s_mv ?_
 refine s_lenS yU9 ?_
 refine s_le ?_
 refine s_pkt ?_
 refine s_as ?_
 refine k_nil (k_seq (awp_ret (k_fin ?_)))
 cases hF6
 exact ends_a [] [] Try.results51
 iterate 3 refine r_no rfl ?_
 refine s_pkf ?_
 refine s_as ?_
 refine k_nil (k_seq (awp_ret (k_fin ?_)))
 cases hF6
 exact ends_a [] [] Try.results51
 refine r_no rfl (r_no rfl ?_)
 refine s_pkf ?_
 refine k_nil (k_seq (awp_false rfl (awp_exit (k_seq_exit (k_rnd_exit2 (k_blk_exit (k_seq (awp_seq (awp_region ?_)))))))))
 refine s_mv ?_
 refine s_lenS yU9 ?_
 refine s_ge ?_
 refine s_mv ?_
 refine w_guard _ 30 hF4 ?_ ?_ <;> intro hc11 hF5
 refine s_mv ?_
 refine s_lenS yU9 ?_
 refine s_le ?_
 refine s_pkt ?_
 refine s_as ?_
 refine k_nil (k_seq (awp_ret (k_fin ?_)))
 cases hF5
 exact ends_a [] [] Try.results51
 iterate 3 refine r_no rfl ?_
 refine s_pkf ?_
 refine s_as ?_
 refine k_nil (k_seq (awp_ret (k_fin ?_)))
 cases hF5
 exact ends_a [] [] Try.results51
def m_spec_l1Scopes_AC (fuel : Nat) : Prop := ∀ (x1 : (List Int)) (r : Bool), m_spec_l1Scopes fuel x1 = some r → AC Try.prog 75 [.t (.sl (x1.map rI))] noOb (.t (.sc (.bool r))) noOb
theorem m_spec_l1Scopes_ok (fuel : Nat) : m_spec_l1Scopes_AC fuel := by
 intro x1 r hF0
 unfold m_spec_l1Scopes at hF0
 refine AC_i [.t (.sc (.bool r))] Try.func75 rfl Try.ntmps75 ?_
 intro C hC
 refine awp_seq (awp_region ?_)
 refine s_as ?_
 refine k_nil (k_seq (awp_seq (awp_seq (awp_region ?_))))
 refine s_as ?_
 refine k_nil (k_seq (awp_block ?_))
 refine awp_fr (β := Int) [2, 3, 4, 5, 6, 7, 8, 9, 10, 11, 12, 13, 14, 15, 16, 17, 18, 19, 20, 21, 22, 23, 24, 25, 26, 27, 28, 29, 30, 31, 32, 33, 34, 35, 36, 37, 38, 39, 40, 41] [] [] (fun a => [(3, .t (.sc (.int .i64 a.2)))]) (fun a => []) (fun a => a.1 ≤ fuel ∧ m_spec_l1Scopes_l1 a.1 x1 a.2 = some r) (fuel, 0) ⟨Nat.le_refl _, hF0⟩ ?_
 clear hF0
 rintro ⟨fu, g1⟩ ⟨hl2, hF1⟩
 dsimp only at hl2 hF1 ⊢
 obtain _ | fu := fu
 · rw [m_spec_l1Scopes_l1] at hF1; cases hF1
 rw [m_spec_l1Scopes_l1] at hF1
 refine awp_seq (awp_seq (awp_region ?_))
 refine s_mv ?_
 refine s_mv ?_
 refine s_lenT yU23 ?_
 refine s_lt ?_
 refine s_mv ?_
 refine w_guard _ 8 hF1 ?_ ?_ <;> intro hc3 hF2
 refine s_mv ?_
 refine s_le ?_
 refine s_pkt ?_
 refine k_nil (k_seq ?_)
 refine w_cond hF2 ?_ ?_ <;> intro hc4 hF3
 refine awp_skip (k_seq (awp_seq (awp_block (awp_seq ?_))))
 refine awp_draw yMix (by kernel_rfl) ?_
 refine s_mv ?_
 refine s_mv ?_
 obtain ⟨v5, hv5, hF4⟩ := bind_some' hF3
 refine s_ixT rI hv5 rfl yE23 ?_
 refine s_ld1 yA3 ?_
 refine s_lt ?_
 refine s_mv ?_
 refine w_guard _ 19 hF4 ?_ ?_ <;> intro hc6 hF5
 iterate 5 refine r_no rfl ?_
 refine s_pkt ?_
 refine s_mv ?_
 iterate 14 refine r_no rfl ?_
 refine s_pkt ?_
 refine k_nilD (by kernel_rfl) ?_
 refine k_seq (awp_true rfl (awp_seq (awp_region ?_)))
 refine s_as ?_
 refine k_nil (k_seq (awp_ret (k_blk_ret (k_seq_ret (k_rnd_ret2 (k_blk_ret (k_seq_ret (k_fin ?_))))))))
 cases hF5
 exact ends_a [] [] Try.results75
 refine s_mv ?_
 refine s_mv ?_
 obtain ⟨v7, hv7, hF6⟩ := bind_some' hF5
 refine s_ixT rI hv7 rfl yE23 ?_
 refine s_ld1 yA3 ?_
 refine s_gt ?_
 refine s_pkf ?_
 refine s_mv ?_
 refine w_guard _ 26 hF6 ?_ ?_ <;> intro hc8 hF7
 iterate 14 refine r_no rfl ?_
 refine s_pkt ?_
 refine k_nilD (by kernel_rfl) ?_
 refine k_seq (awp_true rfl (awp_seq (awp_region ?_)))
 refine s_as ?_
 refine k_nil (k_seq (awp_ret (k_blk_ret (k_seq_ret (k_rnd_ret2 (k_blk_ret (k_seq_ret (k_fin ?_))))))))
 cases hF7
 exact ends_a [] [] Try.results75
 refine s_mv ?_
 refine s_gt ?_
 refine s_mv ?_
 refine w_guard _ 29 hF7 ?_ ?_ <;> intro hc9 hF8
 refine s_mv ?_
 refine s_mv ?_
 obtain ⟨v10, hv10, hF9⟩ := bind_some' hF8
 refine s_ixT rI hv10 rfl yE23 ?_
 refine s_ld1 yA3 ?_
 refine s_mv ?_
 refine s_mv ?_
 refine s_sub rfl ?_
 obtain ⟨v11, hv11, hF10⟩ := bind_some' hF9
 refine s_ixT rI hv11 rfl yE23 ?_
 refine s_ld1 yA3 ?_
 refine s_le ?_
 refine s_pkt ?_
 refine s_pkf ?_
 refine k_nilD (by kernel_rfl) ?_
 refine k_seq ?_
 refine w_cond hF10 ?_ ?_ <;> intro hc12 hF11
 refine awp_seq (awp_region ?_)
 refine s_as ?_
 refine k_nil (k_seq (awp_ret (k_blk_ret (k_seq_ret (k_rnd_ret2 (k_blk_ret (k_seq_ret (k_fin ?_))))))))
 cases hF11
 exact ends_a [] [] Try.results75
 refine awp_skip (k_blk (k_seq (awp_region ?_)))
 refine s_mv ?_
 refine s_add rfl ?_
 refine s_as ?_
 refine k_nil ?_
 exact s_rn (fu, (w64 (g1 + 1))) ⟨by first | omega | (dsimp only; omega), hF11⟩
 iterate 10 refine r_no rfl ?_
 refine s_pkf ?_
 refine s_pkf ?_
 refine k_nilD (by kernel_rfl) ?_
 refine k_seq (awp_false rfl (awp_skip (k_blk (k_seq (awp_region ?_)))))
 refine s_mv ?_
 refine s_add rfl ?_
 refine s_as ?_
 refine k_nil ?_
 exact s_rn (fu, (w64 (g1 + 1))) ⟨by first | omega | (dsimp only; omega), hF8⟩
 refine awp_exit (k_seq_exit (k_rnd_exit2 (k_blk_exit (k_seq (awp_seq (awp_region ?_))))))
 refine s_mv ?_
 refine s_lenT yU23 ?_
 refine s_le ?_
 refine s_as ?_
 refine k_nil (k_seq (awp_ret (k_fin ?_)))
 cases hF3
 exact ends_a [] [] Try.results75
 refine r_no rfl (r_no rfl ?_)
 refine s_pkf ?_
 refine k_nil (k_seq (awp_false rfl (awp_exit (k_seq_exit (k_rnd_exit2 (k_blk_exit (k_seq (awp_seq (awp_region ?_)))))))))
 refine s_mv ?_
 refine s_lenT yU23 ?_
 refine s_le ?_
 refine s_as ?_
 refine k_nil (k_seq (awp_ret (k_fin ?_)))
 cases hF2
 exact ends_a [] [] Try.results75
def m_spec_l1Is_AC (fuel : Nat) : Prop := ∀ (x1 : Form) (x2 : Int) (r : Bool), m_spec_l1Is fuel x1 x2 = some r → AC Try.prog 60 [.ag [.t (.sc (.int .i64 x1.kind)), .t (.sc (.str x1.name)), .t (.sc (.int .i64 x1.n)), .t (.sl (x1.scopes.map rI)), .t (.sl (x1.kids.map Form.row))], .t (.sc (.int .i64 x2))] noOb (.t (.sc (.bool r))) noOb
theorem m_spec_l1Is_st (fu : Nat) (ih_m_spec_l1Is : ∀ k, k ≤ fu → m_spec_l1Is_AC k) : m_spec_l1Is_AC (fu + 1) := by
 intro x1 x2 r hF0
 rw [m_spec_l1Is] at hF0
 refine AC_i [.t (.sc (.bool r))] Try.func60 rfl Try.ntmps60 ?_
 intro C hC
 refine awp_seq (awp_region ?_)
 refine s_box ?_
 refine s_as ?_
 refine k_nil (k_seq (awp_seq (awp_seq (awp_region ?_))))
 refine s_mv ?_
 refine s_eq ?_
 refine k_nil (k_seq ?_)
 refine w_cond hF0 ?_ ?_ <;> intro hc1 hF1
 refine awp_seq (awp_region ?_)
 refine s_as ?_
 refine k_nil (k_seq (awp_ret (k_seq_ret (k_fin ?_))))
 cases hF1
 exact ends_a [] [] Try.results60
 refine awp_skip (k_seq (awp_seq (awp_seq (awp_region ?_))))
 refine s_fa yF26_0 ?_
 refine s_ld1 yA3 ?_
 refine k_nil (k_seq (awp_block (awp_seq (awp_region ?_))))
 refine s_eq ?_
 refine s_as ?_
 refine k_nil (k_seq ?_)
 refine w_cond hF1 ?_ ?_ <;> intro hc2 hF2
 refine awp_seq (awp_region ?_)
 refine s_fa yF26_1 ?_
 refine s_ld1 yA9 ?_
 obtain ⟨v3, hv3, hF3⟩ := bind_some' hF2
 refine s_pure [] (m_spec_NameValid_ok fu _ _ hv3) ?_
 refine s_mv ?_
 refine w_guard _ 15 hF3 ?_ ?_ <;> intro hc4 hF4
 refine s_fa yF26_2 ?_
 refine s_ld1 yA3 ?_
 refine s_eq ?_
 refine s_pkt ?_
 refine s_mv ?_
 refine w_guard _ 20 hF4 ?_ ?_ <;> intro hc5 hF5
 refine s_fa yF26_3 ?_
 refine s_ld1 yA23 ?_
 obtain ⟨v6, hv6, hF6⟩ := bind_some' hF5
 refine s_pure [] (m_spec_l1Scopes_ok fu _ _ hv6) ?_
 refine s_pkt ?_
 refine s_mv ?_
 refine w_guard _ 25 hF6 ?_ ?_ <;> intro hc7 hF7
 refine s_fa yF26_4 ?_
 refine s_ld1 yA24 ?_
 refine s_lenT yU24 ?_
 refine s_eq ?_
 refine s_pkt ?_
 refine s_as ?_
 refine k_nil (k_seq (awp_ret (k_blk_ret (k_seq_ret (k_fin ?_)))))
 cases hF7
 exact ends_a [] [] Try.results60
 iterate 4 refine r_no rfl ?_
 refine s_pkf ?_
 refine s_as ?_
 refine k_nil (k_seq (awp_ret (k_blk_ret (k_seq_ret (k_fin ?_)))))
 cases hF7
 exact ends_a [] [] Try.results60
 iterate 3 refine r_no rfl ?_
 refine s_pkf ?_
 refine s_mv ?_
 iterate 4 refine r_no rfl ?_
 refine s_pkf ?_
 refine s_as ?_
 refine k_nil (k_seq (awp_ret (k_blk_ret (k_seq_ret (k_fin ?_)))))
 cases hF5
 exact ends_a [] [] Try.results60
 iterate 3 refine r_no rfl ?_
 refine s_pkf ?_
 refine s_mv ?_
 iterate 3 refine r_no rfl ?_
 refine s_pkf ?_
 refine s_mv ?_
 iterate 4 refine r_no rfl ?_
 refine s_pkf ?_
 refine s_as ?_
 refine k_nil (k_seq (awp_ret (k_blk_ret (k_seq_ret (k_fin ?_)))))
 cases hF4
 exact ends_a [] [] Try.results60
 refine awp_seq (awp_region ?_)
 refine s_eq ?_
 refine s_as ?_
 refine k_nil (k_seq ?_)
 refine w_cond hF2 ?_ ?_ <;> intro hc8 hF3
 refine awp_seq (awp_region ?_)
 refine s_fa yF26_1 ?_
 refine s_ld1 yA9 ?_
 refine s_eqS ?_
 refine s_mv ?_
 refine w_guard _ 36 hF3 ?_ ?_ <;> intro hc9 hF4
 refine s_fa yF26_2 ?_
 refine s_ld1 yA3 ?_
 refine s_ge ?_
 refine s_pkt ?_
 refine s_mv ?_
 refine w_guard _ 41 hF4 ?_ ?_ <;> intro hc10 hF5
 refine s_fa yF26_2 ?_
 refine s_ld1 yA3 ?_
 refine s_le ?_
 refine s_pkt ?_
 refine s_mv ?_
 refine w_guard _ 46 hF5 ?_ ?_ <;> intro hc11 hF6
 refine s_fa yF26_3 ?_
 refine s_ld1 yA23 ?_
 refine s_lenT yU23 ?_
 refine s_eq ?_
 refine s_pkt ?_
 refine s_mv ?_
 refine w_guard _ 52 hF6 ?_ ?_ <;> intro hc12 hF7
 refine s_fa yF26_4 ?_
 refine s_ld1 yA24 ?_
 refine s_lenT yU24 ?_
 refine s_eq ?_
 refine s_pkt ?_
 refine s_as ?_
 refine k_nil (k_seq (awp_ret (k_blk_ret (k_seq_ret (k_fin ?_)))))
 cases hF7
 exact ends_a [] [] Try.results60
 iterate 4 refine r_no rfl ?_
 refine s_pkf ?_
 refine s_as ?_
 refine k_nil (k_seq (awp_ret (k_blk_ret (k_seq_ret (k_fin ?_)))))
 cases hF7
 exact ends_a [] [] Try.results60
 iterate 4 refine r_no rfl ?_
 refine s_pkf ?_
 refine s_mv ?_
 iterate 4 refine r_no rfl ?_
 refine s_pkf ?_
 refine s_as ?_
 refine k_nil (k_seq (awp_ret (k_blk_ret (k_seq_ret (k_fin ?_)))))
 cases hF6
 exact ends_a [] [] Try.results60
 iterate 3 refine r_no rfl ?_
 refine s_pkf ?_
 refine s_mv ?_
 iterate 4 refine r_no rfl ?_
 refine s_pkf ?_
 refine s_mv ?_
 iterate 4 refine r_no rfl ?_
 refine s_pkf ?_
 refine s_as ?_
 refine k_nil (k_seq (awp_ret (k_blk_ret (k_seq_ret (k_fin ?_)))))
 cases hF5
 exact ends_a [] [] Try.results60
 iterate 3 refine r_no rfl ?_
 refine s_pkf ?_
 refine s_mv ?_
 iterate 3 refine r_no rfl ?_
 refine s_pkf ?_
 refine s_mv ?_
 iterate 4 refine r_no rfl ?_
 refine s_pkf ?_
 refine s_mv ?_
 iterate 4 refine r_no rfl ?_
 refine s_pkf ?_
 refine s_as ?_
 refine k_nil (k_seq (awp_ret (k_blk_ret (k_seq_ret (k_fin ?_)))))
 cases hF4
 exact ends_a [] [] Try.results60
 refine awp_skip (k_blk (k_seq (awp_seq (awp_seq (awp_region ?_)))))
 refine s_fa yF26_0 ?_
 refine s_ld1 yA3 ?_
 refine s_ne ?_
 refine s_mv ?_
 refine w_guard _ 61 hF3 ?_ ?_ <;> intro hc13 hF4
 iterate 3 refine r_no rfl ?_
 refine s_pkt ?_
 refine s_mv ?_
 iterate 3 refine r_no rfl ?_
 refine s_pkt ?_
 refine s_mv ?_
 iterate 4 refine r_no rfl ?_
 refine s_pkt ?_
 refine k_nil (k_seq (awp_true rfl (awp_seq (awp_region ?_))))
 refine s_as ?_
 refine k_nil (k_seq (awp_ret (k_seq_ret (k_fin ?_))))
 cases hF4
 exact ends_a [] [] Try.results60
 refine s_fa yF26_1 ?_
 refine s_ld1 yA9 ?_
 refine s_neS ?_
 refine s_pkf ?_
 refine s_mv ?_
 refine w_guard _ 66 hF4 ?_ ?_ <;> intro hc14 hF5
 iterate 3 refine r_no rfl ?_
 refine s_pkt ?_
 refine s_mv ?_
 iterate 4 refine r_no rfl ?_
 refine s_pkt ?_
 refine k_nil (k_seq (awp_true rfl (awp_seq (awp_region ?_))))
 refine s_as ?_
 refine k_nil (k_seq (awp_ret (k_seq_ret (k_fin ?_))))
 cases hF5
 exact ends_a [] [] Try.results60
 refine s_fa yF26_2 ?_
 refine s_ld1 yA3 ?_
 refine s_ne ?_
 refine s_pkf ?_
 refine s_mv ?_
 refine w_guard _ 71 hF5 ?_ ?_ <;> intro hc15 hF6
 iterate 4 refine r_no rfl ?_
 refine s_pkt ?_
 refine k_nil (k_seq (awp_true rfl (awp_seq (awp_region ?_))))
 refine s_as ?_
 refine k_nil (k_seq (awp_ret (k_seq_ret (k_fin ?_))))
 cases hF6
 exact ends_a [] [] Try.results60
 refine s_fa yF26_3 ?_
 refine s_ld1 yA23 ?_
 refine s_lenT yU23 ?_
 refine s_ne ?_
 refine s_pkf ?_
 refine k_nil (k_seq ?_)
 refine w_cond hF6 ?_ ?_ <;> intro hc16 hF7
 refine awp_seq (awp_region ?_)
 refine s_as ?_
 refine k_nil (k_seq (awp_ret (k_seq_ret (k_fin ?_))))
 cases hF7
 exact ends_a [] [] Try.results60
 refine awp_skip (k_seq (awp_seq (awp_seq (awp_region ?_))))
 refine s_as ?_
 refine k_nil (k_seq (awp_block ?_))
 refine awp_fr (β := Int) [4, 5, 77, 78, 79, 80, 81, 82, 83, 84, 85, 86, 87, 88, 89, 90, 91, 92] [] [] (fun a => [(5, .t (.sc (.int .i64 a.2)))]) (fun a => []) (fun a => a.1 ≤ fu ∧ m_spec_l1Is_l1 a.1 x1 x2 a.2 = some r ∧ 0 ≤ a.2) (fu, 0) ⟨Nat.le_refl _, hF7, by simp⟩ ?_
 clear hF7
 rintro ⟨fu, g17⟩ ⟨hl18, hF8, hn_g17⟩
 dsimp only at hl18 hF8 hn_g17 ⊢
 obtain _ | fu := fu
 · rw [m_spec_l1Is_l1] at hF8; cases hF8
 rw [m_spec_l1Is_l1] at hF8
 refine awp_seq (awp_seq (awp_region ?_))
 refine s_mv ?_
 refine s_fa yF26_4 ?_
 refine s_ld1 yA24 ?_
 refine s_lenT yU24 ?_
 refine s_lt ?_
 refine k_nil (k_seq ?_)
 refine w_cond hF8 ?_ ?_ <;> intro hc19 hF9
 refine awp_lenT 79 (fun hb20 => ?_)
 refine awp_skip (k_seq (awp_seq (awp_block (awp_seq (awp_region ?_)))))
 refine s_fa yF26_4 ?_
 refine s_ld1 yA24 ?_
 refine s_mv ?_
 obtain ⟨v21, hv21, hF10⟩ := bind_some' hF9
 refine s_ixT Form.row hv21 (Form.row_eq _) yE24 ?_
 refine s_ldN yA26 yS26 ?_
 refine s_mv ?_
 refine s_sub rfl ?_
 obtain ⟨v22, hv22, hF11⟩ := bind_some' hF10
 refine s_pure [] (ih_m_spec_l1Is fu (by omega) _ _ _ hv22) ?_
 refine s_not ?_
 refine k_nil (k_seq ?_)
 refine w_cond hF11 ?_ ?_ <;> intro hc23 hF12
 refine awp_seq (awp_region ?_)
 refine s_as ?_
 refine k_nil (k_seq (awp_ret (k_blk_ret (k_seq_ret (k_rnd_ret2 (k_blk_ret (k_seq_ret (k_fin ?_))))))))
 cases hF12
 exact ends_a [] [] Try.results60
 refine awp_skip (k_blk (k_seq (awp_region ?_)))
 refine s_mv ?_
 refine s_add (winc2 hc19 hb20 hn_g17) ?_
 refine s_as ?_
 refine k_nil ?_
 exact s_rn (fu, (g17 + 1)) ⟨by first | omega | (dsimp only; omega), hF12, by first | omega | (dsimp only; omega)⟩
 refine awp_exit (k_seq_exit (k_rnd_exit2 (k_blk_exit (k_seq (awp_seq (awp_region ?_))))))
 refine s_as ?_
 refine k_nil (k_seq (awp_ret (k_fin ?_)))
 cases hF9
 exact ends_a [] [] Try.results60
end Go.Abs
