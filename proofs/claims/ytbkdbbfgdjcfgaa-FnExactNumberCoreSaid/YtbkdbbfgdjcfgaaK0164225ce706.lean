/- A part of the proof: what the functions that the law calls answer, as pure values. -/
import Derived.Test.YtbkdbbfgdjcfgaaK07ef989c774f
import Derived.Test.YtbkdbbfgdjcfgaaK095c9cd77914
import Derived.Test.YtbkdbbfgdjcfgaaK6d6f20f09e2d
import Derived.Test.YtbkdbbfgdjcfgaaK71f3fdb1c4f3
import Derived.Test.YtbkdbbfgdjcfgaaKa66c5c62e785
import Derived.Test.YtbkdbbfgdjcfgaaKbd549a7fb4ef
import Derived.Test.YtbkdbbfgdjcfgaaKf1a731074c56
set_option linter.unusedSimpArgs false
set_option linter.unusedVariables false
set_option maxRecDepth 100000
set_option maxHeartbeats 4000000
namespace Go.Abs
open Go.Proofs
theorem m_impl_renumber_all (fuel : Nat) : m_impl_renumber_AC fuel := by
 induction fuel using Nat.strongRecOn with
 | _ N ih =>
   cases N with
   | zero => exact (by intro x1 x2 o1 r h; rw [m_impl_renumber] at h; cases h)
   | succ fu => exact m_impl_renumber_st fu (fun k hk => (ih k (by omega)))
theorem m_impl_renumber_ok (fuel : Nat) : m_impl_renumber_AC fuel := (m_impl_renumber_all fuel)
def m_impl_renumber_n_AC (fuel : Nat) : Prop := ∀ (x1 : Core) (o1 : Int) (r : (Core × Int)), m_impl_renumber_n fuel x1 o1 = some r → AC Try.prog 100 [.ag [.t (.sc (.int .i64 x1.kind)), .t (.sc (.int .i64 x1.id)), .t (.sc (.str x1.name)), .t (.sc (.int .i64 x1.n)), .t (.sl (x1.ids.map rI)), .t (.sc (.int .i64 x1.data.kind)), .t (.sc (.str x1.data.name)), .t (.sc (.int .i64 x1.data.n)), .t (.sl (x1.data.scopes.map rI)), .t (.sl (x1.data.kids.map Form.row)), .t (.sl (x1.kids.map Core.row))], .t (.sc .nim), .rf 9000 0] (objs [(9000, .box [.t (.sc (.int .i64 o1))])]) (.ag [.t (.sc (.int .i64 r.1.kind)), .t (.sc (.int .i64 r.1.id)), .t (.sc (.str r.1.name)), .t (.sc (.int .i64 r.1.n)), .t (.sl (r.1.ids.map rI)), .t (.sc (.int .i64 r.1.data.kind)), .t (.sc (.str r.1.data.name)), .t (.sc (.int .i64 r.1.data.n)), .t (.sl (r.1.data.scopes.map rI)), .t (.sl (r.1.data.kids.map Form.row)), .t (.sl (r.1.kids.map Core.row))]) (objs [(9000, .box [.t (.sc (.int .i64 r.2))])])
theorem m_impl_renumber_n_ok (fuel : Nat) : m_impl_renumber_n_AC fuel := by
 intro x1 o1 r hF0
 unfold m_impl_renumber_n at hF0
 refine AC_i [.ag [.t (.sc (.int .i64 r.1.kind)), .t (.sc (.int .i64 r.1.id)), .t (.sc (.str r.1.name)), .t (.sc (.int .i64 r.1.n)), .t (.sl (r.1.ids.map rI)), .t (.sc (.int .i64 r.1.data.kind)), .t (.sc (.str r.1.data.name)), .t (.sc (.int .i64 r.1.data.n)), .t (.sl (r.1.data.scopes.map rI)), .t (.sl (r.1.data.kids.map Form.row)), .t (.sl (r.1.kids.map Core.row))]] Try.func100 rfl Try.ntmps100 ?_
 intro C hC
 refine awp_seq (awp_region ?_)
 refine s_box ?_
 refine s_alloc yZ37 ?_
 refine k_nil (k_seq (awp_seq ?_))
 refine awp_draw yMix (by kernel_rfl) ?_
 refine s_fa yF37_0 ?_
 refine s_ld1 yA3 ?_
 refine s_fa yF37_1 ?_
 refine s_ld1 yA3 ?_
 refine s_fa yF37_2 ?_
 refine s_ld1 yA9 ?_
 refine s_fa yF37_3 ?_
 refine s_ld1 yA3 ?_
 refine s_fa yF37_5 ?_
 refine s_ldN yA34 yS34 ?_
 obtain ⟨v1, hv1, hF1⟩ := bind_some' hF0
 refine s_pure [] (m_impl_copyForm_ok fuel _ _ hv1) ?_
 refine s_bld yZ37 yL37 ?_
 refine s_alloc yZ37 ?_
 refine s_stW yS37 ?_
 refine k_nilD (by kernel_rfl) ?_
 refine k_seq ?_
 refine awp_jn (α := Nat × Int) [27, 28, 29, 30, 31, 32, 33, 34] [7] [] (fun a => []) (fun a => [(7, .box [.t (.sc (.int .i64 x1.kind)), .t (.sc (.int .i64 a.2)), .t (.sc (.str x1.name)), .t (.sc (.int .i64 x1.n)), .nl, .t (.sc (.int .i64 v1.kind)), .t (.sc (.str v1.name)), .t (.sc (.int .i64 v1.n)), .t (.sl (v1.scopes.map rI)), .t (.sl (v1.kids.map Form.row)), .nl])]) (fun a => a.1 ≤ fuel ∧ m_impl_renumber_n_j1 a.1 x1 o1 v1 a.2 = some r) ?_ ?_
 refine awp_seq (awp_region ?_)
 refine s_fa yF37_0 ?_
 refine s_ld1 yA3 ?_
 refine s_eq ?_
 refine k_nil (k_seq ?_)
 refine w_cond hF1 ?_ ?_ <;> intro hc2 hF2
 refine awp_region ?_
 refine s_mv ?_
 refine s_fa yF37_1 ?_
 refine s_ld1 yA3 ?_
 refine s_lookN yM149 ?_
 refine s_fa yF37_1 ?_
 refine s_stP yS3 ?_
 refine k_nil ?_
 exact s_jn (fuel, 0) ⟨by first | omega | (dsimp only; omega), hF2⟩
 refine awp_skip ?_
 exact s_jn (fuel, x1.id) ⟨by first | omega | (dsimp only; omega), hF2⟩
 clear hF1
 rintro ⟨fu, g3⟩ ⟨hl4, hF2⟩
 dsimp only at hl4 hF2 ⊢
 obtain _ | fu := fu
 · rw [m_impl_renumber_n_j1] at hF2; cases hF2
 rw [m_impl_renumber_n_j1] at hF2
 refine awp_seq (awp_region ?_)
 refine s_mkm ?_
 refine s_as ?_
 refine k_nil (k_seq (awp_seq (awp_seq (awp_region ?_))))
 refine s_mv ?_
 refine s_rangeN yM149 ?_
 refine k_nil (k_seq (awp_block ?_))
 refine awp_fr (β := Unit) [9, 10, 38, 39, 40, 41, 42, 43, 44, 45] [] [] (fun a => []) (fun a => []) (fun a => True) (0, ()) trivial ?_
 rintro ⟨_, _⟩ _
 refine awp_seq (awp_region ?_)
 refine s_nextN ?_
 refine s_ext ?_
 refine k_nil (k_seq (awp_seq (awp_false rfl ?_)))
 refine awp_exit (k_seq_exit (k_rnd_exit2 (k_blk_exit ?_)))
 refine k_seq ?_
 refine awp_kill 37 rfl ?_
 refine awp_jn (α := Nat × Int × (Int → Option Int) × (List Int)) [12, 46, 47, 48, 49, 50, 51, 52, 53, 54, 55, 56, 57, 58, 59, 60, 61, 62, 63, 64, 65, 66, 67, 68, 69, 70, 71] [7, 35, 5060, 9000] [] (fun a => []) (fun a => [(7, .box [.t (.sc (.int .i64 x1.kind)), .t (.sc (.int .i64 g3)), .t (.sc (.str x1.name)), .t (.sc (.int .i64 x1.n)), .ar 5060, .t (.sc (.int .i64 v1.kind)), .t (.sc (.str v1.name)), .t (.sc (.int .i64 v1.n)), .t (.sl (v1.scopes.map rI)), .t (.sl (v1.kids.map Form.row)), .nl]), (35, .mp a.2.2.1), (5060, .arr (a.2.2.2.map rI) 3 true), (9000, .box [.t (.sc (.int .i64 a.2.1))])]) (fun a => a.1 ≤ fu ∧ m_impl_renumber_j2 a.1 x1 v1 g3 a.2.1 a.2.2.1 a.2.2.2 = some r) ?_ ?_
 refine awp_seq (awp_region ?_)
 refine s_fa yF37_4 ?_
 refine s_ld1 yA22 ?_
 refine s_lenT yU22 ?_
 refine s_mv ?_
 refine k_nil (k_seq (awp_block ?_))
 refine awp_ownB 7 5060 3 [.t (.sc (.int .i64 x1.kind)), .t (.sc (.int .i64 g3)), .t (.sc (.str x1.name)), .t (.sc (.int .i64 x1.n)), .ar 5060, .t (.sc (.int .i64 v1.kind)), .t (.sc (.str v1.name)), .t (.sc (.int .i64 v1.n)), .t (.sl (v1.scopes.map rI)), .t (.sl (v1.kids.map Form.row)), .nl] yI3.choose_spec ?_
 refine awp_frame2 [12, 49, 50, 51, 52, 53, 54, 55, 56, 57, 58, 59, 60, 61, 62, 63, 64, 65, 66, 67, 68, 69, 70, 71] [7, 35, 5060, 9000] [68, 69] [5060] (fun a : Nat × Int × Int × (List Int) × (Int → Option Int) => a.1) (fun a : Nat × Int × Int × (List Int) × (Int → Option Int) => [(49, .t (.sc (.int .i64 a.2.1)))]) (fun a : Nat × Int × Int × (List Int) × (Int → Option Int) => [(7, .box [.t (.sc (.int .i64 x1.kind)), .t (.sc (.int .i64 g3)), .t (.sc (.str x1.name)), .t (.sc (.int .i64 x1.n)), .ar 5060, .t (.sc (.int .i64 v1.kind)), .t (.sc (.str v1.name)), .t (.sc (.int .i64 v1.n)), .t (.sl (v1.scopes.map rI)), .t (.sl (v1.kids.map Form.row)), .nl]), (35, .mp a.2.2.2.2), (5060, .arr (a.2.2.2.1.map rI) 3 true), (9000, .box [.t (.sc (.int .i64 a.2.2.1))])]) (fun a : Nat × Int × Int × (List Int) × (Int → Option Int) => a.1 ≤ fu ∧ m_impl_renumber_l3 a.1 x1 v1 g3 a.2.1 a.2.2.1 a.2.2.2.1 a.2.2.2.2 = some r ∧ 0 ≤ a.2.1) (fu, 0, o1, ([] : List Int), map0) ⟨Nat.le_refl _, hF2, by simp⟩ (by rfl) (by rfl) (fun _ => rfl) (hasF_cons (by conv => lhs; whnf) (by rfl) hasF_nil) (hasO_cons (by conv => lhs; whnf) (by rfl) (hasO_cons (by conv => lhs; whnf) (by rfl) (hasO_cons (by conv => lhs; whnf) (by rfl) (hasO_cons (by conv => lhs; whnf) (by rfl) hasO_nil)))) (fresh_C hC rfl) (by repeat (first | exact freshS_args rfl | refine freshS_upd rfl ?_ | refine freshS_frame rfl ?_)) (by repeat (first | exact freshM_no | exact objs_fresh rfl | refine freshM_upd rfl ?_ | refine freshM_frame rfl ?_)) ?_
 clear hF2
 rintro ⟨fu, g5, g6, g7, g8⟩ ⟨hl9, hF3, hn_g5⟩
 dsimp only at hl9 hF3 hn_g5 ⊢
 obtain _ | fu := fu
 · rw [m_impl_renumber_l3] at hF3; cases hF3
 rw [m_impl_renumber_l3] at hF3
 refine awp_seq (awp_region ?_)
 refine s_lt ?_
 refine k_nil (k_seq (awp_seq ?_))
 refine w_cond hF3 ?_ ?_ <;> intro hc10 hF4
 refine awp_lenT 47 (fun hb11 => ?_)
 refine awp_skip (k_seq (awp_seq (awp_block (awp_seq (awp_region ?_)))))
 obtain ⟨v12, hv12, hF5⟩ := bind_some' hF4
 refine s_ixT rI hv12 rfl yE22 ?_
 refine s_ld1 yA3 ?_
 refine s_as ?_
 refine k_nil (k_seq (awp_seq (awp_region ?_)))
 refine s_mv ?_
 refine s_nc ?_
 refine s_ld1 yA3 ?_
 refine s_add rfl ?_
 refine s_nc ?_
 refine s_stW yS3 ?_
 refine k_nil (k_seq (awp_seq (awp_region ?_)))
 iterate 3 refine s_mv ?_
 refine s_nc ?_
 refine s_ld1 yA3 ?_
 refine s_mupd yM149 ?_
 refine k_nil (k_seq ?_)
 refine awp_draw yMix (by kernel_rfl) ?_
 refine s_fa yF37_4 ?_
 refine s_ld1 yA22 ?_
 refine s_mv0 ?_
 refine s_nc ?_
 refine s_ld1 yA3 ?_
 refine s_bs rI [(w64 (g6 + 1))] yP22 yR3 ?_
 obtain ⟨hk13, hF6⟩ := chk_some hF5
 refine s_apT rI (fun _ => rfl) hk13 yP22 ?_
 refine s_fa yF37_4 ?_
 refine s_stP yS22 ?_
 refine k_nilD (by kernel_rfl) ?_
 refine k_blk (k_seq (awp_region ?_))
 refine s_add (winc2 hc10 hb11 hn_g5) ?_
 refine s_mv ?_
 refine k_nil ?_
 exact s_rn (fu, (g5 + 1), (w64 (g6 + 1)), (g7 ++ [(w64 (g6 + 1))]), (mapSet g8 v12 (w64 (g6 + 1)))) ⟨by first | omega | (dsimp only; omega), hF6, by first | omega | (dsimp only; omega)⟩ [(5060, 69)]
 refine awp_exit (k_seq_exit (k_rnd_exit2 (k_blk_exit ?_)))
 exact s_jn (fu, g6, g8, g7) ⟨by first | omega | (dsimp only; omega), hF4⟩
 clear hF2
 rintro ⟨fu, g14, g15, g16⟩ ⟨hl17, hF3⟩
 dsimp only at hl17 hF3 ⊢
 obtain _ | fu := fu
 · rw [m_impl_renumber_j2] at hF3; cases hF3
 rw [m_impl_renumber_j2] at hF3
 refine awp_seq (awp_seq (awp_region ?_))
 refine s_fa yF37_6 ?_
 refine s_ld1 yA35 ?_
 refine s_lenT yU35 ?_
 refine s_mv ?_
 refine k_nil (k_seq (awp_block ?_))
 refine awp_ownB 7 5080 37 [.t (.sc (.int .i64 x1.kind)), .t (.sc (.int .i64 g3)), .t (.sc (.str x1.name)), .t (.sc (.int .i64 x1.n)), .ar 5060, .t (.sc (.int .i64 v1.kind)), .t (.sc (.str v1.name)), .t (.sc (.int .i64 v1.n)), .t (.sl (v1.scopes.map rI)), .t (.sl (v1.kids.map Form.row)), .ar 5080] yI37.choose_spec ?_
 refine awp_frame2 [14, 75, 76, 77, 78, 79, 80, 81, 82, 83, 84, 85, 86, 87, 88] [7, 5080, 9000] [14, 85, 86] [5080] (fun a : Nat × Int × Int × (List Core) => a.1) (fun a : Nat × Int × Int × (List Core) => [(75, .t (.sc (.int .i64 a.2.1)))]) (fun a : Nat × Int × Int × (List Core) => [(7, .box [.t (.sc (.int .i64 x1.kind)), .t (.sc (.int .i64 g3)), .t (.sc (.str x1.name)), .t (.sc (.int .i64 x1.n)), .ar 5060, .t (.sc (.int .i64 v1.kind)), .t (.sc (.str v1.name)), .t (.sc (.int .i64 v1.n)), .t (.sl (v1.scopes.map rI)), .t (.sl (v1.kids.map Form.row)), .ar 5080]), (5080, .arr (a.2.2.2.map Core.row) 37 true), (9000, .box [.t (.sc (.int .i64 a.2.2.1))])]) (fun a : Nat × Int × Int × (List Core) => a.1 ≤ fu ∧ m_impl_renumber_l4 a.1 x1 v1 g3 g15 g16 a.2.1 a.2.2.1 a.2.2.2 = some r ∧ 0 ≤ a.2.1) (fu, 0, g14, ([] : List Core)) ⟨Nat.le_refl _, hF3, by simp⟩ (by rfl) (by rfl) (fun _ => rfl) (hasF_cons (by conv => lhs; whnf) (by rfl) hasF_nil) (hasO_cons (by conv => lhs; whnf) (by rfl) (hasO_cons (by conv => lhs; whnf) (by rfl) (hasO_cons (by conv => lhs; whnf) (by rfl) hasO_nil))) (fresh_C hC rfl) (by repeat (first | exact freshS_args rfl | refine freshS_upd rfl ?_ | refine freshS_frame rfl ?_)) (by repeat (first | exact freshM_no | exact objs_fresh rfl | refine freshM_upd rfl ?_ | refine freshM_frame rfl ?_)) ?_
 clear hF3
 rintro ⟨fu, g18, g19, g20⟩ ⟨hl21, hF4, hn_g18⟩
 dsimp only at hl21 hF4 hn_g18 ⊢
 obtain _ | fu := fu
 · rw [m_impl_renumber_l4] at hF4; cases hF4
 rw [m_impl_renumber_l4] at hF4
 refine awp_seq (awp_region ?_)
 refine s_lt ?_
 refine k_nil (k_seq (awp_seq ?_))
 refine w_cond hF4 ?_ ?_ <;> intro hc22 hF5
 refine awp_lenT 73 (fun hb23 => ?_)
 refine awp_skip (k_seq (awp_seq (awp_block (awp_seq (awp_region ?_)))))
 obtain ⟨v24, hv24, hF6⟩ := bind_some' hF5
 refine s_ixT Core.row hv24 (Core.row_eq _) yE35 ?_
 refine s_ldN yA37 yS37 ?_
 refine s_alloc yZ37 ?_
 refine s_stW yS37 ?_
 refine k_nil (k_seq ?_)
 refine awp_draw yMix (by kernel_rfl) ?_
 refine s_fa yF37_6 ?_
 refine s_ld1 yA35 ?_
 refine s_ldW yA37 yS37 ?_
 refine s_mv0 ?_
 refine s_mv0 ?_
 obtain ⟨v25, hv25, hF7⟩ := bind_some' hF6
 refine s_call [(9301, 35), (9000, 9000)] [] _ _ (m_impl_renumber_ok fu _ _ _ _ hv25) ?_
 refine s_bs Core.row [v25.1] yP35 yR37 ?_
 obtain ⟨hk26, hF8⟩ := chk_some hF7
 refine s_apT Core.row (fun y => Core.row_len y) hk26 yP35 ?_
 refine s_fa yF37_6 ?_
 refine s_stP yS35 ?_
 refine k_nilD (by kernel_rfl) ?_
 refine k_blk (k_seq (awp_region ?_))
 refine s_add (winc2 hc22 hb23 hn_g18) ?_
 refine s_mv ?_
 refine k_nil ?_
 exact s_rn (fu, (g18 + 1), v25.2, (g20 ++ [v25.1])) ⟨by first | omega | (dsimp only; omega), hF8, by first | omega | (dsimp only; omega)⟩ [(5080, 86)]
 refine awp_exit (k_seq_exit (k_rnd_exit2 (k_blk_exit (k_seq (awp_seq (awp_region ?_))))))
 refine s_ldW yA37 yS37 ?_
 refine s_stW yS37 ?_
 refine k_nil (k_seq (awp_ret (k_fin ?_)))
 cases hF5
 exact ends_gen _ [5060, 5080] (by rw [Try.results100]; exact (res_agg (by conv => lhs; whnf) (by conv => lhs; whnf) yA37 yS37 rfl res_nil))
def m_impl_NumberCore_AC (fuel : Nat) : Prop := ∀ (x1 : Core) (r : (Core × Bool)), m_impl_NumberCore fuel x1 = some r → AC Try.prog 54 [.ag [.t (.sc (.int .i64 x1.kind)), .t (.sc (.int .i64 x1.id)), .t (.sc (.str x1.name)), .t (.sc (.int .i64 x1.n)), .t (.sl (x1.ids.map rI)), .t (.sc (.int .i64 x1.data.kind)), .t (.sc (.str x1.data.name)), .t (.sc (.int .i64 x1.data.n)), .t (.sl (x1.data.scopes.map rI)), .t (.sl (x1.data.kids.map Form.row)), .t (.sl (x1.kids.map Core.row))]] noOb (.tp [.ag [.t (.sc (.int .i64 r.1.kind)), .t (.sc (.int .i64 r.1.id)), .t (.sc (.str r.1.name)), .t (.sc (.int .i64 r.1.n)), .t (.sl (r.1.ids.map rI)), .t (.sc (.int .i64 r.1.data.kind)), .t (.sc (.str r.1.data.name)), .t (.sc (.int .i64 r.1.data.n)), .t (.sl (r.1.data.scopes.map rI)), .t (.sl (r.1.data.kids.map Form.row)), .t (.sl (r.1.kids.map Core.row))], .t (.sc (.bool r.2))]) noOb
theorem m_impl_NumberCore_ok (fuel : Nat) : m_impl_NumberCore_AC fuel := by
 intro x1 r hF0
 unfold m_impl_NumberCore at hF0
 refine AC_i [.ag [.t (.sc (.int .i64 r.1.kind)), .t (.sc (.int .i64 r.1.id)), .t (.sc (.str r.1.name)), .t (.sc (.int .i64 r.1.n)), .t (.sl (r.1.ids.map rI)), .t (.sc (.int .i64 r.1.data.kind)), .t (.sc (.str r.1.data.name)), .t (.sc (.int .i64 r.1.data.n)), .t (.sl (r.1.data.scopes.map rI)), .t (.sl (r.1.data.kids.map Form.row)), .t (.sl (r.1.kids.map Core.row))], .t (.sc (.bool r.2))] Try.func54 rfl Try.ntmps54 ?_
 intro C hC
 refine awp_seq (awp_region ?_)
 refine s_box ?_
 refine s_alloc yZ37 ?_
 refine s_as ?_
 refine k_nil (k_seq (awp_seq (awp_seq (awp_region ?_))))
 refine s_ldW yA37 yS37 ?_
 obtain ⟨v1, hv1, hF1⟩ := bind_some' hF0
 refine s_pure [] (m_impl_CoreValid_ok fuel _ _ hv1) ?_
 refine s_not ?_
 refine k_nil (k_seq ?_)
 refine w_cond hF1 ?_ ?_ <;> intro hc2 hF2
 refine awp_seq (awp_region ?_)
 refine s_bld yZ37 yL37 ?_
 refine s_stW yS37 ?_
 refine s_as ?_
 refine k_nil (k_seq (awp_ret (k_seq_ret (k_fin ?_))))
 cases hF2
 exact ends_gen [] [] (by rw [Try.results54]; exact (res_agg (by conv => lhs; whnf) (by conv => lhs; whnf) yA37 yS37 rfl (res_tmp (by conv => lhs; whnf) res_nil)))
 refine awp_skip (k_seq (awp_seq (awp_region ?_)))
 refine s_alloc yZ3 ?_
 refine s_stW yS3 ?_
 refine k_nil (k_seq (awp_seq (awp_region ?_)))
 refine s_ldW yA37 yS37 ?_
 obtain ⟨v3, hv3, hF3⟩ := bind_some' hF2
 refine s_call [(9000, 4)] [] _ _ (m_impl_renumber_n_ok fuel _ _ _ hv3) ?_
 refine s_alloc yZ37 ?_
 refine s_stW yS37 ?_
 refine k_nil (k_seq (awp_seq (awp_seq (awp_region ?_))))
 refine s_ld1 yA3 ?_
 refine s_gt ?_
 refine k_nil (k_seq ?_)
 refine w_cond hF3 ?_ ?_ <;> intro hc4 hF4
 refine awp_seq (awp_region ?_)
 refine s_bld yZ37 yL37 ?_
 refine s_stW yS37 ?_
 refine s_as ?_
 refine k_nil (k_seq (awp_ret (k_seq_ret (k_fin ?_))))
 cases hF4
 exact ends_gen [] [] (by rw [Try.results54]; exact (res_agg (by conv => lhs; whnf) (by conv => lhs; whnf) yA37 yS37 rfl (res_tmp (by conv => lhs; whnf) res_nil)))
 refine awp_skip (k_seq (awp_seq (awp_region ?_)))
 refine s_ldW yA37 yS37 ?_
 refine s_stW yS37 ?_
 refine s_as ?_
 refine k_nil (k_seq (awp_ret (k_fin ?_)))
 cases hF4
 exact ends_gen [] [] (by rw [Try.results54]; exact (res_agg (by conv => lhs; whnf) (by conv => lhs; whnf) yA37 yS37 rfl (res_tmp (by conv => lhs; whnf) res_nil)))
def m_laws_FnExactNumberCore_AC (fuel : Nat) : Prop := ∀ (x1 : Core) (r : Bool), m_laws_FnExactNumberCore fuel x1 = some r → AC Try.prog 8 [.ag [.t (.sc (.int .i64 x1.kind)), .t (.sc (.int .i64 x1.id)), .t (.sc (.str x1.name)), .t (.sc (.int .i64 x1.n)), .t (.sl (x1.ids.map rI)), .t (.sc (.int .i64 x1.data.kind)), .t (.sc (.str x1.data.name)), .t (.sc (.int .i64 x1.data.n)), .t (.sl (x1.data.scopes.map rI)), .t (.sl (x1.data.kids.map Form.row)), .t (.sl (x1.kids.map Core.row))]] noOb (.t (.sc (.bool r))) noOb
theorem m_laws_FnExactNumberCore_ok (fuel : Nat) : m_laws_FnExactNumberCore_AC fuel := by
 intro x1 r hF0
 unfold m_laws_FnExactNumberCore at hF0
 refine AC_i [.t (.sc (.bool r))] Try.func8 rfl Try.ntmps8 ?_
 intro C hC
 refine awp_seq (awp_region ?_)
 refine s_box ?_
 refine s_as ?_
 refine k_nil (k_seq (awp_seq (awp_region ?_)))
 refine s_as ?_
 refine k_nil (k_seq (awp_seq (awp_region ?_)))
 refine s_ldW yA28 yS28 ?_
 refine s_mv ?_
 obtain ⟨v1, hv1, hF1⟩ := bind_some' hF0
 refine s_pure [] (m_laws_szCore_ok fuel _ _ _ hv1) ?_
 refine s_as ?_
 refine k_nil (k_seq (awp_seq (awp_seq (awp_region ?_))))
 refine s_mv ?_
 refine s_lt ?_
 refine k_nil (k_seq ?_)
 refine w_cond hF1 ?_ ?_ <;> intro hc2 hF2
 refine awp_seq (awp_region ?_)
 refine s_as ?_
 refine k_nil (k_seq (awp_ret (k_seq_ret (k_fin ?_))))
 cases hF2
 exact ends_a [] [] Try.results8
 refine awp_skip (k_seq (awp_seq (awp_region ?_)))
 refine s_ldW yA28 yS28 ?_
 obtain ⟨v3, hv3, hF3⟩ := bind_some' hF2
 refine s_pure [] (m_laws_toCore_ok fuel _ _ hv3) ?_
 obtain ⟨v4, hv4, hF4⟩ := bind_some' hF3
 refine s_pure [] (m_spec_NumberCore_ok fuel _ _ hv4) ?_
 refine s_mv ?_
 refine s_ext ?_
 refine s_ext ?_
 refine s_alloc yZ37 ?_
 refine s_stW yS37 ?_
 refine s_as ?_
 refine k_nil (k_seq (awp_seq (awp_region ?_)))
 refine s_ldW yA28 yS28 ?_
 obtain ⟨v5, hv5, hF5⟩ := bind_some' hF4
 refine s_call [(9204, 2026), (9208, 12026), (9209, 22026), (9210, 32026)] [] _ _ (m_laws_toCore_D_ok fuel _ _ hv5) ?_
 refine s_alloc yZ37 ?_
 refine s_stW yS37 ?_
 refine k_nil (k_seq (awp_seq (awp_region ?_)))
 refine s_ldW yA37 yS37 ?_
 obtain ⟨v6, hv6, hF6⟩ := bind_some' hF5
 refine s_call [(9700, 2026), (9701, 12026), (9702, 22026), (9703, 32026), (9204, 2029), (9208, 12029), (9209, 22029), (9210, 32029)] [] [(9700, .arr (v5.ids.map rI) 3 true), (9701, .arr (v5.data.scopes.map rI) 3 true), (9702, .dar (v5.data.kids.map (Form.rowD 3 34)) 34), (9703, .dar (v5.kids.map (Core.rowD 3 34 37)) 37)] [(9700, .arr (v5.ids.map rI) 3 true), (9701, .arr (v5.data.scopes.map rI) 3 true), (9702, .dar (v5.data.kids.map (Form.rowD 3 34)) 34), (9703, .dar (v5.kids.map (Core.rowD 3 34 37)) 37), (9204, .arr (v6.1.ids.map rI) 3 true), (9208, .arr (v6.1.data.scopes.map rI) 3 true), (9209, .dar (v6.1.data.kids.map (Form.rowD 3 34)) 34), (9210, .dar (v6.1.kids.map (Core.rowD 3 34 37)) 37)] (ac_lend (args := [.ag [.t (.sc (.int .i64 v5.kind)), .t (.sc (.int .i64 v5.id)), .t (.sc (.str v5.name)), .t (.sc (.int .i64 v5.n)), .ar 9700, .t (.sc (.int .i64 v5.data.kind)), .t (.sc (.str v5.data.name)), .t (.sc (.int .i64 v5.data.n)), .ar 9701, .ar 9702, .ar 9703]]) [(9700, .arr (v5.ids.map rI) 3 true), (9701, .arr (v5.data.scopes.map rI) 3 true), (9702, .dar (v5.data.kids.map (Form.rowD 3 34)) 34), (9703, .dar (v5.kids.map (Core.rowD 3 34 37)) 37)] [(9204, .arr (v6.1.ids.map rI) 3 true), (9208, .arr (v6.1.data.scopes.map rI) 3 true), (9209, .dar (v6.1.data.kids.map (Form.rowD 3 34)) 34), (9210, .dar (v6.1.kids.map (Core.rowD 3 34 37)) 37)] (m_impl_NumberCore_D_ok fuel _ _ hv6) rfl (by simp only [V.lendL, V.lend, objs_cons, objs_nil, Nat.reduceEqDiff, reduceIte, if_true, if_false, Form.lendM, Core.lendM, Hit.lendM, Rule.lendM, Bind.lendM, Macro.lendM]; try rfl) (by rfl) (by rfl) (by rfl) (by rfl) (by simp only [List.all_cons, List.all_nil, Ob.flat, flat_rI, flat_rS, Form.flatM, Core.flatM, Hit.flatM, Rule.flatM, Bind.flatM, Macro.flatM, Bool.and_self, Bool.true_and]) (by rfl)) ?_
 refine s_mv ?_
 refine s_ext ?_
 refine s_ext ?_
 refine s_alloc yZ37 ?_
 refine s_stW yS37 ?_
 refine s_as ?_
 refine k_nil (k_seq (awp_seq ?_))
 refine awp_jn (α := Nat × Bool) [32, 33, 34, 35, 36, 37, 38, 39, 40] [] [] (fun a => [(40, .t (.sc (.bool a.2)))]) (fun a => []) (fun a => a.1 ≤ fuel ∧ m_laws_FnExactNumberCore_j1 a.1 x1 v4 v5 v6 a.2 = some r) ?_ ?_
 refine awp_region ?_
 refine s_ldW yA37 yS37 ?_
 refine s_ldW yA37 yS37 ?_
 obtain ⟨v7, hv7, hF7⟩ := bind_some' hF6
 refine s_call [(9700, 2029), (9701, 12029), (9702, 22029), (9703, 32029)] [] [(9700, .arr (v6.1.ids.map rI) 3 true), (9701, .arr (v6.1.data.scopes.map rI) 3 true), (9702, .dar (v6.1.data.kids.map (Form.rowD 3 34)) 34), (9703, .dar (v6.1.kids.map (Core.rowD 3 34 37)) 37)] [(9700, .arr (v6.1.ids.map rI) 3 true), (9701, .arr (v6.1.data.scopes.map rI) 3 true), (9702, .dar (v6.1.data.kids.map (Form.rowD 3 34)) 34), (9703, .dar (v6.1.kids.map (Core.rowD 3 34 37)) 37)] (ac_lend (args := [.ag [.t (.sc (.int .i64 v6.1.kind)), .t (.sc (.int .i64 v6.1.id)), .t (.sc (.str v6.1.name)), .t (.sc (.int .i64 v6.1.n)), .ar 9700, .t (.sc (.int .i64 v6.1.data.kind)), .t (.sc (.str v6.1.data.name)), .t (.sc (.int .i64 v6.1.data.n)), .ar 9701, .ar 9702, .ar 9703], .ag [.t (.sc (.int .i64 v4.1.kind)), .t (.sc (.int .i64 v4.1.id)), .t (.sc (.str v4.1.name)), .t (.sc (.int .i64 v4.1.n)), .t (.sl (v4.1.ids.map rI)), .t (.sc (.int .i64 v4.1.data.kind)), .t (.sc (.str v4.1.data.name)), .t (.sc (.int .i64 v4.1.data.n)), .t (.sl (v4.1.data.scopes.map rI)), .t (.sl (v4.1.data.kids.map Form.row)), .t (.sl (v4.1.kids.map Core.row))]]) [(9700, .arr (v6.1.ids.map rI) 3 true), (9701, .arr (v6.1.data.scopes.map rI) 3 true), (9702, .dar (v6.1.data.kids.map (Form.rowD 3 34)) 34), (9703, .dar (v6.1.kids.map (Core.rowD 3 34 37)) 37)] [] (m_laws_eqCore_ok fuel _ _ _ hv7) rfl (by simp only [V.lendL, V.lend, objs_cons, objs_nil, Nat.reduceEqDiff, reduceIte, if_true, if_false, Form.lendM, Core.lendM, Hit.lendM, Rule.lendM, Bind.lendM, Macro.lendM]; try rfl) (by rfl) (by rfl) (by rfl) (by rfl) (by simp only [List.all_cons, List.all_nil, Ob.flat, flat_rI, flat_rS, Form.flatM, Core.flatM, Hit.flatM, Rule.flatM, Bind.flatM, Macro.flatM, Bool.and_self, Bool.true_and]) (by rfl)) ?_
 refine s_not ?_
 refine s_mv ?_
 refine w_guard _ 36 hF7 ?_ ?_ <;> intro hc8 hF8
 iterate 3 refine r_no rfl ?_
 refine s_pkt ?_
 refine k_nil ?_
 exact s_jn (fuel, true) ⟨by first | omega | (dsimp only; omega), hF8⟩
 refine s_mv ?_
 refine s_mv ?_
 refine s_neB yU4 ?_
 refine s_pkf ?_
 refine k_nil ?_
 exact s_jn (fuel, (decide (v6.2 ≠ v4.2))) ⟨by first | omega | (dsimp only; omega), hF8⟩
 clear hF6
 rintro ⟨fu, g9⟩ ⟨hl10, hF7⟩
 dsimp only at hl10 hF7 ⊢
 obtain _ | fu := fu
 · rw [m_laws_FnExactNumberCore_j1] at hF7; cases hF7
 rw [m_laws_FnExactNumberCore_j1] at hF7
 refine w_cond hF7 ?_ ?_ <;> intro hc11 hF8
 refine awp_seq (awp_region ?_)
 refine s_as ?_
 refine k_nil (k_seq (awp_ret (k_seq_ret (k_fin ?_))))
 cases hF8
 exact ends_a [] [] Try.results8
 refine awp_skip (k_seq (awp_seq (awp_seq ?_)))
 refine awp_draw yMix (by kernel_rfl) ?_
 refine s_ldW yA37 yS37 ?_
 refine s_ldW yA28 yS28 ?_
 obtain ⟨v12, hv12, hF9⟩ := bind_some' hF8
 refine s_pure [] (m_laws_toCore_ok fu _ _ hv12) ?_
 obtain ⟨v13, hv13, hF10⟩ := bind_some' hF9
 refine s_call [(9700, 2026), (9701, 12026), (9702, 22026), (9703, 32026)] [] [(9700, .arr (v5.ids.map rI) 3 true), (9701, .arr (v5.data.scopes.map rI) 3 true), (9702, .dar (v5.data.kids.map (Form.rowD 3 34)) 34), (9703, .dar (v5.kids.map (Core.rowD 3 34 37)) 37)] [(9700, .arr (v5.ids.map rI) 3 true), (9701, .arr (v5.data.scopes.map rI) 3 true), (9702, .dar (v5.data.kids.map (Form.rowD 3 34)) 34), (9703, .dar (v5.kids.map (Core.rowD 3 34 37)) 37)] (ac_lend (args := [.ag [.t (.sc (.int .i64 v5.kind)), .t (.sc (.int .i64 v5.id)), .t (.sc (.str v5.name)), .t (.sc (.int .i64 v5.n)), .ar 9700, .t (.sc (.int .i64 v5.data.kind)), .t (.sc (.str v5.data.name)), .t (.sc (.int .i64 v5.data.n)), .ar 9701, .ar 9702, .ar 9703], .ag [.t (.sc (.int .i64 v12.kind)), .t (.sc (.int .i64 v12.id)), .t (.sc (.str v12.name)), .t (.sc (.int .i64 v12.n)), .t (.sl (v12.ids.map rI)), .t (.sc (.int .i64 v12.data.kind)), .t (.sc (.str v12.data.name)), .t (.sc (.int .i64 v12.data.n)), .t (.sl (v12.data.scopes.map rI)), .t (.sl (v12.data.kids.map Form.row)), .t (.sl (v12.kids.map Core.row))]]) [(9700, .arr (v5.ids.map rI) 3 true), (9701, .arr (v5.data.scopes.map rI) 3 true), (9702, .dar (v5.data.kids.map (Form.rowD 3 34)) 34), (9703, .dar (v5.kids.map (Core.rowD 3 34 37)) 37)] [] (m_laws_eqCore_ok fu _ _ _ hv13) rfl (by simp only [V.lendL, V.lend, objs_cons, objs_nil, Nat.reduceEqDiff, reduceIte, if_true, if_false, Form.lendM, Core.lendM, Hit.lendM, Rule.lendM, Bind.lendM, Macro.lendM]; try rfl) (by rfl) (by rfl) (by rfl) (by rfl) (by simp only [List.all_cons, List.all_nil, Ob.flat, flat_rI, flat_rS, Form.flatM, Core.flatM, Hit.flatM, Rule.flatM, Bind.flatM, Macro.flatM, Bool.and_self, Bool.true_and]) (by rfl)) ?_
 refine s_not ?_
 refine k_nilD (by kernel_rfl) ?_
 refine k_seq ?_
 refine w_cond hF10 ?_ ?_ <;> intro hc14 hF11
 refine awp_seq (awp_region ?_)
 refine s_as ?_
 refine k_nil (k_seq (awp_ret (k_seq_ret (k_fin ?_))))
 cases hF11
 exact ends_a [] [] Try.results8
 refine awp_skip (k_seq (awp_seq (awp_region ?_)))
 refine s_as ?_
 refine k_nil (k_seq (awp_seq (awp_region ?_)))
 refine s_ldW yA37 yS37 ?_
 refine s_mv ?_
 obtain ⟨v15, hv15, hF12⟩ := bind_some' hF11
 refine s_call [(9304, 2026), (9308, 12026), (9309, 22026), (9310, 32026)] [] _ _ (m_laws_markCore_D_ok fu _ _ _ hv15) ?_
 refine s_as ?_
 refine k_nil (k_seq (awp_seq ?_))
 refine awp_jn (α := Nat × Bool) [49, 50, 51, 52, 53, 54, 55, 56, 57, 58, 59, 60, 61] [] [] (fun a => [(61, .t (.sc (.bool a.2)))]) (fun a => []) (fun a => a.1 ≤ fu ∧ m_laws_FnExactNumberCore_j2 a.1 x1 v4 v6 a.2 = some r) ?_ ?_
 refine awp_region ?_
 refine s_mv ?_
 refine s_lt ?_
 refine s_mv ?_
 refine w_guard _ 51 hF12 ?_ ?_ <;> intro hc16 hF13
 iterate 4 refine r_no rfl ?_
 refine s_pkt ?_
 refine s_mv ?_
 iterate 3 refine r_no rfl ?_
 refine s_pkt ?_
 refine k_nil ?_
 exact s_jn (fu, true) ⟨by first | omega | (dsimp only; omega), hF13⟩
 refine s_ldW yA37 yS37 ?_
 refine s_ldW yA37 yS37 ?_
 obtain ⟨v17, hv17, hF14⟩ := bind_some' hF13
 refine s_call [(9700, 2029), (9701, 12029), (9702, 22029), (9703, 32029)] [] [(9700, .arr (v6.1.ids.map rI) 3 true), (9701, .arr (v6.1.data.scopes.map rI) 3 true), (9702, .dar (v6.1.data.kids.map (Form.rowD 3 34)) 34), (9703, .dar (v6.1.kids.map (Core.rowD 3 34 37)) 37)] [(9700, .arr (v6.1.ids.map rI) 3 true), (9701, .arr (v6.1.data.scopes.map rI) 3 true), (9702, .dar (v6.1.data.kids.map (Form.rowD 3 34)) 34), (9703, .dar (v6.1.kids.map (Core.rowD 3 34 37)) 37)] (ac_lend (args := [.ag [.t (.sc (.int .i64 v6.1.kind)), .t (.sc (.int .i64 v6.1.id)), .t (.sc (.str v6.1.name)), .t (.sc (.int .i64 v6.1.n)), .ar 9700, .t (.sc (.int .i64 v6.1.data.kind)), .t (.sc (.str v6.1.data.name)), .t (.sc (.int .i64 v6.1.data.n)), .ar 9701, .ar 9702, .ar 9703], .ag [.t (.sc (.int .i64 v4.1.kind)), .t (.sc (.int .i64 v4.1.id)), .t (.sc (.str v4.1.name)), .t (.sc (.int .i64 v4.1.n)), .t (.sl (v4.1.ids.map rI)), .t (.sc (.int .i64 v4.1.data.kind)), .t (.sc (.str v4.1.data.name)), .t (.sc (.int .i64 v4.1.data.n)), .t (.sl (v4.1.data.scopes.map rI)), .t (.sl (v4.1.data.kids.map Form.row)), .t (.sl (v4.1.kids.map Core.row))]]) [(9700, .arr (v6.1.ids.map rI) 3 true), (9701, .arr (v6.1.data.scopes.map rI) 3 true), (9702, .dar (v6.1.data.kids.map (Form.rowD 3 34)) 34), (9703, .dar (v6.1.kids.map (Core.rowD 3 34 37)) 37)] [] (m_laws_eqCore_ok fu _ _ _ hv17) rfl (by simp only [V.lendL, V.lend, objs_cons, objs_nil, Nat.reduceEqDiff, reduceIte, if_true, if_false, Form.lendM, Core.lendM, Hit.lendM, Rule.lendM, Bind.lendM, Macro.lendM]; try rfl) (by rfl) (by rfl) (by rfl) (by rfl) (by simp only [List.all_cons, List.all_nil, Ob.flat, flat_rI, flat_rS, Form.flatM, Core.flatM, Hit.flatM, Rule.flatM, Bind.flatM, Macro.flatM, Bool.and_self, Bool.true_and]) (by rfl)) ?_
 refine s_not ?_
 refine s_pkf ?_
 refine s_mv ?_
 refine w_guard _ 57 hF14 ?_ ?_ <;> intro hc18 hF15
 iterate 3 refine r_no rfl ?_
 refine s_pkt ?_
 refine k_nil ?_
 exact s_jn (fu, true) ⟨by first | omega | (dsimp only; omega), hF15⟩
 refine s_mv ?_
 refine s_mv ?_
 refine s_neB yU4 ?_
 refine s_pkf ?_
 refine k_nil ?_
 exact s_jn (fu, (decide (v6.2 ≠ v4.2))) ⟨by first | omega | (dsimp only; omega), hF15⟩
 clear hF12
 rintro ⟨fu, g19⟩ ⟨hl20, hF13⟩
 dsimp only at hl20 hF13 ⊢
 obtain _ | fu := fu
 · rw [m_laws_FnExactNumberCore_j2] at hF13; cases hF13
 rw [m_laws_FnExactNumberCore_j2] at hF13
 refine w_cond hF13 ?_ ?_ <;> intro hc21 hF14
 refine awp_seq (awp_region ?_)
 refine s_as ?_
 refine k_nil (k_seq (awp_ret (k_seq_ret (k_fin ?_))))
 cases hF14
 exact ends_a [] [] Try.results8
 refine awp_skip (k_seq (awp_seq (awp_region ?_)))
 refine s_as ?_
 refine k_nil (k_seq (awp_seq (awp_region ?_)))
 refine s_ldW yA37 yS37 ?_
 refine s_mv ?_
 obtain ⟨v22, hv22, hF15⟩ := bind_some' hF14
 refine s_call [(9304, 2029), (9308, 12029), (9309, 22029), (9310, 32029)] [] _ _ (m_laws_markCore_D_ok fu _ _ _ hv22) ?_
 refine s_as ?_
 refine k_nil (k_seq (awp_seq (awp_region ?_)))
 refine s_as ?_
 refine k_nil (k_seq (awp_seq (awp_region ?_)))
 refine s_ldW yA37 yS37 ?_
 refine s_mv ?_
 obtain ⟨v23, hv23, hF16⟩ := bind_some' hF15
 refine s_call [(9700, 2029), (9701, 12029), (9702, 22029), (9703, 32029)] [] [(9700, .arr (v22.2.1.map rI) 3 true), (9701, .arr (v22.2.2.1.map rI) 3 true), (9702, .dar (v22.2.2.2.1.map (Form.rowD 3 34)) 34), (9703, .dar (v22.2.2.2.2.map (Core.rowD 3 34 37)) 37)] [(9700, .arr (v22.2.1.map rI) 3 true), (9701, .arr (v22.2.2.1.map rI) 3 true), (9702, .dar (v22.2.2.2.1.map (Form.rowD 3 34)) 34), (9703, .dar (v22.2.2.2.2.map (Core.rowD 3 34 37)) 37)] (ac_lend (args := [.ag [.t (.sc (.int .i64 v6.1.kind)), .t (.sc (.int .i64 v6.1.id)), .t (.sc (.str v6.1.name)), .t (.sc (.int .i64 v6.1.n)), .ar 9700, .t (.sc (.int .i64 v6.1.data.kind)), .t (.sc (.str v6.1.data.name)), .t (.sc (.int .i64 v6.1.data.n)), .ar 9701, .ar 9702, .ar 9703], .t (.sc (.int .i64 1))]) [(9700, .arr (v22.2.1.map rI) 3 true), (9701, .arr (v22.2.2.1.map rI) 3 true), (9702, .dar (v22.2.2.2.1.map (Form.rowD 3 34)) 34), (9703, .dar (v22.2.2.2.2.map (Core.rowD 3 34 37)) 37)] [] (m_laws_heldCore_ok fu _ _ _ hv23) rfl (by simp only [V.lendL, V.lend, objs_cons, objs_nil, Nat.reduceEqDiff, reduceIte, if_true, if_false, Form.lendM, Core.lendM, Hit.lendM, Rule.lendM, Bind.lendM, Macro.lendM]; try rfl) (by rfl) (by rfl) (by rfl) (by rfl) (by simp only [List.all_cons, List.all_nil, Ob.flat, flat_rI, flat_rS, Form.flatM, Core.flatM, Hit.flatM, Rule.flatM, Bind.flatM, Macro.flatM, Bool.and_self, Bool.true_and]) (by rfl)) ?_
 refine s_as ?_
 refine k_nil (k_seq (awp_seq (awp_seq (awp_region ?_))))
 refine s_mv ?_
 refine s_lt ?_
 refine k_nil (k_seq ?_)
 refine w_cond hF16 ?_ ?_ <;> intro hc24 hF17
 refine awp_seq (awp_region ?_)
 refine s_as ?_
 refine k_nil (k_seq (awp_ret (k_seq_ret (k_fin ?_))))
 cases hF17
 exact ends_a [] [] Try.results8
 refine awp_skip (k_seq (awp_seq (awp_seq (awp_region ?_))))
 refine s_mv ?_
 refine s_mv ?_
 refine s_ne ?_
 refine k_nil (k_seq ?_)
 refine w_cond hF17 ?_ ?_ <;> intro hc25 hF18
 refine awp_seq (awp_region ?_)
 refine s_as ?_
 refine k_nil (k_seq (awp_ret (k_seq_ret (k_fin ?_))))
 cases hF18
 exact ends_a [] [] Try.results8
 refine awp_skip (k_seq (awp_seq (awp_region ?_)))
 refine s_ldW yA28 yS28 ?_
 obtain ⟨v26, hv26, hF19⟩ := bind_some' hF18
 refine s_pure [] (m_laws_toCore_ok fu _ _ hv26) ?_
 obtain ⟨v27, hv27, hF20⟩ := bind_some' hF19
 refine s_pure [] (m_impl_NumberCore_ok fu _ _ hv27) ?_
 refine s_mv ?_
 refine s_ext ?_
 refine s_ext ?_
 refine s_alloc yZ37 ?_
 refine s_stW yS37 ?_
 refine s_as ?_
 refine k_nil (k_seq (awp_seq ?_))
 refine awp_jn (α := Nat × Bool) [79, 80, 81, 82, 83, 84, 85, 86, 87] [] [] (fun a => [(87, .t (.sc (.bool a.2)))]) (fun a => []) (fun a => a.1 ≤ fu ∧ m_laws_FnExactNumberCore_j3 a.1 v6 v22 a.2 = some r) ?_ ?_
 refine awp_region ?_
 refine s_ldW yA37 yS37 ?_
 refine s_ldW yA37 yS37 ?_
 obtain ⟨v28, hv28, hF21⟩ := bind_some' hF20
 refine s_pure [] (m_laws_eqCore_ok fu _ _ _ hv28) ?_
 refine s_not ?_
 refine s_mv ?_
 refine w_guard _ 83 hF21 ?_ ?_ <;> intro hc29 hF22
 iterate 3 refine r_no rfl ?_
 refine s_pkt ?_
 refine k_nil ?_
 exact s_jn (fu, true) ⟨by first | omega | (dsimp only; omega), hF22⟩
 refine s_mv ?_
 refine s_mv ?_
 refine s_neB yU4 ?_
 refine s_pkf ?_
 refine k_nil ?_
 exact s_jn (fu, (decide (v27.2 ≠ v4.2))) ⟨by first | omega | (dsimp only; omega), hF22⟩
 clear hF20
 rintro ⟨fu, g30⟩ ⟨hl31, hF21⟩
 dsimp only at hl31 hF21 ⊢
 obtain _ | fu := fu
 · rw [m_laws_FnExactNumberCore_j3] at hF21; cases hF21
 rw [m_laws_FnExactNumberCore_j3] at hF21
 refine w_cond hF21 ?_ ?_ <;> intro hc32 hF22
 refine awp_seq (awp_region ?_)
 refine s_as ?_
 refine k_nil (k_seq (awp_ret (k_seq_ret (k_fin ?_))))
 cases hF22
 exact ends_a [] [] Try.results8
 refine awp_skip (k_seq (awp_seq (awp_region ?_)))
 refine s_as ?_
 refine k_nil (k_seq (awp_seq (awp_region ?_)))
 refine s_ldW yA37 yS37 ?_
 refine s_mv ?_
 obtain ⟨v33, hv33, hF23⟩ := bind_some' hF22
 refine s_call [(9700, 2029), (9701, 12029), (9702, 22029), (9703, 32029)] [] [(9700, .arr (v22.2.1.map rI) 3 true), (9701, .arr (v22.2.2.1.map rI) 3 true), (9702, .dar (v22.2.2.2.1.map (Form.rowD 3 34)) 34), (9703, .dar (v22.2.2.2.2.map (Core.rowD 3 34 37)) 37)] [(9700, .arr (v22.2.1.map rI) 3 true), (9701, .arr (v22.2.2.1.map rI) 3 true), (9702, .dar (v22.2.2.2.1.map (Form.rowD 3 34)) 34), (9703, .dar (v22.2.2.2.2.map (Core.rowD 3 34 37)) 37)] (ac_lend (args := [.ag [.t (.sc (.int .i64 v6.1.kind)), .t (.sc (.int .i64 v6.1.id)), .t (.sc (.str v6.1.name)), .t (.sc (.int .i64 v6.1.n)), .ar 9700, .t (.sc (.int .i64 v6.1.data.kind)), .t (.sc (.str v6.1.data.name)), .t (.sc (.int .i64 v6.1.data.n)), .ar 9701, .ar 9702, .ar 9703], .t (.sc (.int .i64 1))]) [(9700, .arr (v22.2.1.map rI) 3 true), (9701, .arr (v22.2.2.1.map rI) 3 true), (9702, .dar (v22.2.2.2.1.map (Form.rowD 3 34)) 34), (9703, .dar (v22.2.2.2.2.map (Core.rowD 3 34 37)) 37)] [] (m_laws_heldCore_ok fu _ _ _ hv33) rfl (by simp only [V.lendL, V.lend, objs_cons, objs_nil, Nat.reduceEqDiff, reduceIte, if_true, if_false, Form.lendM, Core.lendM, Hit.lendM, Rule.lendM, Bind.lendM, Macro.lendM]; try rfl) (by rfl) (by rfl) (by rfl) (by rfl) (by simp only [List.all_cons, List.all_nil, Ob.flat, flat_rI, flat_rS, Form.flatM, Core.flatM, Hit.flatM, Rule.flatM, Bind.flatM, Macro.flatM, Bool.and_self, Bool.true_and]) (by rfl)) ?_
 refine s_as ?_
 refine k_nil (k_seq (awp_seq (awp_seq (awp_region ?_))))
 refine s_mv ?_
 refine s_lt ?_
 refine k_nil (k_seq ?_)
 refine w_cond hF23 ?_ ?_ <;> intro hc34 hF24
 refine awp_seq (awp_region ?_)
 refine s_as ?_
 refine k_nil (k_seq (awp_ret (k_seq_ret (k_fin ?_))))
 cases hF24
 exact ends_a [] [] Try.results8
 refine awp_skip (k_seq (awp_seq (awp_seq (awp_region ?_))))
 refine s_mv ?_
 refine s_mv ?_
 refine s_ne ?_
 refine k_nil (k_seq ?_)
 refine w_cond hF24 ?_ ?_ <;> intro hc35 hF25
 refine awp_seq (awp_region ?_)
 refine s_as ?_
 refine k_nil (k_seq (awp_ret (k_seq_ret (k_fin ?_))))
 cases hF25
 exact ends_a [] [] Try.results8
 refine awp_skip (k_seq (awp_seq (awp_region ?_)))
 refine s_as ?_
 refine k_nil (k_seq (awp_ret (k_fin ?_)))
 cases hF25
 exact ends_a [] [] Try.results8
end Go.Abs
