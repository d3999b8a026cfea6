/- A part of the proof: what the functions that the law calls answer, as pure values. -/
import Derived.Test.YtbkdbbfgdjcfgaaK095c9cd77914
import Derived.Test.YtbkdbbfgdjcfgaaK59f2f0d3f59e
import Derived.Test.YtbkdbbfgdjcfgaaKa66c5c62e785
import Derived.Test.YtbkdbbfgdjcfgaaKbd549a7fb4ef
import Derived.Test.YtbkdbbfgdjcfgaaKe176bb8ad65c
set_option linter.unusedSimpArgs false
set_option linter.unusedVariables false
set_option maxRecDepth 100000
set_option maxHeartbeats 4000000
namespace Go.Abs
open Go.Proofs
theorem m_impl_coreOk_all (fuel : Nat) : m_impl_coreOk_AC fuel := by
 induction fuel using Nat.strongRecOn with
 | _ N ih =>
   cases N with
   | zero => exact (by intro x1 x2 x3 o1 r h; rw [m_impl_coreOk] at h; cases h)
   | succ fu => exact m_impl_coreOk_st fu (fun k hk => (ih k (by omega)))
theorem m_impl_coreOk_ok (fuel : Nat) : m_impl_coreOk_AC fuel := (m_impl_coreOk_all fuel)
def m_impl_CoreValid_AC (fuel : Nat) : Prop := ∀ (x1 : Core) (r : Bool), m_impl_CoreValid fuel x1 = some r → AC Try.prog 99 [.ag [.t (.sc (.int .i64 x1.kind)), .t (.sc (.int .i64 x1.id)), .t (.sc (.str x1.name)), .t (.sc (.int .i64 x1.n)), .t (.sl (x1.ids.map rI)), .t (.sc (.int .i64 x1.data.kind)), .t (.sc (.str x1.data.name)), .t (.sc (.int .i64 x1.data.n)), .t (.sl (x1.data.scopes.map rI)), .t (.sl (x1.data.kids.map Form.row)), .t (.sl (x1.kids.map Core.row))]] noOb (.t (.sc (.bool r))) noOb
theorem m_impl_CoreValid_ok (fuel : Nat) : m_impl_CoreValid_AC fuel := by
 intro x1 r hF0
 unfold m_impl_CoreValid at hF0
 refine AC_i [.t (.sc (.bool r))] Try.func99 rfl Try.ntmps99 ?_
 intro C hC
 refine awp_seq (awp_region ?_)
 refine s_box ?_
 refine s_as ?_
 refine k_nil (k_seq (awp_seq (awp_region ?_)))
 refine s_alloc yZ3 ?_
 refine s_stW yS3 ?_
 refine k_nil (k_seq (awp_seq (awp_region ?_)))
 refine s_ldW yA37 yS37 ?_
 obtain ⟨v1, hv1, hF1⟩ := bind_some' hF0
 refine s_call [(9000, 3)] [] _ _ (m_impl_coreOk_ok fuel _ _ _ _ _ hv1) ?_
 refine s_as ?_
 refine k_nil (k_seq (awp_ret (k_fin ?_)))
 cases hF1
 exact ends_a [] [] Try.results99
def m_impl_renumber_D_AC (fuel : Nat) : Prop := ∀ (x1 : Core) (x2 : (Int → Option Int)) (o1 : Int) (r : (Core × Int)), m_impl_renumber fuel x1 x2 o1 = some r → AC Try.prog 100 [.ag [.t (.sc (.int .i64 x1.kind)), .t (.sc (.int .i64 x1.id)), .t (.sc (.str x1.name)), .t (.sc (.int .i64 x1.n)), .t (.sl (x1.ids.map rI)), .t (.sc (.int .i64 x1.data.kind)), .t (.sc (.str x1.data.name)), .t (.sc (.int .i64 x1.data.n)), .t (.sl (x1.data.scopes.map rI)), .t (.sl (x1.data.kids.map Form.row)), .t (.sl (x1.kids.map Core.row))], .ar 9301, .rf 9000 0] (objs [(9301, .mp x2), (9000, .box [.t (.sc (.int .i64 o1))])]) (.ag [.t (.sc (.int .i64 r.1.kind)), .t (.sc (.int .i64 r.1.id)), .t (.sc (.str r.1.name)), .t (.sc (.int .i64 r.1.n)), .ar 9204, .t (.sc (.int .i64 r.1.data.kind)), .t (.sc (.str r.1.data.name)), .t (.sc (.int .i64 r.1.data.n)), .ar 9208, .ar 9209, .ar 9210]) (objs [(9301, .mp x2), (9000, .box [.t (.sc (.int .i64 r.2))]), (9204, .arr (r.1.ids.map rI) 3 true), (9208, .arr (r.1.data.scopes.map rI) 3 true), (9209, .dar (r.1.data.kids.map (Form.rowD 3 34)) 34), (9210, .dar (r.1.kids.map (Core.rowD 3 34 37)) 37)])
theorem m_impl_renumber_D_st (fu : Nat) (ih_m_impl_renumber_D : ∀ k, k ≤ fu → m_impl_renumber_D_AC k) : m_impl_renumber_D_AC (fu + 1) := by
 intro x1 x2 o1 r hF0
 rw [m_impl_renumber] at hF0
 refine AC_i [.ag [.t (.sc (.int .i64 r.1.kind)), .t (.sc (.int .i64 r.1.id)), .t (.sc (.str r.1.name)), .t (.sc (.int .i64 r.1.n)), .ar 9204, .t (.sc (.int .i64 r.1.data.kind)), .t (.sc (.str r.1.data.name)), .t (.sc (.int .i64 r.1.data.n)), .ar 9208, .ar 9209, .ar 9210]] Try.func100 rfl Try.ntmps100 ?_
 intro C hC
 refine awp_seq (awp_region ?_)
 refine s_box ?_
 refine s_alloc yZ37 ?_
 refine k_nil (k_seq (awp_seq ?_))
 refine awp_draw yMix (by kernel_rfl) ?_
 refine s_fa yF37_0 ?_
 refine s_ld1 yA3 ?_
 refine s_fa yF37_1 ?_
 refine s_ld1 yA3 ?_
 refine s_fa yF37_2 ?_
 refine s_ld1 yA9 ?_
 refine s_fa yF37_3 ?_
 refine s_ld1 yA3 ?_
 refine s_fa yF37_5 ?_
 refine s_ldN yA34 yS34 ?_
 obtain ⟨v1, hv1, hF1⟩ := bind_some' hF0
 refine s_call [(9203, 2025), (9204, 12025)] [] _ _ (m_impl_copyForm_D_ok fu _ _ hv1) ?_
 refine s_bld yZ37 yL37 ?_
 refine s_alloc yZ37 ?_
 refine s_stW yS37 ?_
 refine k_nilD (by kernel_rfl) ?_
 refine k_seq ?_
 refine awp_jn (α := Nat × Int) [27, 28, 29, 30, 31, 32, 33, 34] [7] [] (fun a => []) (fun a => [(7, .box [.t (.sc (.int .i64 x1.kind)), .t (.sc (.int .i64 a.2)), .t (.sc (.str x1.name)), .t (.sc (.int .i64 x1.n)), .nl, .t (.sc (.int .i64 v1.kind)), .t (.sc (.str v1.name)), .t (.sc (.int .i64 v1.n)), .ar 2025, .ar 12025, .nl])]) (fun a => a.1 ≤ fu ∧ m_impl_renumber_j1 a.1 x1 x2 o1 v1 a.2 = some r) ?_ ?_
 refine awp_seq (awp_region ?_)
 refine s_fa yF37_0 ?_
 refine s_ld1 yA3 ?_
 refine s_eq ?_
 refine k_nil (k_seq ?_)
 refine w_cond hF1 ?_ ?_ <;> intro hc2 hF2
 refine awp_region ?_
 refine s_mv ?_
 refine s_fa yF37_1 ?_
 refine s_ld1 yA3 ?_
 refine s_look yM149 ?_
 refine s_fa yF37_1 ?_
 refine s_stP yS3 ?_
 refine k_nil ?_
 exact s_jn (fu, (mapGet x2 x1.id)) ⟨by first | omega | (dsimp only; omega), hF2⟩
 refine awp_skip ?_
 exact s_jn (fu, x1.id) ⟨by first | omega | (dsimp only; omega), hF2⟩
 clear hF1
 rintro ⟨fu, g3⟩ ⟨hl4, hF2⟩
 dsimp only at hl4 hF2 ⊢
 obtain _ | fu := fu
 · rw [m_impl_renumber_j1] at hF2; cases hF2
 rw [m_impl_renumber_j1] at hF2
 refine awp_seq (awp_region ?_)
 refine s_mkm ?_
 refine s_as ?_
 refine k_nil (k_seq (awp_seq (awp_seq ?_)))
 refine awp_mpx 9301 (by conv => lhs; whnf) (fun bmhE5 eshE5 clockhE5 hE5 => ?_)
 refine awp_region ?_
 refine s_mv ?_
 refine s_range yM149 ?_
 refine k_nil (k_seq (awp_block ?_))
 refine awp_fr (β := Array Nat × (Int → Option Int)) [9, 10, 38, 39, 40, 41, 42, 43, 44, 45] [35, 37] [] (fun a => []) (fun a => [(35, .mp a.2.2), (37, .it (some bmhE5) clockhE5 a.2.1 clockhE5)]) (fun a => a.1 = (leftL eshE5 a.2.1).length + 1 ∧ WalkI eshE5 a.2.1 x2 a.2.2) ((leftL eshE5 #[]).length + 1, #[], map0) ⟨rfl, walk_start⟩ ?_
 rintro ⟨_, seen, g⟩ ⟨hN, hW⟩
 dsimp only at hN hW ⊢
 subst hN
 refine awp_seq ?_
 refine awp_nextS 9301 hE5 (fun x0 hx0 => ?_) (fun hl => ?_)
 obtain ⟨hm0, k0, v0, hk0, hv0, hf0⟩ := walk_at hE5 hx0
 have hlt0 := walk_less hx0
 refine k_seq (awp_seq (awp_true rfl (awp_skip (k_seq (awp_block (awp_seq (awp_region ?_)))))))
 refine s_entry hE5 hm0 hk0 hv0 (q := 9301) ?_
 refine s_ext ?_
 refine s_ext ?_
 refine s_as ?_
 refine s_as ?_
 refine k_nil (k_seq (awp_region ?_))
 iterate 3 refine s_mv ?_
 refine s_mupd yM149 ?_
 refine k_nil (k_blk ?_)
 exact s_rn ((leftL eshE5 (seen.push x0.born)).length + 1, seen.push x0.born, mapSet g k0 v0) ⟨rfl, walk_step hE5 hx0 hk0 hf0 hW⟩
 have hfg := walk_end hE5 hl hW
 subst hfg
 refine k_seq (awp_seq (awp_false rfl ?_))
 refine awp_exit (k_seq_exit (k_rnd_exit2 (k_blk_exit ?_)))
 refine k_seq ?_
 refine awp_mpo 9301 hE5 (by conv => lhs; whnf) ?_
 refine awp_kill 37 rfl ?_
 refine awp_jn (α := Nat × Int × (Int → Option Int) × (List Int)) [12, 46, 47, 48, 49, 50, 51, 52, 53, 54, 55, 56, 57, 58, 59, 60, 61, 62, 63, 64, 65, 66, 67, 68, 69, 70, 71] [7, 35, 5060, 9000] [] (fun a => []) (fun a => [(7, .box [.t (.sc (.int .i64 x1.kind)), .t (.sc (.int .i64 g3)), .t (.sc (.str x1.name)), .t (.sc (.int .i64 x1.n)), .ar 5060, .t (.sc (.int .i64 v1.kind)), .t (.sc (.str v1.name)), .t (.sc (.int .i64 v1.n)), .ar 2025, .ar 12025, .nl]), (35, .mp a.2.2.1), (5060, .arr (a.2.2.2.map rI) 3 true), (9000, .box [.t (.sc (.int .i64 a.2.1))])]) (fun a => a.1 ≤ fu ∧ m_impl_renumber_j2 a.1 x1 v1 g3 a.2.1 a.2.2.1 a.2.2.2 = some r) ?_ ?_
 refine awp_seq (awp_region ?_)
 refine s_fa yF37_4 ?_
 refine s_ld1 yA22 ?_
 refine s_lenT yU22 ?_
 refine s_mv ?_
 refine k_nil (k_seq (awp_block ?_))
 refine awp_ownB 7 5060 3 [.t (.sc (.int .i64 x1.kind)), .t (.sc (.int .i64 g3)), .t (.sc (.str x1.name)), .t (.sc (.int .i64 x1.n)), .ar 5060, .t (.sc (.int .i64 v1.kind)), .t (.sc (.str v1.name)), .t (.sc (.int .i64 v1.n)), .ar 2025, .ar 12025, .nl] yI3.choose_spec ?_
 refine awp_frame2 [12, 49, 50, 51, 52, 53, 54, 55, 56, 57, 58, 59, 60, 61, 62, 63, 64, 65, 66, 67, 68, 69, 70, 71] [7, 35, 5060, 9000] [68, 69] [5060] (fun a : Nat × Int × Int × (List Int) × (Int → Option Int) => a.1) (fun a : Nat × Int × Int × (List Int) × (Int → Option Int) => [(49, .t (.sc (.int .i64 a.2.1)))]) (fun a : Nat × Int × Int × (List Int) × (Int → Option Int) => [(7, .box [.t (.sc (.int .i64 x1.kind)), .t (.sc (.int .i64 g3)), .t (.sc (.str x1.name)), .t (.sc (.int .i64 x1.n)), .ar 5060, .t (.sc (.int .i64 v1.kind)), .t (.sc (.str v1.name)), .t (.sc (.int .i64 v1.n)), .ar 2025, .ar 12025, .nl]), (35, .mp a.2.2.2.2), (5060, .arr (a.2.2.2.1.map rI) 3 true), (9000, .box [.t (.sc (.int .i64 a.2.2.1))])]) (fun a : Nat × Int × Int × (List Int) × (Int → Option Int) => a.1 ≤ fu ∧ m_impl_renumber_l3 a.1 x1 v1 g3 a.2.1 a.2.2.1 a.2.2.2.1 a.2.2.2.2 = some r ∧ 0 ≤ a.2.1) (fu, 0, o1, ([] : List Int), x2) ⟨Nat.le_refl _, hF2, by simp⟩ (by rfl) (by rfl) (fun _ => rfl) (hasF_cons (by conv => lhs; whnf) (by rfl) hasF_nil) (hasO_cons (by conv => lhs; whnf) (by rfl) (hasO_cons (by conv => lhs; whnf) (by rfl) (hasO_cons (by conv => lhs; whnf) (by rfl) (hasO_cons (by conv => lhs; whnf) (by rfl) hasO_nil)))) (fresh_C hC rfl) (by repeat (first | exact freshS_args rfl | refine freshS_upd rfl ?_ | refine freshS_frame rfl ?_)) (by repeat (first | exact freshM_no | exact objs_fresh rfl | refine freshM_upd rfl ?_ | refine freshM_frame rfl ?_)) ?_
 clear hF2
 rintro ⟨fu, g6, g7, g8, g9⟩ ⟨hl10, hF3, hn_g6⟩
 dsimp only at hl10 hF3 hn_g6 ⊢
 obtain _ | fu := fu
 · rw [m_impl_renumber_l3] at hF3; cases hF3
 rw [m_impl_renumber_l3] at hF3
 refine awp_seq (awp_region ?_)
 refine s_lt ?_
 refine k_nil (k_seq (awp_seq ?_))
 refine w_cond hF3 ?_ ?_ <;> intro hc11 hF4
 refine awp_lenT 47 (fun hb12 => ?_)
 refine awp_skip (k_seq (awp_seq (awp_block (awp_seq (awp_region ?_)))))
 obtain ⟨v13, hv13, hF5⟩ := bind_some' hF4
 refine s_ixT rI hv13 rfl yE22 ?_
 refine s_ld1 yA3 ?_
 refine s_as ?_
 refine k_nil (k_seq (awp_seq (awp_region ?_)))
 refine s_mv ?_
 refine s_nc ?_
 refine s_ld1 yA3 ?_
 refine s_add rfl ?_
 refine s_nc ?_
 refine s_stW yS3 ?_
 refine k_nil (k_seq (awp_seq (awp_region ?_)))
 iterate 3 refine s_mv ?_
 refine s_nc ?_
 refine s_ld1 yA3 ?_
 refine s_mupd yM149 ?_
 refine k_nil (k_seq ?_)
 refine awp_draw yMix (by kernel_rfl) ?_
 refine s_fa yF37_4 ?_
 refine s_ld1 yA22 ?_
 refine s_mv0 ?_
 refine s_nc ?_
 refine s_ld1 yA3 ?_
 refine s_bs rI [(w64 (g7 + 1))] yP22 yR3 ?_
 obtain ⟨hk14, hF6⟩ := chk_some hF5
 refine s_apT rI (fun _ => rfl) hk14 yP22 ?_
 refine s_fa yF37_4 ?_
 refine s_stP yS22 ?_
 refine k_nilD (by kernel_rfl) ?_
 refine k_blk (k_seq (awp_region ?_))
 refine s_add (winc2 hc11 hb12 hn_g6) ?_
 refine s_mv ?_
 refine k_nil ?_
 exact s_rn (fu, (g6 + 1), (w64 (g7 + 1)), (g8 ++ [(w64 (g7 + 1))]), (mapSet g9 v13 (w64 (g7 + 1)))) ⟨by first | omega | (dsimp only; omega), hF6, by first | omega | (dsimp only; omega)⟩ [(5060, 69)]
 refine awp_exit (k_seq_exit (k_rnd_exit2 (k_blk_exit ?_)))
 exact s_jn (fu, g7, g9, g8) ⟨by first | omega | (dsimp only; omega), hF4⟩
 clear hF2
 rintro ⟨fu, g15, g16, g17⟩ ⟨hl18, hF3⟩
 dsimp only at hl18 hF3 ⊢
 obtain _ | fu := fu
 · rw [m_impl_renumber_j2] at hF3; cases hF3
 rw [m_impl_renumber_j2] at hF3
 refine awp_seq (awp_seq (awp_region ?_))
 refine s_fa yF37_6 ?_
 refine s_ld1 yA35 ?_
 refine s_lenT yU35 ?_
 refine s_mv ?_
 refine k_nil (k_seq (awp_block ?_))
 refine awp_ownB 7 5080 37 [.t (.sc (.int .i64 x1.kind)), .t (.sc (.int .i64 g3)), .t (.sc (.str x1.name)), .t (.sc (.int .i64 x1.n)), .ar 5060, .t (.sc (.int .i64 v1.kind)), .t (.sc (.str v1.name)), .t (.sc (.int .i64 v1.n)), .ar 2025, .ar 12025, .ar 5080] yI37.choose_spec ?_
 refine awp_toD 5080 (Core.rowD 3 34 37) (es := ([] : List Core).map Core.row) (by (conv => lhs; whnf) <;> rfl) rfl ?_
 refine awp_frame2 [14, 75, 76, 77, 78, 79, 80, 81, 82, 83, 84, 85, 86, 87, 88] [7, 5080, 9000] [14, 85, 86, 22084, 32084, 42084, 52084] [5080] (fun a : Nat × Int × Int × (List Core) => a.1) (fun a : Nat × Int × Int × (List Core) => [(75, .t (.sc (.int .i64 a.2.1)))]) (fun a : Nat × Int × Int × (List Core) => [(7, .box [.t (.sc (.int .i64 x1.kind)), .t (.sc (.int .i64 g3)), .t (.sc (.str x1.name)), .t (.sc (.int .i64 x1.n)), .ar 5060, .t (.sc (.int .i64 v1.kind)), .t (.sc (.str v1.name)), .t (.sc (.int .i64 v1.n)), .ar 2025, .ar 12025, .ar 5080]), (5080, .dar (a.2.2.2.map (Core.rowD 3 34 37)) 37), (9000, .box [.t (.sc (.int .i64 a.2.2.1))])]) (fun a : Nat × Int × Int × (List Core) => a.1 ≤ fu ∧ m_impl_renumber_l4 a.1 x1 v1 g3 g16 g17 a.2.1 a.2.2.1 a.2.2.2 = some r ∧ 0 ≤ a.2.1) (fu, 0, g15, ([] : List Core)) ⟨Nat.le_refl _, hF3, by simp⟩ (by rfl) (by rfl) (fun _ => rfl) (hasF_cons (by conv => lhs; whnf) (by rfl) hasF_nil) (hasO_cons (by conv => lhs; whnf) (by rfl) (hasO_cons (by conv => lhs; whnf) (by rfl) (hasO_cons (by conv => lhs; whnf) (by rfl) hasO_nil))) (fresh_C hC rfl) (by repeat (first | exact freshS_args rfl | refine freshS_upd rfl ?_ | refine freshS_frame rfl ?_)) (by repeat (first | exact freshM_no | exact objs_fresh rfl | refine freshM_upd rfl ?_ | refine freshM_frame rfl ?_)) ?_
 clear hF3
 rintro ⟨fu, g19, g20, g21⟩ ⟨hl22, hF4, hn_g19⟩
 dsimp only at hl22 hF4 hn_g19 ⊢
 obtain _ | fu := fu
 · rw [m_impl_renumber_l4] at hF4; cases hF4
 rw [m_impl_renumber_l4] at hF4
 refine awp_seq (awp_region ?_)
 refine s_lt ?_
 refine k_nil (k_seq (awp_seq ?_))
 refine w_cond hF4 ?_ ?_ <;> intro hc23 hF5
 refine awp_lenT 73 (fun hb24 => ?_)
 refine awp_skip (k_seq (awp_seq (awp_block (awp_seq (awp_region ?_)))))
 obtain ⟨v25, hv25, hF6⟩ := bind_some' hF5
 refine s_ixT Core.row hv25 (Core.row_eq _) yE35 ?_
 refine s_ldN yA37 yS37 ?_
 refine s_alloc yZ37 ?_
 refine s_stW yS37 ?_
 refine k_nil (k_seq ?_)
 refine awp_draw yMix (by kernel_rfl) ?_
 refine s_fa yF37_6 ?_
 refine s_ld1 yA35 ?_
 refine s_ldW yA37 yS37 ?_
 refine s_mv0 ?_
 refine s_mv0 ?_
 obtain ⟨v26, hv26, hF7⟩ := bind_some' hF6
 refine s_call [(9301, 35), (9000, 9000), (9204, 22084), (9208, 32084), (9209, 42084), (9210, 52084)] [] _ _ (ih_m_impl_renumber_D fu (by omega) _ _ _ _ hv26) ?_
 refine s_bsD [.sc (.int .i64 v26.1.kind), .sc (.int .i64 v26.1.id), .sc (.str v26.1.name), .sc (.int .i64 v26.1.n), .any, .sc (.int .i64 v26.1.data.kind), .sc (.str v26.1.data.name), .sc (.int .i64 v26.1.data.n), .any, .any, .any] [(0, 4, 22084), (0, 8, 32084), (0, 9, 42084), (0, 10, 52084)] yP35 ?_
 obtain ⟨hk27, hF8⟩ := chk_some hF7
 refine s_apH (Core.rowD 3 34 37) [(g21.length, 4, 22084), (g21.length, 8, 32084), (g21.length, 9, 42084), (g21.length, 10, 52084)] hk27 yP35 ?_
 refine s_fa yF37_6 ?_
 refine s_stP yS35 ?_
 refine k_nilD (by kernel_rfl) ?_
 refine k_blk (k_seq ?_)
 refine awp_jaA 86 22084 [.sc (.int .i64 v26.1.kind), .sc (.int .i64 v26.1.id), .sc (.str v26.1.name), .sc (.int .i64 v26.1.n), .ow 3 (v26.1.ids.map rI), .sc (.int .i64 v26.1.data.kind), .sc (.str v26.1.data.name), .sc (.int .i64 v26.1.data.n), .any, .any, .any] ?_
 refine awp_jaA 86 32084 [.sc (.int .i64 v26.1.kind), .sc (.int .i64 v26.1.id), .sc (.str v26.1.name), .sc (.int .i64 v26.1.n), .ow 3 (v26.1.ids.map rI), .sc (.int .i64 v26.1.data.kind), .sc (.str v26.1.data.name), .sc (.int .i64 v26.1.data.n), .ow 3 (v26.1.data.scopes.map rI), .any, .any] ?_
 refine awp_jaD 86 42084 [.sc (.int .i64 v26.1.kind), .sc (.int .i64 v26.1.id), .sc (.str v26.1.name), .sc (.int .i64 v26.1.n), .ow 3 (v26.1.ids.map rI), .sc (.int .i64 v26.1.data.kind), .sc (.str v26.1.data.name), .sc (.int .i64 v26.1.data.n), .ow 3 (v26.1.data.scopes.map rI), .ow 34 (v26.1.data.kids.map (Form.rowD 3 34)), .any] ?_
 refine awp_jaD 86 52084 [.sc (.int .i64 v26.1.kind), .sc (.int .i64 v26.1.id), .sc (.str v26.1.name), .sc (.int .i64 v26.1.n), .ow 3 (v26.1.ids.map rI), .sc (.int .i64 v26.1.data.kind), .sc (.str v26.1.data.name), .sc (.int .i64 v26.1.data.n), .ow 3 (v26.1.data.scopes.map rI), .ow 34 (v26.1.data.kids.map (Form.rowD 3 34)), .ow 37 (v26.1.kids.map (Core.rowD 3 34 37))] ?_
 refine awp_naH 86 (row := (Core.rowD 3 34 37)) (fs := [.sc (.int .i64 v26.1.kind), .sc (.int .i64 v26.1.id), .sc (.str v26.1.name), .sc (.int .i64 v26.1.n), .ow 3 (v26.1.ids.map rI), .sc (.int .i64 v26.1.data.kind), .sc (.str v26.1.data.name), .sc (.int .i64 v26.1.data.n), .ow 3 (v26.1.data.scopes.map rI), .ow 34 (v26.1.data.kids.map (Form.rowD 3 34)), .ow 37 (v26.1.kids.map (Core.rowD 3 34 37))]) v26.1 (Core.rowDE _ _ _ _) ?_
 refine awp_region ?_
 refine s_add (winc2 hc23 hb24 hn_g19) ?_
 refine s_mv ?_
 refine k_nil ?_
 exact s_rn (fu, (g19 + 1), v26.2, (g21 ++ [v26.1])) ⟨by first | omega | (dsimp only; omega), hF8, by first | omega | (dsimp only; omega)⟩ [(5080, 86)]
 refine awp_exit (k_seq_exit (k_rnd_exit2 (k_blk_exit (k_seq (awp_seq (awp_region ?_))))))
 refine s_ldW yA37 yS37 ?_
 refine s_stW yS37 ?_
 refine k_nil (k_seq ?_)
 refine awp_mvB 6 5060 9204 [.t (.sc (.int .i64 x1.kind)), .t (.sc (.int .i64 g3)), .t (.sc (.str x1.name)), .t (.sc (.int .i64 x1.n)), .ar 9204, .t (.sc (.int .i64 v1.kind)), .t (.sc (.str v1.name)), .t (.sc (.int .i64 v1.n)), .ar 2025, .ar 12025, .ar 5080] ?_
 refine awp_mvB 6 2025 9208 [.t (.sc (.int .i64 x1.kind)), .t (.sc (.int .i64 g3)), .t (.sc (.str x1.name)), .t (.sc (.int .i64 x1.n)), .ar 9204, .t (.sc (.int .i64 v1.kind)), .t (.sc (.str v1.name)), .t (.sc (.int .i64 v1.n)), .ar 9208, .ar 12025, .ar 5080] ?_
 refine awp_mvBO 6 12025 9209 [.t (.sc (.int .i64 x1.kind)), .t (.sc (.int .i64 g3)), .t (.sc (.str x1.name)), .t (.sc (.int .i64 x1.n)), .ar 9204, .t (.sc (.int .i64 v1.kind)), .t (.sc (.str v1.name)), .t (.sc (.int .i64 v1.n)), .ar 9208, .ar 9209, .ar 5080] ?_
 refine awp_mvBO 6 5080 9210 [.t (.sc (.int .i64 x1.kind)), .t (.sc (.int .i64 g3)), .t (.sc (.str x1.name)), .t (.sc (.int .i64 x1.n)), .ar 9204, .t (.sc (.int .i64 v1.kind)), .t (.sc (.str v1.name)), .t (.sc (.int .i64 v1.n)), .ar 9208, .ar 9209, .ar 9210] ?_
 refine awp_ret (k_fin ?_)
 cases hF5
 exact ends_gen _ [] (by rw [Try.results100]; exact (res_agg (by conv => lhs; whnf) (by conv => lhs; whnf) yA37 yS37 rfl res_nil))
theorem m_impl_renumber_D_all (fuel : Nat) : m_impl_renumber_D_AC fuel := by
 induction fuel using Nat.strongRecOn with
 | _ N ih =>
   cases N with
   | zero => exact (by intro x1 x2 o1 r h; rw [m_impl_renumber] at h; cases h)
   | succ fu => exact m_impl_renumber_D_st fu (fun k hk => (ih k (by omega)))
theorem m_impl_renumber_D_ok (fuel : Nat) : m_impl_renumber_D_AC fuel := (m_impl_renumber_D_all fuel)
def m_impl_renumber_n_D_AC (fuel : Nat) : Prop := ∀ (x1 : Core) (o1 : Int) (r : (Core × Int)), m_impl_renumber_n fuel x1 o1 = some r → AC Try.prog 100 [.ag [.t (.sc (.int .i64 x1.kind)), .t (.sc (.int .i64 x1.id)), .t (.sc (.str x1.name)), .t (.sc (.int .i64 x1.n)), .t (.sl (x1.ids.map rI)), .t (.sc (.int .i64 x1.data.kind)), .t (.sc (.str x1.data.name)), .t (.sc (.int .i64 x1.data.n)), .t (.sl (x1.data.scopes.map rI)), .t (.sl (x1.data.kids.map Form.row)), .t (.sl (x1.kids.map Core.row))], .t (.sc .nim), .rf 9000 0] (objs [(9000, .box [.t (.sc (.int .i64 o1))])]) (.ag [.t (.sc (.int .i64 r.1.kind)), .t (.sc (.int .i64 r.1.id)), .t (.sc (.str r.1.name)), .t (.sc (.int .i64 r.1.n)), .ar 9204, .t (.sc (.int .i64 r.1.data.kind)), .t (.sc (.str r.1.data.name)), .t (.sc (.int .i64 r.1.data.n)), .ar 9208, .ar 9209, .ar 9210]) (objs [(9000, .box [.t (.sc (.int .i64 r.2))]), (9204, .arr (r.1.ids.map rI) 3 true), (9208, .arr (r.1.data.scopes.map rI) 3 true), (9209, .dar (r.1.data.kids.map (Form.rowD 3 34)) 34), (9210, .dar (r.1.kids.map (Core.rowD 3 34 37)) 37)])
theorem m_impl_renumber_n_D_ok (fuel : Nat) : m_impl_renumber_n_D_AC fuel := by
 intro x1 o1 r hF0
 unfold m_impl_renumber_n at hF0
 refine AC_i [.ag [.t (.sc (.int .i64 r.1.kind)), .t (.sc (.int .i64 r.1.id)), .t (.sc (.str r.1.name)), .t (.sc (.int .i64 r.1.n)), .ar 9204, .t (.sc (.int .i64 r.1.data.kind)), .t (.sc (.str r.1.data.name)), .t (.sc (.int .i64 r.1.data.n)), .ar 9208, .ar 9209, .ar 9210]] Try.func100 rfl Try.ntmps100 ?_
 intro C hC
 refine awp_seq (awp_region ?_)
 refine s_box ?_
 refine s_alloc yZ37 ?_
 refine k_nil (k_seq (awp_seq ?_))
 refine awp_draw yMix (by kernel_rfl) ?_
 refine s_fa yF37_0 ?_
 refine s_ld1 yA3 ?_
 refine s_fa yF37_1 ?_
 refine s_ld1 yA3 ?_
 refine s_fa yF37_2 ?_
 refine s_ld1 yA9 ?_
 refine s_fa yF37_3 ?_
 refine s_ld1 yA3 ?_
 refine s_fa yF37_5 ?_
 refine s_ldN yA34 yS34 ?_
 obtain ⟨v1, hv1, hF1⟩ := bind_some' hF0
 refine s_call [(9203, 2025), (9204, 12025)] [] _ _ (m_impl_copyForm_D_ok fuel _ _ hv1) ?_
 refine s_bld yZ37 yL37 ?_
 refine s_alloc yZ37 ?_
 refine s_stW yS37 ?_
 refine k_nilD (by kernel_rfl) ?_
 refine k_seq ?_
 refine awp_jn (α := Nat × Int) [27, 28, 29, 30, 31, 32, 33, 34] [7] [] (fun a => []) (fun a => [(7, .box [.t (.sc (.int .i64 x1.kind)), .t (.sc (.int .i64 a.2)), .t (.sc (.str x1.name)), .t (.sc (.int .i64 x1.n)), .nl, .t (.sc (.int .i64 v1.kind)), .t (.sc (.str v1.name)), .t (.sc (.int .i64 v1.n)), .ar 2025, .ar 12025, .nl])]) (fun a => a.1 ≤ fuel ∧ m_impl_renumber_n_j1 a.1 x1 o1 v1 a.2 = some r) ?_ ?_
 refine awp_seq (awp_region ?_)
 refine s_fa yF37_0 ?_
 refine s_ld1 yA3 ?_
 refine s_eq ?_
 refine k_nil (k_seq ?_)
 refine w_cond hF1 ?_ ?_ <;> intro hc2 hF2
 refine awp_region ?_
 refine s_mv ?_
 refine s_fa yF37_1 ?_
 refine s_ld1 yA3 ?_
 refine s_lookN yM149 ?_
 refine s_fa yF37_1 ?_
 refine s_stP yS3 ?_
 refine k_nil ?_
 exact s_jn (fuel, 0) ⟨by first | omega | (dsimp only; omega), hF2⟩
 refine awp_skip ?_
 exact s_jn (fuel, x1.id) ⟨by first | omega | (dsimp only; omega), hF2⟩
 clear hF1
 rintro ⟨fu, g3⟩ ⟨hl4, hF2⟩
 dsimp only at hl4 hF2 ⊢
 obtain _ | fu := fu
 · rw [m_impl_renumber_n_j1] at hF2; cases hF2
 rw [m_impl_renumber_n_j1] at hF2
 refine awp_seq (awp_region ?_)
 refine s_mkm ?_
 refine s_as ?_
 refine k_nil (k_seq (awp_seq (awp_seq (awp_region ?_))))
 refine s_mv ?_
 refine s_rangeN yM149 ?_
 refine k_nil (k_seq (awp_block ?_))
 refine awp_fr (β := Unit) [9, 10, 38, 39, 40, 41, 42, 43, 44, 45] [] [] (fun a => []) (fun a => []) (fun a => True) (0, ()) trivial ?_
 rintro ⟨_, _⟩ _
 refine awp_seq (awp_region ?_)
 refine s_nextN ?_
 refine s_ext ?_
 refine k_nil (k_seq (awp_seq (awp_false rfl ?_)))
 refine awp_exit (k_seq_exit (k_rnd_exit2 (k_blk_exit ?_)))
 refine k_seq ?_
 refine awp_kill 37 rfl ?_
 refine awp_jn (α := Nat × Int × (Int → Option Int) × (List Int)) [12, 46, 47, 48, 49, 50, 51, 52, 53, 54, 55, 56, 57, 58, 59, 60, 61, 62, 63, 64, 65, 66, 67, 68, 69, 70, 71] [7, 35, 5060, 9000] [] (fun a => []) (fun a => [(7, .box [.t (.sc (.int .i64 x1.kind)), .t (.sc (.int .i64 g3)), .t (.sc (.str x1.name)), .t (.sc (.int .i64 x1.n)), .ar 5060, .t (.sc (.int .i64 v1.kind)), .t (.sc (.str v1.name)), .t (.sc (.int .i64 v1.n)), .ar 2025, .ar 12025, .nl]), (35, .mp a.2.2.1), (5060, .arr (a.2.2.2.map rI) 3 true), (9000, .box [.t (.sc (.int .i64 a.2.1))])]) (fun a => a.1 ≤ fu ∧ m_impl_renumber_j2 a.1 x1 v1 g3 a.2.1 a.2.2.1 a.2.2.2 = some r) ?_ ?_
 refine awp_seq (awp_region ?_)
 refine s_fa yF37_4 ?_
 refine s_ld1 yA22 ?_
 refine s_lenT yU22 ?_
 refine s_mv ?_
 refine k_nil (k_seq (awp_block ?_))
 refine awp_ownB 7 5060 3 [.t (.sc (.int .i64 x1.kind)), .t (.sc (.int .i64 g3)), .t (.sc (.str x1.name)), .t (.sc (.int .i64 x1.n)), .ar 5060, .t (.sc (.int .i64 v1.kind)), .t (.sc (.str v1.name)), .t (.sc (.int .i64 v1.n)), .ar 2025, .ar 12025, .nl] yI3.choose_spec ?_
 refine awp_frame2 [12, 49, 50, 51, 52, 53, 54, 55, 56, 57, 58, 59, 60, 61, 62, 63, 64, 65, 66, 67, 68, 69, 70, 71] [7, 35, 5060, 9000] [68, 69] [5060] (fun a : Nat × Int × Int × (List Int) × (Int → Option Int) => a.1) (fun a : Nat × Int × Int × (List Int) × (Int → Option Int) => [(49, .t (.sc (.int .i64 a.2.1)))]) (fun a : Nat × Int × Int × (List Int) × (Int → Option Int) => [(7, .box [.t (.sc (.int .i64 x1.kind)), .t (.sc (.int .i64 g3)), .t (.sc (.str x1.name)), .t (.sc (.int .i64 x1.n)), .ar 5060, .t (.sc (.int .i64 v1.kind)), .t (.sc (.str v1.name)), .t (.sc (.int .i64 v1.n)), .ar 2025, .ar 12025, .nl]), (35, .mp a.2.2.2.2), (5060, .arr (a.2.2.2.1.map rI) 3 true), (9000, .box [.t (.sc (.int .i64 a.2.2.1))])]) (fun a : Nat × Int × Int × (List Int) × (Int → Option Int) => a.1 ≤ fu ∧ m_impl_renumber_l3 a.1 x1 v1 g3 a.2.1 a.2.2.1 a.2.2.2.1 a.2.2.2.2 = some r ∧ 0 ≤ a.2.1) (fu, 0, o1, ([] : List Int), map0) ⟨Nat.le_refl _, hF2, by simp⟩ (by rfl) (by rfl) (fun _ => rfl) (hasF_cons (by conv => lhs; whnf) (by rfl) hasF_nil) (hasO_cons (by conv => lhs; whnf) (by rfl) (hasO_cons (by conv => lhs; whnf) (by rfl) (hasO_cons (by conv => lhs; whnf) (by rfl) (hasO_cons (by conv => lhs; whnf) (by rfl) hasO_nil)))) (fresh_C hC rfl) (by repeat (first | exact freshS_args rfl | refine freshS_upd rfl ?_ | refine freshS_frame rfl ?_)) (by repeat (first | exact freshM_no | exact objs_fresh rfl | refine freshM_upd rfl ?_ | refine freshM_frame rfl ?_)) ?_
 clear hF2
 rintro ⟨fu, g5, g6, g7, g8⟩ ⟨hl9, hF3, hn_g5⟩
 dsimp only at hl9 hF3 hn_g5 ⊢
 obtain _ | fu := fu
 · rw [m_impl_renumber_l3] at hF3; cases hF3
 rw [m_impl_renumber_l3] at hF3
 refine awp_seq (awp_region ?_)
 refine s_lt ?_
 refine k_nil (k_seq (awp_seq ?_))
 refine w_cond hF3 ?_ ?_ <;> intro hc10 hF4
 refine awp_lenT 47 (fun hb11 => ?_)
 refine awp_skip (k_seq (awp_seq (awp_block (awp_seq (awp_region ?_)))))
 obtain ⟨v12, hv12, hF5⟩ := bind_some' hF4
 refine s_ixT rI hv12 rfl yE22 ?_
 refine s_ld1 yA3 ?_
 refine s_as ?_
 refine k_nil (k_seq (awp_seq (awp_region ?_)))
 refine s_mv ?_
 refine s_nc ?_
 refine s_ld1 yA3 ?_
 refine s_add rfl ?_
 refine s_nc ?_
 refine s_stW yS3 ?_
 refine k_nil (k_seq (awp_seq (awp_region ?_)))
 iterate 3 refine s_mv ?_
 refine s_nc ?_
 refine s_ld1 yA3 ?_
 refine s_mupd yM149 ?_
 refine k_nil (k_seq ?_)
 refine awp_draw yMix (by kernel_rfl) ?_
 refine s_fa yF37_4 ?_
 refine s_ld1 yA22 ?_
 refine s_mv0 ?_
 refine s_nc ?_
 refine s_ld1 yA3 ?_
 refine s_bs rI [(w64 (g6 + 1))] yP22 yR3 ?_
 obtain ⟨hk13, hF6⟩ := chk_some hF5
 refine s_apT rI (fun _ => rfl) hk13 yP22 ?_
 refine s_fa yF37_4 ?_
 refine s_stP yS22 ?_
 refine k_nilD (by kernel_rfl) ?_
 refine k_blk (k_seq (awp_region ?_))
 refine s_add (winc2 hc10 hb11 hn_g5) ?_
 refine s_mv ?_
 refine k_nil ?_
 exact s_rn (fu, (g5 + 1), (w64 (g6 + 1)), (g7 ++ [(w64 (g6 + 1))]), (mapSet g8 v12 (w64 (g6 + 1)))) ⟨by first | omega | (dsimp only; omega), hF6, by first | omega | (dsimp only; omega)⟩ [(5060, 69)]
 refine awp_exit (k_seq_exit (k_rnd_exit2 (k_blk_exit ?_)))
 exact s_jn (fu, g6, g8, g7) ⟨by first | omega | (dsimp only; omega), hF4⟩
 clear hF2
 rintro ⟨fu, g14, g15, g16⟩ ⟨hl17, hF3⟩
 dsimp only at hl17 hF3 ⊢
 obtain _ | fu := fu
 · rw [m_impl_renumber_j2] at hF3; cases hF3
 rw [m_impl_renumber_j2] at hF3
 refine awp_seq (awp_seq (awp_region ?_))
 refine s_fa yF37_6 ?_
 refine s_ld1 yA35 ?_
 refine s_lenT yU35 ?_
 refine s_mv ?_
 refine k_nil (k_seq (awp_block ?_))
 refine awp_ownB 7 5080 37 [.t (.sc (.int .i64 x1.kind)), .t (.sc (.int .i64 g3)), .t (.sc (.str x1.name)), .t (.sc (.int .i64 x1.n)), .ar 5060, .t (.sc (.int .i64 v1.kind)), .t (.sc (.str v1.name)), .t (.sc (.int .i64 v1.n)), .ar 2025, .ar 12025, .ar 5080] yI37.choose_spec ?_
 refine awp_toD 5080 (Core.rowD 3 34 37) (es := ([] : List Core).map Core.row) (by (conv => lhs; whnf) <;> rfl) rfl ?_
 refine awp_frame2 [14, 75, 76, 77, 78, 79, 80, 81, 82, 83, 84, 85, 86, 87, 88] [7, 5080, 9000] [14, 85, 86, 22084, 32084, 42084, 52084] [5080] (fun a : Nat × Int × Int × (List Core) => a.1) (fun a : Nat × Int × Int × (List Core) => [(75, .t (.sc (.int .i64 a.2.1)))]) (fun a : Nat × Int × Int × (List Core) => [(7, .box [.t (.sc (.int .i64 x1.kind)), .t (.sc (.int .i64 g3)), .t (.sc (.str x1.name)), .t (.sc (.int .i64 x1.n)), .ar 5060, .t (.sc (.int .i64 v1.kind)), .t (.sc (.str v1.name)), .t (.sc (.int .i64 v1.n)), .ar 2025, .ar 12025, .ar 5080]), (5080, .dar (a.2.2.2.map (Core.rowD 3 34 37)) 37), (9000, .box [.t (.sc (.int .i64 a.2.2.1))])]) (fun a : Nat × Int × Int × (List Core) => a.1 ≤ fu ∧ m_impl_renumber_l4 a.1 x1 v1 g3 g15 g16 a.2.1 a.2.2.1 a.2.2.2 = some r ∧ 0 ≤ a.2.1) (fu, 0, g14, ([] : List Core)) ⟨Nat.le_refl _, hF3, by simp⟩ (by rfl) (by rfl) (fun _ => rfl) (hasF_cons (by conv => lhs; whnf) (by rfl) hasF_nil) (hasO_cons (by conv => lhs; whnf) (by rfl) (hasO_cons (by conv => lhs; whnf) (by rfl) (hasO_cons (by conv => lhs; whnf) (by rfl) hasO_nil))) (fresh_C hC rfl) (by repeat (first | exact freshS_args rfl | refine freshS_upd rfl ?_ | refine freshS_frame rfl ?_)) (by repeat (first | exact freshM_no | exact objs_fresh rfl | refine freshM_upd rfl ?_ | refine freshM_frame rfl ?_)) ?_
 clear hF3
 rintro ⟨fu, g18, g19, g20⟩ ⟨hl21, hF4, hn_g18⟩
 dsimp only at hl21 hF4 hn_g18 ⊢
 obtain _ | fu := fu
 · rw [m_impl_renumber_l4] at hF4; cases hF4
 rw [m_impl_renumber_l4] at hF4
 refine awp_seq (awp_region ?_)
 refine s_lt ?_
 refine k_nil (k_seq (awp_seq ?_))
 refine w_cond hF4 ?_ ?_ <;> intro hc22 hF5
 refine awp_lenT 73 (fun hb23 => ?_)
 refine awp_skip (k_seq (awp_seq (awp_block (awp_seq (awp_region ?_)))))
 obtain ⟨v24, hv24, hF6⟩ := bind_some' hF5
 refine s_ixT Core.row hv24 (Core.row_eq _) yE35 ?_
 refine s_ldN yA37 yS37 ?_
 refine s_alloc yZ37 ?_
 refine s_stW yS37 ?_
 refine k_nil (k_seq ?_)
 refine awp_draw yMix (by kernel_rfl) ?_
 refine s_fa yF37_6 ?_
 refine s_ld1 yA35 ?_
 refine s_ldW yA37 yS37 ?_
 refine s_mv0 ?_
 refine s_mv0 ?_
 obtain ⟨v25, hv25, hF7⟩ := bind_some' hF6
 refine s_call [(9301, 35), (9000, 9000), (9204, 22084), (9208, 32084), (9209, 42084), (9210, 52084)] [] _ _ (m_impl_renumber_D_ok fu _ _ _ _ hv25) ?_
 refine s_bsD [.sc (.int .i64 v25.1.kind), .sc (.int .i64 v25.1.id), .sc (.str v25.1.name), .sc (.int .i64 v25.1.n), .any, .sc (.int .i64 v25.1.data.kind), .sc (.str v25.1.data.name), .sc (.int .i64 v25.1.data.n), .any, .any, .any] [(0, 4, 22084), (0, 8, 32084), (0, 9, 42084), (0, 10, 52084)] yP35 ?_
 obtain ⟨hk26, hF8⟩ := chk_some hF7
 refine s_apH (Core.rowD 3 34 37) [(g20.length, 4, 22084), (g20.length, 8, 32084), (g20.length, 9, 42084), (g20.length, 10, 52084)] hk26 yP35 ?_
 refine s_fa yF37_6 ?_
 refine s_stP yS35 ?_
 refine k_nilD (by kernel_rfl) ?_
 refine k_blk (k_seq ?_)
 refine awp_jaA 86 22084 [.sc (.int .i64 v25.1.kind), .sc (.int .i64 v25.1.id), .sc (.str v25.1.name), .sc (.int .i64 v25.1.n), .ow 3 (v25.1.ids.map rI), .sc (.int .i64 v25.1.data.kind), .sc (.str v25.1.data.name), .sc (.int .i64 v25.1.data.n), .any, .any, .any] ?_
 refine awp_jaA 86 32084 [.sc (.int .i64 v25.1.kind), .sc (.int .i64 v25.1.id), .sc (.str v25.1.name), .sc (.int .i64 v25.1.n), .ow 3 (v25.1.ids.map rI), .sc (.int .i64 v25.1.data.kind), .sc (.str v25.1.data.name), .sc (.int .i64 v25.1.data.n), .ow 3 (v25.1.data.scopes.map rI), .any, .any] ?_
 refine awp_jaD 86 42084 [.sc (.int .i64 v25.1.kind), .sc (.int .i64 v25.1.id), .sc (.str v25.1.name), .sc (.int .i64 v25.1.n), .ow 3 (v25.1.ids.map rI), .sc (.int .i64 v25.1.data.kind), .sc (.str v25.1.data.name), .sc (.int .i64 v25.1.data.n), .ow 3 (v25.1.data.scopes.map rI), .ow 34 (v25.1.data.kids.map (Form.rowD 3 34)), .any] ?_
 refine awp_jaD 86 52084 [.sc (.int .i64 v25.1.kind), .sc (.int .i64 v25.1.id), .sc (.str v25.1.name), .sc (.int .i64 v25.1.n), .ow 3 (v25.1.ids.map rI), .sc (.int .i64 v25.1.data.kind), .sc (.str v25.1.data.name), .sc (.int .i64 v25.1.data.n), .ow 3 (v25.1.data.scopes.map rI), .ow 34 (v25.1.data.kids.map (Form.rowD 3 34)), .ow 37 (v25.1.kids.map (Core.rowD 3 34 37))] ?_
 refine awp_naH 86 (row := (Core.rowD 3 34 37)) (fs := [.sc (.int .i64 v25.1.kind), .sc (.int .i64 v25.1.id), .sc (.str v25.1.name), .sc (.int .i64 v25.1.n), .ow 3 (v25.1.ids.map rI), .sc (.int .i64 v25.1.data.kind), .sc (.str v25.1.data.name), .sc (.int .i64 v25.1.data.n), .ow 3 (v25.1.data.scopes.map rI), .ow 34 (v25.1.data.kids.map (Form.rowD 3 34)), .ow 37 (v25.1.kids.map (Core.rowD 3 34 37))]) v25.1 (Core.rowDE _ _ _ _) ?_
 refine awp_region ?_
 refine s_add (winc2 hc22 hb23 hn_g18) ?_
 refine s_mv ?_
 refine k_nil ?_
 exact s_rn (fu, (g18 + 1), v25.2, (g20 ++ [v25.1])) ⟨by first | omega | (dsimp only; omega), hF8, by first | omega | (dsimp only; omega)⟩ [(5080, 86)]
 refine awp_exit (k_seq_exit (k_rnd_exit2 (k_blk_exit (k_seq (awp_seq (awp_region ?_))))))
 refine s_ldW yA37 yS37 ?_
 refine s_stW yS37 ?_
 refine k_nil (k_seq ?_)
 refine awp_mvB 6 5060 9204 [.t (.sc (.int .i64 x1.kind)), .t (.sc (.int .i64 g3)), .t (.sc (.str x1.name)), .t (.sc (.int .i64 x1.n)), .ar 9204, .t (.sc (.int .i64 v1.kind)), .t (.sc (.str v1.name)), .t (.sc (.int .i64 v1.n)), .ar 2025, .ar 12025, .ar 5080] ?_
 refine awp_mvB 6 2025 9208 [.t (.sc (.int .i64 x1.kind)), .t (.sc (.int .i64 g3)), .t (.sc (.str x1.name)), .t (.sc (.int .i64 x1.n)), .ar 9204, .t (.sc (.int .i64 v1.kind)), .t (.sc (.str v1.name)), .t (.sc (.int .i64 v1.n)), .ar 9208, .ar 12025, .ar 5080] ?_
 refine awp_mvBO 6 12025 9209 [.t (.sc (.int .i64 x1.kind)), .t (.sc (.int .i64 g3)), .t (.sc (.str x1.name)), .t (.sc (.int .i64 x1.n)), .ar 9204, .t (.sc (.int .i64 v1.kind)), .t (.sc (.str v1.name)), .t (.sc (.int .i64 v1.n)), .ar 9208, .ar 9209, .ar 5080] ?_
 refine awp_mvBO 6 5080 9210 [.t (.sc (.int .i64 x1.kind)), .t (.sc (.int .i64 g3)), .t (.sc (.str x1.name)), .t (.sc (.int .i64 x1.n)), .ar 9204, .t (.sc (.int .i64 v1.kind)), .t (.sc (.str v1.name)), .t (.sc (.int .i64 v1.n)), .ar 9208, .ar 9209, .ar 9210] ?_
 refine awp_ret (k_fin ?_)
 cases hF5
 exact ends_gen _ [] (by rw [Try.results100]; exact (res_agg (by conv => lhs; whnf) (by conv => lhs; whnf) yA37 yS37 rfl res_nil))
def m_impl_NumberCore_D_AC (fuel : Nat) : Prop := ∀ (x1 : Core) (r : (Core × Bool)), m_impl_NumberCore fuel x1 = some r → AC Try.prog 54 [.ag [.t (.sc (.int .i64 x1.kind)), .t (.sc (.int .i64 x1.id)), .t (.sc (.str x1.name)), .t (.sc (.int .i64 x1.n)), .t (.sl (x1.ids.map rI)), .t (.sc (.int .i64 x1.data.kind)), .t (.sc (.str x1.data.name)), .t (.sc (.int .i64 x1.data.n)), .t (.sl (x1.data.scopes.map rI)), .t (.sl (x1.data.kids.map Form.row)), .t (.sl (x1.kids.map Core.row))]] (objs []) (.tp [.ag [.t (.sc (.int .i64 r.1.kind)), .t (.sc (.int .i64 r.1.id)), .t (.sc (.str r.1.name)), .t (.sc (.int .i64 r.1.n)), .ar 9204, .t (.sc (.int .i64 r.1.data.kind)), .t (.sc (.str r.1.data.name)), .t (.sc (.int .i64 r.1.data.n)), .ar 9208, .ar 9209, .ar 9210], .t (.sc (.bool r.2))]) (objs [(9204, .arr (r.1.ids.map rI) 3 true), (9208, .arr (r.1.data.scopes.map rI) 3 true), (9209, .dar (r.1.data.kids.map (Form.rowD 3 34)) 34), (9210, .dar (r.1.kids.map (Core.rowD 3 34 37)) 37)])
theorem m_impl_NumberCore_D_ok (fuel : Nat) : m_impl_NumberCore_D_AC fuel := by
 intro x1 r hF0
 unfold m_impl_NumberCore at hF0
 refine AC_i [.ag [.t (.sc (.int .i64 r.1.kind)), .t (.sc (.int .i64 r.1.id)), .t (.sc (.str r.1.name)), .t (.sc (.int .i64 r.1.n)), .ar 9204, .t (.sc (.int .i64 r.1.data.kind)), .t (.sc (.str r.1.data.name)), .t (.sc (.int .i64 r.1.data.n)), .ar 9208, .ar 9209, .ar 9210], .t (.sc (.bool r.2))] Try.func54 rfl Try.ntmps54 ?_
 intro C hC
 refine awp_seq (awp_region ?_)
 refine s_box ?_
 refine s_alloc yZ37 ?_
 refine s_as ?_
 refine k_nil (k_seq (awp_seq (awp_seq (awp_region ?_))))
 refine s_ldW yA37 yS37 ?_
 obtain ⟨v1, hv1, hF1⟩ := bind_some' hF0
 refine s_pure [] (m_impl_CoreValid_ok fuel _ _ hv1) ?_
 refine s_not ?_
 refine k_nil (k_seq ?_)
 refine w_cond hF1 ?_ ?_ <;> intro hc2 hF2
 refine awp_seq (awp_region ?_)
 refine s_bld yZ37 yL37 ?_
 refine s_stW yS37 ?_
 refine s_as ?_
 refine k_nil (k_seq ?_)
 refine awp_ownB 2 9204 3 [.t (.sc (.int .i64 0)), .t (.sc (.int .i64 0)), .t (.sc (.str (⟨#[]⟩ : ByteArray))), .t (.sc (.int .i64 0)), .ar 9204, .t (.sc (.int .i64 0)), .t (.sc (.str (⟨#[]⟩ : ByteArray))), .t (.sc (.int .i64 0)), .nl, .nl, .nl] yI3.choose_spec ?_
 refine awp_ownB 2 9208 3 [.t (.sc (.int .i64 0)), .t (.sc (.int .i64 0)), .t (.sc (.str (⟨#[]⟩ : ByteArray))), .t (.sc (.int .i64 0)), .ar 9204, .t (.sc (.int .i64 0)), .t (.sc (.str (⟨#[]⟩ : ByteArray))), .t (.sc (.int .i64 0)), .ar 9208, .nl, .nl] yI3.choose_spec ?_
 refine awp_ownB 2 9209 34 [.t (.sc (.int .i64 0)), .t (.sc (.int .i64 0)), .t (.sc (.str (⟨#[]⟩ : ByteArray))), .t (.sc (.int .i64 0)), .ar 9204, .t (.sc (.int .i64 0)), .t (.sc (.str (⟨#[]⟩ : ByteArray))), .t (.sc (.int .i64 0)), .ar 9208, .ar 9209, .nl] yI34.choose_spec ?_
 refine awp_toD 9209 (Form.rowD 3 34) (es := ([] : List Form).map Form.row) (by (conv => lhs; whnf) <;> rfl) rfl ?_
 refine awp_ownB 2 9210 37 [.t (.sc (.int .i64 0)), .t (.sc (.int .i64 0)), .t (.sc (.str (⟨#[]⟩ : ByteArray))), .t (.sc (.int .i64 0)), .ar 9204, .t (.sc (.int .i64 0)), .t (.sc (.str (⟨#[]⟩ : ByteArray))), .t (.sc (.int .i64 0)), .ar 9208, .ar 9209, .ar 9210] yI37.choose_spec ?_
 refine awp_toD 9210 (Core.rowD 3 34 37) (es := ([] : List Core).map Core.row) (by (conv => lhs; whnf) <;> rfl) rfl ?_
 refine awp_ret (k_seq_ret (k_fin ?_))
 cases hF2
 exact ends_gen _ [] (by rw [Try.results54]; exact (res_agg (by conv => lhs; whnf) (by conv => lhs; whnf) yA37 yS37 rfl (res_tmp (by conv => lhs; whnf) res_nil)))
 refine awp_skip (k_seq (awp_seq (awp_region ?_)))
 refine s_alloc yZ3 ?_
 refine s_stW yS3 ?_
 refine k_nil (k_seq (awp_seq (awp_region ?_)))
 refine s_ldW yA37 yS37 ?_
 obtain ⟨v3, hv3, hF3⟩ := bind_some' hF2
 refine s_call [(9000, 4), (9204, 12011), (9208, 22011), (9209, 32011), (9210, 42011)] [] _ _ (m_impl_renumber_n_D_ok fuel _ _ _ hv3) ?_
 refine s_alloc yZ37 ?_
 refine s_stW yS37 ?_
 refine k_nil (k_seq (awp_seq (awp_seq (awp_region ?_))))
 refine s_ld1 yA3 ?_
 refine s_gt ?_
 refine k_nil (k_seq ?_)
 refine w_cond hF3 ?_ ?_ <;> intro hc4 hF4
 refine awp_seq (awp_region ?_)
 refine s_bld yZ37 yL37 ?_
 refine s_stW yS37 ?_
 refine s_as ?_
 refine k_nil (k_seq ?_)
 refine awp_ownB 2 9204 3 [.t (.sc (.int .i64 0)), .t (.sc (.int .i64 0)), .t (.sc (.str (⟨#[]⟩ : ByteArray))), .t (.sc (.int .i64 0)), .ar 9204, .t (.sc (.int .i64 0)), .t (.sc (.str (⟨#[]⟩ : ByteArray))), .t (.sc (.int .i64 0)), .nl, .nl, .nl] yI3.choose_spec ?_
 refine awp_ownB 2 9208 3 [.t (.sc (.int .i64 0)), .t (.sc (.int .i64 0)), .t (.sc (.str (⟨#[]⟩ : ByteArray))), .t (.sc (.int .i64 0)), .ar 9204, .t (.sc (.int .i64 0)), .t (.sc (.str (⟨#[]⟩ : ByteArray))), .t (.sc (.int .i64 0)), .ar 9208, .nl, .nl] yI3.choose_spec ?_
 refine awp_ownB 2 9209 34 [.t (.sc (.int .i64 0)), .t (.sc (.int .i64 0)), .t (.sc (.str (⟨#[]⟩ : ByteArray))), .t (.sc (.int .i64 0)), .ar 9204, .t (.sc (.int .i64 0)), .t (.sc (.str (⟨#[]⟩ : ByteArray))), .t (.sc (.int .i64 0)), .ar 9208, .ar 9209, .nl] yI34.choose_spec ?_
 refine awp_toD 9209 (Form.rowD 3 34) (es := ([] : List Form).map Form.row) (by (conv => lhs; whnf) <;> rfl) rfl ?_
 refine awp_ownB 2 9210 37 [.t (.sc (.int .i64 0)), .t (.sc (.int .i64 0)), .t (.sc (.str (⟨#[]⟩ : ByteArray))), .t (.sc (.int .i64 0)), .ar 9204, .t (.sc (.int .i64 0)), .t (.sc (.str (⟨#[]⟩ : ByteArray))), .t (.sc (.int .i64 0)), .ar 9208, .ar 9209, .ar 9210] yI37.choose_spec ?_
 refine awp_toD 9210 (Core.rowD 3 34 37) (es := ([] : List Core).map Core.row) (by (conv => lhs; whnf) <;> rfl) rfl ?_
 refine awp_ret (k_seq_ret (k_fin ?_))
 cases hF4
 exact ends_gen _ [] (by rw [Try.results54]; exact (res_agg (by conv => lhs; whnf) (by conv => lhs; whnf) yA37 yS37 rfl (res_tmp (by conv => lhs; whnf) res_nil)))
 refine awp_skip (k_seq (awp_seq (awp_region ?_)))
 refine s_ldW yA37 yS37 ?_
 refine s_stW yS37 ?_
 refine s_as ?_
 refine k_nil (k_seq ?_)
 refine awp_mvB 2 12011 9204 [.t (.sc (.int .i64 v3.1.kind)), .t (.sc (.int .i64 v3.1.id)), .t (.sc (.str v3.1.name)), .t (.sc (.int .i64 v3.1.n)), .ar 9204, .t (.sc (.int .i64 v3.1.data.kind)), .t (.sc (.str v3.1.data.name)), .t (.sc (.int .i64 v3.1.data.n)), .ar 22011, .ar 32011, .ar 42011] ?_
 refine awp_mvB 2 22011 9208 [.t (.sc (.int .i64 v3.1.kind)), .t (.sc (.int .i64 v3.1.id)), .t (.sc (.str v3.1.name)), .t (.sc (.int .i64 v3.1.n)), .ar 9204, .t (.sc (.int .i64 v3.1.data.kind)), .t (.sc (.str v3.1.data.name)), .t (.sc (.int .i64 v3.1.data.n)), .ar 9208, .ar 32011, .ar 42011] ?_
 refine awp_mvBO 2 32011 9209 [.t (.sc (.int .i64 v3.1.kind)), .t (.sc (.int .i64 v3.1.id)), .t (.sc (.str v3.1.name)), .t (.sc (.int .i64 v3.1.n)), .ar 9204, .t (.sc (.int .i64 v3.1.data.kind)), .t (.sc (.str v3.1.data.name)), .t (.sc (.int .i64 v3.1.data.n)), .ar 9208, .ar 9209, .ar 42011] ?_
 refine awp_mvBO 2 42011 9210 [.t (.sc (.int .i64 v3.1.kind)), .t (.sc (.int .i64 v3.1.id)), .t (.sc (.str v3.1.name)), .t (.sc (.int .i64 v3.1.n)), .ar 9204, .t (.sc (.int .i64 v3.1.data.kind)), .t (.sc (.str v3.1.data.name)), .t (.sc (.int .i64 v3.1.data.n)), .ar 9208, .ar 9209, .ar 9210] ?_
 refine awp_ret (k_fin ?_)
 cases hF4
 exact ends_gen _ [] (by rw [Try.results54]; exact (res_agg (by conv => lhs; whnf) (by conv => lhs; whnf) yA37 yS37 rfl (res_tmp (by conv => lhs; whnf) res_nil)))
end Go.Abs
