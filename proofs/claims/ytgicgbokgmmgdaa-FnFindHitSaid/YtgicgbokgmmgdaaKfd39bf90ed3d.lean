/- A part of the proof: what the functions that the law calls answer, as pure values. -/
import Derived.Test.YtgicgbokgmmgdaaK21eebdf4662a
import Derived.Test.YtgicgbokgmmgdaaK241c9c2bf7b8
import Derived.Test.YtgicgbokgmmgdaaK5710bcf8035d
import Derived.Test.YtgicgbokgmmgdaaK58ab9714472f
import Derived.Test.YtgicgbokgmmgdaaK9f4dde89d81c
import Derived.Test.YtgicgbokgmmgdaaKc9a6cebad8bb
import Derived.Test.YtgicgbokgmmgdaaKe93658964312
set_option linter.unusedSimpArgs false
set_option linter.unusedVariables false
set_option maxRecDepth 100000
set_option maxHeartbeats 4000000
namespace Go.Abs
open Go.Proofs
theorem m_spec_l4Match_st (fu : Nat) (ih_m_spec_l4List : ∀ k, k ≤ fu → m_spec_l4List_AC k) (ih_m_spec_l4Match : ∀ k, k ≤ fu → m_spec_l4Match_AC k) : m_spec_l4Match_AC (fu + 1) := by
 intro x1 x2 x3 x4 r hF0
 rw [m_spec_l4Match] at hF0
 refine AC_i [.t (.sl (r.1.map Hit.row)), .t (.sc (.bool r.2))] Try.func148 rfl Try.ntmps148 ?_
 intro C hC
 refine awp_seq (awp_region ?_)
 refine s_box ?_
 refine s_box ?_
 refine s_as ?_
 refine s_as ?_
 refine k_nil (k_seq (awp_seq (awp_region ?_)))
 refine s_bs Hit.row ([] : List Hit) yP34 yR65 ?_
 refine s_as ?_
 refine k_nil (k_seq (awp_seq (awp_seq (awp_region ?_))))
 refine s_fa yF32_0 ?_
 refine s_ld1 yA3 ?_
 refine s_eq ?_
 refine k_nil (k_seq ?_)
 refine w_cond hF0 ?_ ?_ <;> intro hc1 hF1
 refine awp_seq (awp_seq (awp_region ?_))
 refine s_fa yF32_1 ?_
 refine s_ld1 yA9 ?_
 refine s_eqS ?_
 refine k_nil (k_seq ?_)
 refine w_cond hF1 ?_ ?_ <;> intro hc2 hF2
 refine awp_seq (awp_region ?_)
 refine s_mv ?_
 refine s_as ?_
 refine s_as ?_
 refine k_nil (k_seq (awp_ret (k_seq_ret (k_seq_ret (k_fin ?_)))))
 cases hF2
 exact ends_a [] [11] Try.results148
 refine awp_skip (k_seq (awp_seq (awp_seq (awp_region ?_))))
 refine s_mv ?_
 refine s_ldW yA32 yS32 ?_
 obtain ⟨v3, hv3, hF3⟩ := bind_some' hF2
 refine s_pure [] (m_spec_l4In_ok fu _ _ _ hv3) ?_
 refine k_nil (k_seq ?_)
 refine w_cond hF3 ?_ ?_ <;> intro hc4 hF4
 refine awp_jn (α := Nat × Bool) [8, 9, 22, 23, 24, 25, 26, 27, 28, 29, 30, 31] [] [] (fun a => [(8, .ar 11), (9, .t (.sc (.bool a.2)))]) (fun a => []) (fun a => a.1 ≤ fu ∧ m_spec_l4Match_j1 a.1  a.2 = some r) ?_ ?_
 refine awp_region ?_
 refine s_mv ?_
 refine s_fa yF32_0 ?_
 refine s_ld1 yA3 ?_
 refine s_eq ?_
 refine s_mv ?_
 refine w_guard _ 26 hF4 ?_ ?_ <;> intro hc5 hF5
 refine s_mv ?_
 refine s_ldW yA32 yS32 ?_
 refine s_ldW yA32 yS32 ?_
 obtain ⟨v6, hv6, hF6⟩ := bind_some' hF5
 refine s_pure [] (m_spec_l3Same_ok fu _ _ _ _ hv6) ?_
 refine s_pkt ?_
 refine s_as ?_
 refine s_as ?_
 refine k_nil ?_
 exact s_jn (fu, v6) ⟨by first | omega | (dsimp only; omega), hF6⟩
 iterate 4 refine r_no rfl ?_
 refine s_pkf ?_
 refine s_as ?_
 refine s_as ?_
 refine k_nil ?_
 exact s_jn (fu, false) ⟨by first | omega | (dsimp only; omega), hF5⟩
 clear hF4
 rintro ⟨fu, g7⟩ ⟨hl8, hF5⟩
 dsimp only at hl8 hF5 ⊢
 obtain _ | fu := fu
 · rw [m_spec_l4Match_j1] at hF5; cases hF5
 rw [m_spec_l4Match_j1] at hF5
 refine awp_ret (k_seq_ret (k_seq_ret (k_fin ?_)))
 cases hF5
 exact ends_a [] [11] Try.results148
 refine awp_skip (k_seq (awp_seq (awp_region ?_)))
 refine s_mv ?_
 refine s_ldW yA32 yS32 ?_
 refine s_ldW yA32 yS32 ?_
 refine s_bld yZ65 yL65 ?_
 refine s_bs Hit.row [(Hit.mk x2 0 x4 ([] : List Hit))] yP34 yR65 ?_
 obtain ⟨hk9, hF5⟩ := chk_some hF4
 refine s_apT Hit.row (fun y => Hit.row_len y) hk9 yP34 ?_
 refine s_as ?_
 refine s_as ?_
 refine k_nil (k_seq (awp_ret (k_seq_ret (k_fin ?_))))
 cases hF5
 exact ends_a [] [37] Try.results148
 refine awp_skip (k_seq (awp_seq (awp_seq (awp_region ?_))))
 refine s_fa yF32_0 ?_
 refine s_ld1 yA3 ?_
 refine s_eq ?_
 refine k_nil (k_seq ?_)
 refine w_cond hF1 ?_ ?_ <;> intro hc10 hF2
 refine awp_seq (awp_region ?_)
 refine s_mv ?_
 refine s_ldW yA32 yS32 ?_
 refine s_ldW yA32 yS32 ?_
 obtain ⟨v11, hv11, hF3⟩ := bind_some' hF2
 refine s_pure [] (m_spec_FormSame_ok fu _ _ _ hv11) ?_
 refine s_as ?_
 refine s_as ?_
 refine k_nil (k_seq (awp_ret (k_seq_ret (k_fin ?_))))
 cases hF3
 exact ends_a [] [11] Try.results148
 refine awp_skip (k_seq (awp_seq (awp_seq (awp_region ?_))))
 refine s_fa yF32_0 ?_
 refine s_ld1 yA3 ?_
 refine s_ne ?_
 refine k_nil (k_seq ?_)
 refine w_cond hF2 ?_ ?_ <;> intro hc12 hF3
 refine awp_seq (awp_region ?_)
 refine s_mv ?_
 refine s_as ?_
 refine s_as ?_
 refine k_nil (k_seq (awp_ret (k_seq_ret (k_fin ?_))))
 cases hF3
 exact ends_a [] [11] Try.results148
 refine awp_skip (k_seq (awp_seq (awp_region ?_)))
 refine s_mv ?_
 refine s_fa yF32_4 ?_
 refine s_ld1 yA30 ?_
 refine s_mv ?_
 refine s_fa yF32_4 ?_
 refine s_ld1 yA30 ?_
 obtain ⟨v13, hv13, hF4⟩ := bind_some' hF3
 refine s_pure [] (ih_m_spec_l4List fu (by omega) _ _ _ _ _ hv13) ?_
 refine s_ext ?_
 refine s_ext ?_
 refine s_as ?_
 refine s_as ?_
 refine k_nil (k_seq (awp_ret (k_fin ?_)))
 cases hF4
 exact ends_a [] [] Try.results148
theorem m_spec_l4List_all (fuel : Nat) : m_spec_l4List_AC fuel ∧ m_spec_l4Match_AC fuel := by
 induction fuel using Nat.strongRecOn with
 | _ N ih =>
   cases N with
   | zero => exact ⟨(by intro x1 x2 x3 x4 r h; rw [m_spec_l4List] at h; cases h), (by intro x1 x2 x3 x4 r h; rw [m_spec_l4Match] at h; cases h)⟩
   | succ fu => exact ⟨m_spec_l4List_st fu (fun k hk => (ih k (by omega)).1) (fun k hk => (ih k (by omega)).2), m_spec_l4Match_st fu (fun k hk => (ih k (by omega)).1) (fun k hk => (ih k (by omega)).2)⟩
theorem m_spec_l4Match_ok (fuel : Nat) : m_spec_l4Match_AC fuel := (m_spec_l4List_all fuel).2
def m_spec_l4CopyHit_AC (fuel : Nat) : Prop := ∀ (x1 : Hit) (r : Hit), m_spec_l4CopyHit fuel x1 = some r → AC Try.prog 97 [.ag [.t (.sc (.int .i64 x1.name.kind)), .t (.sc (.str x1.name.name)), .t (.sc (.int .i64 x1.name.n)), .t (.sl (x1.name.scopes.map rI)), .t (.sl (x1.name.kids.map Form.row)), .t (.sc (.int .i64 x1.depth)), .t (.sc (.int .i64 x1.one.kind)), .t (.sc (.str x1.one.name)), .t (.sc (.int .i64 x1.one.n)), .t (.sl (x1.one.scopes.map rI)), .t (.sl (x1.one.kids.map Form.row)), .t (.sl (x1.many.map Hit.row))]] noOb (.ag [.t (.sc (.int .i64 r.name.kind)), .t (.sc (.str r.name.name)), .t (.sc (.int .i64 r.name.n)), .t (.sl (r.name.scopes.map rI)), .t (.sl (r.name.kids.map Form.row)), .t (.sc (.int .i64 r.depth)), .t (.sc (.int .i64 r.one.kind)), .t (.sc (.str r.one.name)), .t (.sc (.int .i64 r.one.n)), .t (.sl (r.one.scopes.map rI)), .t (.sl (r.one.kids.map Form.row)), .t (.sl (r.many.map Hit.row))]) noOb
theorem m_spec_l4CopyHit_st (fu : Nat) (ih_m_spec_l4CopyHit : ∀ k, k ≤ fu → m_spec_l4CopyHit_AC k) : m_spec_l4CopyHit_AC (fu + 1) := by
 intro x1 r hF0
 rw [m_spec_l4CopyHit] at hF0
 refine AC_i [.ag [.t (.sc (.int .i64 r.name.kind)), .t (.sc (.str r.name.name)), .t (.sc (.int .i64 r.name.n)), .t (.sl (r.name.scopes.map rI)), .t (.sl (r.name.kids.map Form.row)), .t (.sc (.int .i64 r.depth)), .t (.sc (.int .i64 r.one.kind)), .t (.sc (.str r.one.name)), .t (.sc (.int .i64 r.one.n)), .t (.sl (r.one.scopes.map rI)), .t (.sl (r.one.kids.map Form.row)), .t (.sl (r.many.map Hit.row))]] Try.func97 rfl Try.ntmps97 ?_
 intro C hC
 refine awp_seq (awp_region ?_)
 refine s_box ?_
 refine s_alloc yZ65 ?_
 refine k_nil (k_seq (awp_seq ?_))
 refine awp_draw yMix (by kernel_rfl) ?_
 refine s_fa yF65_0 ?_
 refine s_ldN yA32 yS32 ?_
 obtain ⟨v1, hv1, hF1⟩ := bind_some' hF0
 refine s_call [(9203, 2007), (9204, 12007)] [] _ _ (m_spec_l1Copy_ok fu _ _ hv1) ?_
 refine s_fa yF65_1 ?_
 refine s_ld1 yA3 ?_
 refine s_fa yF65_2 ?_
 refine s_ldN yA32 yS32 ?_
 obtain ⟨v2, hv2, hF2⟩ := bind_some' hF1
 refine s_call [(9203, 2012), (9204, 12012)] [] _ _ (m_spec_l1Copy_ok fu _ _ hv2) ?_
 refine s_bld yZ65 yL65 ?_
 refine s_alloc yZ65 ?_
 refine s_stW yS65 ?_
 refine k_nilD (by kernel_rfl) ?_
 refine k_seq (awp_seq (awp_seq (awp_region ?_)))
 refine s_as ?_
 refine k_nil (k_seq (awp_block ?_))
 refine awp_ownB 3 5020 65 [.t (.sc (.int .i64 v1.kind)), .t (.sc (.str v1.name)), .t (.sc (.int .i64 v1.n)), .ar 2007, .ar 12007, .t (.sc (.int .i64 x1.depth)), .t (.sc (.int .i64 v2.kind)), .t (.sc (.str v2.name)), .t (.sc (.int .i64 v2.n)), .ar 2012, .ar 12012, .ar 5020] yI65.choose_spec ?_
 refine awp_frame2 [4, 14, 15, 16, 17, 18, 19, 20, 21, 22, 23, 24, 25, 26, 27, 28, 29, 30, 31] [3, 5020] [29, 30] [5020] (fun a : Nat × Int × (List Hit) => a.1) (fun a : Nat × Int × (List Hit) => [(4, .t (.sc (.int .i64 a.2.1)))]) (fun a : Nat × Int × (List Hit) => [(3, .box [.t (.sc (.int .i64 v1.kind)), .t (.sc (.str v1.name)), .t (.sc (.int .i64 v1.n)), .ar 2007, .ar 12007, .t (.sc (.int .i64 x1.depth)), .t (.sc (.int .i64 v2.kind)), .t (.sc (.str v2.name)), .t (.sc (.int .i64 v2.n)), .ar 2012, .ar 12012, .ar 5020]), (5020, .arr (a.2.2.map Hit.row) 65 true)]) (fun a : Nat × Int × (List Hit) => a.1 ≤ fu ∧ m_spec_l4CopyHit_l1 a.1 x1 v1 v2 a.2.1 a.2.2 = some r ∧ 0 ≤ a.2.1) (fu, 0, ([] : List Hit)) ⟨Nat.le_refl _, hF2, by simp⟩ (by rfl) (by rfl) (fun _ => rfl) (hasF_cons (by conv => lhs; whnf) (by rfl) hasF_nil) (hasO_cons (by conv => lhs; whnf) (by rfl) (hasO_cons (by conv => lhs; whnf) (by rfl) hasO_nil)) (fresh_C hC rfl) (by repeat (first | exact freshS_args rfl | refine freshS_upd rfl ?_ | refine freshS_frame rfl ?_)) (by repeat (first | exact freshM_no | exact objs_fresh rfl | refine freshM_upd rfl ?_ | refine freshM_frame rfl ?_)) ?_
 clear hF2
 rintro ⟨fu, g3, g4⟩ ⟨hl5, hF3, hn_g3⟩
 dsimp only at hl5 hF3 hn_g3 ⊢
 obtain _ | fu := fu
 · rw [m_spec_l4CopyHit_l1] at hF3; cases hF3
 rw [m_spec_l4CopyHit_l1] at hF3
 refine awp_seq (awp_seq (awp_region ?_))
 refine s_mv ?_
 refine s_fa yF65_3 ?_
 refine s_ld1 yA34 ?_
 refine s_lenT yU34 ?_
 refine s_lt ?_
 refine k_nil (k_seq ?_)
 refine w_cond hF3 ?_ ?_ <;> intro hc6 hF4
 refine awp_lenT 16 (fun hb7 => ?_)
 refine awp_skip (k_seq (awp_seq (awp_block ?_)))
 refine awp_draw yMix (by kernel_rfl) ?_
 refine s_fa yF65_3 ?_
 refine s_ld1 yA34 ?_
 refine s_fa yF65_3 ?_
 refine s_ld1 yA34 ?_
 refine s_mv ?_
 obtain ⟨v8, hv8, hF5⟩ := bind_some' hF4
 refine s_ixT Hit.row hv8 (Hit.row_eq _) yE34 ?_
 refine s_ldN yA65 yS65 ?_
 obtain ⟨v9, hv9, hF6⟩ := bind_some' hF5
 refine s_pure [] (ih_m_spec_l4CopyHit fu (by omega) _ _ hv9) ?_
 refine s_bs Hit.row [v9] yP34 yR65 ?_
 obtain ⟨hk10, hF7⟩ := chk_some hF6
 refine s_apT Hit.row (fun y => Hit.row_len y) hk10 yP34 ?_
 refine s_fa yF65_3 ?_
 refine s_stP yS34 ?_
 refine k_nilD (by kernel_rfl) ?_
 refine k_blk (k_seq (awp_region ?_))
 refine s_mv ?_
 refine s_add (winc2 hc6 hb7 hn_g3) ?_
 refine s_as ?_
 refine k_nil ?_
 exact s_rn (fu, (g3 + 1), (g4 ++ [v9])) ⟨by first | omega | (dsimp only; omega), hF7, by first | omega | (dsimp only; omega)⟩ [(5020, 30)]
 refine awp_exit (k_seq_exit (k_rnd_exit2 (k_blk_exit (k_seq (awp_seq (awp_region ?_))))))
 refine s_ldW yA65 yS65 ?_
 refine s_stW yS65 ?_
 refine k_nil (k_seq (awp_ret (k_fin ?_)))
 cases hF4
 exact ends_gen [] [2007, 12007, 2012, 12012, 5020] (by rw [Try.results97]; exact (res_agg (by conv => lhs; whnf) (by conv => lhs; whnf) yA65 yS65 rfl res_nil))
theorem m_spec_l4CopyHit_all (fuel : Nat) : m_spec_l4CopyHit_AC fuel := by
 induction fuel using Nat.strongRecOn with
 | _ N ih =>
   cases N with
   | zero => exact (by intro x1 r h; rw [m_spec_l4CopyHit] at h; cases h)
   | succ fu => exact m_spec_l4CopyHit_st fu (fun k hk => (ih k (by omega)))
theorem m_spec_l4CopyHit_ok (fuel : Nat) : m_spec_l4CopyHit_AC fuel := (m_spec_l4CopyHit_all fuel)
def m_spec_l4Copy_AC (fuel : Nat) : Prop := ∀ (x1 : (List Hit)) (r : (List Hit)), m_spec_l4Copy fuel x1 = some r → AC Try.prog 86 [.t (.sl (x1.map Hit.row))] (objs []) (.ar 9200) (objs [(9200, .arr (r.map Hit.row) 65 true)])
theorem m_spec_l4Copy_ok (fuel : Nat) : m_spec_l4Copy_AC fuel := by
 intro x1 r hF0
 unfold m_spec_l4Copy at hF0
 refine AC_i [.ar 9200] Try.func86 rfl Try.ntmps86 ?_
 intro C hC
 refine awp_seq (awp_region ?_)
 refine s_as ?_
 refine k_nil (k_seq (awp_seq (awp_region ?_)))
 refine s_bs Hit.row ([] : List Hit) yP34 yR65 ?_
 refine s_as ?_
 refine k_nil (k_seq (awp_seq (awp_seq (awp_region ?_))))
 refine s_as ?_
 refine k_nil (k_seq (awp_block ?_))
 refine awp_mv 3 5 5020 (by conv => lhs; whnf) (by conv => lhs; whnf) rfl ?_
 refine awp_frame2 [3, 4, 6, 7, 8, 9, 10, 11, 12, 13, 14, 15, 16, 17, 18, 19] [5020] [18, 19] [5020] (fun a : Nat × (List Hit) × Int => a.1) (fun a : Nat × (List Hit) × Int => [(3, .ar 5020), (4, .t (.sc (.int .i64 a.2.2)))]) (fun a : Nat × (List Hit) × Int => [(5020, .arr (a.2.1.map Hit.row) 65 true)]) (fun a : Nat × (List Hit) × Int => a.1 ≤ fuel ∧ m_spec_l4Copy_l1 a.1 x1 a.2.1 a.2.2 = some r ∧ 0 ≤ a.2.2) (fuel, ([] : List Hit), 0) ⟨Nat.le_refl _, hF0, by simp⟩ (by rfl) (by rfl) (fun _ => rfl) (hasF_cons (by conv => lhs; whnf) (by rfl) (hasF_cons (by conv => lhs; whnf) (by rfl) hasF_nil)) (hasO_cons (by conv => lhs; whnf) (by rfl) hasO_nil) (fresh_C hC rfl) (by repeat (first | exact freshS_args rfl | refine freshS_upd rfl ?_ | refine freshS_frame rfl ?_)) (by repeat (first | exact freshM_no | exact objs_fresh rfl | refine freshM_upd rfl ?_ | refine freshM_frame rfl ?_)) ?_
 clear hF0
 rintro ⟨fu, g1, g2⟩ ⟨hl3, hF1, hn_g2⟩
 dsimp only at hl3 hF1 hn_g2 ⊢
 obtain _ | fu := fu
 · rw [m_spec_l4Copy_l1] at hF1; cases hF1
 rw [m_spec_l4Copy_l1] at hF1
 refine awp_seq (awp_seq (awp_region ?_))
 refine s_mv ?_
 refine s_mv ?_
 refine s_lenT yU34 ?_
 refine s_lt ?_
 refine k_nil (k_seq ?_)
 refine w_cond hF1 ?_ ?_ <;> intro hc4 hF2
 refine awp_lenT 0 (fun hb5 => ?_)
 refine awp_skip (k_seq (awp_seq (awp_block (awp_region ?_))))
 iterate 3 refine s_mv ?_
 obtain ⟨v6, hv6, hF3⟩ := bind_some' hF2
 refine s_ixT Hit.row hv6 (Hit.row_eq _) yE34 ?_
 refine s_ldN yA65 yS65 ?_
 obtain ⟨v7, hv7, hF4⟩ := bind_some' hF3
 refine s_pure [] (m_spec_l4CopyHit_ok fu _ _ hv7) ?_
 refine s_bs Hit.row [v7] yP34 yR65 ?_
 obtain ⟨hk8, hF5⟩ := chk_some hF4
 refine s_apT Hit.row (fun y => Hit.row_len y) hk8 yP34 ?_
 refine s_as ?_
 refine k_nil (k_blk (k_seq (awp_region ?_)))
 refine s_mv ?_
 refine s_add (winc2 hc4 hb5 hn_g2) ?_
 refine s_as ?_
 refine k_nil ?_
 exact s_rn (fu, (g1 ++ [v7]), (g2 + 1)) ⟨by first | omega | (dsimp only; omega), hF5, by first | omega | (dsimp only; omega)⟩ [(5020, 19)]
 refine awp_exit (k_seq_exit (k_rnd_exit2 (k_blk_exit (k_seq (awp_seq (awp_region ?_))))))
 refine s_mv ?_
 refine s_as ?_
 refine k_nil (k_seq ?_)
 refine awp_mv 2 5020 9200 (by conv => lhs; whnf) (by conv => lhs; whnf) rfl ?_
 refine awp_ret (k_fin ?_)
 cases hF2
 exact ends_a _ [] Try.results86
def m_spec_MatchPattern_AC (fuel : Nat) : Prop := ∀ (x1 : (List Bind)) (x2 : Form) (x3 : (List Form)) (x4 : Form) (r : ((List Hit) × Bool)), m_spec_MatchPattern fuel x1 x2 x3 x4 = some r → AC Try.prog 126 [.t (.sl (x1.map Bind.row)), .ag [.t (.sc (.int .i64 x2.kind)), .t (.sc (.str x2.name)), .t (.sc (.int .i64 x2.n)), .t (.sl (x2.scopes.map rI)), .t (.sl (x2.kids.map Form.row))], .t (.sl (x3.map Form.row)), .ag [.t (.sc (.int .i64 x4.kind)), .t (.sc (.str x4.name)), .t (.sc (.int .i64 x4.n)), .t (.sl (x4.scopes.map rI)), .t (.sl (x4.kids.map Form.row))]] (objs []) (.tp [.ar 9200, .t (.sc (.bool r.2))]) (objs [(9200, .arr (r.1.map Hit.row) 65 true)])
theorem m_spec_MatchPattern_ok (fuel : Nat) : m_spec_MatchPattern_AC fuel := by
 intro x1 x2 x3 x4 r hF0
 unfold m_spec_MatchPattern at hF0
 refine AC_i [.ar 9200, .t (.sc (.bool r.2))] Try.func126 rfl Try.ntmps126 ?_
 intro C hC
 refine awp_seq (awp_region ?_)
 refine s_box ?_
 refine s_box ?_
 refine s_as ?_
 refine s_as ?_
 refine k_nil (k_seq (awp_seq ?_))
 refine awp_jn (α := Nat × Bool) [12, 13, 14, 15, 16, 17, 18, 19, 20, 21, 22, 23, 24, 25] [] [] (fun a => [(25, .t (.sc (.bool a.2)))]) (fun a => []) (fun a => a.1 ≤ fuel ∧ m_spec_MatchPattern_j1 a.1 x1 x2 x3 x4 a.2 = some r) ?_ ?_
 refine awp_region ?_
 refine s_mv ?_
 obtain ⟨v1, hv1, hF1⟩ := bind_some' hF0
 refine s_pure [] (m_spec_BindsValid_ok fuel _ _ hv1) ?_
 refine s_not ?_
 refine s_mv ?_
 refine w_guard _ 15 hF1 ?_ ?_ <;> intro hc2 hF2
 iterate 4 refine r_no rfl ?_
 refine s_pkt ?_
 refine s_mv ?_
 iterate 3 refine r_no rfl ?_
 refine s_pkt ?_
 refine k_nil ?_
 exact s_jn (fuel, true) ⟨by first | omega | (dsimp only; omega), hF2⟩
 refine s_ldW yA32 yS32 ?_
 refine s_mv ?_
 obtain ⟨v3, hv3, hF3⟩ := bind_some' hF2
 refine s_pure [] (m_spec_l4Is_ok fuel _ _ _ hv3) ?_
 refine s_not ?_
 refine s_pkf ?_
 refine s_mv ?_
 refine w_guard _ 21 hF3 ?_ ?_ <;> intro hc4 hF4
 iterate 3 refine r_no rfl ?_
 refine s_pkt ?_
 refine k_nil ?_
 exact s_jn (fuel, true) ⟨by first | omega | (dsimp only; omega), hF4⟩
 refine s_ldW yA32 yS32 ?_
 obtain ⟨v5, hv5, hF5⟩ := bind_some' hF4
 refine s_pure [] (m_spec_FormValid_ok fuel _ _ hv5) ?_
 refine s_not ?_
 refine s_pkf ?_
 refine k_nil ?_
 exact s_jn (fuel, (!v5)) ⟨by first | omega | (dsimp only; omega), hF5⟩
 clear hF0
 rintro ⟨fu, g6⟩ ⟨hl7, hF1⟩
 dsimp only at hl7 hF1 ⊢
 obtain _ | fu := fu
 · rw [m_spec_MatchPattern_j1] at hF1; cases hF1
 rw [m_spec_MatchPattern_j1] at hF1
 refine w_cond hF1 ?_ ?_ <;> intro hc8 hF2
 refine awp_seq (awp_region ?_)
 refine s_bs Hit.row ([] : List Hit) yP34 yR65 ?_
 refine s_as ?_
 refine s_as ?_
 refine k_nil (k_seq ?_)
 refine awp_mv 8 26 9200 (by conv => lhs; whnf) (by conv => lhs; whnf) rfl ?_
 refine awp_ret (k_seq_ret (k_fin ?_))
 cases hF2
 exact ends_a _ [] Try.results126
 refine awp_skip (k_seq (awp_seq (awp_region ?_)))
 refine s_mv ?_
 refine s_ldW yA32 yS32 ?_
 refine s_mv ?_
 refine s_ldW yA32 yS32 ?_
 obtain ⟨v9, hv9, hF3⟩ := bind_some' hF2
 refine s_pure [] (m_spec_l4Match_ok fu _ _ _ _ _ hv9) ?_
 refine s_mv ?_
 refine s_ext ?_
 refine s_ext ?_
 refine s_as ?_
 refine s_as ?_
 refine k_nil (k_seq (awp_seq (awp_seq (awp_region ?_))))
 refine s_mv ?_
 refine s_not ?_
 refine k_nil (k_seq ?_)
 refine w_cond hF3 ?_ ?_ <;> intro hc10 hF4
 refine awp_seq (awp_region ?_)
 refine s_bs Hit.row ([] : List Hit) yP34 yR65 ?_
 refine s_as ?_
 refine s_as ?_
 refine k_nil (k_seq ?_)
 refine awp_mv 8 37 9200 (by conv => lhs; whnf) (by conv => lhs; whnf) rfl ?_
 refine awp_ret (k_seq_ret (k_fin ?_))
 cases hF4
 exact ends_a _ [] Try.results126
 refine awp_skip (k_seq (awp_seq (awp_region ?_)))
 refine s_mv ?_
 obtain ⟨v11, hv11, hF5⟩ := bind_some' hF4
 refine s_call [(9200, 2039)] [] _ _ (m_spec_l4Copy_ok fu _ _ hv11) ?_
 refine s_as ?_
 refine s_as ?_
 refine k_nil (k_seq ?_)
 refine awp_mv 8 2039 9200 (by conv => lhs; whnf) (by conv => lhs; whnf) rfl ?_
 refine awp_ret (k_fin ?_)
 cases hF5
 exact ends_a _ [] Try.results126
def m_spec_l4Hits_AC (fuel : Nat) : Prop := ∀ (x1 : (List Int)) (r : (List Hit)), m_spec_l4Hits fuel x1 = some r → AC Try.prog 85 [.t (.sl (x1.map rB))] noOb (.t (.sl (r.map Hit.row))) noOb
theorem m_spec_l4Hits_ok (fuel : Nat) : m_spec_l4Hits_AC fuel := by
 intro x1 r hF0
 unfold m_spec_l4Hits at hF0
 refine AC_i [.t (.sl (r.map Hit.row))] Try.func85 rfl Try.ntmps85 ?_
 intro C hC
 refine awp_seq (awp_region ?_)
 refine s_as ?_
 refine k_nil (k_seq (awp_seq (awp_region ?_)))
 refine s_mv ?_
 obtain ⟨v1, hv1, hF1⟩ := bind_some' hF0
 refine s_pure [] (m_spec_DrawMatchPattern_ok fuel _ _ hv1) ?_
 refine s_mv ?_
 iterate 4 refine s_ext ?_
 refine s_alloc yZ32 ?_
 refine s_alloc yZ32 ?_
 refine s_as ?_
 refine s_stW yS32 ?_
 refine s_as ?_
 refine s_stW yS32 ?_
 refine k_nil (k_seq (awp_seq (awp_region ?_)))
 refine s_mv ?_
 refine s_ldW yA32 yS32 ?_
 refine s_mv ?_
 refine s_ldW yA32 yS32 ?_
 obtain ⟨v2, hv2, hF2⟩ := bind_some' hF1
 refine s_call [(9200, 2023)] [] _ _ (m_spec_MatchPattern_ok fuel _ _ _ _ _ hv2) ?_
 refine s_mv ?_
 refine s_ext ?_
 refine s_ext ?_
 refine s_as ?_
 refine s_as ?_
 refine k_nil (k_seq (awp_seq (awp_region ?_)))
 refine s_mv ?_
 obtain ⟨v3, hv3, hF3⟩ := bind_some' hF2
 refine s_call [(10, 27)] [] _ _ (m_spec_l15Open_ok fuel _ _ hv3) ?_
 refine s_as ?_
 refine k_nil (k_seq (awp_seq (awp_seq (awp_region ?_))))
 refine s_mv ?_
 refine s_lenA yU34 ?_
 refine s_eq ?_
 refine k_nil (k_seq ?_)
 refine w_cond hF3 ?_ ?_ <;> intro hc4 hF4
 refine awp_seq (awp_region ?_)
 refine s_mv ?_
 refine s_as ?_
 refine k_nil (k_seq (awp_ret (k_seq_ret (k_fin ?_))))
 cases hF4
 exact ends_a [] [2023] Try.results85
 refine awp_skip (k_seq (awp_seq (awp_region ?_)))
 refine s_mv ?_
 refine s_mv ?_
 refine s_lenA yU34 ?_
 obtain ⟨v5, hv5, hF5⟩ := bind_some' hF4
 refine s_call [(9000, 27)] [] _ _ (m_spec_l15Rd_pick_ok fuel _ _ _ hv5) ?_
 refine s_as ?_
 refine k_nil (k_seq (awp_seq (awp_seq (awp_region ?_))))
 refine s_mv ?_
 obtain ⟨v6, hv6, hF6⟩ := bind_some' hF5
 refine s_call [(9000, 27)] [] _ _ (m_spec_l15Rd_pick_ok fuel _ _ _ hv6) ?_
 refine k_nil (k_seq (awp_block (awp_seq (awp_region ?_))))
 refine s_eq ?_
 refine s_as ?_
 refine k_nil (k_seq ?_)
 refine w_cond hF6 ?_ ?_ <;> intro hc7 hF7
 refine awp_region ?_
 iterate 3 refine s_mv ?_
 refine s_bs rI [0, 1, 2, 4, (-1)] yP22 yR3 ?_
 obtain ⟨v8, hv8, hF8⟩ := bind_some' hF7
 refine s_call [(9000, 27)] [43] _ _ (m_spec_l15Rd_num_ok fuel _ _ _ hv8) ?_
 obtain ⟨v9, hv9, hF9⟩ := bind_some' hF8
 refine s_ixA Hit.row hv9 yE34 ?_
 refine s_fa yF65_1 ?_
 refine s_stA Hit.row (Hit.mk v9.name v8.1 v9.one v9.many) hv9 (Hit.row_eq _) (Hit.row_eq _) yS3 yS65 ?_
 refine k_nil (k_blk (k_seq (awp_seq (awp_region ?_))))
 refine s_mv ?_
 refine s_as ?_
 refine k_nil (k_seq (awp_ret (k_fin ?_)))
 cases hF9
 exact ends_a [] [2023] Try.results85
 refine awp_seq (awp_region ?_)
 refine s_eq ?_
 refine s_as ?_
 refine k_nil (k_seq ?_)
 refine w_cond hF7 ?_ ?_ <;> intro hc10 hF8
 refine awp_region ?_
 iterate 6 refine s_mv ?_
 obtain ⟨v11, hv11, hF9⟩ := bind_some' hF8
 refine s_ixA Hit.row hv11 yE34 ?_
 refine s_fa yF65_0 ?_
 refine s_lAN Hit.row hv11 (Hit.row_eq _) yA32 yS32 ?_
 obtain ⟨v12, hv12, hF10⟩ := bind_some' hF9
 refine s_call [(9000, 27)] [] _ _ (m_spec_l1Mutate_ok fuel _ _ _ hv12) ?_
 obtain ⟨v13, hv13, hF11⟩ := bind_some' hF10
 refine s_call [(9000, 27)] [] _ _ (m_spec_l1Mutate_ok fuel _ _ _ hv13) ?_
 obtain ⟨v14, hv14, hF12⟩ := bind_some' hF11
 refine s_ixA Hit.row hv14 yE34 ?_
 refine s_fa yF65_0 ?_
 refine s_stA Hit.row (Hit.mk v13.1 v14.depth v14.one v14.many) hv14 (Hit.row_eq _) (Hit.row_eq _) yS32 yS65 ?_
 refine k_nil (k_blk (k_seq (awp_seq (awp_region ?_))))
 refine s_mv ?_
 refine s_as ?_
 refine k_nil (k_seq (awp_ret (k_fin ?_)))
 cases hF12
 exact ends_a [] [2023] Try.results85
 refine awp_seq (awp_region ?_)
 refine s_eq ?_
 refine s_as ?_
 refine k_nil (k_seq ?_)
 refine w_cond hF8 ?_ ?_ <;> intro hc15 hF9
 refine awp_region ?_
 iterate 3 refine s_mv ?_
 obtain ⟨v16, hv16, hF10⟩ := bind_some' hF9
 refine s_ixA Hit.row hv16 yE34 ?_
 refine s_lAN Hit.row hv16 (Hit.row_eq _) yA65 yS65 ?_
 refine s_bs Hit.row [v16] yP34 yR65 ?_
 obtain ⟨hk17, hF11⟩ := chk_some hF10
 refine s_apT Hit.row (fun y => Hit.row_len y) hk17 yP34 ?_
 refine s_as ?_
 refine k_nil (k_blk (k_seq (awp_seq (awp_region ?_))))
 refine s_mv ?_
 refine s_as ?_
 refine k_nil (k_seq (awp_ret (k_fin ?_)))
 cases hF11
 exact ends_a [] [70] Try.results85
 refine awp_skip (k_blk (k_seq (awp_seq (awp_region ?_))))
 refine s_mv ?_
 refine s_as ?_
 refine k_nil (k_seq (awp_ret (k_fin ?_)))
 cases hF9
 exact ends_a [] [2023] Try.results85
def m_impl_hitSame_AC (fuel : Nat) : Prop := ∀ (x1 : Hit) (x2 : Hit) (r : Bool), m_impl_hitSame fuel x1 x2 = some r → AC Try.prog 88 [.ag [.t (.sc (.int .i64 x1.name.kind)), .t (.sc (.str x1.name.name)), .t (.sc (.int .i64 x1.name.n)), .t (.sl (x1.name.scopes.map rI)), .t (.sl (x1.name.kids.map Form.row)), .t (.sc (.int .i64 x1.depth)), .t (.sc (.int .i64 x1.one.kind)), .t (.sc (.str x1.one.name)), .t (.sc (.int .i64 x1.one.n)), .t (.sl (x1.one.scopes.map rI)), .t (.sl (x1.one.kids.map Form.row)), .t (.sl (x1.many.map Hit.row))], .ag [.t (.sc (.int .i64 x2.name.kind)), .t (.sc (.str x2.name.name)), .t (.sc (.int .i64 x2.name.n)), .t (.sl (x2.name.scopes.map rI)), .t (.sl (x2.name.kids.map Form.row)), .t (.sc (.int .i64 x2.depth)), .t (.sc (.int .i64 x2.one.kind)), .t (.sc (.str x2.one.name)), .t (.sc (.int .i64 x2.one.n)), .t (.sl (x2.one.scopes.map rI)), .t (.sl (x2.one.kids.map Form.row)), .t (.sl (x2.many.map Hit.row))]] noOb (.t (.sc (.bool r))) noOb
def m_slices_EqualFunc_Hit_hitSame_AC (fuel : Nat) : Prop := ∀ (x1 : (List Hit)) (x2 : (List Hit)) (r : Bool), m_slices_EqualFunc_Hit_hitSame fuel x1 x2 = some r → AC Try.prog 87 [.t (.sl (x1.map Hit.row)), .t (.sl (x2.map Hit.row)), .fn 88 []] noOb (.t (.sc (.bool r))) noOb
theorem m_impl_hitSame_st (fu : Nat) (ih_m_impl_hitSame : ∀ k, k ≤ fu → m_impl_hitSame_AC k) (ih_m_slices_EqualFunc_Hit_hitSame : ∀ k, k ≤ fu → m_slices_EqualFunc_Hit_hitSame_AC k) : m_impl_hitSame_AC (fu + 1) := by
 intro x1 x2 r hF0
 rw [m_impl_hitSame] at hF0
 refine AC_i [.t (.sc (.bool r))] Try.func88 rfl Try.ntmps88 ?_
 intro C hC
 refine awp_seq (awp_region ?_)
 refine s_box ?_
 refine s_box ?_
 refine s_as ?_
 refine k_nil (k_seq (awp_seq (awp_region ?_)))
 refine s_fa yF65_0 ?_
 refine s_ldN yA32 yS32 ?_
 refine s_fa yF65_0 ?_
 refine s_ldN yA32 yS32 ?_
 obtain ⟨v1, hv1, hF1⟩ := bind_some' hF0
 refine s_pure [] (m_impl_FormSame_ok fu _ _ _ hv1) ?_
 refine s_mv ?_
 refine w_guard _ 10 hF1 ?_ ?_ <;> intro hc2 hF2
 refine s_fa yF65_1 ?_
 refine s_ld1 yA3 ?_
 refine s_fa yF65_1 ?_
 refine s_ld1 yA3 ?_
 refine s_eq ?_
 refine s_pkt ?_
 refine s_mv ?_
 refine w_guard _ 17 hF2 ?_ ?_ <;> intro hc3 hF3
 refine s_fa yF65_2 ?_
 refine s_ldN yA32 yS32 ?_
 refine s_fa yF65_2 ?_
 refine s_ldN yA32 yS32 ?_
 obtain ⟨v4, hv4, hF4⟩ := bind_some' hF3
 refine s_pure [] (m_impl_FormSame_ok fu _ _ _ hv4) ?_
 refine s_pkt ?_
 refine s_mv ?_
 refine w_guard _ 24 hF4 ?_ ?_ <;> intro hc5 hF5
 refine s_fa yF65_3 ?_
 refine s_ld1 yA34 ?_
 refine s_fa yF65_3 ?_
 refine s_ld1 yA34 ?_
 obtain ⟨v6, hv6, hF6⟩ := bind_some' hF5
 refine s_pure [] (ih_m_slices_EqualFunc_Hit_hitSame fu (by omega) _ _ _ hv6) ?_
 refine s_pkt ?_
 refine s_as ?_
 refine k_nil (k_seq (awp_ret (k_fin ?_)))
 cases hF6
 exact ends_a [] [] Try.results88
 iterate 5 refine r_no rfl ?_
 refine s_pkf ?_
 refine s_as ?_
 refine k_nil (k_seq (awp_ret (k_fin ?_)))
 cases hF5
 exact ends_a [] [] Try.results88
 iterate 5 refine r_no rfl ?_
 refine s_pkf ?_
 refine s_mv ?_
 iterate 5 refine r_no rfl ?_
 refine s_pkf ?_
 refine s_as ?_
 refine k_nil (k_seq (awp_ret (k_fin ?_)))
 cases hF3
 exact ends_a [] [] Try.results88
 iterate 5 refine r_no rfl ?_
 refine s_pkf ?_
 refine s_mv ?_
 iterate 5 refine r_no rfl ?_
 refine s_pkf ?_
 refine s_mv ?_
 iterate 5 refine r_no rfl ?_
 refine s_pkf ?_
 refine s_as ?_
 refine k_nil (k_seq (awp_ret (k_fin ?_)))
 cases hF2
 exact ends_a [] [] Try.results88
theorem m_slices_EqualFunc_Hit_hitSame_st (fu : Nat) (ih_m_impl_hitSame : ∀ k, k ≤ fu → m_impl_hitSame_AC k) (ih_m_slices_EqualFunc_Hit_hitSame : ∀ k, k ≤ fu → m_slices_EqualFunc_Hit_hitSame_AC k) : m_slices_EqualFunc_Hit_hitSame_AC (fu + 1) := by
 intro x1 x2 r hF0
 rw [m_slices_EqualFunc_Hit_hitSame] at hF0
 refine AC_i [.t (.sc (.bool r))] Try.func87 rfl Try.ntmps87 ?_
 intro C hC
 refine awp_seq (awp_region ?_)
 refine s_as ?_
 refine k_nil (k_seq (awp_seq (awp_seq (awp_region ?_))))
 refine s_mv ?_
 refine s_lenT yU34 ?_
 refine s_mv ?_
 refine s_lenT yU34 ?_
 refine s_ne ?_
 refine k_nil (k_seq ?_)
 refine w_cond hF0 ?_ ?_ <;> intro hc1 hF1
 refine awp_seq (awp_region ?_)
 refine s_as ?_
 refine k_nil (k_seq (awp_ret (k_seq_ret (k_fin ?_))))
 cases hF1
 exact ends_a [] [] Try.results87
 refine awp_skip (k_seq (awp_seq (awp_seq (awp_region ?_))))
 refine s_mv ?_
 refine s_lenT yU34 ?_
 refine s_mv ?_
 refine k_nil (k_seq (awp_block ?_))
 refine awp_fr (β := Int) [6, 7, 8, 9, 17, 18, 19, 20, 21, 22, 23, 24, 25, 26, 27, 28, 29, 30, 31] [] [8, 9] (fun a => [(17, .t (.sc (.int .i64 a.2)))]) (fun a => []) (fun a => a.1 ≤ fu ∧ m_slices_EqualFunc_Hit_hitSame_l1 a.1 x1 x2 a.2 = some r ∧ 0 ≤ a.2) (fu, 0) ⟨Nat.le_refl _, hF1, by simp⟩ ?_
 clear hF1
 rintro ⟨fu, g2⟩ ⟨hl3, hF2, hn_g2⟩
 dsimp only at hl3 hF2 hn_g2 ⊢
 obtain _ | fu := fu
 · rw [m_slices_EqualFunc_Hit_hitSame_l1] at hF2; cases hF2
 rw [m_slices_EqualFunc_Hit_hitSame_l1] at hF2
 refine awp_seq (awp_region ?_)
 refine s_lt ?_
 refine k_nil (k_seq (awp_seq ?_))
 refine w_cond hF2 ?_ ?_ <;> intro hc4 hF3
 refine awp_lenT 0 (fun hb5 => ?_)
 refine awp_skip (k_seq (awp_seq (awp_block (awp_seq (awp_region ?_)))))
 refine s_mv ?_
 obtain ⟨v6, hv6, hF4⟩ := bind_some' hF3
 refine s_ixT Hit.row hv6 (Hit.row_eq _) yE34 ?_
 refine s_ldN yA65 yS65 ?_
 refine s_alloc yZ65 ?_
 refine s_as ?_
 refine s_stW yS65 ?_
 refine k_nil (k_seq (awp_seq (awp_region ?_)))
 refine s_mv ?_
 refine s_mv ?_
 obtain ⟨v7, hv7, hF5⟩ := bind_some' hF4
 refine s_ixT Hit.row hv7 (Hit.row_eq _) yE34 ?_
 refine s_ldN yA65 yS65 ?_
 refine s_alloc yZ65 ?_
 refine s_stW yS65 ?_
 refine k_nil (k_seq (awp_seq (awp_region ?_)))
 refine s_mv ?_
 refine s_ldW yA65 yS65 ?_
 refine s_ldW yA65 yS65 ?_
 obtain ⟨v8, hv8, hF6⟩ := bind_some' hF5
 refine s_pure [] (ih_m_impl_hitSame fu (by omega) _ _ _ hv8) ?_
 refine s_not ?_
 refine k_nil (k_seq ?_)
 refine w_cond hF6 ?_ ?_ <;> intro hc9 hF7
 refine awp_seq (awp_region ?_)
 refine s_as ?_
 refine k_nil (k_seq (awp_ret (k_blk_ret (k_seq_ret (k_rnd_ret2 (k_blk_ret (k_seq_ret (k_fin ?_))))))))
 cases hF7
 exact ends_a [] [] Try.results87
 refine awp_skip (k_blk (k_seq (awp_region ?_)))
 refine s_add (winc2 hc4 hb5 hn_g2) ?_
 refine s_mv ?_
 refine k_nil ?_
 exact s_rn (fu, (g2 + 1)) ⟨by first | omega | (dsimp only; omega), hF7, by first | omega | (dsimp only; omega)⟩
 refine awp_exit (k_seq_exit (k_rnd_exit2 (k_blk_exit (k_seq (awp_seq (awp_region ?_))))))
 refine s_as ?_
 refine k_nil (k_seq (awp_ret (k_fin ?_)))
 cases hF3
 exact ends_a [] [] Try.results87
theorem m_impl_hitSame_all (fuel : Nat) : m_impl_hitSame_AC fuel ∧ m_slices_EqualFunc_Hit_hitSame_AC fuel := by
 induction fuel using Nat.strongRecOn with
 | _ N ih =>
   cases N with
   | zero => exact ⟨(by intro x1 x2 r h; rw [m_impl_hitSame] at h; cases h), (by intro x1 x2 r h; rw [m_slices_EqualFunc_Hit_hitSame] at h; cases h)⟩
   | succ fu => exact ⟨m_impl_hitSame_st fu (fun k hk => (ih k (by omega)).1) (fun k hk => (ih k (by omega)).2), m_slices_EqualFunc_Hit_hitSame_st fu (fun k hk => (ih k (by omega)).1) (fun k hk => (ih k (by omega)).2)⟩
theorem m_slices_EqualFunc_Hit_hitSame_ok (fuel : Nat) : m_slices_EqualFunc_Hit_hitSame_AC fuel := (m_impl_hitSame_all fuel).2
def m_impl_HitsSame_AC (fuel : Nat) : Prop := ∀ (x1 : (List Hit)) (x2 : (List Hit)) (r : Bool), m_impl_HitsSame fuel x1 x2 = some r → AC Try.prog 42 [.t (.sl (x1.map Hit.row)), .t (.sl (x2.map Hit.row))] noOb (.t (.sc (.bool r))) noOb
theorem m_impl_HitsSame_ok (fuel : Nat) : m_impl_HitsSame_AC fuel := by
 intro x1 x2 r hF0
 unfold m_impl_HitsSame at hF0
 refine AC_i [.t (.sc (.bool r))] Try.func42 rfl Try.ntmps42 ?_
 intro C hC
 refine awp_seq (awp_region ?_)
 refine s_as ?_
 refine k_nil (k_seq (awp_seq (awp_region ?_)))
 refine s_mv ?_
 refine s_mv ?_
 obtain ⟨v1, hv1, hF1⟩ := bind_some' hF0
 refine s_pure [] (m_slices_EqualFunc_Hit_hitSame_ok fuel _ _ _ hv1) ?_
 refine s_as ?_
 refine k_nil (k_seq (awp_ret (k_fin ?_)))
 cases hF1
 exact ends_a [] [] Try.results42
def m_impl_copyHit_AC (fuel : Nat) : Prop := ∀ (x1 : Hit) (r : Hit), m_impl_copyHit fuel x1 = some r → AC Try.prog 94 [.ag [.t (.sc (.int .i64 x1.name.kind)), .t (.sc (.str x1.name.name)), .t (.sc (.int .i64 x1.name.n)), .t (.sl (x1.name.scopes.map rI)), .t (.sl (x1.name.kids.map Form.row)), .t (.sc (.int .i64 x1.depth)), .t (.sc (.int .i64 x1.one.kind)), .t (.sc (.str x1.one.name)), .t (.sc (.int .i64 x1.one.n)), .t (.sl (x1.one.scopes.map rI)), .t (.sl (x1.one.kids.map Form.row)), .t (.sl (x1.many.map Hit.row))]] noOb (.ag [.t (.sc (.int .i64 r.name.kind)), .t (.sc (.str r.name.name)), .t (.sc (.int .i64 r.name.n)), .t (.sl (r.name.scopes.map rI)), .t (.sl (r.name.kids.map Form.row)), .t (.sc (.int .i64 r.depth)), .t (.sc (.int .i64 r.one.kind)), .t (.sc (.str r.one.name)), .t (.sc (.int .i64 r.one.n)), .t (.sl (r.one.scopes.map rI)), .t (.sl (r.one.kids.map Form.row)), .t (.sl (r.many.map Hit.row))]) noOb
theorem m_impl_copyHit_st (fu : Nat) (ih_m_impl_copyHit : ∀ k, k ≤ fu → m_impl_copyHit_AC k) : m_impl_copyHit_AC (fu + 1) := by
 intro x1 r hF0
 rw [m_impl_copyHit] at hF0
 refine AC_i [.ag [.t (.sc (.int .i64 r.name.kind)), .t (.sc (.str r.name.name)), .t (.sc (.int .i64 r.name.n)), .t (.sl (r.name.scopes.map rI)), .t (.sl (r.name.kids.map Form.row)), .t (.sc (.int .i64 r.depth)), .t (.sc (.int .i64 r.one.kind)), .t (.sc (.str r.one.name)), .t (.sc (.int .i64 r.one.n)), .t (.sl (r.one.scopes.map rI)), .t (.sl (r.one.kids.map Form.row)), .t (.sl (r.many.map Hit.row))]] Try.func94 rfl Try.ntmps94 ?_
 intro C hC
 refine awp_seq (awp_region ?_)
 refine s_box ?_
 refine s_alloc yZ65 ?_
 refine k_nil (k_seq (awp_seq ?_))
 refine awp_draw yMix (by kernel_rfl) ?_
 refine s_fa yF65_0 ?_
 refine s_ldN yA32 yS32 ?_
 obtain ⟨v1, hv1, hF1⟩ := bind_some' hF0
 refine s_pure [] (m_impl_copyForm_ok fu _ _ hv1) ?_
 refine s_fa yF65_1 ?_
 refine s_ld1 yA3 ?_
 refine s_fa yF65_2 ?_
 refine s_ldN yA32 yS32 ?_
 obtain ⟨v2, hv2, hF2⟩ := bind_some' hF1
 refine s_pure [] (m_impl_copyForm_ok fu _ _ hv2) ?_
 refine s_bld yZ65 yL65 ?_
 refine s_alloc yZ65 ?_
 refine s_stW yS65 ?_
 refine k_nilD (by kernel_rfl) ?_
 refine k_seq (awp_seq (awp_seq (awp_region ?_)))
 refine s_fa yF65_3 ?_
 refine s_ld1 yA34 ?_
 refine s_lenT yU34 ?_
 refine s_mv ?_
 refine k_nil (k_seq (awp_block ?_))
 refine awp_ownB 3 5020 65 [.t (.sc (.int .i64 v1.kind)), .t (.sc (.str v1.name)), .t (.sc (.int .i64 v1.n)), .t (.sl (v1.scopes.map rI)), .t (.sl (v1.kids.map Form.row)), .t (.sc (.int .i64 x1.depth)), .t (.sc (.int .i64 v2.kind)), .t (.sc (.str v2.name)), .t (.sc (.int .i64 v2.n)), .t (.sl (v2.scopes.map rI)), .t (.sl (v2.kids.map Form.row)), .ar 5020] yI65.choose_spec ?_
 refine awp_frame2 [5, 18, 19, 20, 21, 22, 23, 24, 25, 26, 27, 28, 29] [3, 5020] [5, 26, 27] [5020] (fun a : Nat × Int × (List Hit) => a.1) (fun a : Nat × Int × (List Hit) => [(18, .t (.sc (.int .i64 a.2.1)))]) (fun a : Nat × Int × (List Hit) => [(3, .box [.t (.sc (.int .i64 v1.kind)), .t (.sc (.str v1.name)), .t (.sc (.int .i64 v1.n)), .t (.sl (v1.scopes.map rI)), .t (.sl (v1.kids.map Form.row)), .t (.sc (.int .i64 x1.depth)), .t (.sc (.int .i64 v2.kind)), .t (.sc (.str v2.name)), .t (.sc (.int .i64 v2.n)), .t (.sl (v2.scopes.map rI)), .t (.sl (v2.kids.map Form.row)), .ar 5020]), (5020, .arr (a.2.2.map Hit.row) 65 true)]) (fun a : Nat × Int × (List Hit) => a.1 ≤ fu ∧ m_impl_copyHit_l1 a.1 x1 v1 v2 a.2.1 a.2.2 = some r ∧ 0 ≤ a.2.1) (fu, 0, ([] : List Hit)) ⟨Nat.le_refl _, hF2, by simp⟩ (by rfl) (by rfl) (fun _ => rfl) (hasF_cons (by conv => lhs; whnf) (by rfl) hasF_nil) (hasO_cons (by conv => lhs; whnf) (by rfl) (hasO_cons (by conv => lhs; whnf) (by rfl) hasO_nil)) (fresh_C hC rfl) (by repeat (first | exact freshS_args rfl | refine freshS_upd rfl ?_ | refine freshS_frame rfl ?_)) (by repeat (first | exact freshM_no | exact objs_fresh rfl | refine freshM_upd rfl ?_ | refine freshM_frame rfl ?_)) ?_
 clear hF2
 rintro ⟨fu, g3, g4⟩ ⟨hl5, hF3, hn_g3⟩
 dsimp only at hl5 hF3 hn_g3 ⊢
 obtain _ | fu := fu
 · rw [m_impl_copyHit_l1] at hF3; cases hF3
 rw [m_impl_copyHit_l1] at hF3
 refine awp_seq (awp_region ?_)
 refine s_lt ?_
 refine k_nil (k_seq (awp_seq ?_))
 refine w_cond hF3 ?_ ?_ <;> intro hc6 hF4
 refine awp_lenT 16 (fun hb7 => ?_)
 refine awp_skip (k_seq (awp_seq (awp_block (awp_seq (awp_region ?_)))))
 obtain ⟨v8, hv8, hF5⟩ := bind_some' hF4
 refine s_ixT Hit.row hv8 (Hit.row_eq _) yE34 ?_
 refine s_ldN yA65 yS65 ?_
 refine s_alloc yZ65 ?_
 refine s_stW yS65 ?_
 refine k_nil (k_seq ?_)
 refine awp_draw yMix (by kernel_rfl) ?_
 refine s_fa yF65_3 ?_
 refine s_ld1 yA34 ?_
 refine s_ldW yA65 yS65 ?_
 obtain ⟨v9, hv9, hF6⟩ := bind_some' hF5
 refine s_pure [] (ih_m_impl_copyHit fu (by omega) _ _ hv9) ?_
 refine s_bs Hit.row [v9] yP34 yR65 ?_
 obtain ⟨hk10, hF7⟩ := chk_some hF6
 refine s_apT Hit.row (fun y => Hit.row_len y) hk10 yP34 ?_
 refine s_fa yF65_3 ?_
 refine s_stP yS34 ?_
 refine k_nilD (by kernel_rfl) ?_
 refine k_blk (k_seq (awp_region ?_))
 refine s_add (winc2 hc6 hb7 hn_g3) ?_
 refine s_mv ?_
 refine k_nil ?_
 exact s_rn (fu, (g3 + 1), (g4 ++ [v9])) ⟨by first | omega | (dsimp only; omega), hF7, by first | omega | (dsimp only; omega)⟩ [(5020, 27)]
 refine awp_exit (k_seq_exit (k_rnd_exit2 (k_blk_exit (k_seq (awp_seq (awp_region ?_))))))
 refine s_ldW yA65 yS65 ?_
 refine s_stW yS65 ?_
 refine k_nil (k_seq (awp_ret (k_fin ?_)))
 cases hF4
 exact ends_gen [] [5020] (by rw [Try.results94]; exact (res_agg (by conv => lhs; whnf) (by conv => lhs; whnf) yA65 yS65 rfl res_nil))
theorem m_impl_copyHit_all (fuel : Nat) : m_impl_copyHit_AC fuel := by
 induction fuel using Nat.strongRecOn with
 | _ N ih =>
   cases N with
   | zero => exact (by intro x1 r h; rw [m_impl_copyHit] at h; cases h)
   | succ fu => exact m_impl_copyHit_st fu (fun k hk => (ih k (by omega)))
theorem m_impl_copyHit_ok (fuel : Nat) : m_impl_copyHit_AC fuel := (m_impl_copyHit_all fuel)
def m_impl_FindHit_AC (fuel : Nat) : Prop := ∀ (x1 : (List Hit)) (x2 : Form) (r : (Hit × Bool)), m_impl_FindHit fuel x1 x2 = some r → AC Try.prog 48 [.t (.sl (x1.map Hit.row)), .ag [.t (.sc (.int .i64 x2.kind)), .t (.sc (.str x2.name)), .t (.sc (.int .i64 x2.n)), .t (.sl (x2.scopes.map rI)), .t (.sl (x2.kids.map Form.row))]] noOb (.tp [.ag [.t (.sc (.int .i64 r.1.name.kind)), .t (.sc (.str r.1.name.name)), .t (.sc (.int .i64 r.1.name.n)), .t (.sl (r.1.name.scopes.map rI)), .t (.sl (r.1.name.kids.map Form.row)), .t (.sc (.int .i64 r.1.depth)), .t (.sc (.int .i64 r.1.one.kind)), .t (.sc (.str r.1.one.name)), .t (.sc (.int .i64 r.1.one.n)), .t (.sl (r.1.one.scopes.map rI)), .t (.sl (r.1.one.kids.map Form.row)), .t (.sl (r.1.many.map Hit.row))], .t (.sc (.bool r.2))]) noOb
theorem m_impl_FindHit_ok (fuel : Nat) : m_impl_FindHit_AC fuel := by
 intro x1 x2 r hF0
 unfold m_impl_FindHit at hF0
 refine AC_i [.ag [.t (.sc (.int .i64 r.1.name.kind)), .t (.sc (.str r.1.name.name)), .t (.sc (.int .i64 r.1.name.n)), .t (.sl (r.1.name.scopes.map rI)), .t (.sl (r.1.name.kids.map Form.row)), .t (.sc (.int .i64 r.1.depth)), .t (.sc (.int .i64 r.1.one.kind)), .t (.sc (.str r.1.one.name)), .t (.sc (.int .i64 r.1.one.n)), .t (.sl (r.1.one.scopes.map rI)), .t (.sl (r.1.one.kids.map Form.row)), .t (.sl (r.1.many.map Hit.row))], .t (.sc (.bool r.2))] Try.func48 rfl Try.ntmps48 ?_
 intro C hC
 refine awp_seq (awp_region ?_)
 refine s_box ?_
 refine s_alloc yZ65 ?_
 refine s_as ?_
 refine k_nil (k_seq (awp_seq (awp_region ?_)))
 refine s_mv ?_
 refine s_ldW yA32 yS32 ?_
 obtain ⟨v1, hv1, hF1⟩ := bind_some' hF0
 refine s_pure [] (m_impl_hitAt_ok fuel _ _ _ hv1) ?_
 refine s_as ?_
 refine k_nil (k_seq (awp_seq ?_))
 refine awp_jn (α := Nat × Bool) [10, 11, 12, 13, 14, 15, 16] [] [] (fun a => [(16, .t (.sc (.bool a.2)))]) (fun a => []) (fun a => a.1 ≤ fuel ∧ m_impl_FindHit_j1 a.1 x1 v1 a.2 = some r) ?_ ?_
 refine awp_region ?_
 refine s_mv ?_
 obtain ⟨v2, hv2, hF2⟩ := bind_some' hF1
 refine s_pure [] (m_impl_HitsValid_ok fuel _ _ hv2) ?_
 refine s_not ?_
 refine s_mv ?_
 refine w_guard _ 13 hF2 ?_ ?_ <;> intro hc3 hF3
 refine r_no rfl (r_no rfl ?_)
 refine s_pkt ?_
 refine k_nil ?_
 exact s_jn (fuel, true) ⟨by first | omega | (dsimp only; omega), hF3⟩
 refine s_mv ?_
 refine s_lt ?_
 refine s_pkf ?_
 refine k_nil ?_
 exact s_jn (fuel, (decide (v1 < 0))) ⟨by first | omega | (dsimp only; omega), hF3⟩
 clear hF1
 rintro ⟨fu, g4⟩ ⟨hl5, hF2⟩
 dsimp only at hl5 hF2 ⊢
 obtain _ | fu := fu
 · rw [m_impl_FindHit_j1] at hF2; cases hF2
 rw [m_impl_FindHit_j1] at hF2
 refine w_cond hF2 ?_ ?_ <;> intro hc6 hF3
 refine awp_seq (awp_region ?_)
 refine s_bld yZ65 yL65 ?_
 refine s_stW yS65 ?_
 refine s_as ?_
 refine k_nil (k_seq (awp_ret (k_seq_ret (k_fin ?_))))
 cases hF3
 exact ends_gen [] [] (by rw [Try.results48]; exact (res_agg (by conv => lhs; whnf) (by conv => lhs; whnf) yA65 yS65 rfl (res_tmp (by conv => lhs; whnf) res_nil)))
 refine awp_skip (k_seq (awp_seq (awp_region ?_)))
 refine s_mv ?_
 refine s_mv ?_
 obtain ⟨v7, hv7, hF4⟩ := bind_some' hF3
 refine s_ixT Hit.row hv7 (Hit.row_eq _) yE34 ?_
 refine s_ldN yA65 yS65 ?_
 obtain ⟨v8, hv8, hF5⟩ := bind_some' hF4
 refine s_pure [] (m_impl_copyHit_ok fu _ _ hv8) ?_
 refine s_stW yS65 ?_
 refine s_as ?_
 refine k_nil (k_seq (awp_ret (k_fin ?_)))
 cases hF5
 exact ends_gen [] [] (by rw [Try.results48]; exact (res_agg (by conv => lhs; whnf) (by conv => lhs; whnf) yA65 yS65 rfl (res_tmp (by conv => lhs; whnf) res_nil)))
end Go.Abs
