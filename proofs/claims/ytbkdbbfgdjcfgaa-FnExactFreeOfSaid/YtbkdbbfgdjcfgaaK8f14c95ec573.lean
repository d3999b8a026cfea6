/- A part of the proof: what the functions that the law calls answer, as pure values. -/
import Derived.Test.YtbkdbbfgdjcfgaaK6b7fadcb8d20
import Derived.Test.YtbkdbbfgdjcfgaaK70dadfb6b6c5
import Derived.Test.YtbkdbbfgdjcfgaaK77b7fab21485
import Derived.Test.YtbkdbbfgdjcfgaaKa4a00b505af3
import Derived.Test.YtbkdbbfgdjcfgaaKb700d2eed81f
set_option linter.unusedSimpArgs false
set_option linter.unusedVariables false
set_option maxRecDepth 100000
set_option maxHeartbeats 4000000
namespace Go.Abs
open Go.Proofs
def m_impl_FreeOf_d_D_AC (fuel : Nat) : Prop := ∀ (x1 : Core) (r : (List ByteArray)), m_impl_FreeOf_d fuel x1 = some r → AC Try.prog 14 [.ag [.t (.sc (.int .i64 x1.kind)), .t (.sc (.int .i64 x1.id)), .t (.sc (.str x1.name)), .t (.sc (.int .i64 x1.n)), .t (.sl (x1.ids.map rI)), .t (.sc (.int .i64 x1.data.kind)), .t (.sc (.str x1.data.name)), .t (.sc (.int .i64 x1.data.n)), .t (.sl (x1.data.scopes.map rI)), .t (.sl (x1.data.kids.map Form.row)), .t (.sl (x1.kids.map Core.row))]] (objs []) (.ar 9200) (objs [(9200, .arr (r.map rS) 9 true)])
theorem m_impl_FreeOf_d_D_ok (fuel : Nat) : m_impl_FreeOf_d_D_AC fuel := by
 intro x1 r hF0
 unfold m_impl_FreeOf_d at hF0
 refine AC_i [.ar 9200] Try.func14 rfl Try.ntmps14 ?_
 intro C hC
 refine awp_seq (awp_region ?_)
 refine s_box ?_
 refine s_as ?_
 refine k_nil (k_seq (awp_seq (awp_region ?_)))
 refine s_ldW yA37 yS37 ?_
 obtain ⟨v1, hv1, hF1⟩ := bind_some' hF0
 refine s_call [(9200, 2004)] [] _ _ (m_impl_freeOf_n_d_D_ok fuel _ _ hv1) ?_
 refine s_as ?_
 refine k_nil (k_seq ?_)
 refine awp_mv 2 2004 9200 (by conv => lhs; whnf) (by conv => lhs; whnf) rfl ?_
 refine awp_ret (k_fin ?_)
 cases hF1
 exact ends_a _ [] Try.results14
def m_laws_eqStringS_AC (fuel : Nat) : Prop := ∀ (x1 : (List ByteArray)) (x2 : (List ByteArray)) (r : Bool), m_laws_eqStringS fuel x1 x2 = some r → AC Try.prog 15 [.t (.sl (x1.map rS)), .t (.sl (x2.map rS))] noOb (.t (.sc (.bool r))) noOb
theorem m_laws_eqStringS_ok (fuel : Nat) : m_laws_eqStringS_AC fuel := by
 intro x1 x2 r hF0
 unfold m_laws_eqStringS at hF0
 refine AC_i [.t (.sc (.bool r))] Try.func15 rfl Try.ntmps15 ?_
 intro C hC
 refine awp_seq (awp_region ?_)
 refine s_as ?_
 refine k_nil (k_seq (awp_seq (awp_seq (awp_region ?_))))
 refine s_mv ?_
 refine s_lenT yU30 ?_
 refine s_mv ?_
 refine s_lenT yU30 ?_
 refine s_ne ?_
 refine k_nil (k_seq ?_)
 refine w_cond hF0 ?_ ?_ <;> intro hc1 hF1
 refine awp_seq (awp_region ?_)
 refine s_as ?_
 refine k_nil (k_seq (awp_ret (k_seq_ret (k_fin ?_))))
 cases hF1
 exact ends_a [] [] Try.results15
 refine awp_skip (k_seq (awp_seq (awp_seq (awp_region ?_))))
 refine s_as ?_
 refine k_nil (k_seq (awp_block ?_))
 refine awp_fr (β := Int) [4, 5, 11, 12, 13, 14, 15, 16, 17, 18, 19, 20, 21, 22, 23, 24, 25] [] [] (fun a => [(5, .t (.sc (.int .i64 a.2)))]) (fun a => []) (fun a => a.1 ≤ fuel ∧ m_laws_eqStringS_l1 a.1 x1 x2 a.2 = some r ∧ 0 ≤ a.2) (fuel, 0) ⟨Nat.le_refl _, hF1, by simp⟩ ?_
 clear hF1
 rintro ⟨fu, g2⟩ ⟨hl3, hF2, hn_g2⟩
 dsimp only at hl3 hF2 hn_g2 ⊢
 obtain _ | fu := fu
 · rw [m_laws_eqStringS_l1] at hF2; cases hF2
 rw [m_laws_eqStringS_l1] at hF2
 refine awp_seq (awp_seq (awp_region ?_))
 refine s_mv ?_
 refine s_mv ?_
 refine s_lenT yU30 ?_
 refine s_lt ?_
 refine k_nil (k_seq ?_)
 refine w_cond hF2 ?_ ?_ <;> intro hc4 hF3
 refine awp_lenT 0 (fun hb5 => ?_)
 refine awp_skip (k_seq (awp_seq (awp_block (awp_seq ?_))))
 refine awp_draw yMix (by kernel_rfl) ?_
 refine s_mv ?_
 refine s_mv ?_
 obtain ⟨v6, hv6, hF4⟩ := bind_some' hF3
 refine s_ixT rS hv6 rfl yE30 ?_
 refine s_ld1 yA9 ?_
 refine s_mv ?_
 refine s_mv ?_
 obtain ⟨v7, hv7, hF5⟩ := bind_some' hF4
 refine s_ixT rS hv7 rfl yE30 ?_
 refine s_ld1 yA9 ?_
 refine s_neS ?_
 refine k_nilD (by kernel_rfl) ?_
 refine k_seq ?_
 refine w_cond hF5 ?_ ?_ <;> intro hc8 hF6
 refine awp_seq (awp_region ?_)
 refine s_as ?_
 refine k_nil (k_seq (awp_ret (k_blk_ret (k_seq_ret (k_rnd_ret2 (k_blk_ret (k_seq_ret (k_fin ?_))))))))
 cases hF6
 exact ends_a [] [] Try.results15
 refine awp_skip (k_blk (k_seq (awp_region ?_)))
 refine s_mv ?_
 refine s_add (winc2 hc4 hb5 hn_g2) ?_
 refine s_as ?_
 refine k_nil ?_
 exact s_rn (fu, (g2 + 1)) ⟨by first | omega | (dsimp only; omega), hF6, by first | omega | (dsimp only; omega)⟩
 refine awp_exit (k_seq_exit (k_rnd_exit2 (k_blk_exit (k_seq (awp_seq (awp_region ?_))))))
 refine s_as ?_
 refine k_nil (k_seq (awp_ret (k_fin ?_)))
 cases hF3
 exact ends_a [] [] Try.results15
def m_laws_markStringS_D_AC (fuel : Nat) : Prop := ∀ (x1 : (List ByteArray)) (x2 : Int) (r : (Int × (List ByteArray))), m_laws_markStringS fuel x1 x2 = some r → AC Try.prog 18 [.ar 9300, .t (.sc (.int .i64 x2))] (objs [(9300, .arr (x1.map rS) 9 true)]) (.t (.sc (.int .i64 r.1))) (objs [(9300, .arr (r.2.map rS) 9 true)])
theorem m_laws_markStringS_D_ok (fuel : Nat) : m_laws_markStringS_D_AC fuel := by
 intro x1 x2 r hF0
 unfold m_laws_markStringS at hF0
 refine AC_i [.t (.sc (.int .i64 r.1))] Try.func18 rfl Try.ntmps18 ?_
 intro C hC
 refine awp_seq (awp_region ?_)
 refine s_as ?_
 refine k_nil (k_seq (awp_seq (awp_seq (awp_region ?_))))
 refine s_as ?_
 refine k_nil (k_seq (awp_block ?_))
 refine awp_fr (β := Int × Int × (List ByteArray)) [1, 5, 6, 7, 8, 9, 10, 11, 12, 13, 14, 15, 16, 17, 18] [9300] [] (fun a => [(1, .t (.sc (.int .i64 a.2.1))), (5, .t (.sc (.int .i64 a.2.2.1)))]) (fun a => [(9300, .arr (a.2.2.2.map rS) 9 true)]) (fun a => a.1 ≤ fuel ∧ m_laws_markStringS_l1 a.1  a.2.1 a.2.2.1 a.2.2.2 = some r ∧ 0 ≤ a.2.2.1) (fuel, x2, 0, x1) ⟨Nat.le_refl _, hF0, by simp⟩ ?_
 clear hF0
 rintro ⟨fu, g1, g2, g3⟩ ⟨hl4, hF1, hn_g2⟩
 dsimp only at hl4 hF1 hn_g2 ⊢
 obtain _ | fu := fu
 · rw [m_laws_markStringS_l1] at hF1; cases hF1
 rw [m_laws_markStringS_l1] at hF1
 refine awp_seq (awp_seq (awp_region ?_))
 refine s_mv ?_
 refine s_mv ?_
 refine s_lenA yU30 ?_
 refine s_lt ?_
 refine k_nil (k_seq ?_)
 refine w_cond hF1 ?_ ?_ <;> intro hc5 hF2
 refine awp_lenA 0 9300 (fun hb6 => ?_)
 refine awp_skip (k_seq (awp_seq (awp_block (awp_seq (awp_region ?_)))))
 iterate 3 refine s_mv ?_
 obtain ⟨v7, hv7, hF3⟩ := bind_some' hF2
 refine s_pure [] (m_laws_markText_D_ok fu _ _ hv7) ?_
 obtain ⟨v8, hv8, hF4⟩ := bind_some' hF3
 refine s_ixA rS hv8 yE30 ?_
 refine s_stA rS v7 hv8 rfl rfl yS9 yS9 ?_
 refine k_nil (k_seq (awp_region ?_))
 refine s_mv ?_
 refine s_add rfl ?_
 refine s_as ?_
 refine k_nil (k_blk (k_seq (awp_region ?_)))
 refine s_mv ?_
 refine s_add (winc2 hc5 hb6 hn_g2) ?_
 refine s_as ?_
 refine k_nil ?_
 exact s_rn (fu, (w64 (g1 + 1)), (g2 + 1), (g3.set g2.toNat v7)) ⟨by first | omega | (dsimp only; omega), hF4, by first | omega | (dsimp only; omega)⟩
 refine awp_exit (k_seq_exit (k_rnd_exit2 (k_blk_exit (k_seq (awp_seq (awp_region ?_))))))
 refine s_mv ?_
 refine s_as ?_
 refine k_nil (k_seq (awp_ret (k_fin ?_)))
 cases hF2
 exact ends_a _ [] Try.results18
def m_laws_heldStringS_AC (fuel : Nat) : Prop := ∀ (x1 : (List ByteArray)) (x2 : Int) (r : Int), m_laws_heldStringS fuel x1 x2 = some r → AC Try.prog 19 [.t (.sl (x1.map rS)), .t (.sc (.int .i64 x2))] noOb (.t (.sc (.int .i64 r))) noOb
theorem m_laws_heldStringS_ok (fuel : Nat) : m_laws_heldStringS_AC fuel := by
 intro x1 x2 r hF0
 unfold m_laws_heldStringS at hF0
 refine AC_i [.t (.sc (.int .i64 r))] Try.func19 rfl Try.ntmps19 ?_
 intro C hC
 refine awp_seq (awp_region ?_)
 refine s_as ?_
 refine k_nil (k_seq (awp_seq (awp_seq (awp_region ?_))))
 refine s_as ?_
 refine k_nil (k_seq (awp_block ?_))
 refine awp_fr (β := Int × Int) [1, 4, 5, 6, 7, 8, 9, 10, 11, 12, 13, 14, 15, 16, 17, 18, 19, 20] [] [] (fun a => [(1, .t (.sc (.int .i64 a.2.1))), (5, .t (.sc (.int .i64 a.2.2)))]) (fun a => []) (fun a => a.1 ≤ fuel ∧ m_laws_heldStringS_l1 a.1 x1 a.2.1 a.2.2 = some r ∧ 0 ≤ a.2.2) (fuel, x2, 0) ⟨Nat.le_refl _, hF0, by simp⟩ ?_
 clear hF0
 rintro ⟨fu, g1, g2⟩ ⟨hl3, hF1, hn_g2⟩
 dsimp only at hl3 hF1 hn_g2 ⊢
 obtain _ | fu := fu
 · rw [m_laws_heldStringS_l1] at hF1; cases hF1
 rw [m_laws_heldStringS_l1] at hF1
 refine awp_seq (awp_seq (awp_region ?_))
 refine s_mv ?_
 refine s_mv ?_
 refine s_lenT yU30 ?_
 refine s_lt ?_
 refine k_nil (k_seq ?_)
 refine w_cond hF1 ?_ ?_ <;> intro hc4 hF2
 refine awp_lenT 0 (fun hb5 => ?_)
 refine awp_skip (k_seq (awp_seq (awp_block (awp_seq (awp_seq ?_)))))
 refine awp_draw yMix (by kernel_rfl) ?_
 refine s_mv ?_
 refine s_mv ?_
 obtain ⟨v6, hv6, hF3⟩ := bind_some' hF2
 refine s_ixT rS hv6 rfl yE30 ?_
 refine s_ld1 yA9 ?_
 refine s_mv ?_
 obtain ⟨v7, hv7, hF4⟩ := bind_some' hF3
 refine s_pure [] (m_laws_markText_D_ok fu _ _ hv7) ?_
 refine s_neS ?_
 refine k_nilD (by kernel_rfl) ?_
 refine k_seq ?_
 refine w_cond hF4 ?_ ?_ <;> intro hc8 hF5
 refine awp_seq (awp_region ?_)
 refine s_as ?_
 refine k_nil (k_seq (awp_ret (k_seq_ret (k_blk_ret (k_seq_ret (k_rnd_ret2 (k_blk_ret (k_seq_ret (k_fin ?_)))))))))
 cases hF5
 exact ends_a [] [] Try.results19
 refine awp_skip (k_seq (awp_region ?_))
 refine s_mv ?_
 refine s_add rfl ?_
 refine s_as ?_
 refine k_nil (k_blk (k_seq (awp_region ?_)))
 refine s_mv ?_
 refine s_add (winc2 hc4 hb5 hn_g2) ?_
 refine s_as ?_
 refine k_nil ?_
 exact s_rn (fu, (w64 (g1 + 1)), (g2 + 1)) ⟨by first | omega | (dsimp only; omega), hF5, by first | omega | (dsimp only; omega)⟩
 refine awp_exit (k_seq_exit (k_rnd_exit2 (k_blk_exit (k_seq (awp_seq (awp_region ?_))))))
 refine s_mv ?_
 refine s_as ?_
 refine k_nil (k_seq (awp_ret (k_fin ?_)))
 cases hF2
 exact ends_a [] [] Try.results19
def m_impl_freeOf_f_AC (fuel : Nat) : Prop := ∀ (x1 : Core) (x2 : (List ByteArray)) (r : (List ByteArray)), m_impl_freeOf_f fuel x1 x2 = some r → AC Try.prog 67 [.ag [.t (.sc (.int .i64 x1.kind)), .t (.sc (.int .i64 x1.id)), .t (.sc (.str x1.name)), .t (.sc (.int .i64 x1.n)), .t (.sl (x1.ids.map rI)), .t (.sc (.int .i64 x1.data.kind)), .t (.sc (.str x1.data.name)), .t (.sc (.int .i64 x1.data.n)), .t (.sl (x1.data.scopes.map rI)), .t (.sl (x1.data.kids.map Form.row)), .t (.sl (x1.kids.map Core.row))], .ar 9301] (objs [(9301, .arr (x2.map rS) 9 false)]) (.ar 9200) (objs [(9301, .dead), (9200, .arr (r.map rS) 9 false)])
theorem m_impl_freeOf_f_st (fu : Nat) (ih_m_impl_freeOf_f : ∀ k, k ≤ fu → m_impl_freeOf_f_AC k) : m_impl_freeOf_f_AC (fu + 1) := by
 intro x1 x2 r hF0
 rw [m_impl_freeOf_f] at hF0
 refine AC_i [.ar 9200] Try.func67 rfl Try.ntmps67 ?_
 intro C hC
 refine awp_seq (awp_region ?_)
 refine s_box ?_
 refine s_as ?_
 refine k_nil (k_seq (awp_seq (awp_seq (awp_region ?_))))
 refine s_fa yF37_0 ?_
 refine s_ld1 yA3 ?_
 refine s_eq ?_
 refine s_mv ?_
 refine w_guard _ 10 hF0 ?_ ?_ <;> intro hc1 hF1
 refine s_mv ?_
 refine s_fa yF37_2 ?_
 refine s_ld1 yA9 ?_
 obtain ⟨v2, hv2, hF2⟩ := bind_some' hF1
 refine s_pure [9301] (m_slices_Contains_string_ok fu _ _ _ hv2) ?_
 refine s_not ?_
 refine s_pkt ?_
 refine k_nil (k_seq ?_)
 refine w_cond hF2 ?_ ?_ <;> intro hc3 hF3
 refine awp_region ?_
 refine s_mv ?_
 refine s_fa yF37_2 ?_
 refine s_ld1 yA9 ?_
 refine s_bs rS [x1.name] yP30 yR9 ?_
 obtain ⟨hk4, hF4⟩ := chk_some hF3
 refine s_apF rS (fun _ => rfl) hk4 yP30 ?_
 refine s_as ?_
 refine k_nil (k_seq (awp_seq (awp_seq (awp_region ?_))))
 refine s_fa yF37_6 ?_
 refine s_ld1 yA35 ?_
 refine s_lenT yU35 ?_
 refine s_mv ?_
 refine k_nil (k_seq (awp_block ?_))
 refine awp_mv 1 21 5020 (by conv => lhs; whnf) (by conv => lhs; whnf) rfl ?_
 refine awp_frame2 [1, 6, 25, 26, 27, 28, 29, 30, 31, 32] [5020] [6, 12031] [5020] (fun a : Nat × (List ByteArray) × Int => a.1) (fun a : Nat × (List ByteArray) × Int => [(1, .ar 5020), (25, .t (.sc (.int .i64 a.2.2)))]) (fun a : Nat × (List ByteArray) × Int => [(5020, .arr (a.2.1.map rS) 9 false)]) (fun a : Nat × (List ByteArray) × Int => a.1 ≤ fu ∧ m_impl_freeOf_f_l1 a.1 x1 a.2.1 a.2.2 = some r ∧ 0 ≤ a.2.2) (fu, (x2 ++ [x1.name]), 0) ⟨Nat.le_refl _, hF4, by simp⟩ (by rfl) (by rfl) (fun _ => rfl) (hasF_cons (by conv => lhs; whnf) (by rfl) (hasF_cons (by conv => lhs; whnf) (by rfl) hasF_nil)) (hasO_cons (by conv => lhs; whnf) (by rfl) hasO_nil) (fresh_C hC rfl) (by repeat (first | exact freshS_args rfl | refine freshS_upd rfl ?_ | refine freshS_frame rfl ?_)) (by repeat (first | exact freshM_no | exact objs_fresh rfl | refine freshM_upd rfl ?_ | refine freshM_frame rfl ?_)) ?_
 clear hF4
 rintro ⟨fu, g5, g6⟩ ⟨hl7, hF5, hn_g6⟩
 dsimp only at hl7 hF5 hn_g6 ⊢
 obtain _ | fu := fu
 · rw [m_impl_freeOf_f_l1] at hF5; cases hF5
 rw [m_impl_freeOf_f_l1] at hF5
 refine awp_seq (awp_region ?_)
 refine s_lt ?_
 refine k_nil (k_seq (awp_seq ?_))
 refine w_cond hF5 ?_ ?_ <;> intro hc8 hF6
 refine awp_lenT 23 (fun hb9 => ?_)
 refine awp_skip (k_seq (awp_seq (awp_block (awp_seq (awp_region ?_)))))
 obtain ⟨v10, hv10, hF7⟩ := bind_some' hF6
 refine s_ixT Core.row hv10 (Core.row_eq _) yE35 ?_
 refine s_ldN yA37 yS37 ?_
 refine s_alloc yZ37 ?_
 refine s_stW yS37 ?_
 refine k_nil (k_seq (awp_region ?_))
 refine s_ldW yA37 yS37 ?_
 refine s_mv ?_
 obtain ⟨v11, hv11, hF8⟩ := bind_some' hF7
 refine s_call [(9301, 5020), (9200, 12031)] [] _ _ (ih_m_impl_freeOf_f fu (by omega) _ _ _ hv11) ?_
 refine s_as ?_
 refine k_nil (k_blk (k_seq (awp_region ?_)))
 refine s_add (winc2 hc8 hb9 hn_g6) ?_
 refine s_mv ?_
 refine k_nil ?_
 exact s_rn (fu, v11, (g6 + 1)) ⟨by first | omega | (dsimp only; omega), hF8, by first | omega | (dsimp only; omega)⟩ [(5020, 12031)]
 refine awp_exit (k_seq_exit (k_rnd_exit2 (k_blk_exit (k_seq (awp_seq (awp_region ?_))))))
 refine s_mv ?_
 refine s_as ?_
 refine k_nil (k_seq ?_)
 refine awp_mv 4 5020 9200 (by conv => lhs; whnf) (by conv => lhs; whnf) rfl ?_
 refine awp_kill 9301 rfl ?_
 refine awp_ret (k_fin ?_)
 cases hF6
 exact ends_a _ [] Try.results67
 refine awp_skip (k_seq (awp_seq (awp_seq (awp_region ?_))))
 refine s_fa yF37_6 ?_
 refine s_ld1 yA35 ?_
 refine s_lenT yU35 ?_
 refine s_mv ?_
 refine k_nil (k_seq (awp_block ?_))
 refine awp_mv 1 9301 5040 (by conv => lhs; whnf) (by conv => lhs; whnf) rfl ?_
 refine awp_frame2 [1, 6, 25, 26, 27, 28, 29, 30, 31, 32] [5040] [6, 12031] [5040] (fun a : Nat × (List ByteArray) × Int => a.1) (fun a : Nat × (List ByteArray) × Int => [(1, .ar 5040), (25, .t (.sc (.int .i64 a.2.2)))]) (fun a : Nat × (List ByteArray) × Int => [(5040, .arr (a.2.1.map rS) 9 false)]) (fun a : Nat × (List ByteArray) × Int => a.1 ≤ fu ∧ m_impl_freeOf_f_l1 a.1 x1 a.2.1 a.2.2 = some r ∧ 0 ≤ a.2.2) (fu, x2, 0) ⟨Nat.le_refl _, hF3, by simp⟩ (by rfl) (by rfl) (fun _ => rfl) (hasF_cons (by conv => lhs; whnf) (by rfl) (hasF_cons (by conv => lhs; whnf) (by rfl) hasF_nil)) (hasO_cons (by conv => lhs; whnf) (by rfl) hasO_nil) (fresh_C hC rfl) (by repeat (first | exact freshS_args rfl | refine freshS_upd rfl ?_ | refine freshS_frame rfl ?_)) (by repeat (first | exact freshM_no | exact objs_fresh rfl | refine freshM_upd rfl ?_ | refine freshM_frame rfl ?_)) ?_
 clear hF3
 rintro ⟨fu, g12, g13⟩ ⟨hl14, hF4, hn_g13⟩
 dsimp only at hl14 hF4 hn_g13 ⊢
 obtain _ | fu := fu
 · rw [m_impl_freeOf_f_l1] at hF4; cases hF4
 rw [m_impl_freeOf_f_l1] at hF4
 refine awp_seq (awp_region ?_)
 refine s_lt ?_
 refine k_nil (k_seq (awp_seq ?_))
 refine w_cond hF4 ?_ ?_ <;> intro hc15 hF5
 refine awp_lenT 23 (fun hb16 => ?_)
 refine awp_skip (k_seq (awp_seq (awp_block (awp_seq (awp_region ?_)))))
 obtain ⟨v17, hv17, hF6⟩ := bind_some' hF5
 refine s_ixT Core.row hv17 (Core.row_eq _) yE35 ?_
 refine s_ldN yA37 yS37 ?_
 refine s_alloc yZ37 ?_
 refine s_stW yS37 ?_
 refine k_nil (k_seq (awp_region ?_))
 refine s_ldW yA37 yS37 ?_
 refine s_mv ?_
 obtain ⟨v18, hv18, hF7⟩ := bind_some' hF6
 refine s_call [(9301, 5040), (9200, 12031)] [] _ _ (ih_m_impl_freeOf_f fu (by omega) _ _ _ hv18) ?_
 refine s_as ?_
 refine k_nil (k_blk (k_seq (awp_region ?_)))
 refine s_add (winc2 hc15 hb16 hn_g13) ?_
 refine s_mv ?_
 refine k_nil ?_
 exact s_rn (fu, v18, (g13 + 1)) ⟨by first | omega | (dsimp only; omega), hF7, by first | omega | (dsimp only; omega)⟩ [(5040, 12031)]
 refine awp_exit (k_seq_exit (k_rnd_exit2 (k_blk_exit (k_seq (awp_seq (awp_region ?_))))))
 refine s_mv ?_
 refine s_as ?_
 refine k_nil (k_seq ?_)
 refine awp_mv 4 5040 9200 (by conv => lhs; whnf) (by conv => lhs; whnf) rfl ?_
 refine awp_ret (k_fin ?_)
 cases hF5
 exact ends_a _ [] Try.results67
 iterate 5 refine r_no rfl ?_
 refine s_pkf ?_
 refine k_nil (k_seq (awp_false rfl (awp_skip (k_seq (awp_seq (awp_seq (awp_region ?_)))))))
 refine s_fa yF37_6 ?_
 refine s_ld1 yA35 ?_
 refine s_lenT yU35 ?_
 refine s_mv ?_
 refine k_nil (k_seq (awp_block ?_))
 refine awp_mv 1 9301 5060 (by conv => lhs; whnf) (by conv => lhs; whnf) rfl ?_
 refine awp_frame2 [1, 6, 25, 26, 27, 28, 29, 30, 31, 32] [5060] [6, 12031] [5060] (fun a : Nat × (List ByteArray) × Int => a.1) (fun a : Nat × (List ByteArray) × Int => [(1, .ar 5060), (25, .t (.sc (.int .i64 a.2.2)))]) (fun a : Nat × (List ByteArray) × Int => [(5060, .arr (a.2.1.map rS) 9 false)]) (fun a : Nat × (List ByteArray) × Int => a.1 ≤ fu ∧ m_impl_freeOf_f_l1 a.1 x1 a.2.1 a.2.2 = some r ∧ 0 ≤ a.2.2) (fu, x2, 0) ⟨Nat.le_refl _, hF1, by simp⟩ (by rfl) (by rfl) (fun _ => rfl) (hasF_cons (by conv => lhs; whnf) (by rfl) (hasF_cons (by conv => lhs; whnf) (by rfl) hasF_nil)) (hasO_cons (by conv => lhs; whnf) (by rfl) hasO_nil) (fresh_C hC rfl) (by repeat (first | exact freshS_args rfl | refine freshS_upd rfl ?_ | refine freshS_frame rfl ?_)) (by repeat (first | exact freshM_no | exact objs_fresh rfl | refine freshM_upd rfl ?_ | refine freshM_frame rfl ?_)) ?_
 clear hF1
 rintro ⟨fu, g19, g20⟩ ⟨hl21, hF2, hn_g20⟩
 dsimp only at hl21 hF2 hn_g20 ⊢
 obtain _ | fu := fu
 · rw [m_impl_freeOf_f_l1] at hF2; cases hF2
 rw [m_impl_freeOf_f_l1] at hF2
 refine awp_seq (awp_region ?_)
 refine s_lt ?_
 refine k_nil (k_seq (awp_seq ?_))
 refine w_cond hF2 ?_ ?_ <;> intro hc22 hF3
 refine awp_lenT 23 (fun hb23 => ?_)
 refine awp_skip (k_seq (awp_seq (awp_block (awp_seq (awp_region ?_)))))
 obtain ⟨v24, hv24, hF4⟩ := bind_some' hF3
 refine s_ixT Core.row hv24 (Core.row_eq _) yE35 ?_
 refine s_ldN yA37 yS37 ?_
 refine s_alloc yZ37 ?_
 refine s_stW yS37 ?_
 refine k_nil (k_seq (awp_region ?_))
 refine s_ldW yA37 yS37 ?_
 refine s_mv ?_
 obtain ⟨v25, hv25, hF5⟩ := bind_some' hF4
 refine s_call [(9301, 5060), (9200, 12031)] [] _ _ (ih_m_impl_freeOf_f fu (by omega) _ _ _ hv25) ?_
 refine s_as ?_
 refine k_nil (k_blk (k_seq (awp_region ?_)))
 refine s_add (winc2 hc22 hb23 hn_g20) ?_
 refine s_mv ?_
 refine k_nil ?_
 exact s_rn (fu, v25, (g20 + 1)) ⟨by first | omega | (dsimp only; omega), hF5, by first | omega | (dsimp only; omega)⟩ [(5060, 12031)]
 refine awp_exit (k_seq_exit (k_rnd_exit2 (k_blk_exit (k_seq (awp_seq (awp_region ?_))))))
 refine s_mv ?_
 refine s_as ?_
 refine k_nil (k_seq ?_)
 refine awp_mv 4 5060 9200 (by conv => lhs; whnf) (by conv => lhs; whnf) rfl ?_
 refine awp_ret (k_fin ?_)
 cases hF3
 exact ends_a _ [] Try.results67
theorem m_impl_freeOf_f_all (fuel : Nat) : m_impl_freeOf_f_AC fuel := by
 induction fuel using Nat.strongRecOn with
 | _ N ih =>
   cases N with
   | zero => exact (by intro x1 x2 r h; rw [m_impl_freeOf_f] at h; cases h)
   | succ fu => exact m_impl_freeOf_f_st fu (fun k hk => (ih k (by omega)))
theorem m_impl_freeOf_f_ok (fuel : Nat) : m_impl_freeOf_f_AC fuel := (m_impl_freeOf_f_all fuel)
def m_impl_freeOf_n_AC (fuel : Nat) : Prop := ∀ (x1 : Core) (r : (List ByteArray)), m_impl_freeOf_n fuel x1 = some r → AC Try.prog 67 [.ag [.t (.sc (.int .i64 x1.kind)), .t (.sc (.int .i64 x1.id)), .t (.sc (.str x1.name)), .t (.sc (.int .i64 x1.n)), .t (.sl (x1.ids.map rI)), .t (.sc (.int .i64 x1.data.kind)), .t (.sc (.str x1.data.name)), .t (.sc (.int .i64 x1.data.n)), .t (.sl (x1.data.scopes.map rI)), .t (.sl (x1.data.kids.map Form.row)), .t (.sl (x1.kids.map Core.row))], .nl] (objs []) (.ar 9200) (objs [(9200, .arr (r.map rS) 9 false)])
theorem m_impl_freeOf_n_ok (fuel : Nat) : m_impl_freeOf_n_AC fuel := by
 intro x1 r hF0
 unfold m_impl_freeOf_n at hF0
 refine AC_i [.ar 9200] Try.func67 rfl Try.ntmps67 ?_
 intro C hC
 refine awp_seq (awp_region ?_)
 refine s_box ?_
 refine s_as ?_
 refine k_nil (k_seq (awp_seq (awp_seq (awp_region ?_))))
 refine s_fa yF37_0 ?_
 refine s_ld1 yA3 ?_
 refine s_eq ?_
 refine s_mv ?_
 refine w_guard _ 10 hF0 ?_ ?_ <;> intro hc1 hF1
 refine s_mv ?_
 refine s_fa yF37_2 ?_
 refine s_ld1 yA9 ?_
 obtain ⟨v2, hv2, hF2⟩ := bind_some' hF1
 refine s_pure [] (m_slices_Contains_string_ok fuel _ _ _ hv2) ?_
 refine s_not ?_
 refine s_pkt ?_
 refine k_nil (k_seq ?_)
 refine w_cond hF2 ?_ ?_ <;> intro hc3 hF3
 refine awp_region ?_
 refine s_mv ?_
 refine s_fa yF37_2 ?_
 refine s_ld1 yA9 ?_
 refine s_bs rS [x1.name] yP30 yR9 ?_
 obtain ⟨hk4, hF4⟩ := chk_some hF3
 refine s_apN rS (fun _ => rfl) hk4 yP30 ?_
 refine s_as ?_
 refine k_nil (k_seq (awp_seq (awp_seq (awp_region ?_))))
 refine s_fa yF37_6 ?_
 refine s_ld1 yA35 ?_
 refine s_lenT yU35 ?_
 refine s_mv ?_
 refine k_nil (k_seq (awp_block ?_))
 refine awp_mv 1 21 5020 (by conv => lhs; whnf) (by conv => lhs; whnf) rfl ?_
 refine awp_frz 5020 (by conv => lhs; whnf) ?_
 refine awp_frame2 [1, 6, 25, 26, 27, 28, 29, 30, 31, 32] [5020] [6, 12031] [5020] (fun a : Nat × (List ByteArray) × Int => a.1) (fun a : Nat × (List ByteArray) × Int => [(1, .ar 5020), (25, .t (.sc (.int .i64 a.2.2)))]) (fun a : Nat × (List ByteArray) × Int => [(5020, .arr (a.2.1.map rS) 9 false)]) (fun a : Nat × (List ByteArray) × Int => a.1 ≤ fuel ∧ m_impl_freeOf_f_l1 a.1 x1 a.2.1 a.2.2 = some r ∧ 0 ≤ a.2.2) (fuel, [x1.name], 0) ⟨Nat.le_refl _, hF4, by simp⟩ (by rfl) (by rfl) (fun _ => rfl) (hasF_cons (by conv => lhs; whnf) (by rfl) (hasF_cons (by conv => lhs; whnf) (by rfl) hasF_nil)) (hasO_cons (by conv => lhs; whnf) (by rfl) hasO_nil) (fresh_C hC rfl) (by repeat (first | exact freshS_args rfl | refine freshS_upd rfl ?_ | refine freshS_frame rfl ?_)) (by repeat (first | exact freshM_no | exact objs_fresh rfl | refine freshM_upd rfl ?_ | refine freshM_frame rfl ?_)) ?_
 clear hF4
 rintro ⟨fu, g5, g6⟩ ⟨hl7, hF5, hn_g6⟩
 dsimp only at hl7 hF5 hn_g6 ⊢
 obtain _ | fu := fu
 · rw [m_impl_freeOf_f_l1] at hF5; cases hF5
 rw [m_impl_freeOf_f_l1] at hF5
 refine awp_seq (awp_region ?_)
 refine s_lt ?_
 refine k_nil (k_seq (awp_seq ?_))
 refine w_cond hF5 ?_ ?_ <;> intro hc8 hF6
 refine awp_lenT 23 (fun hb9 => ?_)
 refine awp_skip (k_seq (awp_seq (awp_block (awp_seq (awp_region ?_)))))
 obtain ⟨v10, hv10, hF7⟩ := bind_some' hF6
 refine s_ixT Core.row hv10 (Core.row_eq _) yE35 ?_
 refine s_ldN yA37 yS37 ?_
 refine s_alloc yZ37 ?_
 refine s_stW yS37 ?_
 refine k_nil (k_seq (awp_region ?_))
 refine s_ldW yA37 yS37 ?_
 refine s_mv ?_
 obtain ⟨v11, hv11, hF8⟩ := bind_some' hF7
 refine s_call [(9301, 5020), (9200, 12031)] [] _ _ (m_impl_freeOf_f_ok fu _ _ _ hv11) ?_
 refine s_as ?_
 refine k_nil (k_blk (k_seq (awp_region ?_)))
 refine s_add (winc2 hc8 hb9 hn_g6) ?_
 refine s_mv ?_
 refine k_nil ?_
 exact s_rn (fu, v11, (g6 + 1)) ⟨by first | omega | (dsimp only; omega), hF8, by first | omega | (dsimp only; omega)⟩ [(5020, 12031)]
 refine awp_exit (k_seq_exit (k_rnd_exit2 (k_blk_exit (k_seq (awp_seq (awp_region ?_))))))
 refine s_mv ?_
 refine s_as ?_
 refine k_nil (k_seq ?_)
 refine awp_mv 4 5020 9200 (by conv => lhs; whnf) (by conv => lhs; whnf) rfl ?_
 refine awp_ret (k_fin ?_)
 cases hF6
 exact ends_a _ [] Try.results67
 refine awp_skip (k_seq (awp_seq (awp_seq (awp_region ?_))))
 refine s_fa yF37_6 ?_
 refine s_ld1 yA35 ?_
 refine s_lenT yU35 ?_
 refine s_mv ?_
 refine k_nil (k_seq (awp_block ?_))
 refine awp_own 1 5040 9 yI9.choose_spec ?_
 refine awp_frz 5040 (by conv => lhs; whnf) ?_
 refine awp_frame2 [1, 6, 25, 26, 27, 28, 29, 30, 31, 32] [5040] [6, 12031] [5040] (fun a : Nat × (List ByteArray) × Int => a.1) (fun a : Nat × (List ByteArray) × Int => [(1, .ar 5040), (25, .t (.sc (.int .i64 a.2.2)))]) (fun a : Nat × (List ByteArray) × Int => [(5040, .arr (a.2.1.map rS) 9 false)]) (fun a : Nat × (List ByteArray) × Int => a.1 ≤ fuel ∧ m_impl_freeOf_f_l1 a.1 x1 a.2.1 a.2.2 = some r ∧ 0 ≤ a.2.2) (fuel, ([] : List ByteArray), 0) ⟨Nat.le_refl _, hF3, by simp⟩ (by rfl) (by rfl) (fun _ => rfl) (hasF_cons (by conv => lhs; whnf) (by rfl) (hasF_cons (by conv => lhs; whnf) (by rfl) hasF_nil)) (hasO_cons (by conv => lhs; whnf) (by rfl) hasO_nil) (fresh_C hC rfl) (by repeat (first | exact freshS_args rfl | refine freshS_upd rfl ?_ | refine freshS_frame rfl ?_)) (by repeat (first | exact freshM_no | exact objs_fresh rfl | refine freshM_upd rfl ?_ | refine freshM_frame rfl ?_)) ?_
 clear hF3
 rintro ⟨fu, g12, g13⟩ ⟨hl14, hF4, hn_g13⟩
 dsimp only at hl14 hF4 hn_g13 ⊢
 obtain _ | fu := fu
 · rw [m_impl_freeOf_f_l1] at hF4; cases hF4
 rw [m_impl_freeOf_f_l1] at hF4
 refine awp_seq (awp_region ?_)
 refine s_lt ?_
 refine k_nil (k_seq (awp_seq ?_))
 refine w_cond hF4 ?_ ?_ <;> intro hc15 hF5
 refine awp_lenT 23 (fun hb16 => ?_)
 refine awp_skip (k_seq (awp_seq (awp_block (awp_seq (awp_region ?_)))))
 obtain ⟨v17, hv17, hF6⟩ := bind_some' hF5
 refine s_ixT Core.row hv17 (Core.row_eq _) yE35 ?_
 refine s_ldN yA37 yS37 ?_
 refine s_alloc yZ37 ?_
 refine s_stW yS37 ?_
 refine k_nil (k_seq (awp_region ?_))
 refine s_ldW yA37 yS37 ?_
 refine s_mv ?_
 obtain ⟨v18, hv18, hF7⟩ := bind_some' hF6
 refine s_call [(9301, 5040), (9200, 12031)] [] _ _ (m_impl_freeOf_f_ok fu _ _ _ hv18) ?_
 refine s_as ?_
 refine k_nil (k_blk (k_seq (awp_region ?_)))
 refine s_add (winc2 hc15 hb16 hn_g13) ?_
 refine s_mv ?_
 refine k_nil ?_
 exact s_rn (fu, v18, (g13 + 1)) ⟨by first | omega | (dsimp only; omega), hF7, by first | omega | (dsimp only; omega)⟩ [(5040, 12031)]
 refine awp_exit (k_seq_exit (k_rnd_exit2 (k_blk_exit (k_seq (awp_seq (awp_region ?_))))))
 refine s_mv ?_
 refine s_as ?_
 refine k_nil (k_seq ?_)
 refine awp_mv 4 5040 9200 (by conv => lhs; whnf) (by conv => lhs; whnf) rfl ?_
 refine awp_ret (k_fin ?_)
 cases hF5
 exact ends_a _ [] Try.results67
 iterate 5 refine r_no rfl ?_
 refine s_pkf ?_
 refine k_nil (k_seq (awp_false rfl (awp_skip (k_seq (awp_seq (awp_seq (awp_region ?_)))))))
 refine s_fa yF37_6 ?_
 refine s_ld1 yA35 ?_
 refine s_lenT yU35 ?_
 refine s_mv ?_
 refine k_nil (k_seq (awp_block ?_))
 refine awp_own 1 5060 9 yI9.choose_spec ?_
 refine awp_frz 5060 (by conv => lhs; whnf) ?_
 refine awp_frame2 [1, 6, 25, 26, 27, 28, 29, 30, 31, 32] [5060] [6, 12031] [5060] (fun a : Nat × (List ByteArray) × Int => a.1) (fun a : Nat × (List ByteArray) × Int => [(1, .ar 5060), (25, .t (.sc (.int .i64 a.2.2)))]) (fun a : Nat × (List ByteArray) × Int => [(5060, .arr (a.2.1.map rS) 9 false)]) (fun a : Nat × (List ByteArray) × Int => a.1 ≤ fuel ∧ m_impl_freeOf_f_l1 a.1 x1 a.2.1 a.2.2 = some r ∧ 0 ≤ a.2.2) (fuel, ([] : List ByteArray), 0) ⟨Nat.le_refl _, hF1, by simp⟩ (by rfl) (by rfl) (fun _ => rfl) (hasF_cons (by conv => lhs; whnf) (by rfl) (hasF_cons (by conv => lhs; whnf) (by rfl) hasF_nil)) (hasO_cons (by conv => lhs; whnf) (by rfl) hasO_nil) (fresh_C hC rfl) (by repeat (first | exact freshS_args rfl | refine freshS_upd rfl ?_ | refine freshS_frame rfl ?_)) (by repeat (first | exact freshM_no | exact objs_fresh rfl | refine freshM_upd rfl ?_ | refine freshM_frame rfl ?_)) ?_
 clear hF1
 rintro ⟨fu, g19, g20⟩ ⟨hl21, hF2, hn_g20⟩
 dsimp only at hl21 hF2 hn_g20 ⊢
 obtain _ | fu := fu
 · rw [m_impl_freeOf_f_l1] at hF2; cases hF2
 rw [m_impl_freeOf_f_l1] at hF2
 refine awp_seq (awp_region ?_)
 refine s_lt ?_
 refine k_nil (k_seq (awp_seq ?_))
 refine w_cond hF2 ?_ ?_ <;> intro hc22 hF3
 refine awp_lenT 23 (fun hb23 => ?_)
 refine awp_skip (k_seq (awp_seq (awp_block (awp_seq (awp_region ?_)))))
 obtain ⟨v24, hv24, hF4⟩ := bind_some' hF3
 refine s_ixT Core.row hv24 (Core.row_eq _) yE35 ?_
 refine s_ldN yA37 yS37 ?_
 refine s_alloc yZ37 ?_
 refine s_stW yS37 ?_
 refine k_nil (k_seq (awp_region ?_))
 refine s_ldW yA37 yS37 ?_
 refine s_mv ?_
 obtain ⟨v25, hv25, hF5⟩ := bind_some' hF4
 refine s_call [(9301, 5060), (9200, 12031)] [] _ _ (m_impl_freeOf_f_ok fu _ _ _ hv25) ?_
 refine s_as ?_
 refine k_nil (k_blk (k_seq (awp_region ?_)))
 refine s_add (winc2 hc22 hb23 hn_g20) ?_
 refine s_mv ?_
 refine k_nil ?_
 exact s_rn (fu, v25, (g20 + 1)) ⟨by first | omega | (dsimp only; omega), hF5, by first | omega | (dsimp only; omega)⟩ [(5060, 12031)]
 refine awp_exit (k_seq_exit (k_rnd_exit2 (k_blk_exit (k_seq (awp_seq (awp_region ?_))))))
 refine s_mv ?_
 refine s_as ?_
 refine k_nil (k_seq ?_)
 refine awp_mv 4 5060 9200 (by conv => lhs; whnf) (by conv => lhs; whnf) rfl ?_
 refine awp_ret (k_fin ?_)
 cases hF3
 exact ends_a _ [] Try.results67
def m_impl_FreeOf_AC (fuel : Nat) : Prop := ∀ (x1 : Core) (r : (List ByteArray)), m_impl_FreeOf fuel x1 = some r → AC Try.prog 14 [.ag [.t (.sc (.int .i64 x1.kind)), .t (.sc (.int .i64 x1.id)), .t (.sc (.str x1.name)), .t (.sc (.int .i64 x1.n)), .t (.sl (x1.ids.map rI)), .t (.sc (.int .i64 x1.data.kind)), .t (.sc (.str x1.data.name)), .t (.sc (.int .i64 x1.data.n)), .t (.sl (x1.data.scopes.map rI)), .t (.sl (x1.data.kids.map Form.row)), .t (.sl (x1.kids.map Core.row))]] noOb (.t (.sl (r.map rS))) noOb
theorem m_impl_FreeOf_ok (fuel : Nat) : m_impl_FreeOf_AC fuel := by
 intro x1 r hF0
 unfold m_impl_FreeOf at hF0
 refine AC_i [.t (.sl (r.map rS))] Try.func14 rfl Try.ntmps14 ?_
 intro C hC
 refine awp_seq (awp_region ?_)
 refine s_box ?_
 refine s_as ?_
 refine k_nil (k_seq (awp_seq (awp_region ?_)))
 refine s_ldW yA37 yS37 ?_
 obtain ⟨v1, hv1, hF1⟩ := bind_some' hF0
 refine s_call [(9200, 2004)] [] _ _ (m_impl_freeOf_n_ok fuel _ _ hv1) ?_
 refine s_as ?_
 refine k_nil (k_seq (awp_ret (k_fin ?_)))
 cases hF1
 exact ends_a [] [2004] Try.results14
def m_laws_FnExactFreeOf_AC (fuel : Nat) : Prop := ∀ (x1 : Core) (r : Bool), m_laws_FnExactFreeOf fuel x1 = some r → AC Try.prog 3 [.ag [.t (.sc (.int .i64 x1.kind)), .t (.sc (.int .i64 x1.id)), .t (.sc (.str x1.name)), .t (.sc (.int .i64 x1.n)), .t (.sl (x1.ids.map rI)), .t (.sc (.int .i64 x1.data.kind)), .t (.sc (.str x1.data.name)), .t (.sc (.int .i64 x1.data.n)), .t (.sl (x1.data.scopes.map rI)), .t (.sl (x1.data.kids.map Form.row)), .t (.sl (x1.kids.map Core.row))]] noOb (.t (.sc (.bool r))) noOb
theorem m_laws_FnExactFreeOf_ok (fuel : Nat) : m_laws_FnExactFreeOf_AC fuel := by
 intro x1 r hF0
 unfold m_laws_FnExactFreeOf at hF0
 refine AC_i [.t (.sc (.bool r))] Try.func3 rfl Try.ntmps3 ?_
 intro C hC
 refine awp_seq (awp_region ?_)
 refine s_box ?_
 refine s_as ?_
 refine k_nil (k_seq (awp_seq (awp_region ?_)))
 refine s_as ?_
 refine k_nil (k_seq (awp_seq (awp_region ?_)))
 refine s_ldW yA28 yS28 ?_
 refine s_mv ?_
 obtain ⟨v1, hv1, hF1⟩ := bind_some' hF0
 refine s_pure [] (m_laws_szCore_ok fuel _ _ _ hv1) ?_
 refine s_as ?_
 refine k_nil (k_seq (awp_seq (awp_seq (awp_region ?_))))
 refine s_mv ?_
 refine s_lt ?_
 refine k_nil (k_seq ?_)
 refine w_cond hF1 ?_ ?_ <;> intro hc2 hF2
 refine awp_seq (awp_region ?_)
 refine s_as ?_
 refine k_nil (k_seq (awp_ret (k_seq_ret (k_fin ?_))))
 cases hF2
 exact ends_a [] [] Try.results3
 refine awp_skip (k_seq (awp_seq (awp_region ?_)))
 refine s_ldW yA28 yS28 ?_
 obtain ⟨v3, hv3, hF3⟩ := bind_some' hF2
 refine s_pure [] (m_laws_toCore_ok fuel _ _ hv3) ?_
 obtain ⟨v4, hv4, hF4⟩ := bind_some' hF3
 refine s_pure [] (m_spec_FreeOf_ok fuel _ _ hv4) ?_
 refine s_as ?_
 refine k_nil (k_seq (awp_seq (awp_region ?_)))
 refine s_ldW yA28 yS28 ?_
 obtain ⟨v5, hv5, hF5⟩ := bind_some' hF4
 refine s_call [(9204, 2020), (9208, 12020), (9209, 22020), (9210, 32020)] [] _ _ (m_laws_toCore_D_ok fuel _ _ hv5) ?_
 refine s_alloc yZ37 ?_
 refine s_stW yS37 ?_
 refine k_nil (k_seq (awp_seq (awp_region ?_)))
 refine s_ldW yA37 yS37 ?_
 obtain ⟨v6, hv6, hF6⟩ := bind_some' hF5
 refine s_call [(9700, 2020), (9701, 12020), (9702, 22020), (9703, 32020), (9200, 2022)] [] [(9700, .arr (v5.ids.map rI) 3 true), (9701, .arr (v5.data.scopes.map rI) 3 true), (9702, .dar (v5.data.kids.map (Form.rowD 3 34)) 34), (9703, .dar (v5.kids.map (Core.rowD 3 34 37)) 37)] [(9700, .arr (v5.ids.map rI) 3 true), (9701, .arr (v5.data.scopes.map rI) 3 true), (9702, .dar (v5.data.kids.map (Form.rowD 3 34)) 34), (9703, .dar (v5.kids.map (Core.rowD 3 34 37)) 37), (9200, .arr (v6.map rS) 9 true)] (ac_lend (args := [.ag [.t (.sc (.int .i64 v5.kind)), .t (.sc (.int .i64 v5.id)), .t (.sc (.str v5.name)), .t (.sc (.int .i64 v5.n)), .ar 9700, .t (.sc (.int .i64 v5.data.kind)), .t (.sc (.str v5.data.name)), .t (.sc (.int .i64 v5.data.n)), .ar 9701, .ar 9702, .ar 9703]]) [(9700, .arr (v5.ids.map rI) 3 true), (9701, .arr (v5.data.scopes.map rI) 3 true), (9702, .dar (v5.data.kids.map (Form.rowD 3 34)) 34), (9703, .dar (v5.kids.map (Core.rowD 3 34 37)) 37)] [(9200, .arr (v6.map rS) 9 true)] (m_impl_FreeOf_d_D_ok fuel _ _ hv6) rfl (by simp only [V.lendL, V.lend, objs_cons, objs_nil, Nat.reduceEqDiff, reduceIte, if_true, if_false, Form.lendM, Core.lendM, Hit.lendM, Rule.lendM, Bind.lendM, Macro.lendM]; try rfl) (by rfl) (by rfl) (by rfl) (by rfl) (by simp only [List.all_cons, List.all_nil, Ob.flat, flat_rI, flat_rS, Form.flatM, Core.flatM, Hit.flatM, Rule.flatM, Bind.flatM, Macro.flatM, Bool.and_self, Bool.true_and]) (by rfl)) ?_
 refine s_as ?_
 refine k_nil (k_seq (awp_seq (awp_seq (awp_region ?_))))
 refine s_mv ?_
 refine s_mv ?_
 obtain ⟨v7, hv7, hF7⟩ := bind_some' hF6
 refine s_call [(9700, 2022)] [] [(9700, .arr (v6.map rS) 9 true)] [(9700, .arr (v6.map rS) 9 true)] (ac_lend (args := [.ar 9700, .t (.sl (v4.map rS))]) [(9700, .arr (v6.map rS) 9 true)] [] (m_laws_eqStringS_ok fuel _ _ _ hv7) rfl (by simp only [V.lendL, V.lend, objs_cons, objs_nil, Nat.reduceEqDiff, reduceIte, if_true, if_false, Form.lendM, Core.lendM, Hit.lendM, Rule.lendM, Bind.lendM, Macro.lendM]; try rfl) (by rfl) (by rfl) (by rfl) (by rfl) (by simp only [List.all_cons, List.all_nil, Ob.flat, flat_rI, flat_rS, Form.flatM, Core.flatM, Hit.flatM, Rule.flatM, Bind.flatM, Macro.flatM, Bool.and_self, Bool.true_and]) (by rfl)) ?_
 refine s_not ?_
 refine k_nil (k_seq ?_)
 refine w_cond hF7 ?_ ?_ <;> intro hc8 hF8
 refine awp_seq (awp_region ?_)
 refine s_as ?_
 refine k_nil (k_seq (awp_ret (k_seq_ret (k_fin ?_))))
 cases hF8
 exact ends_a [] [] Try.results3
 refine awp_skip (k_seq (awp_seq (awp_seq ?_)))
 refine awp_draw yMix (by kernel_rfl) ?_
 refine s_ldW yA37 yS37 ?_
 refine s_ldW yA28 yS28 ?_
 obtain ⟨v9, hv9, hF9⟩ := bind_some' hF8
 refine s_pure [] (m_laws_toCore_ok fuel _ _ hv9) ?_
 obtain ⟨v10, hv10, hF10⟩ := bind_some' hF9
 refine s_call [(9700, 2020), (9701, 12020), (9702, 22020), (9703, 32020)] [] [(9700, .arr (v5.ids.map rI) 3 true), (9701, .arr (v5.data.scopes.map rI) 3 true), (9702, .dar (v5.data.kids.map (Form.rowD 3 34)) 34), (9703, .dar (v5.kids.map (Core.rowD 3 34 37)) 37)] [(9700, .arr (v5.ids.map rI) 3 true), (9701, .arr (v5.data.scopes.map rI) 3 true), (9702, .dar (v5.data.kids.map (Form.rowD 3 34)) 34), (9703, .dar (v5.kids.map (Core.rowD 3 34 37)) 37)] (ac_lend (args := [.ag [.t (.sc (.int .i64 v5.kind)), .t (.sc (.int .i64 v5.id)), .t (.sc (.str v5.name)), .t (.sc (.int .i64 v5.n)), .ar 9700, .t (.sc (.int .i64 v5.data.kind)), .t (.sc (.str v5.data.name)), .t (.sc (.int .i64 v5.data.n)), .ar 9701, .ar 9702, .ar 9703], .ag [.t (.sc (.int .i64 v9.kind)), .t (.sc (.int .i64 v9.id)), .t (.sc (.str v9.name)), .t (.sc (.int .i64 v9.n)), .t (.sl (v9.ids.map rI)), .t (.sc (.int .i64 v9.data.kind)), .t (.sc (.str v9.data.name)), .t (.sc (.int .i64 v9.data.n)), .t (.sl (v9.data.scopes.map rI)), .t (.sl (v9.data.kids.map Form.row)), .t (.sl (v9.kids.map Core.row))]]) [(9700, .arr (v5.ids.map rI) 3 true), (9701, .arr (v5.data.scopes.map rI) 3 true), (9702, .dar (v5.data.kids.map (Form.rowD 3 34)) 34), (9703, .dar (v5.kids.map (Core.rowD 3 34 37)) 37)] [] (m_laws_eqCore_ok fuel _ _ _ hv10) rfl (by simp only [V.lendL, V.lend, objs_cons, objs_nil, Nat.reduceEqDiff, reduceIte, if_true, if_false, Form.lendM, Core.lendM, Hit.lendM, Rule.lendM, Bind.lendM, Macro.lendM]; try rfl) (by rfl) (by rfl) (by rfl) (by rfl) (by simp only [List.all_cons, List.all_nil, Ob.flat, flat_rI, flat_rS, Form.flatM, Core.flatM, Hit.flatM, Rule.flatM, Bind.flatM, Macro.flatM, Bool.and_self, Bool.true_and]) (by rfl)) ?_
 refine s_not ?_
 refine k_nilD (by kernel_rfl) ?_
 refine k_seq ?_
 refine w_cond hF10 ?_ ?_ <;> intro hc11 hF11
 refine awp_seq (awp_region ?_)
 refine s_as ?_
 refine k_nil (k_seq (awp_ret (k_seq_ret (k_fin ?_))))
 cases hF11
 exact ends_a [] [] Try.results3
 refine awp_skip (k_seq (awp_seq (awp_region ?_)))
 refine s_as ?_
 refine k_nil (k_seq (awp_seq (awp_region ?_)))
 refine s_ldW yA37 yS37 ?_
 refine s_mv ?_
 obtain ⟨v12, hv12, hF12⟩ := bind_some' hF11
 refine s_call [(9304, 2020), (9308, 12020), (9309, 22020), (9310, 32020)] [] _ _ (m_laws_markCore_D_ok fuel _ _ _ hv12) ?_
 refine s_as ?_
 refine k_nil (k_seq (awp_seq ?_))
 refine awp_jn (α := Nat × Bool) [35, 36, 37, 38, 39, 40, 41, 42] [] [] (fun a => [(42, .t (.sc (.bool a.2)))]) (fun a => []) (fun a => a.1 ≤ fuel ∧ m_laws_FnExactFreeOf_j1 a.1 x1 v4 v6 a.2 = some r) ?_ ?_
 refine awp_region ?_
 refine s_mv ?_
 refine s_lt ?_
 refine s_mv ?_
 refine w_guard _ 37 hF12 ?_ ?_ <;> intro hc13 hF13
 iterate 4 refine r_no rfl ?_
 refine s_pkt ?_
 refine k_nil ?_
 exact s_jn (fuel, true) ⟨by first | omega | (dsimp only; omega), hF13⟩
 refine s_mv ?_
 refine s_mv ?_
 obtain ⟨v14, hv14, hF14⟩ := bind_some' hF13
 refine s_call [(9700, 2022)] [] [(9700, .arr (v6.map rS) 9 true)] [(9700, .arr (v6.map rS) 9 true)] (ac_lend (args := [.ar 9700, .t (.sl (v4.map rS))]) [(9700, .arr (v6.map rS) 9 true)] [] (m_laws_eqStringS_ok fuel _ _ _ hv14) rfl (by simp only [V.lendL, V.lend, objs_cons, objs_nil, Nat.reduceEqDiff, reduceIte, if_true, if_false, Form.lendM, Core.lendM, Hit.lendM, Rule.lendM, Bind.lendM, Macro.lendM]; try rfl) (by rfl) (by rfl) (by rfl) (by rfl) (by simp only [List.all_cons, List.all_nil, Ob.flat, flat_rI, flat_rS, Form.flatM, Core.flatM, Hit.flatM, Rule.flatM, Bind.flatM, Macro.flatM, Bool.and_self, Bool.true_and]) (by rfl)) ?_
 refine s_not ?_
 refine s_pkf ?_
 refine k_nil ?_
 exact s_jn (fuel, (!v14)) ⟨by first | omega | (dsimp only; omega), hF14⟩
 clear hF12
 rintro ⟨fu, g15⟩ ⟨hl16, hF13⟩
 dsimp only at hl16 hF13 ⊢
 obtain _ | fu := fu
 · rw [m_laws_FnExactFreeOf_j1] at hF13; cases hF13
 rw [m_laws_FnExactFreeOf_j1] at hF13
 refine w_cond hF13 ?_ ?_ <;> intro hc17 hF14
 refine awp_seq (awp_region ?_)
 refine s_as ?_
 refine k_nil (k_seq (awp_ret (k_seq_ret (k_fin ?_))))
 cases hF14
 exact ends_a [] [] Try.results3
 refine awp_skip (k_seq (awp_seq (awp_region ?_)))
 refine s_as ?_
 refine k_nil (k_seq (awp_seq (awp_region ?_)))
 refine s_mv ?_
 refine s_mv ?_
 obtain ⟨v18, hv18, hF15⟩ := bind_some' hF14
 refine s_call [(9300, 2022)] [] _ _ (m_laws_markStringS_D_ok fu _ _ _ hv18) ?_
 refine s_as ?_
 refine k_nil (k_seq (awp_seq (awp_region ?_)))
 refine s_as ?_
 refine k_nil (k_seq (awp_seq (awp_region ?_)))
 refine s_mv ?_
 refine s_mv ?_
 obtain ⟨v19, hv19, hF16⟩ := bind_some' hF15
 refine s_call [(9700, 2022)] [] [(9700, .arr (v18.2.map rS) 9 true)] [(9700, .arr (v18.2.map rS) 9 true)] (ac_lend (args := [.ar 9700, .t (.sc (.int .i64 1))]) [(9700, .arr (v18.2.map rS) 9 true)] [] (m_laws_heldStringS_ok fu _ _ _ hv19) rfl (by simp only [V.lendL, V.lend, objs_cons, objs_nil, Nat.reduceEqDiff, reduceIte, if_true, if_false, Form.lendM, Core.lendM, Hit.lendM, Rule.lendM, Bind.lendM, Macro.lendM]; try rfl) (by rfl) (by rfl) (by rfl) (by rfl) (by simp only [List.all_cons, List.all_nil, Ob.flat, flat_rI, flat_rS, Form.flatM, Core.flatM, Hit.flatM, Rule.flatM, Bind.flatM, Macro.flatM, Bool.and_self, Bool.true_and]) (by rfl)) ?_
 refine s_as ?_
 refine k_nil (k_seq (awp_seq (awp_seq (awp_region ?_))))
 refine s_mv ?_
 refine s_lt ?_
 refine k_nil (k_seq ?_)
 refine w_cond hF16 ?_ ?_ <;> intro hc20 hF17
 refine awp_seq (awp_region ?_)
 refine s_as ?_
 refine k_nil (k_seq (awp_ret (k_seq_ret (k_fin ?_))))
 cases hF17
 exact ends_a [] [] Try.results3
 refine awp_skip (k_seq (awp_seq (awp_seq (awp_region ?_))))
 refine s_mv ?_
 refine s_mv ?_
 refine s_ne ?_
 refine k_nil (k_seq ?_)
 refine w_cond hF17 ?_ ?_ <;> intro hc21 hF18
 refine awp_seq (awp_region ?_)
 refine s_as ?_
 refine k_nil (k_seq (awp_ret (k_seq_ret (k_fin ?_))))
 cases hF18
 exact ends_a [] [] Try.results3
 refine awp_skip (k_seq (awp_seq (awp_region ?_)))
 refine s_ldW yA28 yS28 ?_
 obtain ⟨v22, hv22, hF19⟩ := bind_some' hF18
 refine s_pure [] (m_laws_toCore_ok fu _ _ hv22) ?_
 obtain ⟨v23, hv23, hF20⟩ := bind_some' hF19
 refine s_pure [] (m_impl_FreeOf_ok fu _ _ hv23) ?_
 refine s_as ?_
 refine k_nil (k_seq (awp_seq (awp_seq (awp_region ?_))))
 refine s_mv ?_
 refine s_mv ?_
 obtain ⟨v24, hv24, hF21⟩ := bind_some' hF20
 refine s_pure [] (m_laws_eqStringS_ok fu _ _ _ hv24) ?_
 refine s_not ?_
 refine k_nil (k_seq ?_)
 refine w_cond hF21 ?_ ?_ <;> intro hc25 hF22
 refine awp_seq (awp_region ?_)
 refine s_as ?_
 refine k_nil (k_seq (awp_ret (k_seq_ret (k_fin ?_))))
 cases hF22
 exact ends_a [] [] Try.results3
 refine awp_skip (k_seq (awp_seq (awp_region ?_)))
 refine s_as ?_
 refine k_nil (k_seq (awp_seq (awp_region ?_)))
 refine s_mv ?_
 refine s_mv ?_
 obtain ⟨v26, hv26, hF23⟩ := bind_some' hF22
 refine s_call [(9700, 2022)] [] [(9700, .arr (v18.2.map rS) 9 true)] [(9700, .arr (v18.2.map rS) 9 true)] (ac_lend (args := [.ar 9700, .t (.sc (.int .i64 1))]) [(9700, .arr (v18.2.map rS) 9 true)] [] (m_laws_heldStringS_ok fu _ _ _ hv26) rfl (by simp only [V.lendL, V.lend, objs_cons, objs_nil, Nat.reduceEqDiff, reduceIte, if_true, if_false, Form.lendM, Core.lendM, Hit.lendM, Rule.lendM, Bind.lendM, Macro.lendM]; try rfl) (by rfl) (by rfl) (by rfl) (by rfl) (by simp only [List.all_cons, List.all_nil, Ob.flat, flat_rI, flat_rS, Form.flatM, Core.flatM, Hit.flatM, Rule.flatM, Bind.flatM, Macro.flatM, Bool.and_self, Bool.true_and]) (by rfl)) ?_
 refine s_as ?_
 refine k_nil (k_seq (awp_seq (awp_seq (awp_region ?_))))
 refine s_mv ?_
 refine s_lt ?_
 refine k_nil (k_seq ?_)
 refine w_cond hF23 ?_ ?_ <;> intro hc27 hF24
 refine awp_seq (awp_region ?_)
 refine s_as ?_
 refine k_nil (k_seq (awp_ret (k_seq_ret (k_fin ?_))))
 cases hF24
 exact ends_a [] [] Try.results3
 refine awp_skip (k_seq (awp_seq (awp_seq (awp_region ?_))))
 refine s_mv ?_
 refine s_mv ?_
 refine s_ne ?_
 refine k_nil (k_seq ?_)
 refine w_cond hF24 ?_ ?_ <;> intro hc28 hF25
 refine awp_seq (awp_region ?_)
 refine s_as ?_
 refine k_nil (k_seq (awp_ret (k_seq_ret (k_fin ?_))))
 cases hF25
 exact ends_a [] [] Try.results3
 refine awp_skip (k_seq (awp_seq (awp_region ?_)))
 refine s_as ?_
 refine k_nil (k_seq (awp_ret (k_fin ?_)))
 cases hF25
 exact ends_a [] [] Try.results3
end Go.Abs
