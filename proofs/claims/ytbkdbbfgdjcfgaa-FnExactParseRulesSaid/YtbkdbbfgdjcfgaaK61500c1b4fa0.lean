/- A part of the proof: what the functions that the law calls answer, as pure values. -/
import Derived.Test.YtbkdbbfgdjcfgaaK0b7d7560d506
import Derived.Test.YtbkdbbfgdjcfgaaK4fd39b116326
import Derived.Test.YtbkdbbfgdjcfgaaK699ce2a2ded9
import Derived.Test.YtbkdbbfgdjcfgaaK737adf4b85c3
import Derived.Test.YtbkdbbfgdjcfgaaKa51fa71ca298
import Derived.Test.YtbkdbbfgdjcfgaaKd09531658691
set_option linter.unusedSimpArgs false
set_option linter.unusedVariables false
set_option maxRecDepth 100000
set_option maxHeartbeats 4000000
namespace Go.Abs
open Go.Proofs
theorem m_laws_markFormS_D_all (fuel : Nat) : m_laws_markFormS_D_AC fuel := by
 induction fuel using Nat.strongRecOn with
 | _ N ih =>
   cases N with
   | zero => exact (by intro x1 x2 r h; rw [m_laws_markFormS] at h; cases h)
   | succ fu => exact m_laws_markFormS_D_st fu (fun k hk => (ih k (by omega)))
theorem m_laws_markFormS_D_ok (fuel : Nat) : m_laws_markFormS_D_AC fuel := (m_laws_markFormS_D_all fuel)
def m_laws_markForm_D_AC (fuel : Nat) : Prop := ∀ (x1 : Form) (x2 : Int) (r : (Int × (List Int) × (List Form))), m_laws_markForm fuel x1 x2 = some r → AC Try.prog 45 [.ag [.t (.sc (.int .i64 x1.kind)), .t (.sc (.str x1.name)), .t (.sc (.int .i64 x1.n)), .ar 9303, .ar 9304], .t (.sc (.int .i64 x2))] (objs [(9303, .arr (x1.scopes.map rI) 3 true), (9304, .dar (x1.kids.map (Form.rowD 3 34)) 34)]) (.t (.sc (.int .i64 r.1))) (objs [(9303, .arr (r.2.1.map rI) 3 true), (9304, .dar (r.2.2.map (Form.rowD 3 34)) 34)])
theorem m_laws_markForm_D_ok (fuel : Nat) : m_laws_markForm_D_AC fuel := by
 intro x1 x2 r hF0
 unfold m_laws_markForm at hF0
 refine AC_i [.t (.sc (.int .i64 r.1))] Try.func45 rfl Try.ntmps45 ?_
 intro C hC
 refine awp_seq (awp_region ?_)
 refine s_box ?_
 refine s_as ?_
 refine k_nil (k_seq (awp_seq (awp_region ?_)))
 refine s_fa yF34_3 ?_
 refine s_ld1 yA22 ?_
 refine s_mv ?_
 obtain ⟨v1, hv1, hF1⟩ := bind_some' hF0
 refine s_call [(9300, 9303)] [] _ _ (m_laws_markIntS_D_ok fuel _ _ _ hv1) ?_
 refine s_as ?_
 refine k_nil (k_seq (awp_seq (awp_region ?_)))
 refine s_fa yF34_4 ?_
 refine s_ld1 yA32 ?_
 refine s_mv ?_
 obtain ⟨v2, hv2, hF2⟩ := bind_some' hF1
 refine s_call [(9300, 9304)] [] _ _ (m_laws_markFormS_D_ok fuel _ _ _ hv2) ?_
 refine s_as ?_
 refine k_nil (k_seq (awp_seq (awp_region ?_)))
 refine s_mv ?_
 refine s_as ?_
 refine k_nil (k_seq (awp_ret (k_fin ?_)))
 cases hF2
 exact ends_a _ [] Try.results45
def m_laws_heldIntS_AC (fuel : Nat) : Prop := ∀ (x1 : (List Int)) (x2 : Int) (r : Int), m_laws_heldIntS fuel x1 x2 = some r → AC Try.prog 32 [.t (.sl (x1.map rI)), .t (.sc (.int .i64 x2))] noOb (.t (.sc (.int .i64 r))) noOb
theorem m_laws_heldIntS_ok (fuel : Nat) : m_laws_heldIntS_AC fuel := by
 intro x1 x2 r hF0
 unfold m_laws_heldIntS at hF0
 refine AC_i [.t (.sc (.int .i64 r))] Try.func32 rfl Try.ntmps32 ?_
 intro C hC
 refine awp_seq (awp_region ?_)
 refine s_as ?_
 refine k_nil (k_seq (awp_seq (awp_seq (awp_region ?_))))
 refine s_as ?_
 refine k_nil (k_seq (awp_block ?_))
 refine awp_fr (β := Int × Int) [1, 4, 5, 6, 7, 8, 9, 10, 11, 12, 13, 14, 15, 16, 17, 18, 19] [] [] (fun a => [(1, .t (.sc (.int .i64 a.2.1))), (5, .t (.sc (.int .i64 a.2.2)))]) (fun a => []) (fun a => a.1 ≤ fuel ∧ m_laws_heldIntS_l1 a.1 x1 a.2.1 a.2.2 = some r ∧ 0 ≤ a.2.2) (fuel, x2, 0) ⟨Nat.le_refl _, hF0, by simp⟩ ?_
 clear hF0
 rintro ⟨fu, g1, g2⟩ ⟨hl3, hF1, hn_g2⟩
 dsimp only at hl3 hF1 hn_g2 ⊢
 obtain _ | fu := fu
 · rw [m_laws_heldIntS_l1] at hF1; cases hF1
 rw [m_laws_heldIntS_l1] at hF1
 refine awp_seq (awp_seq (awp_region ?_))
 refine s_mv ?_
 refine s_mv ?_
 refine s_lenT yU22 ?_
 refine s_lt ?_
 refine k_nil (k_seq ?_)
 refine w_cond hF1 ?_ ?_ <;> intro hc4 hF2
 refine awp_lenT 0 (fun hb5 => ?_)
 refine awp_skip (k_seq (awp_seq (awp_block (awp_seq (awp_seq (awp_region ?_))))))
 refine s_mv ?_
 refine s_mv ?_
 obtain ⟨v6, hv6, hF3⟩ := bind_some' hF2
 refine s_ixT rI hv6 rfl yE22 ?_
 refine s_ld1 yA3 ?_
 refine s_mv ?_
 refine s_ne ?_
 refine k_nil (k_seq ?_)
 refine w_cond hF3 ?_ ?_ <;> intro hc7 hF4
 refine awp_seq (awp_region ?_)
 refine s_as ?_
 refine k_nil (k_seq (awp_ret (k_seq_ret (k_blk_ret (k_seq_ret (k_rnd_ret2 (k_blk_ret (k_seq_ret (k_fin ?_)))))))))
 cases hF4
 exact ends_a [] [] Try.results32
 refine awp_skip (k_seq (awp_region ?_))
 refine s_mv ?_
 refine s_add rfl ?_
 refine s_as ?_
 refine k_nil (k_blk (k_seq (awp_region ?_)))
 refine s_mv ?_
 refine s_add (winc2 hc4 hb5 hn_g2) ?_
 refine s_as ?_
 refine k_nil ?_
 exact s_rn (fu, (w64 (g1 + 1)), (g2 + 1)) ⟨by first | omega | (dsimp only; omega), hF4, by first | omega | (dsimp only; omega)⟩
 refine awp_exit (k_seq_exit (k_rnd_exit2 (k_blk_exit (k_seq (awp_seq (awp_region ?_))))))
 refine s_mv ?_
 refine s_as ?_
 refine k_nil (k_seq (awp_ret (k_fin ?_)))
 cases hF2
 exact ends_a [] [] Try.results32
def m_laws_heldFormS_AC (fuel : Nat) : Prop := ∀ (x1 : (List Form)) (x2 : Int) (r : Int), m_laws_heldFormS fuel x1 x2 = some r → AC Try.prog 39 [.t (.sl (x1.map Form.row)), .t (.sc (.int .i64 x2))] noOb (.t (.sc (.int .i64 r))) noOb
theorem m_laws_heldFormS_st (fu : Nat) (ih_m_laws_heldFormS : ∀ k, k ≤ fu → m_laws_heldFormS_AC k) : m_laws_heldFormS_AC (fu + 1) := by
 intro x1 x2 r hF0
 rw [m_laws_heldFormS] at hF0
 refine AC_i [.t (.sc (.int .i64 r))] Try.func39 rfl Try.ntmps39 ?_
 intro C hC
 refine awp_seq (awp_region ?_)
 refine s_as ?_
 refine k_nil (k_seq (awp_seq (awp_seq (awp_region ?_))))
 refine s_as ?_
 refine k_nil (k_seq (awp_block ?_))
 refine awp_fr (β := Int × Int) [1, 4, 5, 6, 7, 8, 9, 10, 11, 12, 13, 14, 15, 16, 17, 18, 19, 20, 21, 22, 23, 24, 25, 26, 27, 28, 29, 30, 31, 32, 33, 34, 35, 36, 37, 38, 39, 40, 41, 42, 43, 44, 45, 46, 47, 48, 49, 50, 51, 52, 53, 54, 55, 56, 57] [] [] (fun a => [(1, .t (.sc (.int .i64 a.2.1))), (5, .t (.sc (.int .i64 a.2.2)))]) (fun a => []) (fun a => a.1 ≤ fu ∧ m_laws_heldFormS_l1 a.1 x1 a.2.1 a.2.2 = some r ∧ 0 ≤ a.2.2) (fu, x2, 0) ⟨Nat.le_refl _, hF0, by simp⟩ ?_
 clear hF0
 rintro ⟨fu, g1, g2⟩ ⟨hl3, hF1, hn_g2⟩
 dsimp only at hl3 hF1 hn_g2 ⊢
 obtain _ | fu := fu
 · rw [m_laws_heldFormS_l1] at hF1; cases hF1
 rw [m_laws_heldFormS_l1] at hF1
 refine awp_seq (awp_seq (awp_region ?_))
 refine s_mv ?_
 refine s_mv ?_
 refine s_lenT yU32 ?_
 refine s_lt ?_
 refine k_nil (k_seq ?_)
 refine w_cond hF1 ?_ ?_ <;> intro hc4 hF2
 refine awp_lenT 0 (fun hb5 => ?_)
 refine awp_skip (k_seq (awp_seq (awp_block (awp_seq (awp_seq (awp_region ?_))))))
 refine s_mv ?_
 refine s_mv ?_
 obtain ⟨v6, hv6, hF3⟩ := bind_some' hF2
 refine s_ixT Form.row hv6 (Form.row_eq _) yE32 ?_
 refine s_fa yF34_0 ?_
 refine s_ld1 yA3 ?_
 refine s_mv ?_
 refine s_ne ?_
 refine k_nil (k_seq ?_)
 refine w_cond hF3 ?_ ?_ <;> intro hc7 hF4
 refine awp_seq (awp_region ?_)
 refine s_as ?_
 refine k_nil (k_seq (awp_ret (k_seq_ret (k_blk_ret (k_seq_ret (k_rnd_ret2 (k_blk_ret (k_seq_ret (k_fin ?_)))))))))
 cases hF4
 exact ends_a [] [] Try.results39
 refine awp_skip (k_seq (awp_seq (awp_region ?_)))
 refine s_mv ?_
 refine s_add rfl ?_
 refine s_as ?_
 refine k_nil (k_seq (awp_seq (awp_seq ?_)))
 refine awp_draw yMix (by kernel_rfl) ?_
 refine s_mv ?_
 refine s_mv ?_
 obtain ⟨v8, hv8, hF5⟩ := bind_some' hF4
 refine s_ixT Form.row hv8 (Form.row_eq _) yE32 ?_
 refine s_fa yF34_1 ?_
 refine s_ld1 yA9 ?_
 refine s_mv ?_
 obtain ⟨v9, hv9, hF6⟩ := bind_some' hF5
 refine s_pure [] (m_laws_markText_D_ok fu _ _ hv9) ?_
 refine s_neS ?_
 refine k_nilD (by kernel_rfl) ?_
 refine k_seq ?_
 refine w_cond hF6 ?_ ?_ <;> intro hc10 hF7
 refine awp_seq (awp_region ?_)
 refine s_as ?_
 refine k_nil (k_seq (awp_ret (k_seq_ret (k_blk_ret (k_seq_ret (k_rnd_ret2 (k_blk_ret (k_seq_ret (k_fin ?_)))))))))
 cases hF7
 exact ends_a [] [] Try.results39
 refine awp_skip (k_seq (awp_seq (awp_region ?_)))
 refine s_mv ?_
 refine s_add rfl ?_
 refine s_as ?_
 refine k_nil (k_seq (awp_seq (awp_seq (awp_region ?_))))
 refine s_mv ?_
 refine s_mv ?_
 obtain ⟨v11, hv11, hF8⟩ := bind_some' hF7
 refine s_ixT Form.row hv11 (Form.row_eq _) yE32 ?_
 refine s_fa yF34_2 ?_
 refine s_ld1 yA3 ?_
 refine s_mv ?_
 refine s_ne ?_
 refine k_nil (k_seq ?_)
 refine w_cond hF8 ?_ ?_ <;> intro hc12 hF9
 refine awp_seq (awp_region ?_)
 refine s_as ?_
 refine k_nil (k_seq (awp_ret (k_seq_ret (k_blk_ret (k_seq_ret (k_rnd_ret2 (k_blk_ret (k_seq_ret (k_fin ?_)))))))))
 cases hF9
 exact ends_a [] [] Try.results39
 refine awp_skip (k_seq (awp_seq (awp_region ?_)))
 refine s_mv ?_
 refine s_add rfl ?_
 refine s_as ?_
 refine k_nil (k_seq (awp_seq (awp_region ?_)))
 refine s_mv ?_
 refine s_mv ?_
 obtain ⟨v13, hv13, hF10⟩ := bind_some' hF9
 refine s_ixT Form.row hv13 (Form.row_eq _) yE32 ?_
 refine s_fa yF34_3 ?_
 refine s_ld1 yA22 ?_
 refine s_mv ?_
 obtain ⟨v14, hv14, hF11⟩ := bind_some' hF10
 refine s_pure [] (m_laws_heldIntS_ok fu _ _ _ hv14) ?_
 refine s_as ?_
 refine k_nil (k_seq (awp_seq (awp_seq (awp_region ?_))))
 refine s_mv ?_
 refine s_lt ?_
 refine k_nil (k_seq ?_)
 refine w_cond hF11 ?_ ?_ <;> intro hc15 hF12
 refine awp_seq (awp_region ?_)
 refine s_as ?_
 refine k_nil (k_seq (awp_ret (k_seq_ret (k_blk_ret (k_seq_ret (k_rnd_ret2 (k_blk_ret (k_seq_ret (k_fin ?_)))))))))
 cases hF12
 exact ends_a [] [] Try.results39
 refine awp_skip (k_seq (awp_seq (awp_region ?_)))
 refine s_mv ?_
 refine s_mv ?_
 obtain ⟨v16, hv16, hF13⟩ := bind_some' hF12
 refine s_ixT Form.row hv16 (Form.row_eq _) yE32 ?_
 refine s_fa yF34_4 ?_
 refine s_ld1 yA32 ?_
 refine s_mv ?_
 obtain ⟨v17, hv17, hF14⟩ := bind_some' hF13
 refine s_pure [] (ih_m_laws_heldFormS fu (by omega) _ _ _ hv17) ?_
 refine s_as ?_
 refine k_nil (k_seq (awp_seq (awp_region ?_)))
 refine s_mv ?_
 refine s_lt ?_
 refine k_nil (k_seq ?_)
 refine w_cond hF14 ?_ ?_ <;> intro hc18 hF15
 refine awp_seq (awp_region ?_)
 refine s_as ?_
 refine k_nil (k_seq (awp_ret (k_blk_ret (k_seq_ret (k_rnd_ret2 (k_blk_ret (k_seq_ret (k_fin ?_))))))))
 cases hF15
 exact ends_a [] [] Try.results39
 refine awp_skip (k_blk (k_seq (awp_region ?_)))
 refine s_mv ?_
 refine s_add (winc2 hc4 hb5 hn_g2) ?_
 refine s_as ?_
 refine k_nil ?_
 exact s_rn (fu, v17, (g2 + 1)) ⟨by first | omega | (dsimp only; omega), hF15, by first | omega | (dsimp only; omega)⟩
 refine awp_exit (k_seq_exit (k_rnd_exit2 (k_blk_exit (k_seq (awp_seq (awp_region ?_))))))
 refine s_mv ?_
 refine s_as ?_
 refine k_nil (k_seq (awp_ret (k_fin ?_)))
 cases hF2
 exact ends_a [] [] Try.results39
theorem m_laws_heldFormS_all (fuel : Nat) : m_laws_heldFormS_AC fuel := by
 induction fuel using Nat.strongRecOn with
 | _ N ih =>
   cases N with
   | zero => exact (by intro x1 x2 r h; rw [m_laws_heldFormS] at h; cases h)
   | succ fu => exact m_laws_heldFormS_st fu (fun k hk => (ih k (by omega)))
theorem m_laws_heldFormS_ok (fuel : Nat) : m_laws_heldFormS_AC fuel := (m_laws_heldFormS_all fuel)
def m_slices_Clone_int_AC (fuel : Nat) : Prop := ∀ (x1 : (List Int)) (r : (List Int)), m_slices_Clone_int fuel x1 = some r → AC Try.prog 136 [.t (.sl (x1.map rI))] (objs []) (.ar 9200) (objs [(9200, .arr (r.map rI) 3 true)])
theorem m_slices_Clone_int_ok (fuel : Nat) : m_slices_Clone_int_AC fuel := by
 intro x1 r hF0
 unfold m_slices_Clone_int at hF0
 refine AC_i [.ar 9200] Try.func136 rfl Try.ntmps136 ?_
 intro C hC
 refine awp_nil 0 (fun hz => ?_) ?_
 replace hz := List.map_eq_nil_iff.mp hz; subst hz; obtain ⟨_, hF1⟩ := chk_some hF0
 refine awp_seq (awp_region ?_)
 refine s_as ?_
 refine k_nil (k_seq (awp_seq (awp_seq (awp_region ?_))))
 refine s_mv ?_
 refine s_nil yU22 ?_
 refine k_nil (k_seq (awp_true rfl ?_))
 refine awp_unnil 0 ?_
 refine awp_unnil 3 ?_
 refine awp_seq (awp_region ?_)
 refine s_as ?_
 refine k_nil (k_seq ?_)
 refine awp_own 2 9200 3 yI3.choose_spec ?_
 refine awp_ret (k_seq_ret (k_fin ?_))
 cases hF1
 exact ends_a _ [] Try.results136
 refine awp_seq (awp_region ?_)
 refine s_as ?_
 refine k_nil (k_seq (awp_seq (awp_seq (awp_region ?_))))
 refine s_mv ?_
 refine s_nil yU22 ?_
 refine k_nil (k_seq (awp_false rfl ?_))
 refine awp_unnil 0 ?_
 refine awp_unnil 3 ?_
 refine awp_skip (k_seq (awp_seq (awp_region ?_)))
 refine s_bs rI ([] : List Int) yP22 yR3 ?_
 refine s_mv ?_
 obtain ⟨hk1, hF1⟩ := chk_some hF0
 refine s_apT rI (fun _ => rfl) hk1 yP22 ?_
 refine s_as ?_
 refine k_nil (k_seq ?_)
 refine awp_mv 2 7 9200 (by conv => lhs; whnf) (by conv => lhs; whnf) rfl ?_
 refine awp_ret (k_fin ?_)
 cases hF1
 exact ends_a _ [] Try.results136
def m_impl_copyForm_AC (fuel : Nat) : Prop := ∀ (x1 : Form) (r : Form), m_impl_copyForm fuel x1 = some r → AC Try.prog 89 [.ag [.t (.sc (.int .i64 x1.kind)), .t (.sc (.str x1.name)), .t (.sc (.int .i64 x1.n)), .t (.sl (x1.scopes.map rI)), .t (.sl (x1.kids.map Form.row))]] noOb (.ag [.t (.sc (.int .i64 r.kind)), .t (.sc (.str r.name)), .t (.sc (.int .i64 r.n)), .t (.sl (r.scopes.map rI)), .t (.sl (r.kids.map Form.row))]) noOb
theorem m_impl_copyForm_st (fu : Nat) (ih_m_impl_copyForm : ∀ k, k ≤ fu → m_impl_copyForm_AC k) : m_impl_copyForm_AC (fu + 1) := by
 intro x1 r hF0
 rw [m_impl_copyForm] at hF0
 refine AC_i [.ag [.t (.sc (.int .i64 r.kind)), .t (.sc (.str r.name)), .t (.sc (.int .i64 r.n)), .t (.sl (r.scopes.map rI)), .t (.sl (r.kids.map Form.row))]] Try.func89 rfl Try.ntmps89 ?_
 intro C hC
 refine awp_seq (awp_region ?_)
 refine s_box ?_
 refine s_alloc yZ34 ?_
 refine k_nil (k_seq (awp_seq ?_))
 refine awp_draw yMix (by kernel_rfl) ?_
 refine s_fa yF34_0 ?_
 refine s_ld1 yA3 ?_
 refine s_fa yF34_1 ?_
 refine s_ld1 yA9 ?_
 refine s_fa yF34_2 ?_
 refine s_ld1 yA3 ?_
 refine s_fa yF34_3 ?_
 refine s_ld1 yA22 ?_
 obtain ⟨v1, hv1, hF1⟩ := bind_some' hF0
 refine s_call [(9200, 2014)] [] _ _ (m_slices_Clone_int_ok fu _ _ hv1) ?_
 refine s_bld yZ34 yL34 ?_
 refine s_alloc yZ34 ?_
 refine s_stW yS34 ?_
 refine k_nilD (by kernel_rfl) ?_
 refine k_seq (awp_seq (awp_seq (awp_region ?_)))
 refine s_fa yF34_4 ?_
 refine s_ld1 yA32 ?_
 refine s_lenT yU32 ?_
 refine s_mv ?_
 refine k_nil (k_seq (awp_block ?_))
 refine awp_ownB 3 5020 34 [.t (.sc (.int .i64 x1.kind)), .t (.sc (.str x1.name)), .t (.sc (.int .i64 x1.n)), .ar 2014, .ar 5020] yI34.choose_spec ?_
 refine awp_frame2 [5, 19, 20, 21, 22, 23, 24, 25, 26, 27, 28, 29, 30] [3, 5020] [5, 27, 28] [5020] (fun a : Nat × Int × (List Form) => a.1) (fun a : Nat × Int × (List Form) => [(19, .t (.sc (.int .i64 a.2.1)))]) (fun a : Nat × Int × (List Form) => [(3, .box [.t (.sc (.int .i64 x1.kind)), .t (.sc (.str x1.name)), .t (.sc (.int .i64 x1.n)), .ar 2014, .ar 5020]), (5020, .arr (a.2.2.map Form.row) 34 true)]) (fun a : Nat × Int × (List Form) => a.1 ≤ fu ∧ m_impl_copyForm_l1 a.1 x1 v1 a.2.1 a.2.2 = some r ∧ 0 ≤ a.2.1) (fu, 0, ([] : List Form)) ⟨Nat.le_refl _, hF1, by simp⟩ (by rfl) (by rfl) (fun _ => rfl) (hasF_cons (by conv => lhs; whnf) (by rfl) hasF_nil) (hasO_cons (by conv => lhs; whnf) (by rfl) (hasO_cons (by conv => lhs; whnf) (by rfl) hasO_nil)) (fresh_C hC rfl) (by repeat (first | exact freshS_args rfl | refine freshS_upd rfl ?_ | refine freshS_frame rfl ?_)) (by repeat (first | exact freshM_no | exact objs_fresh rfl | refine freshM_upd rfl ?_ | refine freshM_frame rfl ?_)) ?_
 clear hF1
 rintro ⟨fu, g2, g3⟩ ⟨hl4, hF2, hn_g2⟩
 dsimp only at hl4 hF2 hn_g2 ⊢
 obtain _ | fu := fu
 · rw [m_impl_copyForm_l1] at hF2; cases hF2
 rw [m_impl_copyForm_l1] at hF2
 refine awp_seq (awp_region ?_)
 refine s_lt ?_
 refine k_nil (k_seq (awp_seq ?_))
 refine w_cond hF2 ?_ ?_ <;> intro hc5 hF3
 refine awp_lenT 17 (fun hb6 => ?_)
 refine awp_skip (k_seq (awp_seq (awp_block (awp_seq (awp_region ?_)))))
 obtain ⟨v7, hv7, hF4⟩ := bind_some' hF3
 refine s_ixT Form.row hv7 (Form.row_eq _) yE32 ?_
 refine s_ldN yA34 yS34 ?_
 refine s_alloc yZ34 ?_
 refine s_stW yS34 ?_
 refine k_nil (k_seq ?_)
 refine awp_draw yMix (by kernel_rfl) ?_
 refine s_fa yF34_4 ?_
 refine s_ld1 yA32 ?_
 refine s_ldW yA34 yS34 ?_
 obtain ⟨v8, hv8, hF5⟩ := bind_some' hF4
 refine s_pure [] (ih_m_impl_copyForm fu (by omega) _ _ hv8) ?_
 refine s_bs Form.row [v8] yP32 yR34 ?_
 obtain ⟨hk9, hF6⟩ := chk_some hF5
 refine s_apT Form.row (fun y => Form.row_len y) hk9 yP32 ?_
 refine s_fa yF34_4 ?_
 refine s_stP yS32 ?_
 refine k_nilD (by kernel_rfl) ?_
 refine k_blk (k_seq (awp_region ?_))
 refine s_add (winc2 hc5 hb6 hn_g2) ?_
 refine s_mv ?_
 refine k_nil ?_
 exact s_rn (fu, (g2 + 1), (g3 ++ [v8])) ⟨by first | omega | (dsimp only; omega), hF6, by first | omega | (dsimp only; omega)⟩ [(5020, 28)]
 refine awp_exit (k_seq_exit (k_rnd_exit2 (k_blk_exit (k_seq (awp_seq (awp_region ?_))))))
 refine s_ldW yA34 yS34 ?_
 refine s_stW yS34 ?_
 refine k_nil (k_seq (awp_ret (k_fin ?_)))
 cases hF3
 exact ends_gen [] [2014, 5020] (by rw [Try.results89]; exact (res_agg (by conv => lhs; whnf) (by conv => lhs; whnf) yA34 yS34 rfl res_nil))
theorem m_impl_copyForm_all (fuel : Nat) : m_impl_copyForm_AC fuel := by
 induction fuel using Nat.strongRecOn with
 | _ N ih =>
   cases N with
   | zero => exact (by intro x1 r h; rw [m_impl_copyForm] at h; cases h)
   | succ fu => exact m_impl_copyForm_st fu (fun k hk => (ih k (by omega)))
theorem m_impl_copyForm_ok (fuel : Nat) : m_impl_copyForm_AC fuel := (m_impl_copyForm_all fuel)
def m_spec_l4In_AC (fuel : Nat) : Prop := ∀ (x1 : (List Form)) (x2 : Form) (r : Bool), m_spec_l4In fuel x1 x2 = some r → AC Try.prog 115 [.t (.sl (x1.map Form.row)), .ag [.t (.sc (.int .i64 x2.kind)), .t (.sc (.str x2.name)), .t (.sc (.int .i64 x2.n)), .t (.sl (x2.scopes.map rI)), .t (.sl (x2.kids.map Form.row))]] noOb (.t (.sc (.bool r))) noOb
theorem m_spec_l4In_ok (fuel : Nat) : m_spec_l4In_AC fuel := by
 intro x1 x2 r hF0
 unfold m_spec_l4In at hF0
 refine AC_i [.t (.sc (.bool r))] Try.func115 rfl Try.ntmps115 ?_
 intro C hC
 refine awp_seq (awp_region ?_)
 refine s_box ?_
 refine s_as ?_
 refine k_nil (k_seq (awp_seq (awp_seq (awp_region ?_))))
 refine s_as ?_
 refine k_nil (k_seq (awp_block ?_))
 refine awp_fr (β := Int) [4, 5, 6, 7, 8, 9, 10, 11, 12, 13, 14, 15, 16, 17] [] [] (fun a => [(5, .t (.sc (.int .i64 a.2)))]) (fun a => []) (fun a => a.1 ≤ fuel ∧ m_spec_l4In_l1 a.1 x1 x2 a.2 = some r ∧ 0 ≤ a.2) (fuel, 0) ⟨Nat.le_refl _, hF0, by simp⟩ ?_
 clear hF0
 rintro ⟨fu, g1⟩ ⟨hl2, hF1, hn_g1⟩
 dsimp only at hl2 hF1 hn_g1 ⊢
 obtain _ | fu := fu
 · rw [m_spec_l4In_l1] at hF1; cases hF1
 rw [m_spec_l4In_l1] at hF1
 refine awp_seq (awp_seq (awp_region ?_))
 refine s_mv ?_
 refine s_mv ?_
 refine s_lenT yU32 ?_
 refine s_lt ?_
 refine k_nil (k_seq ?_)
 refine w_cond hF1 ?_ ?_ <;> intro hc3 hF2
 refine awp_lenT 0 (fun hb4 => ?_)
 refine awp_skip (k_seq (awp_seq (awp_block (awp_seq ?_))))
 refine awp_draw yMix (by kernel_rfl) ?_
 refine s_mv ?_
 refine s_mv ?_
 obtain ⟨v5, hv5, hF3⟩ := bind_some' hF2
 refine s_ixT Form.row hv5 (Form.row_eq _) yE32 ?_
 refine s_ldN yA34 yS34 ?_
 refine s_ldW yA34 yS34 ?_
 obtain ⟨v6, hv6, hF4⟩ := bind_some' hF3
 refine s_pure [] (m_spec_FormSame_ok fu _ _ _ hv6) ?_
 refine k_nilD (by kernel_rfl) ?_
 refine k_seq ?_
 refine w_cond hF4 ?_ ?_ <;> intro hc7 hF5
 refine awp_seq (awp_region ?_)
 refine s_as ?_
 refine k_nil (k_seq (awp_ret (k_blk_ret (k_seq_ret (k_rnd_ret2 (k_blk_ret (k_seq_ret (k_fin ?_))))))))
 cases hF5
 exact ends_a [] [] Try.results115
 refine awp_skip (k_blk (k_seq (awp_region ?_)))
 refine s_mv ?_
 refine s_add (winc2 hc3 hb4 hn_g1) ?_
 refine s_as ?_
 refine k_nil ?_
 exact s_rn (fu, (g1 + 1)) ⟨by first | omega | (dsimp only; omega), hF5, by first | omega | (dsimp only; omega)⟩
 refine awp_exit (k_seq_exit (k_rnd_exit2 (k_blk_exit (k_seq (awp_seq (awp_region ?_))))))
 refine s_as ?_
 refine k_nil (k_seq (awp_ret (k_fin ?_)))
 cases hF2
 exact ends_a [] [] Try.results115
def m_spec_l4Literals_AC (fuel : Nat) : Prop := ∀ (x1 : (List Form)) (r : Bool), m_spec_l4Literals fuel x1 = some r → AC Try.prog 114 [.t (.sl (x1.map Form.row))] noOb (.t (.sc (.bool r))) noOb
theorem m_spec_l4Literals_ok (fuel : Nat) : m_spec_l4Literals_AC fuel := by
 intro x1 r hF0
 unfold m_spec_l4Literals at hF0
 refine AC_i [.t (.sc (.bool r))] Try.func114 rfl Try.ntmps114 ?_
 intro C hC
 refine awp_seq (awp_region ?_)
 refine s_as ?_
 refine k_nil (k_seq (awp_seq (awp_seq (awp_region ?_))))
 refine s_as ?_
 refine k_nil (k_seq (awp_block ?_))
 refine awp_fr (β := Int) [2, 3, 4, 5, 6, 7, 8, 9, 10, 11, 12, 13, 14, 15, 16, 17, 18, 19, 20, 21, 22, 23, 24, 25, 26, 27, 28, 29, 30, 31, 32, 33, 34, 35, 36, 37, 38, 39, 40, 41, 42, 43, 44, 45] [] [] (fun a => [(3, .t (.sc (.int .i64 a.2)))]) (fun a => []) (fun a => a.1 ≤ fuel ∧ m_spec_l4Literals_l1 a.1 x1 a.2 = some r) (fuel, 0) ⟨Nat.le_refl _, hF0⟩ ?_
 clear hF0
 rintro ⟨fu, g1⟩ ⟨hl2, hF1⟩
 dsimp only at hl2 hF1 ⊢
 obtain _ | fu := fu
 · rw [m_spec_l4Literals_l1] at hF1; cases hF1
 rw [m_spec_l4Literals_l1] at hF1
 refine awp_seq (awp_seq (awp_region ?_))
 refine s_mv ?_
 refine s_mv ?_
 refine s_lenT yU32 ?_
 refine s_lt ?_
 refine s_mv ?_
 refine w_guard _ 8 hF1 ?_ ?_ <;> intro hc3 hF2
 refine s_mv ?_
 refine s_lt ?_
 refine s_pkt ?_
 refine k_nil (k_seq ?_)
 refine w_cond hF2 ?_ ?_ <;> intro hc4 hF3
 refine awp_skip (k_seq (awp_seq (awp_block (awp_seq ?_))))
 refine awp_draw yMix (by kernel_rfl) ?_
 refine s_mv ?_
 refine s_mv ?_
 obtain ⟨v5, hv5, hF4⟩ := bind_some' hF3
 refine s_ixT Form.row hv5 (Form.row_eq _) yE32 ?_
 refine s_ldN yA34 yS34 ?_
 obtain ⟨v6, hv6, hF5⟩ := bind_some' hF4
 refine s_pure [] (m_spec_l3Is_ok fu _ _ hv6) ?_
 refine s_not ?_
 refine s_mv ?_
 refine w_guard _ 20 hF5 ?_ ?_ <;> intro hc7 hF6
 iterate 6 refine r_no rfl ?_
 refine s_pkt ?_
 refine s_mv ?_
 iterate 6 refine r_no rfl ?_
 refine s_pkt ?_
 refine s_mv ?_
 iterate 8 refine r_no rfl ?_
 refine s_pkt ?_
 refine k_nilD (by kernel_rfl) ?_
 refine k_seq (awp_true rfl (awp_seq (awp_region ?_)))
 refine s_as ?_
 refine k_nil (k_seq (awp_ret (k_blk_ret (k_seq_ret (k_rnd_ret2 (k_blk_ret (k_seq_ret (k_fin ?_))))))))
 cases hF6
 exact ends_a [] [] Try.results114
 refine s_mv ?_
 refine s_mv ?_
 obtain ⟨v8, hv8, hF7⟩ := bind_some' hF6
 refine s_ixT Form.row hv8 (Form.row_eq _) yE32 ?_
 refine s_fa yF34_1 ?_
 refine s_ld1 yA9 ?_
 refine s_eqS ?_
 refine s_pkf ?_
 refine s_mv ?_
 refine w_guard _ 28 hF7 ?_ ?_ <;> intro hc9 hF8
 iterate 6 refine r_no rfl ?_
 refine s_pkt ?_
 refine s_mv ?_
 iterate 8 refine r_no rfl ?_
 refine s_pkt ?_
 refine k_nilD (by kernel_rfl) ?_
 refine k_seq (awp_true rfl (awp_seq (awp_region ?_)))
 refine s_as ?_
 refine k_nil (k_seq (awp_ret (k_blk_ret (k_seq_ret (k_rnd_ret2 (k_blk_ret (k_seq_ret (k_fin ?_))))))))
 cases hF8
 exact ends_a [] [] Try.results114
 refine s_mv ?_
 refine s_mv ?_
 obtain ⟨v10, hv10, hF9⟩ := bind_some' hF8
 refine s_ixT Form.row hv10 (Form.row_eq _) yE32 ?_
 refine s_fa yF34_1 ?_
 refine s_ld1 yA9 ?_
 refine s_eqS ?_
 refine s_pkf ?_
 refine s_mv ?_
 refine w_guard _ 36 hF9 ?_ ?_ <;> intro hc11 hF10
 iterate 8 refine r_no rfl ?_
 refine s_pkt ?_
 refine k_nilD (by kernel_rfl) ?_
 refine k_seq (awp_true rfl (awp_seq (awp_region ?_)))
 refine s_as ?_
 refine k_nil (k_seq (awp_ret (k_blk_ret (k_seq_ret (k_rnd_ret2 (k_blk_ret (k_seq_ret (k_fin ?_))))))))
 cases hF10
 exact ends_a [] [] Try.results114
 refine s_mv ?_
 refine s_mv ?_
 obtain ⟨v12, hv12, hF11⟩ := bind_some' hF10
 refine s_sl01 Form.row (fun y => Form.row_len y) hv12 yU32 yE32 ?_
 refine s_mv ?_
 refine s_mv ?_
 obtain ⟨v13, hv13, hF12⟩ := bind_some' hF11
 refine s_ixT Form.row hv13 (Form.row_eq _) yE32 ?_
 refine s_ldN yA34 yS34 ?_
 obtain ⟨v14, hv14, hF13⟩ := bind_some' hF12
 refine s_pure [] (m_spec_l4In_ok fu _ _ _ hv14) ?_
 refine s_pkf ?_
 refine k_nilD (by kernel_rfl) ?_
 refine k_seq ?_
 refine w_cond hF13 ?_ ?_ <;> intro hc15 hF14
 refine awp_seq (awp_region ?_)
 refine s_as ?_
 refine k_nil (k_seq (awp_ret (k_blk_ret (k_seq_ret (k_rnd_ret2 (k_blk_ret (k_seq_ret (k_fin ?_))))))))
 cases hF14
 exact ends_a [] [] Try.results114
 refine awp_skip (k_blk (k_seq (awp_region ?_)))
 refine s_mv ?_
 refine s_add rfl ?_
 refine s_as ?_
 refine k_nil ?_
 exact s_rn (fu, (w64 (g1 + 1))) ⟨by first | omega | (dsimp only; omega), hF14⟩
 refine awp_exit (k_seq_exit (k_rnd_exit2 (k_blk_exit (k_seq (awp_seq (awp_region ?_))))))
 refine s_mv ?_
 refine s_lenT yU32 ?_
 refine s_lt ?_
 refine s_as ?_
 refine k_nil (k_seq (awp_ret (k_fin ?_)))
 cases hF3
 exact ends_a [] [] Try.results114
 refine r_no rfl (r_no rfl ?_)
 refine s_pkf ?_
 refine k_nil (k_seq (awp_false rfl (awp_exit (k_seq_exit (k_rnd_exit2 (k_blk_exit (k_seq (awp_seq (awp_region ?_)))))))))
 refine s_mv ?_
 refine s_lenT yU32 ?_
 refine s_lt ?_
 refine s_as ?_
 refine k_nil (k_seq (awp_ret (k_fin ?_)))
 cases hF2
 exact ends_a [] [] Try.results114
def m_spec_l4Dots_AC (fuel : Nat) : Prop := ∀ (x1 : Form) (r : Bool), m_spec_l4Dots fuel x1 = some r → AC Try.prog 117 [.ag [.t (.sc (.int .i64 x1.kind)), .t (.sc (.str x1.name)), .t (.sc (.int .i64 x1.n)), .t (.sl (x1.scopes.map rI)), .t (.sl (x1.kids.map Form.row))]] noOb (.t (.sc (.bool r))) noOb
theorem m_spec_l4Dots_ok (fuel : Nat) : m_spec_l4Dots_AC fuel := by
 intro x1 r hF0
 unfold m_spec_l4Dots at hF0
 refine AC_i [.t (.sc (.bool r))] Try.func117 rfl Try.ntmps117 ?_
 intro C hC
 refine awp_seq (awp_region ?_)
 refine s_box ?_
 refine s_as ?_
 refine k_nil (k_seq (awp_seq (awp_region ?_)))
 refine s_fa yF34_0 ?_
 refine s_ld1 yA3 ?_
 refine s_eq ?_
 refine s_mv ?_
 refine w_guard _ 6 hF0 ?_ ?_ <;> intro hc1 hF1
 refine s_fa yF34_1 ?_
 refine s_ld1 yA9 ?_
 refine s_eqS ?_
 refine s_pkt ?_
 refine s_as ?_
 refine k_nil (k_seq (awp_ret (k_fin ?_)))
 cases hF1
 exact ends_a [] [] Try.results117
 iterate 3 refine r_no rfl ?_
 refine s_pkf ?_
 refine s_as ?_
 refine k_nil (k_seq (awp_ret (k_fin ?_)))
 cases hF1
 exact ends_a [] [] Try.results117
def m_spec_l4Shape_AC (fuel : Nat) : Prop := ∀ (x1 : Form) (r : Bool), m_spec_l4Shape fuel x1 = some r → AC Try.prog 130 [.ag [.t (.sc (.int .i64 x1.kind)), .t (.sc (.str x1.name)), .t (.sc (.int .i64 x1.n)), .t (.sl (x1.scopes.map rI)), .t (.sl (x1.kids.map Form.row))]] noOb (.t (.sc (.bool r))) noOb
theorem m_spec_l4Shape_st (fu : Nat) (ih_m_spec_l4Shape : ∀ k, k ≤ fu → m_spec_l4Shape_AC k) : m_spec_l4Shape_AC (fu + 1) := by
 intro x1 r hF0
 rw [m_spec_l4Shape] at hF0
 refine AC_i [.t (.sc (.bool r))] Try.func130 rfl Try.ntmps130 ?_
 intro C hC
 refine awp_seq (awp_region ?_)
 refine s_box ?_
 refine s_as ?_
 refine k_nil (k_seq (awp_seq (awp_seq (awp_region ?_))))
 refine s_ldW yA34 yS34 ?_
 obtain ⟨v1, hv1, hF1⟩ := bind_some' hF0
 refine s_pure [] (m_spec_l4Dots_ok fu _ _ hv1) ?_
 refine k_nil (k_seq ?_)
 refine w_cond hF1 ?_ ?_ <;> intro hc2 hF2
 refine awp_seq (awp_region ?_)
 refine s_as ?_
 refine k_nil (k_seq (awp_ret (k_seq_ret (k_fin ?_))))
 cases hF2
 exact ends_a [] [] Try.results130
 refine awp_skip (k_seq (awp_seq (awp_region ?_)))
 refine s_as ?_
 refine k_nil (k_seq (awp_seq (awp_seq (awp_region ?_))))
 refine s_as ?_
 refine k_nil (k_seq (awp_block ?_))
 refine awp_fr (β := Int × Int) [2, 3, 4, 7, 8, 9, 10, 11, 12, 13, 14, 15, 16, 17, 18, 19, 20, 21, 22, 23, 24, 25, 26, 27, 28, 29, 30, 31, 32, 33, 34, 35, 36, 37, 38, 39] [] [] (fun a => [(3, .t (.sc (.int .i64 a.2.1))), (4, .t (.sc (.int .i64 a.2.2)))]) (fun a => []) (fun a => a.1 ≤ fu ∧ m_spec_l4Shape_l1 a.1 x1 a.2.1 a.2.2 = some r ∧ 0 ≤ a.2.2) (fu, 0, 0) ⟨Nat.le_refl _, hF2, by simp⟩ ?_
 clear hF2
 rintro ⟨fu, g3, g4⟩ ⟨hl5, hF3, hn_g4⟩
 dsimp only at hl5 hF3 hn_g4 ⊢
 obtain _ | fu := fu
 · rw [m_spec_l4Shape_l1] at hF3; cases hF3
 rw [m_spec_l4Shape_l1] at hF3
 refine awp_seq (awp_seq (awp_region ?_))
 refine s_mv ?_
 refine s_fa yF34_4 ?_
 refine s_ld1 yA32 ?_
 refine s_lenT yU32 ?_
 refine s_lt ?_
 refine k_nil (k_seq ?_)
 refine w_cond hF3 ?_ ?_ <;> intro hc6 hF4
 refine awp_lenT 9 (fun hb7 => ?_)
 refine awp_skip (k_seq (awp_seq (awp_block (awp_seq (awp_seq (awp_region ?_))))))
 refine s_fa yF34_4 ?_
 refine s_ld1 yA32 ?_
 refine s_mv ?_
 obtain ⟨v8, hv8, hF5⟩ := bind_some' hF4
 refine s_ixT Form.row hv8 (Form.row_eq _) yE32 ?_
 refine s_ldN yA34 yS34 ?_
 obtain ⟨v9, hv9, hF6⟩ := bind_some' hF5
 refine s_pure [] (m_spec_l4Dots_ok fu _ _ hv9) ?_
 refine k_nil (k_seq ?_)
 refine w_cond hF6 ?_ ?_ <;> intro hc10 hF7
 refine awp_seq (awp_region ?_)
 refine s_mv ?_
 refine s_add rfl ?_
 refine s_as ?_
 refine k_nil (k_seq (awp_seq (awp_seq (awp_region ?_))))
 refine s_mv ?_
 refine s_eq ?_
 refine s_mv ?_
 refine w_guard _ 24 hF7 ?_ ?_ <;> intro hc11 hF8
 iterate 7 refine r_no rfl ?_
 refine s_pkt ?_
 refine k_nil (k_seq (awp_true rfl (awp_seq (awp_region ?_))))
 refine s_as ?_
 refine k_nil (k_seq (awp_ret (k_seq_ret (k_seq_ret (k_blk_ret (k_seq_ret (k_rnd_ret2 (k_blk_ret (k_seq_ret (k_fin ?_))))))))))
 cases hF8
 exact ends_a [] [] Try.results130
 refine s_fa yF34_4 ?_
 refine s_ld1 yA32 ?_
 refine s_mv ?_
 refine s_sub rfl ?_
 obtain ⟨v12, hv12, hF9⟩ := bind_some' hF8
 refine s_ixT Form.row hv12 (Form.row_eq _) yE32 ?_
 refine s_ldN yA34 yS34 ?_
 obtain ⟨v13, hv13, hF10⟩ := bind_some' hF9
 refine s_pure [] (m_spec_l4Dots_ok fu _ _ hv13) ?_
 refine s_pkf ?_
 refine k_nil (k_seq ?_)
 refine w_cond hF10 ?_ ?_ <;> intro hc14 hF11
 refine awp_seq (awp_region ?_)
 refine s_as ?_
 refine k_nil (k_seq (awp_ret (k_seq_ret (k_seq_ret (k_blk_ret (k_seq_ret (k_rnd_ret2 (k_blk_ret (k_seq_ret (k_fin ?_))))))))))
 cases hF11
 exact ends_a [] [] Try.results130
 refine awp_skip (k_seq (awp_exit (k_seq_exit (k_blk_exit (k_seq (awp_region ?_))))))
 refine s_mv ?_
 refine s_add (winc2 hc6 hb7 hn_g4) ?_
 refine s_as ?_
 refine k_nil ?_
 exact s_rn (fu, (w64 (g3 + 1)), (g4 + 1)) ⟨by first | omega | (dsimp only; omega), hF11, by first | omega | (dsimp only; omega)⟩
 refine awp_skip (k_seq (awp_seq (awp_region ?_)))
 refine s_fa yF34_4 ?_
 refine s_ld1 yA32 ?_
 refine s_mv ?_
 obtain ⟨v15, hv15, hF8⟩ := bind_some' hF7
 refine s_ixT Form.row hv15 (Form.row_eq _) yE32 ?_
 refine s_ldN yA34 yS34 ?_
 obtain ⟨v16, hv16, hF9⟩ := bind_some' hF8
 refine s_pure [] (ih_m_spec_l4Shape fu (by omega) _ _ hv16) ?_
 refine s_not ?_
 refine k_nil (k_seq ?_)
 refine w_cond hF9 ?_ ?_ <;> intro hc17 hF10
 refine awp_seq (awp_region ?_)
 refine s_as ?_
 refine k_nil (k_seq (awp_ret (k_blk_ret (k_seq_ret (k_rnd_ret2 (k_blk_ret (k_seq_ret (k_fin ?_))))))))
 cases hF10
 exact ends_a [] [] Try.results130
 refine awp_skip (k_blk (k_seq (awp_region ?_)))
 refine s_mv ?_
 refine s_add (winc2 hc6 hb7 hn_g4) ?_
 refine s_as ?_
 refine k_nil ?_
 exact s_rn (fu, g3, (g4 + 1)) ⟨by first | omega | (dsimp only; omega), hF10, by first | omega | (dsimp only; omega)⟩
 refine awp_exit (k_seq_exit (k_rnd_exit2 (k_blk_exit (k_seq (awp_seq (awp_region ?_))))))
 refine s_mv ?_
 refine s_le ?_
 refine s_as ?_
 refine k_nil (k_seq (awp_ret (k_fin ?_)))
 cases hF4
 exact ends_a [] [] Try.results130
theorem m_spec_l4Shape_all (fuel : Nat) : m_spec_l4Shape_AC fuel := by
 induction fuel using Nat.strongRecOn with
 | _ N ih =>
   cases N with
   | zero => exact (by intro x1 r h; rw [m_spec_l4Shape] at h; cases h)
   | succ fu => exact m_spec_l4Shape_st fu (fun k hk => (ih k (by omega)))
theorem m_spec_l4Shape_ok (fuel : Nat) : m_spec_l4Shape_AC fuel := (m_spec_l4Shape_all fuel)
def m_spec_l4Var_AC (fuel : Nat) : Prop := ∀ (x1 : Form) (x2 : (List Form)) (r : Bool), m_spec_l4Var fuel x1 x2 = some r → AC Try.prog 132 [.ag [.t (.sc (.int .i64 x1.kind)), .t (.sc (.str x1.name)), .t (.sc (.int .i64 x1.n)), .t (.sl (x1.scopes.map rI)), .t (.sl (x1.kids.map Form.row))], .t (.sl (x2.map Form.row))] noOb (.t (.sc (.bool r))) noOb
theorem m_spec_l4Var_ok (fuel : Nat) : m_spec_l4Var_AC fuel := by
 intro x1 x2 r hF0
 unfold m_spec_l4Var at hF0
 refine AC_i [.t (.sc (.bool r))] Try.func132 rfl Try.ntmps132 ?_
 intro C hC
 refine awp_seq (awp_region ?_)
 refine s_box ?_
 refine s_as ?_
 refine k_nil (k_seq (awp_seq (awp_region ?_)))
 refine s_fa yF34_0 ?_
 refine s_ld1 yA3 ?_
 refine s_eq ?_
 refine s_mv ?_
 refine w_guard _ 8 hF0 ?_ ?_ <;> intro hc1 hF1
 refine s_fa yF34_1 ?_
 refine s_ld1 yA9 ?_
 refine s_neS ?_
 refine s_pkt ?_
 refine s_mv ?_
 refine w_guard _ 13 hF1 ?_ ?_ <;> intro hc2 hF2
 refine s_fa yF34_1 ?_
 refine s_ld1 yA9 ?_
 refine s_neS ?_
 refine s_pkt ?_
 refine s_mv ?_
 refine w_guard _ 18 hF2 ?_ ?_ <;> intro hc3 hF3
 refine s_mv ?_
 refine s_ldW yA34 yS34 ?_
 obtain ⟨v4, hv4, hF4⟩ := bind_some' hF3
 refine s_pure [] (m_spec_l4In_ok fuel _ _ _ hv4) ?_
 refine s_not ?_
 refine s_pkt ?_
 refine s_as ?_
 refine k_nil (k_seq (awp_ret (k_fin ?_)))
 cases hF4
 exact ends_a [] [] Try.results132
 iterate 4 refine r_no rfl ?_
 refine s_pkf ?_
 refine s_as ?_
 refine k_nil (k_seq (awp_ret (k_fin ?_)))
 cases hF3
 exact ends_a [] [] Try.results132
 iterate 3 refine r_no rfl ?_
 refine s_pkf ?_
 refine s_mv ?_
 iterate 4 refine r_no rfl ?_
 refine s_pkf ?_
 refine s_as ?_
 refine k_nil (k_seq (awp_ret (k_fin ?_)))
 cases hF2
 exact ends_a [] [] Try.results132
 iterate 3 refine r_no rfl ?_
 refine s_pkf ?_
 refine s_mv ?_
 iterate 3 refine r_no rfl ?_
 refine s_pkf ?_
 refine s_mv ?_
 iterate 4 refine r_no rfl ?_
 refine s_pkf ?_
 refine s_as ?_
 refine k_nil (k_seq (awp_ret (k_fin ?_)))
 cases hF1
 exact ends_a [] [] Try.results132
def m_spec_l4Vars_AC (fuel : Nat) : Prop := ∀ (x1 : (List Form)) (x2 : Form) (x3 : (List Form)) (r : (List Form)), m_spec_l4Vars fuel x1 x2 x3 = some r → AC Try.prog 86 [.ar 9300, .ag [.t (.sc (.int .i64 x2.kind)), .t (.sc (.str x2.name)), .t (.sc (.int .i64 x2.n)), .t (.sl (x2.scopes.map rI)), .t (.sl (x2.kids.map Form.row))], .t (.sl (x3.map Form.row))] (objs [(9300, .arr (x1.map Form.row) 34 true)]) (.ar 9200) (objs [(9300, .dead), (9200, .arr (r.map Form.row) 34 true)])
theorem m_spec_l4Vars_st (fu : Nat) (ih_m_spec_l4Vars : ∀ k, k ≤ fu → m_spec_l4Vars_AC k) : m_spec_l4Vars_AC (fu + 1) := by
 intro x1 x2 x3 r hF0
 rw [m_spec_l4Vars] at hF0
 refine AC_i [.ar 9200] Try.func86 rfl Try.ntmps86 ?_
 intro C hC
 refine awp_seq (awp_region ?_)
 refine s_box ?_
 refine s_as ?_
 refine k_nil (k_seq (awp_seq (awp_seq (awp_region ?_))))
 refine s_ldW yA34 yS34 ?_
 refine s_mv ?_
 obtain ⟨v1, hv1, hF1⟩ := bind_some' hF0
 refine s_pure [] (m_spec_l4Var_ok fu _ _ _ hv1) ?_
 refine k_nil (k_seq ?_)
 refine w_cond hF1 ?_ ?_ <;> intro hc2 hF2
 refine awp_region ?_
 refine s_mv ?_
 refine s_ldW yA34 yS34 ?_
 refine s_bs Form.row [x2] yP32 yR34 ?_
 obtain ⟨hk3, hF3⟩ := chk_some hF2
 refine s_apT Form.row (fun y => Form.row_len y) hk3 yP32 ?_
 refine s_as ?_
 refine k_nil (k_seq (awp_seq (awp_seq (awp_region ?_))))
 refine s_as ?_
 refine k_nil (k_seq (awp_block ?_))
 refine awp_mv 0 14 5020 (by conv => lhs; whnf) (by conv => lhs; whnf) rfl ?_
 refine awp_frame2 [0, 7, 15, 16, 17, 18, 19, 20, 21, 22, 23, 24, 25, 26, 27, 28, 29] [5020] [12029] [5020] (fun a : Nat × (List Form) × Int => a.1) (fun a : Nat × (List Form) × Int => [(0, .ar 5020), (7, .t (.sc (.int .i64 a.2.2)))]) (fun a : Nat × (List Form) × Int => [(5020, .arr (a.2.1.map Form.row) 34 true)]) (fun a : Nat × (List Form) × Int => a.1 ≤ fu ∧ m_spec_l4Vars_l1 a.1 x2 x3 a.2.1 a.2.2 = some r ∧ 0 ≤ a.2.2) (fu, (x1 ++ [x2]), 0) ⟨Nat.le_refl _, hF3, by simp⟩ (by rfl) (by rfl) (fun _ => rfl) (hasF_cons (by conv => lhs; whnf) (by rfl) (hasF_cons (by conv => lhs; whnf) (by rfl) hasF_nil)) (hasO_cons (by conv => lhs; whnf) (by rfl) hasO_nil) (fresh_C hC rfl) (by repeat (first | exact freshS_args rfl | refine freshS_upd rfl ?_ | refine freshS_frame rfl ?_)) (by repeat (first | exact freshM_no | exact objs_fresh rfl | refine freshM_upd rfl ?_ | refine freshM_frame rfl ?_)) ?_
 clear hF3
 rintro ⟨fu, g4, g5⟩ ⟨hl6, hF4, hn_g5⟩
 dsimp only at hl6 hF4 hn_g5 ⊢
 obtain _ | fu := fu
 · rw [m_spec_l4Vars_l1] at hF4; cases hF4
 rw [m_spec_l4Vars_l1] at hF4
 refine awp_seq (awp_seq (awp_region ?_))
 refine s_mv ?_
 refine s_fa yF34_4 ?_
 refine s_ld1 yA32 ?_
 refine s_lenT yU32 ?_
 refine s_lt ?_
 refine k_nil (k_seq ?_)
 refine w_cond hF4 ?_ ?_ <;> intro hc7 hF5
 refine awp_lenT 17 (fun hb8 => ?_)
 refine awp_skip (k_seq (awp_seq (awp_block (awp_region ?_))))
 refine s_mv ?_
 refine s_fa yF34_4 ?_
 refine s_ld1 yA32 ?_
 refine s_mv ?_
 obtain ⟨v9, hv9, hF6⟩ := bind_some' hF5
 refine s_ixT Form.row hv9 (Form.row_eq _) yE32 ?_
 refine s_ldN yA34 yS34 ?_
 refine s_mv ?_
 obtain ⟨v10, hv10, hF7⟩ := bind_some' hF6
 refine s_call [(9300, 5020), (9200, 12029)] [] _ _ (ih_m_spec_l4Vars fu (by omega) _ _ _ _ hv10) ?_
 refine s_as ?_
 refine k_nil (k_blk (k_seq (awp_region ?_)))
 refine s_mv ?_
 refine s_add (winc2 hc7 hb8 hn_g5) ?_
 refine s_as ?_
 refine k_nil ?_
 exact s_rn (fu, v10, (g5 + 1)) ⟨by first | omega | (dsimp only; omega), hF7, by first | omega | (dsimp only; omega)⟩ [(5020, 12029)]
 refine awp_exit (k_seq_exit (k_rnd_exit2 (k_blk_exit (k_seq (awp_seq (awp_region ?_))))))
 refine s_mv ?_
 refine s_as ?_
 refine k_nil (k_seq ?_)
 refine awp_mv 6 5020 9200 (by conv => lhs; whnf) (by conv => lhs; whnf) rfl ?_
 refine awp_ret (k_fin ?_)
 cases hF5
 exact ends_a _ [] Try.results86
 refine awp_skip (k_seq (awp_seq (awp_seq (awp_region ?_))))
 refine s_as ?_
 refine k_nil (k_seq (awp_block ?_))
 refine awp_mv 0 9300 5040 (by conv => lhs; whnf) (by conv => lhs; whnf) rfl ?_
 refine awp_frame2 [0, 7, 15, 16, 17, 18, 19, 20, 21, 22, 23, 24, 25, 26, 27, 28, 29] [5040] [12029] [5040] (fun a : Nat × (List Form) × Int => a.1) (fun a : Nat × (List Form) × Int => [(0, .ar 5040), (7, .t (.sc (.int .i64 a.2.2)))]) (fun a : Nat × (List Form) × Int => [(5040, .arr (a.2.1.map Form.row) 34 true)]) (fun a : Nat × (List Form) × Int => a.1 ≤ fu ∧ m_spec_l4Vars_l1 a.1 x2 x3 a.2.1 a.2.2 = some r ∧ 0 ≤ a.2.2) (fu, x1, 0) ⟨Nat.le_refl _, hF2, by simp⟩ (by rfl) (by rfl) (fun _ => rfl) (hasF_cons (by conv => lhs; whnf) (by rfl) (hasF_cons (by conv => lhs; whnf) (by rfl) hasF_nil)) (hasO_cons (by conv => lhs; whnf) (by rfl) hasO_nil) (fresh_C hC rfl) (by repeat (first | exact freshS_args rfl | refine freshS_upd rfl ?_ | refine freshS_frame rfl ?_)) (by repeat (first | exact freshM_no | exact objs_fresh rfl | refine freshM_upd rfl ?_ | refine freshM_frame rfl ?_)) ?_
 clear hF2
 rintro ⟨fu, g11, g12⟩ ⟨hl13, hF3, hn_g12⟩
 dsimp only at hl13 hF3 hn_g12 ⊢
 obtain _ | fu := fu
 · rw [m_spec_l4Vars_l1] at hF3; cases hF3
 rw [m_spec_l4Vars_l1] at hF3
 refine awp_seq (awp_seq (awp_region ?_))
 refine s_mv ?_
 refine s_fa yF34_4 ?_
 refine s_ld1 yA32 ?_
 refine s_lenT yU32 ?_
 refine s_lt ?_
 refine k_nil (k_seq ?_)
 refine w_cond hF3 ?_ ?_ <;> intro hc14 hF4
 refine awp_lenT 17 (fun hb15 => ?_)
 refine awp_skip (k_seq (awp_seq (awp_block (awp_region ?_))))
 refine s_mv ?_
 refine s_fa yF34_4 ?_
 refine s_ld1 yA32 ?_
 refine s_mv ?_
 obtain ⟨v16, hv16, hF5⟩ := bind_some' hF4
 refine s_ixT Form.row hv16 (Form.row_eq _) yE32 ?_
 refine s_ldN yA34 yS34 ?_
 refine s_mv ?_
 obtain ⟨v17, hv17, hF6⟩ := bind_some' hF5
 refine s_call [(9300, 5040), (9200, 12029)] [] _ _ (ih_m_spec_l4Vars fu (by omega) _ _ _ _ hv17) ?_
 refine s_as ?_
 refine k_nil (k_blk (k_seq (awp_region ?_)))
 refine s_mv ?_
 refine s_add (winc2 hc14 hb15 hn_g12) ?_
 refine s_as ?_
 refine k_nil ?_
 exact s_rn (fu, v17, (g12 + 1)) ⟨by first | omega | (dsimp only; omega), hF6, by first | omega | (dsimp only; omega)⟩ [(5040, 12029)]
 refine awp_exit (k_seq_exit (k_rnd_exit2 (k_blk_exit (k_seq (awp_seq (awp_region ?_))))))
 refine s_mv ?_
 refine s_as ?_
 refine k_nil (k_seq ?_)
 refine awp_mv 6 5040 9200 (by conv => lhs; whnf) (by conv => lhs; whnf) rfl ?_
 refine awp_ret (k_fin ?_)
 cases hF4
 exact ends_a _ [] Try.results86
theorem m_spec_l4Vars_all (fuel : Nat) : m_spec_l4Vars_AC fuel := by
 induction fuel using Nat.strongRecOn with
 | _ N ih =>
   cases N with
   | zero => exact (by intro x1 x2 x3 r h; rw [m_spec_l4Vars] at h; cases h)
   | succ fu => exact m_spec_l4Vars_st fu (fun k hk => (ih k (by omega)))
theorem m_spec_l4Vars_ok (fuel : Nat) : m_spec_l4Vars_AC fuel := (m_spec_l4Vars_all fuel)
def m_spec_l4Depths_AC (fuel : Nat) : Prop := ∀ (x1 : (List Int)) (x2 : Form) (x3 : (List Form)) (x4 : Int) (r : (List Int)), m_spec_l4Depths fuel x1 x2 x3 x4 = some r → AC Try.prog 131 [.ar 9300, .ag [.t (.sc (.int .i64 x2.kind)), .t (.sc (.str x2.name)), .t (.sc (.int .i64 x2.n)), .t (.sl (x2.scopes.map rI)), .t (.sl (x2.kids.map Form.row))], .t (.sl (x3.map Form.row)), .t (.sc (.int .i64 x4))] (objs [(9300, .arr (x1.map rI) 3 true)]) (.ar 9200) (objs [(9300, .dead), (9200, .arr (r.map rI) 3 true)])
theorem m_spec_l4Depths_st (fu : Nat) (ih_m_spec_l4Depths : ∀ k, k ≤ fu → m_spec_l4Depths_AC k) : m_spec_l4Depths_AC (fu + 1) := by
 intro x1 x2 x3 x4 r hF0
 rw [m_spec_l4Depths] at hF0
 refine AC_i [.ar 9200] Try.func131 rfl Try.ntmps131 ?_
 intro C hC
 refine awp_seq (awp_region ?_)
 refine s_box ?_
 refine s_as ?_
 refine k_nil (k_seq (awp_seq (awp_seq (awp_region ?_))))
 refine s_ldW yA34 yS34 ?_
 refine s_mv ?_
 obtain ⟨v1, hv1, hF1⟩ := bind_some' hF0
 refine s_pure [] (m_spec_l4Var_ok fu _ _ _ hv1) ?_
 refine k_nil (k_seq ?_)
 refine w_cond hF1 ?_ ?_ <;> intro hc2 hF2
 refine awp_region ?_
 refine s_mv ?_
 refine s_mv ?_
 refine s_bs rI [x4] yP22 yR3 ?_
 obtain ⟨hk3, hF3⟩ := chk_some hF2
 refine s_apT rI (fun _ => rfl) hk3 yP22 ?_
 refine s_as ?_
 refine k_nil (k_seq (awp_seq (awp_seq (awp_region ?_))))
 refine s_as ?_
 refine k_nil (k_seq (awp_block ?_))
 refine awp_mv 0 17 5020 (by conv => lhs; whnf) (by conv => lhs; whnf) rfl ?_
 refine awp_frame2 [0, 9, 10, 18, 19, 20, 21, 22, 23, 24, 25, 26, 27, 28, 29, 30, 31, 32, 33, 34, 35, 36, 37, 38, 39, 40, 41, 42, 43, 44, 45, 46, 47, 48, 49, 50, 51] [5020] [12051] [5020] (fun a : Nat × (List Int) × Int => a.1) (fun a : Nat × (List Int) × Int => [(0, .ar 5020), (9, .t (.sc (.int .i64 a.2.2)))]) (fun a : Nat × (List Int) × Int => [(5020, .arr (a.2.1.map rI) 3 true)]) (fun a : Nat × (List Int) × Int => a.1 ≤ fu ∧ m_spec_l4Depths_l1 a.1 x2 x3 x4 a.2.1 a.2.2 = some r ∧ 0 ≤ a.2.2) (fu, (x1 ++ [x4]), 0) ⟨Nat.le_refl _, hF3, by simp⟩ (by rfl) (by rfl) (fun _ => rfl) (hasF_cons (by conv => lhs; whnf) (by rfl) (hasF_cons (by conv => lhs; whnf) (by rfl) hasF_nil)) (hasO_cons (by conv => lhs; whnf) (by rfl) hasO_nil) (fresh_C hC rfl) (by repeat (first | exact freshS_args rfl | refine freshS_upd rfl ?_ | refine freshS_frame rfl ?_)) (by repeat (first | exact freshM_no | exact objs_fresh rfl | refine freshM_upd rfl ?_ | refine freshM_frame rfl ?_)) ?_
 clear hF3
 rintro ⟨fu, g4, g5⟩ ⟨hl6, hF4, hn_g5⟩
 dsimp only at hl6 hF4 hn_g5 ⊢
 obtain _ | fu := fu
 · rw [m_spec_l4Depths_l1] at hF4; cases hF4
 rw [m_spec_l4Depths_l1] at hF4
 refine awp_seq (awp_seq (awp_region ?_))
 refine s_mv ?_
 refine s_fa yF34_4 ?_
 refine s_ld1 yA32 ?_
 refine s_lenT yU32 ?_
 refine s_lt ?_
 refine k_nil (k_seq ?_)
 refine w_cond hF4 ?_ ?_ <;> intro hc7 hF5
 refine awp_lenT 20 (fun hb8 => ?_)
 refine awp_skip (k_seq (awp_seq (awp_block (awp_seq (awp_region ?_)))))
 refine s_mv ?_
 refine s_as ?_
 refine k_nil (k_seq (awp_seq (awp_seq (awp_region ?_))))
 refine s_mv ?_
 refine s_add (winc2 hc7 hb8 hn_g5) ?_
 refine s_fa yF34_4 ?_
 refine s_ld1 yA32 ?_
 refine s_lenT yU32 ?_
 refine s_lt ?_
 refine s_mv ?_
 refine w_guard _ 32 hF5 ?_ ?_ <;> intro hc9 hF6
 refine s_fa yF34_4 ?_
 refine s_ld1 yA32 ?_
 refine s_mv ?_
 refine s_add (winc2 hc7 hb8 hn_g5) ?_
 obtain ⟨v10, hv10, hF7⟩ := bind_some' hF6
 refine s_ixT Form.row hv10 (Form.row_eq _) yE32 ?_
 refine s_ldN yA34 yS34 ?_
 obtain ⟨v11, hv11, hF8⟩ := bind_some' hF7
 refine s_pure [] (m_spec_l4Dots_ok fu _ _ hv11) ?_
 refine s_pkt ?_
 refine k_nil (k_seq ?_)
 refine w_cond hF8 ?_ ?_ <;> intro hc12 hF9
 refine awp_region ?_
 refine s_mv ?_
 refine s_add rfl ?_
 refine s_as ?_
 refine k_nil (k_seq (awp_region ?_))
 refine s_mv ?_
 refine s_fa yF34_4 ?_
 refine s_ld1 yA32 ?_
 refine s_mv ?_
 obtain ⟨v13, hv13, hF10⟩ := bind_some' hF9
 refine s_ixT Form.row hv13 (Form.row_eq _) yE32 ?_
 refine s_ldN yA34 yS34 ?_
 refine s_mv ?_
 refine s_mv ?_
 obtain ⟨v14, hv14, hF11⟩ := bind_some' hF10
 refine s_call [(9300, 5020), (9200, 12051)] [] _ _ (ih_m_spec_l4Depths fu (by omega) _ _ _ _ _ hv14) ?_
 refine s_as ?_
 refine k_nil (k_blk (k_seq (awp_region ?_)))
 refine s_mv ?_
 refine s_add (winc2 hc7 hb8 hn_g5) ?_
 refine s_as ?_
 refine k_nil ?_
 exact s_rn (fu, v14, (g5 + 1)) ⟨by first | omega | (dsimp only; omega), hF11, by first | omega | (dsimp only; omega)⟩ [(5020, 12051)]
 refine awp_skip (k_seq (awp_region ?_))
 refine s_mv ?_
 refine s_fa yF34_4 ?_
 refine s_ld1 yA32 ?_
 refine s_mv ?_
 obtain ⟨v15, hv15, hF10⟩ := bind_some' hF9
 refine s_ixT Form.row hv15 (Form.row_eq _) yE32 ?_
 refine s_ldN yA34 yS34 ?_
 refine s_mv ?_
 refine s_mv ?_
 obtain ⟨v16, hv16, hF11⟩ := bind_some' hF10
 refine s_call [(9300, 5020), (9200, 12051)] [] _ _ (ih_m_spec_l4Depths fu (by omega) _ _ _ _ _ hv16) ?_
 refine s_as ?_
 refine k_nil (k_blk (k_seq (awp_region ?_)))
 refine s_mv ?_
 refine s_add (winc2 hc7 hb8 hn_g5) ?_
 refine s_as ?_
 refine k_nil ?_
 exact s_rn (fu, v16, (g5 + 1)) ⟨by first | omega | (dsimp only; omega), hF11, by first | omega | (dsimp only; omega)⟩ [(5020, 12051)]
 iterate 7 refine r_no rfl ?_
 refine s_pkf ?_
 refine k_nil (k_seq (awp_false rfl (awp_skip (k_seq (awp_region ?_)))))
 refine s_mv ?_
 refine s_fa yF34_4 ?_
 refine s_ld1 yA32 ?_
 refine s_mv ?_
 obtain ⟨v17, hv17, hF7⟩ := bind_some' hF6
 refine s_ixT Form.row hv17 (Form.row_eq _) yE32 ?_
 refine s_ldN yA34 yS34 ?_
 refine s_mv ?_
 refine s_mv ?_
 obtain ⟨v18, hv18, hF8⟩ := bind_some' hF7
 refine s_call [(9300, 5020), (9200, 12051)] [] _ _ (ih_m_spec_l4Depths fu (by omega) _ _ _ _ _ hv18) ?_
 refine s_as ?_
 refine k_nil (k_blk (k_seq (awp_region ?_)))
 refine s_mv ?_
 refine s_add (winc2 hc7 hb8 hn_g5) ?_
 refine s_as ?_
 refine k_nil ?_
 exact s_rn (fu, v18, (g5 + 1)) ⟨by first | omega | (dsimp only; omega), hF8, by first | omega | (dsimp only; omega)⟩ [(5020, 12051)]
 refine awp_exit (k_seq_exit (k_rnd_exit2 (k_blk_exit (k_seq (awp_seq (awp_region ?_))))))
 refine s_mv ?_
 refine s_as ?_
 refine k_nil (k_seq ?_)
 refine awp_mv 8 5020 9200 (by conv => lhs; whnf) (by conv => lhs; whnf) rfl ?_
 refine awp_ret (k_fin ?_)
 cases hF5
 exact ends_a _ [] Try.results131
 refine awp_skip (k_seq (awp_seq (awp_seq (awp_region ?_))))
 refine s_as ?_
 refine k_nil (k_seq (awp_block ?_))
 refine awp_mv 0 9300 5040 (by conv => lhs; whnf) (by conv => lhs; whnf) rfl ?_
 refine awp_frame2 [0, 9, 10, 18, 19, 20, 21, 22, 23, 24, 25, 26, 27, 28, 29, 30, 31, 32, 33, 34, 35, 36, 37, 38, 39, 40, 41, 42, 43, 44, 45, 46, 47, 48, 49, 50, 51] [5040] [12051] [5040] (fun a : Nat × (List Int) × Int => a.1) (fun a : Nat × (List Int) × Int => [(0, .ar 5040), (9, .t (.sc (.int .i64 a.2.2)))]) (fun a : Nat × (List Int) × Int => [(5040, .arr (a.2.1.map rI) 3 true)]) (fun a : Nat × (List Int) × Int => a.1 ≤ fu ∧ m_spec_l4Depths_l1 a.1 x2 x3 x4 a.2.1 a.2.2 = some r ∧ 0 ≤ a.2.2) (fu, x1, 0) ⟨Nat.le_refl _, hF2, by simp⟩ (by rfl) (by rfl) (fun _ => rfl) (hasF_cons (by conv => lhs; whnf) (by rfl) (hasF_cons (by conv => lhs; whnf) (by rfl) hasF_nil)) (hasO_cons (by conv => lhs; whnf) (by rfl) hasO_nil) (fresh_C hC rfl) (by repeat (first | exact freshS_args rfl | refine freshS_upd rfl ?_ | refine freshS_frame rfl ?_)) (by repeat (first | exact freshM_no | exact objs_fresh rfl | refine freshM_upd rfl ?_ | refine freshM_frame rfl ?_)) ?_
 clear hF2
 rintro ⟨fu, g19, g20⟩ ⟨hl21, hF3, hn_g20⟩
 dsimp only at hl21 hF3 hn_g20 ⊢
 obtain _ | fu := fu
 · rw [m_spec_l4Depths_l1] at hF3; cases hF3
 rw [m_spec_l4Depths_l1] at hF3
 refine awp_seq (awp_seq (awp_region ?_))
 refine s_mv ?_
 refine s_fa yF34_4 ?_
 refine s_ld1 yA32 ?_
 refine s_lenT yU32 ?_
 refine s_lt ?_
 refine k_nil (k_seq ?_)
 refine w_cond hF3 ?_ ?_ <;> intro hc22 hF4
 refine awp_lenT 20 (fun hb23 => ?_)
 refine awp_skip (k_seq (awp_seq (awp_block (awp_seq (awp_region ?_)))))
 refine s_mv ?_
 refine s_as ?_
 refine k_nil (k_seq (awp_seq (awp_seq (awp_region ?_))))
 refine s_mv ?_
 refine s_add (winc2 hc22 hb23 hn_g20) ?_
 refine s_fa yF34_4 ?_
 refine s_ld1 yA32 ?_
 refine s_lenT yU32 ?_
 refine s_lt ?_
 refine s_mv ?_
 refine w_guard _ 32 hF4 ?_ ?_ <;> intro hc24 hF5
 refine s_fa yF34_4 ?_
 refine s_ld1 yA32 ?_
 refine s_mv ?_
 refine s_add (winc2 hc22 hb23 hn_g20) ?_
 obtain ⟨v25, hv25, hF6⟩ := bind_some' hF5
 refine s_ixT Form.row hv25 (Form.row_eq _) yE32 ?_
 refine s_ldN yA34 yS34 ?_
 obtain ⟨v26, hv26, hF7⟩ := bind_some' hF6
 refine s_pure [] (m_spec_l4Dots_ok fu _ _ hv26) ?_
 refine s_pkt ?_
 refine k_nil (k_seq ?_)
 refine w_cond hF7 ?_ ?_ <;> intro hc27 hF8
 refine awp_region ?_
 refine s_mv ?_
 refine s_add rfl ?_
 refine s_as ?_
 refine k_nil (k_seq (awp_region ?_))
 refine s_mv ?_
 refine s_fa yF34_4 ?_
 refine s_ld1 yA32 ?_
 refine s_mv ?_
 obtain ⟨v28, hv28, hF9⟩ := bind_some' hF8
 refine s_ixT Form.row hv28 (Form.row_eq _) yE32 ?_
 refine s_ldN yA34 yS34 ?_
 refine s_mv ?_
 refine s_mv ?_
 obtain ⟨v29, hv29, hF10⟩ := bind_some' hF9
 refine s_call [(9300, 5040), (9200, 12051)] [] _ _ (ih_m_spec_l4Depths fu (by omega) _ _ _ _ _ hv29) ?_
 refine s_as ?_
 refine k_nil (k_blk (k_seq (awp_region ?_)))
 refine s_mv ?_
 refine s_add (winc2 hc22 hb23 hn_g20) ?_
 refine s_as ?_
 refine k_nil ?_
 exact s_rn (fu, v29, (g20 + 1)) ⟨by first | omega | (dsimp only; omega), hF10, by first | omega | (dsimp only; omega)⟩ [(5040, 12051)]
 refine awp_skip (k_seq (awp_region ?_))
 refine s_mv ?_
 refine s_fa yF34_4 ?_
 refine s_ld1 yA32 ?_
 refine s_mv ?_
 obtain ⟨v30, hv30, hF9⟩ := bind_some' hF8
 refine s_ixT Form.row hv30 (Form.row_eq _) yE32 ?_
 refine s_ldN yA34 yS34 ?_
 refine s_mv ?_
 refine s_mv ?_
 obtain ⟨v31, hv31, hF10⟩ := bind_some' hF9
 refine s_call [(9300, 5040), (9200, 12051)] [] _ _ (ih_m_spec_l4Depths fu (by omega) _ _ _ _ _ hv31) ?_
 refine s_as ?_
 refine k_nil (k_blk (k_seq (awp_region ?_)))
 refine s_mv ?_
 refine s_add (winc2 hc22 hb23 hn_g20) ?_
 refine s_as ?_
 refine k_nil ?_
 exact s_rn (fu, v31, (g20 + 1)) ⟨by first | omega | (dsimp only; omega), hF10, by first | omega | (dsimp only; omega)⟩ [(5040, 12051)]
 iterate 7 refine r_no rfl ?_
 refine s_pkf ?_
 refine k_nil (k_seq (awp_false rfl (awp_skip (k_seq (awp_region ?_)))))
 refine s_mv ?_
 refine s_fa yF34_4 ?_
 refine s_ld1 yA32 ?_
 refine s_mv ?_
 obtain ⟨v32, hv32, hF6⟩ := bind_some' hF5
 refine s_ixT Form.row hv32 (Form.row_eq _) yE32 ?_
 refine s_ldN yA34 yS34 ?_
 refine s_mv ?_
 refine s_mv ?_
 obtain ⟨v33, hv33, hF7⟩ := bind_some' hF6
 refine s_call [(9300, 5040), (9200, 12051)] [] _ _ (ih_m_spec_l4Depths fu (by omega) _ _ _ _ _ hv33) ?_
 refine s_as ?_
 refine k_nil (k_blk (k_seq (awp_region ?_)))
 refine s_mv ?_
 refine s_add (winc2 hc22 hb23 hn_g20) ?_
 refine s_as ?_
 refine k_nil ?_
 exact s_rn (fu, v33, (g20 + 1)) ⟨by first | omega | (dsimp only; omega), hF7, by first | omega | (dsimp only; omega)⟩ [(5040, 12051)]
 refine awp_exit (k_seq_exit (k_rnd_exit2 (k_blk_exit (k_seq (awp_seq (awp_region ?_))))))
 refine s_mv ?_
 refine s_as ?_
 refine k_nil (k_seq ?_)
 refine awp_mv 8 5040 9200 (by conv => lhs; whnf) (by conv => lhs; whnf) rfl ?_
 refine awp_ret (k_fin ?_)
 cases hF4
 exact ends_a _ [] Try.results131
end Go.Abs
