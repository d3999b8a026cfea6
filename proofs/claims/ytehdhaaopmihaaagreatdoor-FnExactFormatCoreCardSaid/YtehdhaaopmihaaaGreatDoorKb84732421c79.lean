/- A part of the proof: what the functions that the law calls answer, as pure values. -/
import Derived.Test.YtehdhaaopmihaaaGreatDoorK0ad147131039
import Derived.Test.YtehdhaaopmihaaaGreatDoorK0fde71595f57
import Derived.Test.YtehdhaaopmihaaaGreatDoorK6470ed2b72e2
import Derived.Test.YtehdhaaopmihaaaGreatDoorK815a24d3e931
import Derived.Test.YtehdhaaopmihaaaGreatDoorKdaf94b7ba384
import Derived.Test.YtehdhaaopmihaaaGreatDoorKe77cd95414c3
set_option linter.unusedSimpArgs false
set_option linter.unusedVariables false
set_option maxRecDepth 100000
set_option maxHeartbeats 4000000
namespace Go.Abs
open Go.Proofs
theorem m_impl_formText_all (fuel : Nat) : m_impl_formText_AC fuel := by
 induction fuel using Nat.strongRecOn with
 | _ N ih =>
   cases N with
   | zero => exact (by intro x1 r h; rw [m_impl_formText] at h; cases h)
   | succ fu => exact m_impl_formText_st fu (fun k hk => (ih k (by omega)))
theorem m_impl_formText_ok (fuel : Nat) : m_impl_formText_AC fuel := (m_impl_formText_all fuel)
def m_impl_coreText_AC (fuel : Nat) : Prop := ∀ (x1 : Core) (r : ByteArray), m_impl_coreText fuel x1 = some r → AC Tryz.prog 43 [.ag [.t (.sc (.int .i64 x1.kind)), .t (.sc (.int .i64 x1.id)), .t (.sc (.str x1.name)), .t (.sc (.int .i64 x1.n)), .t (.sl (x1.ids.map rI)), .t (.sc (.int .i64 x1.data.kind)), .t (.sc (.str x1.data.name)), .t (.sc (.int .i64 x1.data.n)), .t (.sl (x1.data.scopes.map rI)), .t (.sl (x1.data.kids.map Form.row)), .t (.sl (x1.kids.map Core.row))]] noOb (.t (.sc (.str r))) noOb
theorem m_impl_coreText_st (fu : Nat) (ih_m_impl_coreText : ∀ k, k ≤ fu → m_impl_coreText_AC k) : m_impl_coreText_AC (fu + 1) := by
 intro x1 r hF0
 rw [m_impl_coreText] at hF0
 refine AC_i [.t (.sc (.str r))] Tryz.func43 rfl Tryz.ntmps43 ?_
 intro C hC
 refine awp_seq (awp_region ?_)
 refine s_box ?_
 refine s_as ?_
 refine k_nil (k_seq (awp_seq (awp_region ?_)))
 refine s_bs rS ([] : List ByteArray) yP50 yR9 ?_
 refine s_as ?_
 refine k_nil (k_seq ?_)
 refine awp_jn (α := Nat × (List ByteArray)) [3, 5, 11, 12, 13, 14, 15, 16, 17, 18, 19, 20, 21, 22, 23] [10, 5040] [] (fun a => [(3, .ar 5040)]) (fun a => [(10, .dead), (5040, .arr (a.2.map rS) 9 true)]) (fun a => a.1 ≤ fu ∧ m_impl_coreText_j1 a.1 x1 a.2 = some r) ?_ ?_
 refine awp_seq (awp_region ?_)
 refine s_fa yF36_6 ?_
 refine s_ld1 yA34 ?_
 refine s_lenT yU34 ?_
 refine s_mv ?_
 refine k_nil (k_seq (awp_block ?_))
 refine awp_mv 3 10 5040 (by conv => lhs; whnf) (by conv => lhs; whnf) rfl ?_
 refine awp_frame2 [3, 5, 14, 15, 16, 17, 18, 19, 20, 21, 22, 23] [5040] [5, 21, 22] [5040] (fun a : Nat × (List ByteArray) × Int => a.1) (fun a : Nat × (List ByteArray) × Int => [(3, .ar 5040), (14, .t (.sc (.int .i64 a.2.2)))]) (fun a : Nat × (List ByteArray) × Int => [(5040, .arr (a.2.1.map rS) 9 true)]) (fun a : Nat × (List ByteArray) × Int => a.1 ≤ fu ∧ m_impl_coreText_l2 a.1 x1 a.2.1 a.2.2 = some r ∧ 0 ≤ a.2.2) (fu, ([] : List ByteArray), 0) ⟨Nat.le_refl _, hF0, by simp⟩ (by rfl) (by rfl) (fun _ => rfl) (hasF_cons (by conv => lhs; whnf) (by rfl) (hasF_cons (by conv => lhs; whnf) (by rfl) hasF_nil)) (hasO_cons (by conv => lhs; whnf) (by rfl) hasO_nil) (fresh_C hC rfl) (by repeat (first | exact freshS_args rfl | refine freshS_upd rfl ?_ | refine freshS_frame rfl ?_)) (by repeat (first | exact freshM_no | exact objs_fresh rfl | refine freshM_upd rfl ?_ | refine freshM_frame rfl ?_)) ?_
 clear hF0
 rintro ⟨fu, g1, g2⟩ ⟨hl3, hF1, hn_g2⟩
 dsimp only at hl3 hF1 hn_g2 ⊢
 obtain _ | fu := fu
 · rw [m_impl_coreText_l2] at hF1; cases hF1
 rw [m_impl_coreText_l2] at hF1
 refine awp_seq (awp_region ?_)
 refine s_lt ?_
 refine k_nil (k_seq (awp_seq ?_))
 refine w_cond hF1 ?_ ?_ <;> intro hc4 hF2
 refine awp_lenT 12 (fun hb5 => ?_)
 refine awp_skip (k_seq (awp_seq (awp_block (awp_seq (awp_region ?_)))))
 obtain ⟨v6, hv6, hF3⟩ := bind_some' hF2
 refine s_ixT Core.row hv6 (Core.row_eq _) yE34 ?_
 refine s_ldN yA36 yS36 ?_
 refine s_alloc yZ36 ?_
 refine s_stW yS36 ?_
 refine k_nil (k_seq (awp_region ?_))
 refine s_mv ?_
 refine s_ldW yA36 yS36 ?_
 obtain ⟨v7, hv7, hF4⟩ := bind_some' hF3
 refine s_pure [] (ih_m_impl_coreText fu (by omega) _ _ hv7) ?_
 refine s_bs rS [v7] yP50 yR9 ?_
 obtain ⟨hk8, hF5⟩ := chk_some hF4
 refine s_apT rS (fun _ => rfl) hk8 yP50 ?_
 refine s_as ?_
 refine k_nil (k_blk (k_seq (awp_region ?_)))
 refine s_add (winc2 hc4 hb5 hn_g2) ?_
 refine s_mv ?_
 refine k_nil ?_
 exact s_rn (fu, (g1 ++ [v7]), (g2 + 1)) ⟨by first | omega | (dsimp only; omega), hF5, by first | omega | (dsimp only; omega)⟩ [(5040, 22)]
 refine awp_exit (k_seq_exit (k_rnd_exit2 (k_blk_exit ?_)))
 exact s_jn (fu, g1) ⟨by first | omega | (dsimp only; omega), hF2⟩
 clear hF0
 rintro ⟨fu, g9⟩ ⟨hl10, hF1⟩
 dsimp only at hl10 hF1 ⊢
 obtain _ | fu := fu
 · rw [m_impl_coreText_j1] at hF1; cases hF1
 rw [m_impl_coreText_j1] at hF1
 refine awp_seq (awp_region ?_)
 refine s_mv ?_
 obtain ⟨v11, hv11, hF2⟩ := bind_some' hF1
 refine s_pure [5040] (m_strings_Join_ok fu _ _ _ hv11) ?_
 refine s_as ?_
 refine k_nil (k_seq (awp_seq (awp_seq (awp_region ?_))))
 refine s_fa yF36_0 ?_
 refine s_ld1 yA3 ?_
 refine k_nil (k_seq (awp_block (awp_seq (awp_region ?_))))
 refine s_eq ?_
 refine s_as ?_
 refine k_nil (k_seq ?_)
 refine w_cond hF2 ?_ ?_ <;> intro hc12 hF3
 refine awp_seq (awp_region ?_)
 refine s_fa yF36_1 ?_
 refine s_ld1 yA3 ?_
 obtain ⟨v13, hv13, hF4⟩ := bind_some' hF3
 refine s_pure [] (m_strconv_Itoa_ok fu _ _ hv13) ?_
 obtain ⟨v14, hv14, hF5⟩ := bind_some' hF4
 refine s_cat hv14 ?_
 refine s_as ?_
 refine k_nil (k_seq (awp_ret (k_blk_ret (k_seq_ret (k_fin ?_)))))
 cases hF5
 exact ends_a [] [] Tryz.results43
 refine awp_seq (awp_region ?_)
 refine s_eq ?_
 refine s_as ?_
 refine k_nil (k_seq ?_)
 refine w_cond hF3 ?_ ?_ <;> intro hc15 hF4
 refine awp_seq (awp_region ?_)
 refine s_fa yF36_2 ?_
 refine s_ld1 yA9 ?_
 refine s_as ?_
 refine k_nil (k_seq (awp_ret (k_blk_ret (k_seq_ret (k_fin ?_)))))
 cases hF4
 exact ends_a [] [] Tryz.results43
 refine awp_seq (awp_region ?_)
 refine s_eq ?_
 refine s_as ?_
 refine k_nil (k_seq ?_)
 refine w_cond hF4 ?_ ?_ <;> intro hc16 hF5
 refine awp_seq (awp_region ?_)
 refine s_fa yF36_3 ?_
 refine s_ld1 yA3 ?_
 obtain ⟨v17, hv17, hF6⟩ := bind_some' hF5
 refine s_pure [] (m_strconv_Itoa_ok fu _ _ hv17) ?_
 refine s_as ?_
 refine k_nil (k_seq (awp_ret (k_blk_ret (k_seq_ret (k_fin ?_)))))
 cases hF6
 exact ends_a [] [] Tryz.results43
 refine awp_seq (awp_region ?_)
 refine s_eq ?_
 refine s_as ?_
 refine k_nil (k_seq ?_)
 refine w_cond hF5 ?_ ?_ <;> intro hc18 hF6
 refine awp_seq (awp_region ?_)
 refine s_fa yF36_5 ?_
 refine s_ldN yA33 yS33 ?_
 obtain ⟨v19, hv19, hF7⟩ := bind_some' hF6
 refine s_pure [] (m_impl_formText_ok fu _ _ hv19) ?_
 obtain ⟨v20, hv20, hF8⟩ := bind_some' hF7
 refine s_cat hv20 ?_
 refine s_as ?_
 refine k_nil (k_seq (awp_ret (k_blk_ret (k_seq_ret (k_fin ?_)))))
 cases hF8
 exact ends_a [] [] Tryz.results43
 refine awp_seq (awp_region ?_)
 refine s_eq ?_
 refine s_as ?_
 refine k_nil (k_seq ?_)
 refine w_cond hF6 ?_ ?_ <;> intro hc21 hF7
 refine awp_seq (awp_region ?_)
 refine s_bs rS ([] : List ByteArray) yP50 yR9 ?_
 refine s_as ?_
 refine k_nil (k_seq ?_)
 refine awp_jn (α := Nat × (List ByteArray)) [7, 9, 52, 53, 54, 55, 56, 57, 58, 59, 60, 61, 62, 63, 64, 65] [51, 5080] [] (fun a => [(7, .ar 5080)]) (fun a => [(51, .dead), (5080, .arr (a.2.map rS) 9 true)]) (fun a => a.1 ≤ fu ∧ m_impl_coreText_j3 a.1 v11 a.2 = some r) ?_ ?_
 refine awp_seq (awp_region ?_)
 refine s_fa yF36_4 ?_
 refine s_ld1 yA22 ?_
 refine s_lenT yU22 ?_
 refine s_mv ?_
 refine k_nil (k_seq (awp_block ?_))
 refine awp_mv 7 51 5080 (by conv => lhs; whnf) (by conv => lhs; whnf) rfl ?_
 refine awp_frame2 [7, 9, 55, 56, 57, 58, 59, 60, 61, 62, 63, 64, 65] [5080] [63, 64] [5080] (fun a : Nat × (List ByteArray) × Int => a.1) (fun a : Nat × (List ByteArray) × Int => [(7, .ar 5080), (55, .t (.sc (.int .i64 a.2.2)))]) (fun a : Nat × (List ByteArray) × Int => [(5080, .arr (a.2.1.map rS) 9 true)]) (fun a : Nat × (List ByteArray) × Int => a.1 ≤ fu ∧ m_impl_coreText_l4 a.1 x1 v11 a.2.1 a.2.2 = some r ∧ 0 ≤ a.2.2) (fu, ([] : List ByteArray), 0) ⟨Nat.le_refl _, hF7, by simp⟩ (by rfl) (by rfl) (fun _ => rfl) (hasF_cons (by conv => lhs; whnf) (by rfl) (hasF_cons (by conv => lhs; whnf) (by rfl) hasF_nil)) (hasO_cons (by conv => lhs; whnf) (by rfl) hasO_nil) (fresh_C hC rfl) (by repeat (first | exact freshS_args rfl | refine freshS_upd rfl ?_ | refine freshS_frame rfl ?_)) (by repeat (first | exact freshM_no | exact objs_fresh rfl | refine freshM_upd rfl ?_ | refine freshM_frame rfl ?_)) ?_
 clear hF7
 rintro ⟨fu, g22, g23⟩ ⟨hl24, hF8, hn_g23⟩
 dsimp only at hl24 hF8 hn_g23 ⊢
 obtain _ | fu := fu
 · rw [m_impl_coreText_l4] at hF8; cases hF8
 rw [m_impl_coreText_l4] at hF8
 refine awp_seq (awp_region ?_)
 refine s_lt ?_
 refine k_nil (k_seq (awp_seq ?_))
 refine w_cond hF8 ?_ ?_ <;> intro hc25 hF9
 refine awp_lenT 53 (fun hb26 => ?_)
 refine awp_skip (k_seq (awp_seq (awp_block (awp_seq (awp_region ?_)))))
 obtain ⟨v27, hv27, hF10⟩ := bind_some' hF9
 refine s_ixT rI hv27 rfl yE22 ?_
 refine s_ld1 yA3 ?_
 refine s_as ?_
 refine k_nil (k_seq (awp_region ?_))
 refine s_mv ?_
 refine s_mv ?_
 obtain ⟨v28, hv28, hF11⟩ := bind_some' hF10
 refine s_pure [] (m_strconv_Itoa_ok fu _ _ hv28) ?_
 obtain ⟨v29, hv29, hF12⟩ := bind_some' hF11
 refine s_cat hv29 ?_
 refine s_bs rS [v29] yP50 yR9 ?_
 obtain ⟨hk30, hF13⟩ := chk_some hF12
 refine s_apT rS (fun _ => rfl) hk30 yP50 ?_
 refine s_as ?_
 refine k_nil (k_blk (k_seq (awp_region ?_)))
 refine s_add (winc2 hc25 hb26 hn_g23) ?_
 refine s_mv ?_
 refine k_nil ?_
 exact s_rn (fu, (g22 ++ [v29]), (g23 + 1)) ⟨by first | omega | (dsimp only; omega), hF13, by first | omega | (dsimp only; omega)⟩ [(5080, 64)]
 refine awp_exit (k_seq_exit (k_rnd_exit2 (k_blk_exit ?_)))
 exact s_jn (fu, g22) ⟨by first | omega | (dsimp only; omega), hF9⟩
 clear hF7
 rintro ⟨fu, g31⟩ ⟨hl32, hF8⟩
 dsimp only at hl32 hF8 ⊢
 obtain _ | fu := fu
 · rw [m_impl_coreText_j3] at hF8; cases hF8
 rw [m_impl_coreText_j3] at hF8
 refine awp_seq (awp_region ?_)
 refine s_mv ?_
 obtain ⟨v33, hv33, hF9⟩ := bind_some' hF8
 refine s_pure [5080] (m_strings_Join_ok fu _ _ _ hv33) ?_
 obtain ⟨v34, hv34, hF10⟩ := bind_some' hF9
 refine s_cat hv34 ?_
 obtain ⟨v35, hv35, hF11⟩ := bind_some' hF10
 refine s_cat hv35 ?_
 refine s_mv ?_
 obtain ⟨v36, hv36, hF12⟩ := bind_some' hF11
 refine s_cat hv36 ?_
 obtain ⟨v37, hv37, hF13⟩ := bind_some' hF12
 refine s_cat hv37 ?_
 refine s_as ?_
 refine k_nil (k_seq (awp_ret (k_blk_ret (k_seq_ret (k_fin ?_)))))
 cases hF13
 exact ends_a [] [] Tryz.results43
 refine awp_seq (awp_region ?_)
 refine s_eq ?_
 refine s_as ?_
 refine k_nil (k_seq ?_)
 refine w_cond hF7 ?_ ?_ <;> intro hc38 hF8
 refine awp_seq (awp_region ?_)
 refine s_mv ?_
 obtain ⟨v39, hv39, hF9⟩ := bind_some' hF8
 refine s_cat hv39 ?_
 obtain ⟨v40, hv40, hF10⟩ := bind_some' hF9
 refine s_cat hv40 ?_
 refine s_as ?_
 refine k_nil (k_seq (awp_ret (k_blk_ret (k_seq_ret (k_fin ?_)))))
 cases hF10
 exact ends_a [] [] Tryz.results43
 refine awp_skip (k_blk (k_seq (awp_seq (awp_region ?_))))
 refine s_mv ?_
 obtain ⟨v41, hv41, hF9⟩ := bind_some' hF8
 refine s_cat hv41 ?_
 obtain ⟨v42, hv42, hF10⟩ := bind_some' hF9
 refine s_cat hv42 ?_
 refine s_as ?_
 refine k_nil (k_seq (awp_ret (k_fin ?_)))
 cases hF10
 exact ends_a [] [] Tryz.results43
theorem m_impl_coreText_all (fuel : Nat) : m_impl_coreText_AC fuel := by
 induction fuel using Nat.strongRecOn with
 | _ N ih =>
   cases N with
   | zero => exact (by intro x1 r h; rw [m_impl_coreText] at h; cases h)
   | succ fu => exact m_impl_coreText_st fu (fun k hk => (ih k (by omega)))
theorem m_impl_coreText_ok (fuel : Nat) : m_impl_coreText_AC fuel := (m_impl_coreText_all fuel)
def m_impl_FormatCore_AC (fuel : Nat) : Prop := ∀ (x1 : Core) (r : ByteArray), m_impl_FormatCore fuel x1 = some r → AC Tryz.prog 12 [.ag [.t (.sc (.int .i64 x1.kind)), .t (.sc (.int .i64 x1.id)), .t (.sc (.str x1.name)), .t (.sc (.int .i64 x1.n)), .t (.sl (x1.ids.map rI)), .t (.sc (.int .i64 x1.data.kind)), .t (.sc (.str x1.data.name)), .t (.sc (.int .i64 x1.data.n)), .t (.sl (x1.data.scopes.map rI)), .t (.sl (x1.data.kids.map Form.row)), .t (.sl (x1.kids.map Core.row))]] noOb (.t (.sc (.str r))) noOb
theorem m_impl_FormatCore_ok (fuel : Nat) : m_impl_FormatCore_AC fuel := by
 intro x1 r hF0
 unfold m_impl_FormatCore at hF0
 refine AC_i [.t (.sc (.str r))] Tryz.func12 rfl Tryz.ntmps12 ?_
 intro C hC
 refine awp_seq (awp_region ?_)
 refine s_box ?_
 refine s_as ?_
 refine k_nil (k_seq (awp_seq (awp_seq (awp_region ?_))))
 refine s_ldW yA36 yS36 ?_
 obtain ⟨v1, hv1, hF1⟩ := bind_some' hF0
 refine s_pure [] (m_impl_CoreValid_ok fuel _ _ hv1) ?_
 refine s_not ?_
 refine k_nil (k_seq ?_)
 refine w_cond hF1 ?_ ?_ <;> intro hc2 hF2
 refine awp_seq (awp_region ?_)
 refine s_as ?_
 refine k_nil (k_seq (awp_ret (k_seq_ret (k_fin ?_))))
 cases hF2
 exact ends_a [] [] Tryz.results12
 refine awp_skip (k_seq (awp_seq (awp_region ?_)))
 refine s_ldW yA36 yS36 ?_
 obtain ⟨v3, hv3, hF3⟩ := bind_some' hF2
 refine s_pure [] (m_impl_coreText_ok fuel _ _ hv3) ?_
 refine s_as ?_
 refine k_nil (k_seq (awp_ret (k_fin ?_)))
 cases hF3
 exact ends_a [] [] Tryz.results12
def m_laws_eqIntS_AC (fuel : Nat) : Prop := ∀ (x1 : (List Int)) (x2 : (List Int)) (r : Bool), m_laws_eqIntS fuel x1 x2 = some r → AC Tryz.prog 44 [.t (.sl (x1.map rI)), .t (.sl (x2.map rI))] noOb (.t (.sc (.bool r))) noOb
theorem m_laws_eqIntS_ok (fuel : Nat) : m_laws_eqIntS_AC fuel := by
 intro x1 x2 r hF0
 unfold m_laws_eqIntS at hF0
 refine AC_i [.t (.sc (.bool r))] Tryz.func44 rfl Tryz.ntmps44 ?_
 intro C hC
 refine awp_seq (awp_region ?_)
 refine s_as ?_
 refine k_nil (k_seq (awp_seq (awp_seq (awp_region ?_))))
 refine s_mv ?_
 refine s_lenT yU22 ?_
 refine s_mv ?_
 refine s_lenT yU22 ?_
 refine s_ne ?_
 refine k_nil (k_seq ?_)
 refine w_cond hF0 ?_ ?_ <;> intro hc1 hF1
 refine awp_seq (awp_region ?_)
 refine s_as ?_
 refine k_nil (k_seq (awp_ret (k_seq_ret (k_fin ?_))))
 cases hF1
 exact ends_a [] [] Tryz.results44
 refine awp_skip (k_seq (awp_seq (awp_seq (awp_region ?_))))
 refine s_as ?_
 refine k_nil (k_seq (awp_block ?_))
 refine awp_fr (β := Int) [4, 5, 11, 12, 13, 14, 15, 16, 17, 18, 19, 20, 21, 22, 23, 24, 25] [] [] (fun a => [(5, .t (.sc (.int .i64 a.2)))]) (fun a => []) (fun a => a.1 ≤ fuel ∧ m_laws_eqIntS_l1 a.1 x1 x2 a.2 = some r ∧ 0 ≤ a.2) (fuel, 0) ⟨Nat.le_refl _, hF1, by simp⟩ ?_
 clear hF1
 rintro ⟨fu, g2⟩ ⟨hl3, hF2, hn_g2⟩
 dsimp only at hl3 hF2 hn_g2 ⊢
 obtain _ | fu := fu
 · rw [m_laws_eqIntS_l1] at hF2; cases hF2
 rw [m_laws_eqIntS_l1] at hF2
 refine awp_seq (awp_seq (awp_region ?_))
 refine s_mv ?_
 refine s_mv ?_
 refine s_lenT yU22 ?_
 refine s_lt ?_
 refine k_nil (k_seq ?_)
 refine w_cond hF2 ?_ ?_ <;> intro hc4 hF3
 refine awp_lenT 0 (fun hb5 => ?_)
 refine awp_skip (k_seq (awp_seq (awp_block (awp_seq ?_))))
 refine awp_draw yMix (by kernel_rfl) ?_
 refine s_mv ?_
 refine s_mv ?_
 obtain ⟨v6, hv6, hF4⟩ := bind_some' hF3
 refine s_ixT rI hv6 rfl yE22 ?_
 refine s_ld1 yA3 ?_
 refine s_mv ?_
 refine s_mv ?_
 obtain ⟨v7, hv7, hF5⟩ := bind_some' hF4
 refine s_ixT rI hv7 rfl yE22 ?_
 refine s_ld1 yA3 ?_
 refine s_ne ?_
 refine k_nilD (by kernel_rfl) ?_
 refine k_seq ?_
 refine w_cond hF5 ?_ ?_ <;> intro hc8 hF6
 refine awp_seq (awp_region ?_)
 refine s_as ?_
 refine k_nil (k_seq (awp_ret (k_blk_ret (k_seq_ret (k_rnd_ret2 (k_blk_ret (k_seq_ret (k_fin ?_))))))))
 cases hF6
 exact ends_a [] [] Tryz.results44
 refine awp_skip (k_blk (k_seq (awp_region ?_)))
 refine s_mv ?_
 refine s_add (winc2 hc4 hb5 hn_g2) ?_
 refine s_as ?_
 refine k_nil ?_
 exact s_rn (fu, (g2 + 1)) ⟨by first | omega | (dsimp only; omega), hF6, by first | omega | (dsimp only; omega)⟩
 refine awp_exit (k_seq_exit (k_rnd_exit2 (k_blk_exit (k_seq (awp_seq (awp_region ?_))))))
 refine s_as ?_
 refine k_nil (k_seq (awp_ret (k_fin ?_)))
 cases hF3
 exact ends_a [] [] Tryz.results44
def m_laws_eqForm_AC (fuel : Nat) : Prop := ∀ (x1 : Form) (x2 : Form) (r : Bool), m_laws_eqForm fuel x1 x2 = some r → AC Tryz.prog 45 [.ag [.t (.sc (.int .i64 x1.kind)), .t (.sc (.str x1.name)), .t (.sc (.int .i64 x1.n)), .t (.sl (x1.scopes.map rI)), .t (.sl (x1.kids.map Form.row))], .ag [.t (.sc (.int .i64 x2.kind)), .t (.sc (.str x2.name)), .t (.sc (.int .i64 x2.n)), .t (.sl (x2.scopes.map rI)), .t (.sl (x2.kids.map Form.row))]] noOb (.t (.sc (.bool r))) noOb
def m_laws_eqFormS_AC (fuel : Nat) : Prop := ∀ (x1 : (List Form)) (x2 : (List Form)) (r : Bool), m_laws_eqFormS fuel x1 x2 = some r → AC Tryz.prog 80 [.t (.sl (x1.map Form.row)), .t (.sl (x2.map Form.row))] noOb (.t (.sc (.bool r))) noOb
theorem m_laws_eqForm_st (fu : Nat) (ih_m_laws_eqForm : ∀ k, k ≤ fu → m_laws_eqForm_AC k) (ih_m_laws_eqFormS : ∀ k, k ≤ fu → m_laws_eqFormS_AC k) : m_laws_eqForm_AC (fu + 1) := by
 intro x1 x2 r hF0
 rw [m_laws_eqForm] at hF0
 refine AC_i [.t (.sc (.bool r))] Tryz.func45 rfl Tryz.ntmps45 ?_
 intro C hC
 refine awp_seq (awp_region ?_)
 refine s_box ?_
 refine s_box ?_
 refine s_as ?_
 refine k_nil (k_seq (awp_seq (awp_seq (awp_region ?_))))
 refine s_fa yF33_0 ?_
 refine s_ld1 yA3 ?_
 refine s_fa yF33_0 ?_
 refine s_ld1 yA3 ?_
 refine s_ne ?_
 refine k_nil (k_seq ?_)
 refine w_cond hF0 ?_ ?_ <;> intro hc1 hF1
 refine awp_seq (awp_region ?_)
 refine s_as ?_
 refine k_nil (k_seq (awp_ret (k_seq_ret (k_fin ?_))))
 cases hF1
 exact ends_a [] [] Tryz.results45
 refine awp_skip (k_seq (awp_seq (awp_seq (awp_region ?_))))
 refine s_fa yF33_1 ?_
 refine s_ld1 yA9 ?_
 refine s_fa yF33_1 ?_
 refine s_ld1 yA9 ?_
 refine s_neS ?_
 refine k_nil (k_seq ?_)
 refine w_cond hF1 ?_ ?_ <;> intro hc2 hF2
 refine awp_seq (awp_region ?_)
 refine s_as ?_
 refine k_nil (k_seq (awp_ret (k_seq_ret (k_fin ?_))))
 cases hF2
 exact ends_a [] [] Tryz.results45
 refine awp_skip (k_seq (awp_seq (awp_seq (awp_region ?_))))
 refine s_fa yF33_2 ?_
 refine s_ld1 yA3 ?_
 refine s_fa yF33_2 ?_
 refine s_ld1 yA3 ?_
 refine s_ne ?_
 refine k_nil (k_seq ?_)
 refine w_cond hF2 ?_ ?_ <;> intro hc3 hF3
 refine awp_seq (awp_region ?_)
 refine s_as ?_
 refine k_nil (k_seq (awp_ret (k_seq_ret (k_fin ?_))))
 cases hF3
 exact ends_a [] [] Tryz.results45
 refine awp_skip (k_seq (awp_seq (awp_seq (awp_region ?_))))
 refine s_fa yF33_3 ?_
 refine s_ld1 yA22 ?_
 refine s_fa yF33_3 ?_
 refine s_ld1 yA22 ?_
 obtain ⟨v4, hv4, hF4⟩ := bind_some' hF3
 refine s_pure [] (m_laws_eqIntS_ok fu _ _ _ hv4) ?_
 refine s_not ?_
 refine k_nil (k_seq ?_)
 refine w_cond hF4 ?_ ?_ <;> intro hc5 hF5
 refine awp_seq (awp_region ?_)
 refine s_as ?_
 refine k_nil (k_seq (awp_ret (k_seq_ret (k_fin ?_))))
 cases hF5
 exact ends_a [] [] Tryz.results45
 refine awp_skip (k_seq (awp_seq (awp_seq (awp_region ?_))))
 refine s_fa yF33_4 ?_
 refine s_ld1 yA31 ?_
 refine s_fa yF33_4 ?_
 refine s_ld1 yA31 ?_
 obtain ⟨v6, hv6, hF6⟩ := bind_some' hF5
 refine s_pure [] (ih_m_laws_eqFormS fu (by omega) _ _ _ hv6) ?_
 refine s_not ?_
 refine k_nil (k_seq ?_)
 refine w_cond hF6 ?_ ?_ <;> intro hc7 hF7
 refine awp_seq (awp_region ?_)
 refine s_as ?_
 refine k_nil (k_seq (awp_ret (k_seq_ret (k_fin ?_))))
 cases hF7
 exact ends_a [] [] Tryz.results45
 refine awp_skip (k_seq (awp_seq (awp_region ?_)))
 refine s_as ?_
 refine k_nil (k_seq (awp_ret (k_fin ?_)))
 cases hF7
 exact ends_a [] [] Tryz.results45
theorem m_laws_eqFormS_st (fu : Nat) (ih_m_laws_eqForm : ∀ k, k ≤ fu → m_laws_eqForm_AC k) (ih_m_laws_eqFormS : ∀ k, k ≤ fu → m_laws_eqFormS_AC k) : m_laws_eqFormS_AC (fu + 1) := by
 intro x1 x2 r hF0
 rw [m_laws_eqFormS] at hF0
 refine AC_i [.t (.sc (.bool r))] Tryz.func80 rfl Tryz.ntmps80 ?_
 intro C hC
 refine awp_seq (awp_region ?_)
 refine s_as ?_
 refine k_nil (k_seq (awp_seq (awp_seq (awp_region ?_))))
 refine s_mv ?_
 refine s_lenT yU31 ?_
 refine s_mv ?_
 refine s_lenT yU31 ?_
 refine s_ne ?_
 refine k_nil (k_seq ?_)
 refine w_cond hF0 ?_ ?_ <;> intro hc1 hF1
 refine awp_seq (awp_region ?_)
 refine s_as ?_
 refine k_nil (k_seq (awp_ret (k_seq_ret (k_fin ?_))))
 cases hF1
 exact ends_a [] [] Tryz.results80
 refine awp_skip (k_seq (awp_seq (awp_seq (awp_region ?_))))
 refine s_as ?_
 refine k_nil (k_seq (awp_block ?_))
 refine awp_fr (β := Int) [4, 5, 11, 12, 13, 14, 15, 16, 17, 18, 19, 20, 21, 22, 23, 24, 25, 26] [] [] (fun a => [(5, .t (.sc (.int .i64 a.2)))]) (fun a => []) (fun a => a.1 ≤ fu ∧ m_laws_eqFormS_l1 a.1 x1 x2 a.2 = some r ∧ 0 ≤ a.2) (fu, 0) ⟨Nat.le_refl _, hF1, by simp⟩ ?_
 clear hF1
 rintro ⟨fu, g2⟩ ⟨hl3, hF2, hn_g2⟩
 dsimp only at hl3 hF2 hn_g2 ⊢
 obtain _ | fu := fu
 · rw [m_laws_eqFormS_l1] at hF2; cases hF2
 rw [m_laws_eqFormS_l1] at hF2
 refine awp_seq (awp_seq (awp_region ?_))
 refine s_mv ?_
 refine s_mv ?_
 refine s_lenT yU31 ?_
 refine s_lt ?_
 refine k_nil (k_seq ?_)
 refine w_cond hF2 ?_ ?_ <;> intro hc4 hF3
 refine awp_lenT 0 (fun hb5 => ?_)
 refine awp_skip (k_seq (awp_seq (awp_block (awp_seq ?_))))
 refine awp_draw yMix (by kernel_rfl) ?_
 refine s_mv ?_
 refine s_mv ?_
 obtain ⟨v6, hv6, hF4⟩ := bind_some' hF3
 refine s_ixT Form.row hv6 (Form.row_eq _) yE31 ?_
 refine s_ldN yA33 yS33 ?_
 refine s_mv ?_
 refine s_mv ?_
 obtain ⟨v7, hv7, hF5⟩ := bind_some' hF4
 refine s_ixT Form.row hv7 (Form.row_eq _) yE31 ?_
 refine s_ldN yA33 yS33 ?_
 obtain ⟨v8, hv8, hF6⟩ := bind_some' hF5
 refine s_pure [] (ih_m_laws_eqForm fu (by omega) _ _ _ hv8) ?_
 refine s_not ?_
 refine k_nilD (by kernel_rfl) ?_
 refine k_seq ?_
 refine w_cond hF6 ?_ ?_ <;> intro hc9 hF7
 refine awp_seq (awp_region ?_)
 refine s_as ?_
 refine k_nil (k_seq (awp_ret (k_blk_ret (k_seq_ret (k_rnd_ret2 (k_blk_ret (k_seq_ret (k_fin ?_))))))))
 cases hF7
 exact ends_a [] [] Tryz.results80
 refine awp_skip (k_blk (k_seq (awp_region ?_)))
 refine s_mv ?_
 refine s_add (winc2 hc4 hb5 hn_g2) ?_
 refine s_as ?_
 refine k_nil ?_
 exact s_rn (fu, (g2 + 1)) ⟨by first | omega | (dsimp only; omega), hF7, by first | omega | (dsimp only; omega)⟩
 refine awp_exit (k_seq_exit (k_rnd_exit2 (k_blk_exit (k_seq (awp_seq (awp_region ?_))))))
 refine s_as ?_
 refine k_nil (k_seq (awp_ret (k_fin ?_)))
 cases hF3
 exact ends_a [] [] Tryz.results80
theorem m_laws_eqForm_all (fuel : Nat) : m_laws_eqForm_AC fuel ∧ m_laws_eqFormS_AC fuel := by
 induction fuel using Nat.strongRecOn with
 | _ N ih =>
   cases N with
   | zero => exact ⟨(by intro x1 x2 r h; rw [m_laws_eqForm] at h; cases h), (by intro x1 x2 r h; rw [m_laws_eqFormS] at h; cases h)⟩
   | succ fu => exact ⟨m_laws_eqForm_st fu (fun k hk => (ih k (by omega)).1) (fun k hk => (ih k (by omega)).2), m_laws_eqFormS_st fu (fun k hk => (ih k (by omega)).1) (fun k hk => (ih k (by omega)).2)⟩
theorem m_laws_eqForm_ok (fuel : Nat) : m_laws_eqForm_AC fuel := (m_laws_eqForm_all fuel).1
def m_laws_eqCore_AC (fuel : Nat) : Prop := ∀ (x1 : Core) (x2 : Core) (r : Bool), m_laws_eqCore fuel x1 x2 = some r → AC Tryz.prog 13 [.ag [.t (.sc (.int .i64 x1.kind)), .t (.sc (.int .i64 x1.id)), .t (.sc (.str x1.name)), .t (.sc (.int .i64 x1.n)), .t (.sl (x1.ids.map rI)), .t (.sc (.int .i64 x1.data.kind)), .t (.sc (.str x1.data.name)), .t (.sc (.int .i64 x1.data.n)), .t (.sl (x1.data.scopes.map rI)), .t (.sl (x1.data.kids.map Form.row)), .t (.sl (x1.kids.map Core.row))], .ag [.t (.sc (.int .i64 x2.kind)), .t (.sc (.int .i64 x2.id)), .t (.sc (.str x2.name)), .t (.sc (.int .i64 x2.n)), .t (.sl (x2.ids.map rI)), .t (.sc (.int .i64 x2.data.kind)), .t (.sc (.str x2.data.name)), .t (.sc (.int .i64 x2.data.n)), .t (.sl (x2.data.scopes.map rI)), .t (.sl (x2.data.kids.map Form.row)), .t (.sl (x2.kids.map Core.row))]] noOb (.t (.sc (.bool r))) noOb
def m_laws_eqCoreS_AC (fuel : Nat) : Prop := ∀ (x1 : (List Core)) (x2 : (List Core)) (r : Bool), m_laws_eqCoreS fuel x1 x2 = some r → AC Tryz.prog 46 [.t (.sl (x1.map Core.row)), .t (.sl (x2.map Core.row))] noOb (.t (.sc (.bool r))) noOb
theorem m_laws_eqCore_st (fu : Nat) (ih_m_laws_eqCore : ∀ k, k ≤ fu → m_laws_eqCore_AC k) (ih_m_laws_eqCoreS : ∀ k, k ≤ fu → m_laws_eqCoreS_AC k) : m_laws_eqCore_AC (fu + 1) := by
 intro x1 x2 r hF0
 rw [m_laws_eqCore] at hF0
 refine AC_i [.t (.sc (.bool r))] Tryz.func13 rfl Tryz.ntmps13 ?_
 intro C hC
 refine awp_seq (awp_region ?_)
 refine s_box ?_
 refine s_box ?_
 refine s_as ?_
 refine k_nil (k_seq (awp_seq (awp_seq (awp_region ?_))))
 refine s_fa yF36_0 ?_
 refine s_ld1 yA3 ?_
 refine s_fa yF36_0 ?_
 refine s_ld1 yA3 ?_
 refine s_ne ?_
 refine k_nil (k_seq ?_)
 refine w_cond hF0 ?_ ?_ <;> intro hc1 hF1
 refine awp_seq (awp_region ?_)
 refine s_as ?_
 refine k_nil (k_seq (awp_ret (k_seq_ret (k_fin ?_))))
 cases hF1
 exact ends_a [] [] Tryz.results13
 refine awp_skip (k_seq (awp_seq (awp_seq (awp_region ?_))))
 refine s_fa yF36_1 ?_
 refine s_ld1 yA3 ?_
 refine s_fa yF36_1 ?_
 refine s_ld1 yA3 ?_
 refine s_ne ?_
 refine k_nil (k_seq ?_)
 refine w_cond hF1 ?_ ?_ <;> intro hc2 hF2
 refine awp_seq (awp_region ?_)
 refine s_as ?_
 refine k_nil (k_seq (awp_ret (k_seq_ret (k_fin ?_))))
 cases hF2
 exact ends_a [] [] Tryz.results13
 refine awp_skip (k_seq (awp_seq (awp_seq (awp_region ?_))))
 refine s_fa yF36_2 ?_
 refine s_ld1 yA9 ?_
 refine s_fa yF36_2 ?_
 refine s_ld1 yA9 ?_
 refine s_neS ?_
 refine k_nil (k_seq ?_)
 refine w_cond hF2 ?_ ?_ <;> intro hc3 hF3
 refine awp_seq (awp_region ?_)
 refine s_as ?_
 refine k_nil (k_seq (awp_ret (k_seq_ret (k_fin ?_))))
 cases hF3
 exact ends_a [] [] Tryz.results13
 refine awp_skip (k_seq (awp_seq (awp_seq (awp_region ?_))))
 refine s_fa yF36_3 ?_
 refine s_ld1 yA3 ?_
 refine s_fa yF36_3 ?_
 refine s_ld1 yA3 ?_
 refine s_ne ?_
 refine k_nil (k_seq ?_)
 refine w_cond hF3 ?_ ?_ <;> intro hc4 hF4
 refine awp_seq (awp_region ?_)
 refine s_as ?_
 refine k_nil (k_seq (awp_ret (k_seq_ret (k_fin ?_))))
 cases hF4
 exact ends_a [] [] Tryz.results13
 refine awp_skip (k_seq (awp_seq (awp_seq (awp_region ?_))))
 refine s_fa yF36_4 ?_
 refine s_ld1 yA22 ?_
 refine s_fa yF36_4 ?_
 refine s_ld1 yA22 ?_
 obtain ⟨v5, hv5, hF5⟩ := bind_some' hF4
 refine s_pure [] (m_laws_eqIntS_ok fu _ _ _ hv5) ?_
 refine s_not ?_
 refine k_nil (k_seq ?_)
 refine w_cond hF5 ?_ ?_ <;> intro hc6 hF6
 refine awp_seq (awp_region ?_)
 refine s_as ?_
 refine k_nil (k_seq (awp_ret (k_seq_ret (k_fin ?_))))
 cases hF6
 exact ends_a [] [] Tryz.results13
 refine awp_skip (k_seq (awp_seq (awp_seq (awp_region ?_))))
 refine s_fa yF36_5 ?_
 refine s_ldN yA33 yS33 ?_
 refine s_fa yF36_5 ?_
 refine s_ldN yA33 yS33 ?_
 obtain ⟨v7, hv7, hF7⟩ := bind_some' hF6
 refine s_pure [] (m_laws_eqForm_ok fu _ _ _ hv7) ?_
 refine s_not ?_
 refine k_nil (k_seq ?_)
 refine w_cond hF7 ?_ ?_ <;> intro hc8 hF8
 refine awp_seq (awp_region ?_)
 refine s_as ?_
 refine k_nil (k_seq (awp_ret (k_seq_ret (k_fin ?_))))
 cases hF8
 exact ends_a [] [] Tryz.results13
 refine awp_skip (k_seq (awp_seq (awp_seq (awp_region ?_))))
 refine s_fa yF36_6 ?_
 refine s_ld1 yA34 ?_
 refine s_fa yF36_6 ?_
 refine s_ld1 yA34 ?_
 obtain ⟨v9, hv9, hF9⟩ := bind_some' hF8
 refine s_pure [] (ih_m_laws_eqCoreS fu (by omega) _ _ _ hv9) ?_
 refine s_not ?_
 refine k_nil (k_seq ?_)
 refine w_cond hF9 ?_ ?_ <;> intro hc10 hF10
 refine awp_seq (awp_region ?_)
 refine s_as ?_
 refine k_nil (k_seq (awp_ret (k_seq_ret (k_fin ?_))))
 cases hF10
 exact ends_a [] [] Tryz.results13
 refine awp_skip (k_seq (awp_seq (awp_region ?_)))
 refine s_as ?_
 refine k_nil (k_seq (awp_ret (k_fin ?_)))
 cases hF10
 exact ends_a [] [] Tryz.results13
theorem m_laws_eqCoreS_st (fu : Nat) (ih_m_laws_eqCore : ∀ k, k ≤ fu → m_laws_eqCore_AC k) (ih_m_laws_eqCoreS : ∀ k, k ≤ fu → m_laws_eqCoreS_AC k) : m_laws_eqCoreS_AC (fu + 1) := by
 intro x1 x2 r hF0
 rw [m_laws_eqCoreS] at hF0
 refine AC_i [.t (.sc (.bool r))] Tryz.func46 rfl Tryz.ntmps46 ?_
 intro C hC
 refine awp_seq (awp_region ?_)
 refine s_as ?_
 refine k_nil (k_seq (awp_seq (awp_seq (awp_region ?_))))
 refine s_mv ?_
 refine s_lenT yU34 ?_
 refine s_mv ?_
 refine s_lenT yU34 ?_
 refine s_ne ?_
 refine k_nil (k_seq ?_)
 refine w_cond hF0 ?_ ?_ <;> intro hc1 hF1
 refine awp_seq (awp_region ?_)
 refine s_as ?_
 refine k_nil (k_seq (awp_ret (k_seq_ret (k_fin ?_))))
 cases hF1
 exact ends_a [] [] Tryz.results46
 refine awp_skip (k_seq (awp_seq (awp_seq (awp_region ?_))))
 refine s_as ?_
 refine k_nil (k_seq (awp_block ?_))
 refine awp_fr (β := Int) [4, 5, 11, 12, 13, 14, 15, 16, 17, 18, 19, 20, 21, 22, 23, 24, 25, 26] [] [] (fun a => [(5, .t (.sc (.int .i64 a.2)))]) (fun a => []) (fun a => a.1 ≤ fu ∧ m_laws_eqCoreS_l1 a.1 x1 x2 a.2 = some r ∧ 0 ≤ a.2) (fu, 0) ⟨Nat.le_refl _, hF1, by simp⟩ ?_
 clear hF1
 rintro ⟨fu, g2⟩ ⟨hl3, hF2, hn_g2⟩
 dsimp only at hl3 hF2 hn_g2 ⊢
 obtain _ | fu := fu
 · rw [m_laws_eqCoreS_l1] at hF2; cases hF2
 rw [m_laws_eqCoreS_l1] at hF2
 refine awp_seq (awp_seq (awp_region ?_))
 refine s_mv ?_
 refine s_mv ?_
 refine s_lenT yU34 ?_
 refine s_lt ?_
 refine k_nil (k_seq ?_)
 refine w_cond hF2 ?_ ?_ <;> intro hc4 hF3
 refine awp_lenT 0 (fun hb5 => ?_)
 refine awp_skip (k_seq (awp_seq (awp_block (awp_seq ?_))))
 refine awp_draw yMix (by kernel_rfl) ?_
 refine s_mv ?_
 refine s_mv ?_
 obtain ⟨v6, hv6, hF4⟩ := bind_some' hF3
 refine s_ixT Core.row hv6 (Core.row_eq _) yE34 ?_
 refine s_ldN yA36 yS36 ?_
 refine s_mv ?_
 refine s_mv ?_
 obtain ⟨v7, hv7, hF5⟩ := bind_some' hF4
 refine s_ixT Core.row hv7 (Core.row_eq _) yE34 ?_
 refine s_ldN yA36 yS36 ?_
 obtain ⟨v8, hv8, hF6⟩ := bind_some' hF5
 refine s_pure [] (ih_m_laws_eqCore fu (by omega) _ _ _ hv8) ?_
 refine s_not ?_
 refine k_nilD (by kernel_rfl) ?_
 refine k_seq ?_
 refine w_cond hF6 ?_ ?_ <;> intro hc9 hF7
 refine awp_seq (awp_region ?_)
 refine s_as ?_
 refine k_nil (k_seq (awp_ret (k_blk_ret (k_seq_ret (k_rnd_ret2 (k_blk_ret (k_seq_ret (k_fin ?_))))))))
 cases hF7
 exact ends_a [] [] Tryz.results46
 refine awp_skip (k_blk (k_seq (awp_region ?_)))
 refine s_mv ?_
 refine s_add (winc2 hc4 hb5 hn_g2) ?_
 refine s_as ?_
 refine k_nil ?_
 exact s_rn (fu, (g2 + 1)) ⟨by first | omega | (dsimp only; omega), hF7, by first | omega | (dsimp only; omega)⟩
 refine awp_exit (k_seq_exit (k_rnd_exit2 (k_blk_exit (k_seq (awp_seq (awp_region ?_))))))
 refine s_as ?_
 refine k_nil (k_seq (awp_ret (k_fin ?_)))
 cases hF3
 exact ends_a [] [] Tryz.results46
theorem m_laws_eqCore_all (fuel : Nat) : m_laws_eqCore_AC fuel ∧ m_laws_eqCoreS_AC fuel := by
 induction fuel using Nat.strongRecOn with
 | _ N ih =>
   cases N with
   | zero => exact ⟨(by intro x1 x2 r h; rw [m_laws_eqCore] at h; cases h), (by intro x1 x2 r h; rw [m_laws_eqCoreS] at h; cases h)⟩
   | succ fu => exact ⟨m_laws_eqCore_st fu (fun k hk => (ih k (by omega)).1) (fun k hk => (ih k (by omega)).2), m_laws_eqCoreS_st fu (fun k hk => (ih k (by omega)).1) (fun k hk => (ih k (by omega)).2)⟩
theorem m_laws_eqCore_ok (fuel : Nat) : m_laws_eqCore_AC fuel := (m_laws_eqCore_all fuel).1
def m_laws_FnExactFormatCore_AC (fuel : Nat) : Prop := ∀ (x1 : Core) (r : Bool), m_laws_FnExactFormatCore fuel x1 = some r → AC Tryz.prog 3 [.ag [.t (.sc (.int .i64 x1.kind)), .t (.sc (.int .i64 x1.id)), .t (.sc (.str x1.name)), .t (.sc (.int .i64 x1.n)), .t (.sl (x1.ids.map rI)), .t (.sc (.int .i64 x1.data.kind)), .t (.sc (.str x1.data.name)), .t (.sc (.int .i64 x1.data.n)), .t (.sl (x1.data.scopes.map rI)), .t (.sl (x1.data.kids.map Form.row)), .t (.sl (x1.kids.map Core.row))]] noOb (.t (.sc (.bool r))) noOb
theorem m_laws_FnExactFormatCore_ok (fuel : Nat) : m_laws_FnExactFormatCore_AC fuel := by
 intro x1 r hF0
 unfold m_laws_FnExactFormatCore at hF0
 refine AC_i [.t (.sc (.bool r))] Tryz.func3 rfl Tryz.ntmps3 ?_
 intro C hC
 refine awp_seq (awp_region ?_)
 refine s_box ?_
 refine s_as ?_
 refine k_nil (k_seq (awp_seq (awp_region ?_)))
 refine s_as ?_
 refine k_nil (k_seq (awp_seq (awp_region ?_)))
 refine s_ldW yA28 yS28 ?_
 refine s_mv ?_
 obtain ⟨v1, hv1, hF1⟩ := bind_some' hF0
 refine s_pure [] (m_laws_szCore_ok fuel _ _ _ hv1) ?_
 refine s_as ?_
 refine k_nil (k_seq (awp_seq (awp_seq (awp_region ?_))))
 refine s_mv ?_
 refine s_lt ?_
 refine k_nil (k_seq ?_)
 refine w_cond hF1 ?_ ?_ <;> intro hc2 hF2
 refine awp_seq (awp_region ?_)
 refine s_as ?_
 refine k_nil (k_seq (awp_ret (k_seq_ret (k_fin ?_))))
 cases hF2
 exact ends_a [] [] Tryz.results3
 refine awp_skip (k_seq (awp_seq (awp_region ?_)))
 refine s_ldW yA28 yS28 ?_
 obtain ⟨v3, hv3, hF3⟩ := bind_some' hF2
 refine s_pure [] (m_laws_toCore_ok fuel _ _ hv3) ?_
 obtain ⟨v4, hv4, hF4⟩ := bind_some' hF3
 refine s_pure [] (m_spec_FormatCore_ok fuel _ _ hv4) ?_
 refine s_as ?_
 refine k_nil (k_seq (awp_seq (awp_region ?_)))
 refine s_ldW yA28 yS28 ?_
 obtain ⟨v5, hv5, hF5⟩ := bind_some' hF4
 refine s_pure [] (m_laws_toCore_ok fuel _ _ hv5) ?_
 refine s_alloc yZ36 ?_
 refine s_stW yS36 ?_
 refine k_nil (k_seq (awp_seq (awp_region ?_)))
 refine s_ldW yA36 yS36 ?_
 obtain ⟨v6, hv6, hF6⟩ := bind_some' hF5
 refine s_pure [] (m_impl_FormatCore_ok fuel _ _ hv6) ?_
 refine s_as ?_
 refine k_nil (k_seq (awp_seq (awp_seq (awp_region ?_))))
 refine s_mv ?_
 refine s_mv ?_
 refine s_neS ?_
 refine k_nil (k_seq ?_)
 refine w_cond hF6 ?_ ?_ <;> intro hc7 hF7
 refine awp_seq (awp_region ?_)
 refine s_as ?_
 refine k_nil (k_seq (awp_ret (k_seq_ret (k_fin ?_))))
 cases hF7
 exact ends_a [] [] Tryz.results3
 refine awp_skip (k_seq (awp_seq (awp_seq ?_)))
 refine awp_draw yMix (by kernel_rfl) ?_
 refine s_ldW yA36 yS36 ?_
 refine s_ldW yA28 yS28 ?_
 obtain ⟨v8, hv8, hF8⟩ := bind_some' hF7
 refine s_pure [] (m_laws_toCore_ok fuel _ _ hv8) ?_
 obtain ⟨v9, hv9, hF9⟩ := bind_some' hF8
 refine s_pure [] (m_laws_eqCore_ok fuel _ _ _ hv9) ?_
 refine s_not ?_
 refine k_nilD (by kernel_rfl) ?_
 refine k_seq ?_
 refine w_cond hF9 ?_ ?_ <;> intro hc10 hF10
 refine awp_seq (awp_region ?_)
 refine s_as ?_
 refine k_nil (k_seq (awp_ret (k_seq_ret (k_fin ?_))))
 cases hF10
 exact ends_a [] [] Tryz.results3
 refine awp_skip (k_seq (awp_seq (awp_region ?_)))
 refine s_as ?_
 refine k_nil (k_seq (awp_ret (k_fin ?_)))
 cases hF10
 exact ends_a [] [] Tryz.results3
end Go.Abs
