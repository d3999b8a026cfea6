/- A part of the proof: what the functions that the law calls answer, as pure values. -/
import Derived.Test.YtehdhaaopmihaaaGreatDoorK0a82d769b634
import Derived.Test.YtehdhaaopmihaaaGreatDoorK0fde71595f57
import Derived.Test.YtehdhaaopmihaaaGreatDoorK5b2a5b68cfac
import Derived.Test.YtehdhaaopmihaaaGreatDoorKc393c9bb41a5
import Derived.Test.YtehdhaaopmihaaaGreatDoorKf448547b6dfa
set_option linter.unusedSimpArgs false
set_option linter.unusedVariables false
set_option maxRecDepth 100000
set_option maxHeartbeats 4000000
namespace Go.Abs
open Go.Proofs
theorem m_impl_coreOk_all (fuel : Nat) : m_impl_coreOk_AC fuel := by
 induction fuel using Nat.strongRecOn with
 | _ N ih =>
   cases N with
   | zero => exact (by intro x1 x2 x3 o1 r h; rw [m_impl_coreOk] at h; cases h)
   | succ fu => exact m_impl_coreOk_st fu (fun k hk => (ih k (by omega)))
theorem m_impl_coreOk_ok (fuel : Nat) : m_impl_coreOk_AC fuel := (m_impl_coreOk_all fuel)
def m_impl_CoreValid_AC (fuel : Nat) : Prop := ∀ (x1 : Core) (r : Bool), m_impl_CoreValid fuel x1 = some r → AC Tryz.prog 18 [.ag [.t (.sc (.int .i64 x1.kind)), .t (.sc (.int .i64 x1.id)), .t (.sc (.str x1.name)), .t (.sc (.int .i64 x1.n)), .t (.sl (x1.ids.map rI)), .t (.sc (.int .i64 x1.data.kind)), .t (.sc (.str x1.data.name)), .t (.sc (.int .i64 x1.data.n)), .t (.sl (x1.data.scopes.map rI)), .t (.sl (x1.data.kids.map Form.row)), .t (.sl (x1.kids.map Core.row))]] noOb (.t (.sc (.bool r))) noOb
theorem m_impl_CoreValid_ok (fuel : Nat) : m_impl_CoreValid_AC fuel := by
 intro x1 r hF0
 unfold m_impl_CoreValid at hF0
 refine AC_i [.t (.sc (.bool r))] Tryz.func18 rfl Tryz.ntmps18 ?_
 intro C hC
 refine awp_seq (awp_region ?_)
 refine s_box ?_
 refine s_as ?_
 refine k_nil (k_seq (awp_seq (awp_region ?_)))
 refine s_alloc yZ3 ?_
 refine s_stW yS3 ?_
 refine k_nil (k_seq (awp_seq (awp_region ?_)))
 refine s_ldW yA36 yS36 ?_
 obtain ⟨v1, hv1, hF1⟩ := bind_some' hF0
 refine s_call [(9000, 3)] [] _ _ (m_impl_coreOk_ok fuel _ _ _ _ _ hv1) ?_
 refine s_as ?_
 refine k_nil (k_seq (awp_ret (k_fin ?_)))
 cases hF1
 exact ends_a [] [] Tryz.results18
def m_strings_Join_AC (fuel : Nat) : Prop := ∀ (x1 : (List ByteArray)) (x2 : ByteArray) (r : ByteArray), m_strings_Join fuel x1 x2 = some r → AC Tryz.prog 78 [.t (.sl (x1.map rS)), .t (.sc (.str x2))] noOb (.t (.sc (.str r))) noOb
theorem m_strings_Join_ok (fuel : Nat) : m_strings_Join_AC fuel := by
 intro x1 x2 r h
 obtain ⟨h0, h⟩ := chk_some h
 obtain ⟨h1, h⟩ := chk_some h
 obtain rfl := Option.some.inj h
 exact ac_join x1 x2 ⟨_, Tryz.func78, by kernel_rfl, by kernel_rfl⟩ (by simpa using h0) (by simpa using h1) (fun a c w => Tryz.strings_Join_none a c x2 w) (fun bk o c w hc hb hcap => Tryz.strings_Join bk o c x1 x2 w hc hb (by simpa using h0) hcap (by simpa using h1))
def m_strconv_Itoa_AC (fuel : Nat) : Prop := ∀ (x1 : Int) (r : ByteArray), m_strconv_Itoa fuel x1 = some r → AC Tryz.prog 79 [.t (.sc (.int .i64 x1))] noOb (.t (.sc (.str r))) noOb
theorem m_strconv_Itoa_ok (fuel : Nat) : m_strconv_Itoa_AC fuel := by
 intro x1 r h
 obtain ⟨h0, h⟩ := chk_some h
 obtain ⟨h1, h⟩ := chk_some h
 obtain rfl := Option.some.inj h
 exact ac_itoa x1 ⟨_, Tryz.func79, by kernel_rfl, by kernel_rfl⟩ (by kernel_rfl) (fun w ht => Tryz.strconv_Itoa x1 (by simpa using h0) (by simpa using h1) w ht)
def m_impl_formText_AC (fuel : Nat) : Prop := ∀ (x1 : Form) (r : ByteArray), m_impl_formText fuel x1 = some r → AC Tryz.prog 58 [.ag [.t (.sc (.int .i64 x1.kind)), .t (.sc (.str x1.name)), .t (.sc (.int .i64 x1.n)), .t (.sl (x1.scopes.map rI)), .t (.sl (x1.kids.map Form.row))]] noOb (.t (.sc (.str r))) noOb
theorem m_impl_formText_st (fu : Nat) (ih_m_impl_formText : ∀ k, k ≤ fu → m_impl_formText_AC k) : m_impl_formText_AC (fu + 1) := by
 intro x1 r hF0
 rw [m_impl_formText] at hF0
 refine AC_i [.t (.sc (.str r))] Tryz.func58 rfl Tryz.ntmps58 ?_
 intro C hC
 refine awp_seq (awp_region ?_)
 refine s_box ?_
 refine s_as ?_
 refine k_nil (k_seq (awp_seq (awp_seq (awp_region ?_))))
 refine s_fa yF33_0 ?_
 refine s_ld1 yA3 ?_
 refine k_nil (k_seq (awp_block (awp_seq (awp_region ?_))))
 refine s_eq ?_
 refine s_as ?_
 refine k_nil (k_seq ?_)
 refine w_cond hF0 ?_ ?_ <;> intro hc1 hF1
 refine awp_seq (awp_seq (awp_region ?_))
 refine s_fa yF33_3 ?_
 refine s_ld1 yA22 ?_
 refine s_lenT yU22 ?_
 refine s_eq ?_
 refine k_nil (k_seq ?_)
 refine w_cond hF1 ?_ ?_ <;> intro hc2 hF2
 refine awp_seq (awp_region ?_)
 refine s_fa yF33_1 ?_
 refine s_ld1 yA9 ?_
 refine s_as ?_
 refine k_nil (k_seq (awp_ret (k_seq_ret (k_blk_ret (k_seq_ret (k_fin ?_))))))
 cases hF2
 exact ends_a [] [] Tryz.results58
 refine awp_skip (k_seq (awp_seq (awp_region ?_)))
 refine s_bs rS ([] : List ByteArray) yP50 yR9 ?_
 refine s_as ?_
 refine k_nil (k_seq ?_)
 refine awp_jn (α := Nat × (List ByteArray)) [3, 5, 20, 21, 22, 23, 24, 25, 26, 27, 28, 29, 30, 31, 32] [19, 5040] [] (fun a => [(3, .ar 5040)]) (fun a => [(19, .dead), (5040, .arr (a.2.map rS) 9 true)]) (fun a => a.1 ≤ fu ∧ m_impl_formText_j1 a.1 x1 a.2 = some r) ?_ ?_
 refine awp_seq (awp_region ?_)
 refine s_fa yF33_3 ?_
 refine s_ld1 yA22 ?_
 refine s_lenT yU22 ?_
 refine s_mv ?_
 refine k_nil (k_seq (awp_block ?_))
 refine awp_mv 3 19 5040 (by conv => lhs; whnf) (by conv => lhs; whnf) rfl ?_
 refine awp_frame2 [3, 5, 23, 24, 25, 26, 27, 28, 29, 30, 31, 32] [5040] [30, 31] [5040] (fun a : Nat × (List ByteArray) × Int => a.1) (fun a : Nat × (List ByteArray) × Int => [(3, .ar 5040), (23, .t (.sc (.int .i64 a.2.2)))]) (fun a : Nat × (List ByteArray) × Int => [(5040, .arr (a.2.1.map rS) 9 true)]) (fun a : Nat × (List ByteArray) × Int => a.1 ≤ fu ∧ m_impl_formText_l2 a.1 x1 a.2.1 a.2.2 = some r ∧ 0 ≤ a.2.2) (fu, ([] : List ByteArray), 0) ⟨Nat.le_refl _, hF2, by simp⟩ (by rfl) (by rfl) (fun _ => rfl) (hasF_cons (by conv => lhs; whnf) (by rfl) (hasF_cons (by conv => lhs; whnf) (by rfl) hasF_nil)) (hasO_cons (by conv => lhs; whnf) (by rfl) hasO_nil) (fresh_C hC rfl) (by repeat (first | exact freshS_args rfl | refine freshS_upd rfl ?_ | refine freshS_frame rfl ?_)) (by repeat (first | exact freshM_no | exact objs_fresh rfl | refine freshM_upd rfl ?_ | refine freshM_frame rfl ?_)) ?_
 clear hF2
 rintro ⟨fu, g3, g4⟩ ⟨hl5, hF3, hn_g4⟩
 dsimp only at hl5 hF3 hn_g4 ⊢
 obtain _ | fu := fu
 · rw [m_impl_formText_l2] at hF3; cases hF3
 rw [m_impl_formText_l2] at hF3
 refine awp_seq (awp_region ?_)
 refine s_lt ?_
 refine k_nil (k_seq (awp_seq ?_))
 refine w_cond hF3 ?_ ?_ <;> intro hc6 hF4
 refine awp_lenT 14 (fun hb7 => ?_)
 refine awp_skip (k_seq (awp_seq (awp_block (awp_seq (awp_region ?_)))))
 obtain ⟨v8, hv8, hF5⟩ := bind_some' hF4
 refine s_ixT rI hv8 rfl yE22 ?_
 refine s_ld1 yA3 ?_
 refine s_as ?_
 refine k_nil (k_seq (awp_region ?_))
 refine s_mv ?_
 refine s_mv ?_
 obtain ⟨v9, hv9, hF6⟩ := bind_some' hF5
 refine s_pure [] (m_strconv_Itoa_ok fu _ _ hv9) ?_
 refine s_bs rS [v9] yP50 yR9 ?_
 obtain ⟨hk10, hF7⟩ := chk_some hF6
 refine s_apT rS (fun _ => rfl) hk10 yP50 ?_
 refine s_as ?_
 refine k_nil (k_blk (k_seq (awp_region ?_)))
 refine s_add (winc2 hc6 hb7 hn_g4) ?_
 refine s_mv ?_
 refine k_nil ?_
 exact s_rn (fu, (g3 ++ [v9]), (g4 + 1)) ⟨by first | omega | (dsimp only; omega), hF7, by first | omega | (dsimp only; omega)⟩ [(5040, 31)]
 refine awp_exit (k_seq_exit (k_rnd_exit2 (k_blk_exit ?_)))
 exact s_jn (fu, g3) ⟨by first | omega | (dsimp only; omega), hF4⟩
 clear hF2
 rintro ⟨fu, g11⟩ ⟨hl12, hF3⟩
 dsimp only at hl12 hF3 ⊢
 obtain _ | fu := fu
 · rw [m_impl_formText_j1] at hF3; cases hF3
 rw [m_impl_formText_j1] at hF3
 refine awp_seq ?_
 refine awp_draw yMix (by kernel_rfl) ?_
 refine s_fa yF33_1 ?_
 refine s_ld1 yA9 ?_
 obtain ⟨v13, hv13, hF4⟩ := bind_some' hF3
 refine s_cat hv13 ?_
 refine s_mv0 ?_
 obtain ⟨v14, hv14, hF5⟩ := bind_some' hF4
 refine s_pure [5040] (m_strings_Join_ok fu _ _ _ hv14) ?_
 obtain ⟨v15, hv15, hF6⟩ := bind_some' hF5
 refine s_cat hv15 ?_
 obtain ⟨v16, hv16, hF7⟩ := bind_some' hF6
 refine s_cat hv16 ?_
 refine s_as ?_
 refine k_nilD (by kernel_rfl) ?_
 refine k_seq (awp_ret (k_blk_ret (k_seq_ret (k_fin ?_))))
 cases hF7
 exact ends_a [] [] Tryz.results58
 refine awp_seq (awp_region ?_)
 refine s_eq ?_
 refine s_as ?_
 refine k_nil (k_seq ?_)
 refine w_cond hF1 ?_ ?_ <;> intro hc17 hF2
 refine awp_seq (awp_region ?_)
 refine s_fa yF33_2 ?_
 refine s_ld1 yA3 ?_
 obtain ⟨v18, hv18, hF3⟩ := bind_some' hF2
 refine s_pure [] (m_strconv_Itoa_ok fu _ _ hv18) ?_
 refine s_as ?_
 refine k_nil (k_seq (awp_ret (k_blk_ret (k_seq_ret (k_fin ?_)))))
 cases hF3
 exact ends_a [] [] Tryz.results58
 refine awp_skip (k_blk (k_seq (awp_seq (awp_region ?_))))
 refine s_bs rS ([] : List ByteArray) yP50 yR9 ?_
 refine s_as ?_
 refine k_nil (k_seq (awp_seq (awp_seq (awp_region ?_))))
 refine s_fa yF33_4 ?_
 refine s_ld1 yA31 ?_
 refine s_lenT yU31 ?_
 refine s_mv ?_
 refine k_nil (k_seq (awp_block ?_))
 refine awp_mv 6 45 5060 (by conv => lhs; whnf) (by conv => lhs; whnf) rfl ?_
 refine awp_frame2 [6, 8, 49, 50, 51, 52, 53, 54, 55, 56, 57, 58] [5060] [8, 56, 57] [5060] (fun a : Nat × (List ByteArray) × Int => a.1) (fun a : Nat × (List ByteArray) × Int => [(6, .ar 5060), (49, .t (.sc (.int .i64 a.2.2)))]) (fun a : Nat × (List ByteArray) × Int => [(5060, .arr (a.2.1.map rS) 9 true)]) (fun a : Nat × (List ByteArray) × Int => a.1 ≤ fu ∧ m_impl_formText_l3 a.1 x1 a.2.1 a.2.2 = some r ∧ 0 ≤ a.2.2) (fu, ([] : List ByteArray), 0) ⟨Nat.le_refl _, hF2, by simp⟩ (by rfl) (by rfl) (fun _ => rfl) (hasF_cons (by conv => lhs; whnf) (by rfl) (hasF_cons (by conv => lhs; whnf) (by rfl) hasF_nil)) (hasO_cons (by conv => lhs; whnf) (by rfl) hasO_nil) (fresh_C hC rfl) (by repeat (first | exact freshS_args rfl | refine freshS_upd rfl ?_ | refine freshS_frame rfl ?_)) (by repeat (first | exact freshM_no | exact objs_fresh rfl | refine freshM_upd rfl ?_ | refine freshM_frame rfl ?_)) ?_
 clear hF2
 rintro ⟨fu, g19, g20⟩ ⟨hl21, hF3, hn_g20⟩
 dsimp only at hl21 hF3 hn_g20 ⊢
 obtain _ | fu := fu
 · rw [m_impl_formText_l3] at hF3; cases hF3
 rw [m_impl_formText_l3] at hF3
 refine awp_seq (awp_region ?_)
 refine s_lt ?_
 refine k_nil (k_seq (awp_seq ?_))
 refine w_cond hF3 ?_ ?_ <;> intro hc22 hF4
 refine awp_lenT 47 (fun hb23 => ?_)
 refine awp_skip (k_seq (awp_seq (awp_block (awp_seq (awp_region ?_)))))
 obtain ⟨v24, hv24, hF5⟩ := bind_some' hF4
 refine s_ixT Form.row hv24 (Form.row_eq _) yE31 ?_
 refine s_ldN yA33 yS33 ?_
 refine s_alloc yZ33 ?_
 refine s_stW yS33 ?_
 refine k_nil (k_seq (awp_region ?_))
 refine s_mv ?_
 refine s_ldW yA33 yS33 ?_
 obtain ⟨v25, hv25, hF6⟩ := bind_some' hF5
 refine s_pure [] (ih_m_impl_formText fu (by omega) _ _ hv25) ?_
 refine s_bs rS [v25] yP50 yR9 ?_
 obtain ⟨hk26, hF7⟩ := chk_some hF6
 refine s_apT rS (fun _ => rfl) hk26 yP50 ?_
 refine s_as ?_
 refine k_nil (k_blk (k_seq (awp_region ?_)))
 refine s_add (winc2 hc22 hb23 hn_g20) ?_
 refine s_mv ?_
 refine k_nil ?_
 exact s_rn (fu, (g19 ++ [v25]), (g20 + 1)) ⟨by first | omega | (dsimp only; omega), hF7, by first | omega | (dsimp only; omega)⟩ [(5060, 57)]
 refine awp_exit (k_seq_exit (k_rnd_exit2 (k_blk_exit (k_seq (awp_seq (awp_region ?_))))))
 refine s_mv ?_
 obtain ⟨v27, hv27, hF5⟩ := bind_some' hF4
 refine s_pure [5060] (m_strings_Join_ok fu _ _ _ hv27) ?_
 obtain ⟨v28, hv28, hF6⟩ := bind_some' hF5
 refine s_cat hv28 ?_
 obtain ⟨v29, hv29, hF7⟩ := bind_some' hF6
 refine s_cat hv29 ?_
 refine s_as ?_
 refine k_nil (k_seq (awp_ret (k_fin ?_)))
 cases hF7
 exact ends_a [] [] Tryz.results58
theorem m_impl_formText_all (fuel : Nat) : m_impl_formText_AC fuel := by
 induction fuel using Nat.strongRecOn with
 | _ N ih =>
   cases N with
   | zero => exact (by intro x1 r h; rw [m_impl_formText] at h; cases h)
   | succ fu => exact m_impl_formText_st fu (fun k hk => (ih k (by omega)))
theorem m_impl_formText_ok (fuel : Nat) : m_impl_formText_AC fuel := (m_impl_formText_all fuel)
def m_impl_coreText_AC (fuel : Nat) : Prop := ∀ (x1 : Core) (r : ByteArray), m_impl_coreText fuel x1 = some r → AC Tryz.prog 43 [.ag [.t (.sc (.int .i64 x1.kind)), .t (.sc (.int .i64 x1.id)), .t (.sc (.str x1.name)), .t (.sc (.int .i64 x1.n)), .t (.sl (x1.ids.map rI)), .t (.sc (.int .i64 x1.data.kind)), .t (.sc (.str x1.data.name)), .t (.sc (.int .i64 x1.data.n)), .t (.sl (x1.data.scopes.map rI)), .t (.sl (x1.data.kids.map Form.row)), .t (.sl (x1.kids.map Core.row))]] noOb (.t (.sc (.str r))) noOb
theorem m_impl_coreText_st (fu : Nat) (ih_m_impl_coreText : ∀ k, k ≤ fu → m_impl_coreText_AC k) : m_impl_coreText_AC (fu + 1) := by
 intro x1 r hF0
 rw [m_impl_coreText] at hF0
 refine AC_i [.t (.sc (.str r))] Tryz.func43 rfl Tryz.ntmps43 ?_
 intro C hC
 refine awp_seq (awp_region ?_)
 refine s_box ?_
 refine s_as ?_
 refine k_nil (k_seq (awp_seq (awp_region ?_)))
 refine s_bs rS ([] : List ByteArray) yP50 yR9 ?_
 refine s_as ?_
 refine k_nil (k_seq ?_)
 refine awp_jn (α := Nat × (List ByteArray)) [3, 5, 11, 12, 13, 14, 15, 16, 17, 18, 19, 20, 21, 22, 23] [10, 5040] [] (fun a => [(3, .ar 5040)]) (fun a => [(10, .dead), (5040, .arr (a.2.map rS) 9 true)]) (fun a => a.1 ≤ fu ∧ m_impl_coreText_j1 a.1 x1 a.2 = some r) ?_ ?_
 refine awp_seq (awp_region ?_)
 refine s_fa yF36_6 ?_
 refine s_ld1 yA34 ?_
 refine s_lenT yU34 ?_
 refine s_mv ?_
 refine k_nil (k_seq (awp_block ?_))
 refine awp_mv 3 10 5040 (by conv => lhs; whnf) (by conv => lhs; whnf) rfl ?_
 refine awp_frame2 [3, 5, 14, 15, 16, 17, 18, 19, 20, 21, 22, 23] [5040] [5, 21, 22] [5040] (fun a : Nat × (List ByteArray) × Int => a.1) (fun a : Nat × (List ByteArray) × Int => [(3, .ar 5040), (14, .t (.sc (.int .i64 a.2.2)))]) (fun a : Nat × (List ByteArray) × Int => [(5040, .arr (a.2.1.map rS) 9 true)]) (fun a : Nat × (List ByteArray) × Int => a.1 ≤ fu ∧ m_impl_coreText_l2 a.1 x1 a.2.1 a.2.2 = some r ∧ 0 ≤ a.2.2) (fu, ([] : List ByteArray), 0) ⟨Nat.le_refl _, hF0, by simp⟩ (by rfl) (by rfl) (fun _ => rfl) (hasF_cons (by conv => lhs; whnf) (by rfl) (hasF_cons (by conv => lhs; whnf) (by rfl) hasF_nil)) (hasO_cons (by conv => lhs; whnf) (by rfl) hasO_nil) (fresh_C hC rfl) (by repeat (first | exact freshS_args rfl | refine freshS_upd rfl ?_ | refine freshS_frame rfl ?_)) (by repeat (first | exact freshM_no | exact objs_fresh rfl | refine freshM_upd rfl ?_ | refine freshM_frame rfl ?_)) ?_
 clear hF0
 rintro ⟨fu, g1, g2⟩ ⟨hl3, hF1, hn_g2⟩
 dsimp only at hl3 hF1 hn_g2 ⊢
 obtain _ | fu := fu
 · rw [m_impl_coreText_l2] at hF1; cases hF1
 rw [m_impl_coreText_l2] at hF1
 refine awp_seq (awp_region ?_)
 refine s_lt ?_
 refine k_nil (k_seq (awp_seq ?_))
 refine w_cond hF1 ?_ ?_ <;> intro hc4 hF2
 refine awp_lenT 12 (fun hb5 => ?_)
 refine awp_skip (k_seq (awp_seq (awp_block (awp_seq (awp_region ?_)))))
 obtain ⟨v6, hv6, hF3⟩ := bind_some' hF2
 refine s_ixT Core.row hv6 (Core.row_eq _) yE34 ?_
 refine s_ldN yA36 yS36 ?_
 refine s_alloc yZ36 ?_
 refine s_stW yS36 ?_
 refine k_nil (k_seq (awp_region ?_))
 refine s_mv ?_
 refine s_ldW yA36 yS36 ?_
 obtain ⟨v7, hv7, hF4⟩ := bind_some' hF3
 refine s_pure [] (ih_m_impl_coreText fu (by omega) _ _ hv7) ?_
 refine s_bs rS [v7] yP50 yR9 ?_
 obtain ⟨hk8, hF5⟩ := chk_some hF4
 refine s_apT rS (fun _ => rfl) hk8 yP50 ?_
 refine s_as ?_
 refine k_nil (k_blk (k_seq (awp_region ?_)))
 refine s_add (winc2 hc4 hb5 hn_g2) ?_
 refine s_mv ?_
 refine k_nil ?_
 exact s_rn (fu, (g1 ++ [v7]), (g2 + 1)) ⟨by first | omega | (dsimp only; omega), hF5, by first | omega | (dsimp only; omega)⟩ [(5040, 22)]
 refine awp_exit (k_seq_exit (k_rnd_exit2 (k_blk_exit ?_)))
 exact s_jn (fu, g1) ⟨by first | omega | (dsimp only; omega), hF2⟩
 clear hF0
 rintro ⟨fu, g9⟩ ⟨hl10, hF1⟩
 dsimp only at hl10 hF1 ⊢
 obtain _ | fu := fu
 · rw [m_impl_coreText_j1] at hF1; cases hF1
 rw [m_impl_coreText_j1] at hF1
 refine awp_seq (awp_region ?_)
 refine s_mv ?_
 obtain ⟨v11, hv11, hF2⟩ := bind_some' hF1
 refine s_pure [5040] (m_strings_Join_ok fu _ _ _ hv11) ?_
 refine s_as ?_
 refine k_nil (k_seq (awp_seq (awp_seq (awp_region ?_))))
 refine s_fa yF36_0 ?_
 refine s_ld1 yA3 ?_
 refine k_nil (k_seq (awp_block (awp_seq (awp_region ?_))))
 refine s_eq ?_
 refine s_as ?_
 refine k_nil (k_seq ?_)
 refine w_cond hF2 ?_ ?_ <;> intro hc12 hF3
 refine awp_seq (awp_region ?_)
 refine s_fa yF36_1 ?_
 refine s_ld1 yA3 ?_
 obtain ⟨v13, hv13, hF4⟩ := bind_some' hF3
 refine s_pure [] (m_strconv_Itoa_ok fu _ _ hv13) ?_
 obtain ⟨v14, hv14, hF5⟩ := bind_some' hF4
 refine s_cat hv14 ?_
 refine s_as ?_
 refine k_nil (k_seq (awp_ret (k_blk_ret (k_seq_ret (k_fin ?_)))))
 cases hF5
 exact ends_a [] [] Tryz.results43
 refine awp_seq (awp_region ?_)
 refine s_eq ?_
 refine s_as ?_
 refine k_nil (k_seq ?_)
 refine w_cond hF3 ?_ ?_ <;> intro hc15 hF4
 refine awp_seq (awp_region ?_)
 refine s_fa yF36_2 ?_
 refine s_ld1 yA9 ?_
 refine s_as ?_
 refine k_nil (k_seq (awp_ret (k_blk_ret (k_seq_ret (k_fin ?_)))))
 cases hF4
 exact ends_a [] [] Tryz.results43
 refine awp_seq (awp_region ?_)
 refine s_eq ?_
 refine s_as ?_
 refine k_nil (k_seq ?_)
 refine w_cond hF4 ?_ ?_ <;> intro hc16 hF5
 refine awp_seq (awp_region ?_)
 refine s_fa yF36_3 ?_
 refine s_ld1 yA3 ?_
 obtain ⟨v17, hv17, hF6⟩ := bind_some' hF5
 refine s_pure [] (m_strconv_Itoa_ok fu _ _ hv17) ?_
 refine s_as ?_
 refine k_nil (k_seq (awp_ret (k_blk_ret (k_seq_ret (k_fin ?_)))))
 cases hF6
 exact ends_a [] [] Tryz.results43
 refine awp_seq (awp_region ?_)
 refine s_eq ?_
 refine s_as ?_
 refine k_nil (k_seq ?_)
 refine w_cond hF5 ?_ ?_ <;> intro hc18 hF6
 refine awp_seq (awp_region ?_)
 refine s_fa yF36_5 ?_
 refine s_ldN yA33 yS33 ?_
 obtain ⟨v19, hv19, hF7⟩ := bind_some' hF6
 refine s_pure [] (m_impl_formText_ok fu _ _ hv19) ?_
 obtain ⟨v20, hv20, hF8⟩ := bind_some' hF7
 refine s_cat hv20 ?_
 refine s_as ?_
 refine k_nil (k_seq (awp_ret (k_blk_ret (k_seq_ret (k_fin ?_)))))
 cases hF8
 exact ends_a [] [] Tryz.results43
 refine awp_seq (awp_region ?_)
 refine s_eq ?_
 refine s_as ?_
 refine k_nil (k_seq ?_)
 refine w_cond hF6 ?_ ?_ <;> intro hc21 hF7
 refine awp_seq (awp_region ?_)
 refine s_bs rS ([] : List ByteArray) yP50 yR9 ?_
 refine s_as ?_
 refine k_nil (k_seq ?_)
 refine awp_jn (α := Nat × (List ByteArray)) [7, 9, 52, 53, 54, 55, 56, 57, 58, 59, 60, 61, 62, 63, 64, 65] [51, 5080] [] (fun a => [(7, .ar 5080)]) (fun a => [(51, .dead), (5080, .arr (a.2.map rS) 9 true)]) (fun a => a.1 ≤ fu ∧ m_impl_coreText_j3 a.1 v11 a.2 = some r) ?_ ?_
 refine awp_seq (awp_region ?_)
 refine s_fa yF36_4 ?_
 refine s_ld1 yA22 ?_
 refine s_lenT yU22 ?_
 refine s_mv ?_
 refine k_nil (k_seq (awp_block ?_))
 refine awp_mv 7 51 5080 (by conv => lhs; whnf) (by conv => lhs; whnf) rfl ?_
 refine awp_frame2 [7, 9, 55, 56, 57, 58, 59, 60, 61, 62, 63, 64, 65] [5080] [63, 64] [5080] (fun a : Nat × (List ByteArray) × Int => a.1) (fun a : Nat × (List ByteArray) × Int => [(7, .ar 5080), (55, .t (.sc (.int .i64 a.2.2)))]) (fun a : Nat × (List ByteArray) × Int => [(5080, .arr (a.2.1.map rS) 9 true)]) (fun a : Nat × (List ByteArray) × Int => a.1 ≤ fu ∧ m_impl_coreText_l4 a.1 x1 v11 a.2.1 a.2.2 = some r ∧ 0 ≤ a.2.2) (fu, ([] : List ByteArray), 0) ⟨Nat.le_refl _, hF7, by simp⟩ (by rfl) (by rfl) (fun _ => rfl) (hasF_cons (by conv => lhs; whnf) (by rfl) (hasF_cons (by conv => lhs; whnf) (by rfl) hasF_nil)) (hasO_cons (by conv => lhs; whnf) (by rfl) hasO_nil) (fresh_C hC rfl) (by repeat (first | exact freshS_args rfl | refine freshS_upd rfl ?_ | refine freshS_frame rfl ?_)) (by repeat (first | exact freshM_no | exact objs_fresh rfl | refine freshM_upd rfl ?_ | refine freshM_frame rfl ?_)) ?_
 clear hF7
 rintro ⟨fu, g22, g23⟩ ⟨hl24, hF8, hn_g23⟩
 dsimp only at hl24 hF8 hn_g23 ⊢
 obtain _ | fu := fu
 · rw [m_impl_coreText_l4] at hF8; cases hF8
 rw [m_impl_coreText_l4] at hF8
 refine awp_seq (awp_region ?_)
 refine s_lt ?_
 refine k_nil (k_seq (awp_seq ?_))
 refine w_cond hF8 ?_ ?_ <;> intro hc25 hF9
 refine awp_lenT 53 (fun hb26 => ?_)
 refine awp_skip (k_seq (awp_seq (awp_block (awp_seq (awp_region ?_)))))
 obtain ⟨v27, hv27, hF10⟩ := bind_some' hF9
 refine s_ixT rI hv27 rfl yE22 ?_
 refine s_ld1 yA3 ?_
 refine s_as ?_
 refine k_nil (k_seq (awp_region ?_))
 refine s_mv ?_
 refine s_mv ?_
 obtain ⟨v28, hv28, hF11⟩ := bind_some' hF10
 refine s_pure [] (m_strconv_Itoa_ok fu _ _ hv28) ?_
 obtain ⟨v29, hv29, hF12⟩ := bind_some' hF11
 refine s_cat hv29 ?_
 refine s_bs rS [v29] yP50 yR9 ?_
 obtain ⟨hk30, hF13⟩ := chk_some hF12
 refine s_apT rS (fun _ => rfl) hk30 yP50 ?_
 refine s_as ?_
 refine k_nil (k_blk (k_seq (awp_region ?_)))
 refine s_add (winc2 hc25 hb26 hn_g23) ?_
 refine s_mv ?_
 refine k_nil ?_
 exact s_rn (fu, (g22 ++ [v29]), (g23 + 1)) ⟨by first | omega | (dsimp only; omega), hF13, by first | omega | (dsimp only; omega)⟩ [(5080, 64)]
 refine awp_exit (k_seq_exit (k_rnd_exit2 (k_blk_exit ?_)))
 exact s_jn (fu, g22) ⟨by first | omega | (dsimp only; omega), hF9⟩
 clear hF7
 rintro ⟨fu, g31⟩ ⟨hl32, hF8⟩
 dsimp only at hl32 hF8 ⊢
 obtain _ | fu := fu
 · rw [m_impl_coreText_j3] at hF8; cases hF8
 rw [m_impl_coreText_j3] at hF8
 refine awp_seq (awp_region ?_)
 refine s_mv ?_
 obtain ⟨v33, hv33, hF9⟩ := bind_some' hF8
 refine s_pure [5080] (m_strings_Join_ok fu _ _ _ hv33) ?_
 obtain ⟨v34, hv34, hF10⟩ := bind_some' hF9
 refine s_cat hv34 ?_
 obtain ⟨v35, hv35, hF11⟩ := bind_some' hF10
 refine s_cat hv35 ?_
 refine s_mv ?_
 obtain ⟨v36, hv36, hF12⟩ := bind_some' hF11
 refine s_cat hv36 ?_
 obtain ⟨v37, hv37, hF13⟩ := bind_some' hF12
 refine s_cat hv37 ?_
 refine s_as ?_
 refine k_nil (k_seq (awp_ret (k_blk_ret (k_seq_ret (k_fin ?_)))))
 cases hF13
 exact ends_a [] [] Tryz.results43
 refine awp_seq (awp_region ?_)
 refine s_eq ?_
 refine s_as ?_
 refine k_nil (k_seq ?_)
 refine w_cond hF7 ?_ ?_ <;> intro hc38 hF8
 refine awp_seq (awp_region ?_)
 refine s_mv ?_
 obtain ⟨v39, hv39, hF9⟩ := bind_some' hF8
 refine s_cat hv39 ?_
 obtain ⟨v40, hv40, hF10⟩ := bind_some' hF9
 refine s_cat hv40 ?_
 refine s_as ?_
 refine k_nil (k_seq (awp_ret (k_blk_ret (k_seq_ret (k_fin ?_)))))
 cases hF10
 exact ends_a [] [] Tryz.results43
 refine awp_skip (k_blk (k_seq (awp_seq (awp_region ?_))))
 refine s_mv ?_
 obtain ⟨v41, hv41, hF9⟩ := bind_some' hF8
 refine s_cat hv41 ?_
 obtain ⟨v42, hv42, hF10⟩ := bind_some' hF9
 refine s_cat hv42 ?_
 refine s_as ?_
 refine k_nil (k_seq (awp_ret (k_fin ?_)))
 cases hF10
 exact ends_a [] [] Tryz.results43
theorem m_impl_coreText_all (fuel : Nat) : m_impl_coreText_AC fuel := by
 induction fuel using Nat.strongRecOn with
 | _ N ih =>
   cases N with
   | zero => exact (by intro x1 r h; rw [m_impl_coreText] at h; cases h)
   | succ fu => exact m_impl_coreText_st fu (fun k hk => (ih k (by omega)))
theorem m_impl_coreText_ok (fuel : Nat) : m_impl_coreText_AC fuel := (m_impl_coreText_all fuel)
def m_impl_FormatCore_AC (fuel : Nat) : Prop := ∀ (x1 : Core) (r : ByteArray), m_impl_FormatCore fuel x1 = some r → AC Tryz.prog 12 [.ag [.t (.sc (.int .i64 x1.kind)), .t (.sc (.int .i64 x1.id)), .t (.sc (.str x1.name)), .t (.sc (.int .i64 x1.n)), .t (.sl (x1.ids.map rI)), .t (.sc (.int .i64 x1.data.kind)), .t (.sc (.str x1.data.name)), .t (.sc (.int .i64 x1.data.n)), .t (.sl (x1.data.scopes.map rI)), .t (.sl (x1.data.kids.map Form.row)), .t (.sl (x1.kids.map Core.row))]] noOb (.t (.sc (.str r))) noOb
theorem m_impl_FormatCore_ok (fuel : Nat) : m_impl_FormatCore_AC fuel := by
 intro x1 r hF0
 unfold m_impl_FormatCore at hF0
 refine AC_i [.t (.sc (.str r))] Tryz.func12 rfl Tryz.ntmps12 ?_
 intro C hC
 refine awp_seq (awp_region ?_)
 refine s_box ?_
 refine s_as ?_
 refine k_nil (k_seq (awp_seq (awp_seq (awp_region ?_))))
 refine s_ldW yA36 yS36 ?_
 obtain ⟨v1, hv1, hF1⟩ := bind_some' hF0
 refine s_pure [] (m_impl_CoreValid_ok fuel _ _ hv1) ?_
 refine s_not ?_
 refine k_nil (k_seq ?_)
 refine w_cond hF1 ?_ ?_ <;> intro hc2 hF2
 refine awp_seq (awp_region ?_)
 refine s_as ?_
 refine k_nil (k_seq (awp_ret (k_seq_ret (k_fin ?_))))
 cases hF2
 exact ends_a [] [] Tryz.results12
 refine awp_skip (k_seq (awp_seq (awp_region ?_)))
 refine s_ldW yA36 yS36 ?_
 obtain ⟨v3, hv3, hF3⟩ := bind_some' hF2
 refine s_pure [] (m_impl_coreText_ok fuel _ _ hv3) ?_
 refine s_as ?_
 refine k_nil (k_seq (awp_ret (k_fin ?_)))
 cases hF3
 exact ends_a [] [] Tryz.results12
def m_spec_l15Open_AC (fuel : Nat) : Prop := ∀ (x1 : (List Int)) (r : l15Rd), m_spec_l15Open fuel x1 = some r → AC Tryz.prog 67 [.t (.sl (x1.map rB))] (objs []) (.rf 10 0) (objs [(10, .box [.t (.sl (r.b.map rB)), .t (.sc (.int .i64 r.p))])])
theorem m_spec_l15Open_ok (fuel : Nat) : m_spec_l15Open_AC fuel := by
 intro x1 r hF0
 unfold m_spec_l15Open at hF0
 refine AC_i [.rf 10 0] Tryz.func67 rfl Tryz.ntmps67 ?_
 intro C hC
 refine awp_seq (awp_region ?_)
 refine s_as ?_
 refine k_nil (k_seq (awp_seq (awp_seq (awp_region ?_))))
 refine s_mv ?_
 refine s_lenT yU40 ?_
 refine s_gt ?_
 refine k_nil (k_seq ?_)
 refine w_cond hF0 ?_ ?_ <;> intro hc1 hF1
 refine awp_lenT 0 (fun hb2 => ?_)
 refine awp_region ?_
 refine s_mv ?_
 obtain ⟨v3, hv3, hF2⟩ := bind_some' hF1
 refine s_sl01 rB (fun _ => rfl) hv3 yU40 yE40 ?_
 refine s_as ?_
 refine k_nil (k_seq (awp_seq (awp_region ?_)))
 refine s_mv ?_
 refine s_bld yZ121 yL121 ?_
 refine s_box ?_
 refine s_as ?_
 refine k_nil (k_seq (awp_ret (k_fin ?_)))
 cases hF2
 exact ends_a _ [] Tryz.results67
 refine awp_skip (k_seq (awp_seq (awp_region ?_)))
 refine s_mv ?_
 refine s_bld yZ121 yL121 ?_
 refine s_box ?_
 refine s_as ?_
 refine k_nil (k_seq (awp_ret (k_fin ?_)))
 cases hF1
 exact ends_a _ [] Tryz.results67
def m_spec_l15Rd_pick_AC (fuel : Nat) : Prop := ∀ (o1 : l15Rd) (x2 : Int) (r : (Int × l15Rd)), m_spec_l15Rd_pick fuel o1 x2 = some r → AC Tryz.prog 82 [.rf 9000 0, .t (.sc (.int .i64 x2))] (objs [(9000, .box [.t (.sl (o1.b.map rB)), .t (.sc (.int .i64 o1.p))])]) (.t (.sc (.int .i64 r.1))) (objs [(9000, .box [.t (.sl (r.2.b.map rB)), .t (.sc (.int .i64 r.2.p))])])
theorem m_spec_l15Rd_pick_ok (fuel : Nat) : m_spec_l15Rd_pick_AC fuel := by
 intro o1 x2 r hF0
 unfold m_spec_l15Rd_pick at hF0
 refine AC_i [.t (.sc (.int .i64 r.1))] Tryz.func82 rfl Tryz.ntmps82 ?_
 intro C hC
 refine awp_seq (awp_region ?_)
 refine s_as ?_
 refine k_nil (k_seq (awp_seq (awp_region ?_)))
 refine s_mv ?_
 refine s_mv ?_
 refine s_nc ?_
 refine s_fa yF121_1 ?_
 refine s_ld1 yA3 ?_
 refine s_add rfl ?_
 refine s_nc ?_
 refine s_fa yF121_1 ?_
 refine s_stP yS3 ?_
 refine k_nil (k_seq (awp_seq (awp_seq (awp_region ?_))))
 refine s_mv ?_
 refine s_lt ?_
 refine s_mv ?_
 refine w_guard _ 17 hF0 ?_ ?_ <;> intro hc1 hF1
 iterate 6 refine r_no rfl ?_
 refine s_pkt ?_
 refine k_nil (k_seq (awp_true rfl (awp_seq (awp_region ?_))))
 refine s_as ?_
 refine k_nil (k_seq (awp_ret (k_seq_ret (k_fin ?_))))
 cases hF1
 exact ends_a _ [] Tryz.results82
 refine s_mv ?_
 refine s_nc ?_
 refine s_fa yF121_0 ?_
 refine s_ld1 yA40 ?_
 refine s_lenT yU40 ?_
 refine s_eq ?_
 refine s_pkf ?_
 refine k_nil (k_seq ?_)
 refine w_cond hF1 ?_ ?_ <;> intro hc2 hF2
 refine awp_seq (awp_region ?_)
 refine s_as ?_
 refine k_nil (k_seq (awp_ret (k_seq_ret (k_fin ?_))))
 cases hF2
 exact ends_a _ [] Tryz.results82
 refine awp_skip (k_seq (awp_seq (awp_region ?_)))
 refine s_mv ?_
 refine s_nc ?_
 refine s_fa yF121_1 ?_
 refine s_ld1 yA3 ?_
 refine s_sub rfl ?_
 refine s_as ?_
 refine k_nil (k_seq (awp_seq (awp_seq (awp_region ?_))))
 refine s_mv ?_
 refine s_mv ?_
 refine s_nc ?_
 refine s_fa yF121_0 ?_
 refine s_ld1 yA40 ?_
 refine s_lenT yU40 ?_
 refine s_lt ?_
 refine k_nil (k_seq ?_)
 refine w_cond hF2 ?_ ?_ <;> intro hc3 hF3
 refine awp_seq (awp_region ?_)
 refine s_mv ?_
 refine s_nc ?_
 refine s_fa yF121_0 ?_
 refine s_ld1 yA40 ?_
 refine s_mv ?_
 obtain ⟨v4, hv4, hF4⟩ := bind_some' hF3
 refine s_ixT rB hv4 rfl yE40 ?_
 refine s_ld1 yA5 ?_
 refine s_int yU5 yU3 rfl ?_
 refine s_mv ?_
 obtain ⟨hk5, hF5⟩ := chk_some hF4
 refine s_rem (h0 := not_zero hk5) ?_
 refine s_as ?_
 refine k_nil (k_seq (awp_ret (k_seq_ret (k_fin ?_))))
 cases hF5
 exact ends_a _ [] Tryz.results82
 refine awp_skip (k_seq (awp_seq ?_))
 refine awp_draw yMix (by kernel_rfl) ?_
 refine s_mv0 ?_
 refine s_nc ?_
 refine s_fa yF121_0 ?_
 refine s_ld1 yA40 ?_
 refine s_mv ?_
 refine s_mv0 ?_
 refine s_nc ?_
 refine s_fa yF121_0 ?_
 refine s_ld1 yA40 ?_
 refine s_lenT yU40 ?_
 obtain ⟨hk6, hF4⟩ := chk_some hF3
 refine s_rem (h0 := not_zero hk6) ?_
 obtain ⟨v7, hv7, hF5⟩ := bind_some' hF4
 refine s_ixT rB hv7 rfl yE40 ?_
 refine s_ld1 yA5 ?_
 refine s_int yU5 yU3 rfl ?_
 refine s_mul rfl ?_
 refine s_mv0 ?_
 refine s_nc ?_
 refine s_fa yF121_0 ?_
 refine s_ld1 yA40 ?_
 refine s_mv ?_
 refine s_mul rfl ?_
 refine s_add rfl ?_
 refine s_mv0 ?_
 refine s_nc ?_
 refine s_fa yF121_0 ?_
 refine s_ld1 yA40 ?_
 refine s_lenT yU40 ?_
 obtain ⟨hk8, hF6⟩ := chk_some hF5
 refine s_rem (h0 := not_zero hk8) ?_
 obtain ⟨v9, hv9, hF7⟩ := bind_some' hF6
 refine s_ixT rB hv9 rfl yE40 ?_
 refine s_ld1 yA5 ?_
 refine s_int yU5 yU3 rfl ?_
 refine s_mul rfl ?_
 refine s_add rfl ?_
 refine s_mv ?_
 refine s_mul rfl ?_
 refine s_add rfl ?_
 refine s_mv ?_
 refine s_mv0 ?_
 refine s_nc ?_
 refine s_fa yF121_0 ?_
 refine s_ld1 yA40 ?_
 refine s_lenT yU40 ?_
 obtain ⟨hk10, hF8⟩ := chk_some hF7
 refine s_quo (h0 := not_zero hk10) rfl ?_
 refine s_mul rfl ?_
 refine s_add rfl ?_
 refine s_as ?_
 refine k_nilD (by kernel_rfl) ?_
 refine k_seq (awp_seq (awp_region ?_))
 refine s_mv ?_
 refine s_mv ?_
 refine s_quo rfl ?_
 refine s_xor rfl ?_
 refine s_as ?_
 refine k_nil (k_seq (awp_seq (awp_region ?_)))
 refine s_mv ?_
 refine s_mv ?_
 obtain ⟨hk11, hF9⟩ := chk_some hF8
 refine s_rem (h0 := not_zero hk11) ?_
 refine s_as ?_
 refine k_nil (k_seq (awp_ret (k_fin ?_)))
 cases hF9
 exact ends_a _ [] Tryz.results82
def m_spec_l15Rd_num_AC (fuel : Nat) : Prop := ∀ (o1 : l15Rd) (x2 : (List Int)) (r : (Int × l15Rd)), m_spec_l15Rd_num fuel o1 x2 = some r → AC Tryz.prog 86 [.rf 9000 0, .t (.sl (x2.map rI))] (objs [(9000, .box [.t (.sl (o1.b.map rB)), .t (.sc (.int .i64 o1.p))])]) (.t (.sc (.int .i64 r.1))) (objs [(9000, .box [.t (.sl (r.2.b.map rB)), .t (.sc (.int .i64 r.2.p))])])
theorem m_spec_l15Rd_num_ok (fuel : Nat) : m_spec_l15Rd_num_AC fuel := by
 intro o1 x2 r hF0
 unfold m_spec_l15Rd_num at hF0
 refine AC_i [.t (.sc (.int .i64 r.1))] Tryz.func86 rfl Tryz.ntmps86 ?_
 intro C hC
 refine awp_seq (awp_region ?_)
 refine s_as ?_
 refine k_nil (k_seq (awp_seq (awp_region ?_)))
 iterate 3 refine s_mv ?_
 refine s_lenT yU22 ?_
 obtain ⟨v1, hv1, hF1⟩ := bind_some' hF0
 refine s_call [(9000, 9000)] [] _ _ (m_spec_l15Rd_pick_ok fuel _ _ _ hv1) ?_
 obtain ⟨v2, hv2, hF2⟩ := bind_some' hF1
 refine s_ixT rI hv2 rfl yE22 ?_
 refine s_ld1 yA3 ?_
 refine s_as ?_
 refine k_nil (k_seq (awp_ret (k_fin ?_)))
 cases hF2
 exact ends_a _ [] Tryz.results86
def m_spec_l15Rd_of_AC (fuel : Nat) : Prop := ∀ (o1 : l15Rd) (x2 : (List ByteArray)) (r : (ByteArray × l15Rd)), m_spec_l15Rd_of fuel o1 x2 = some r → AC Tryz.prog 105 [.rf 9000 0, .t (.sl (x2.map rS))] (objs [(9000, .box [.t (.sl (o1.b.map rB)), .t (.sc (.int .i64 o1.p))])]) (.t (.sc (.str r.1))) (objs [(9000, .box [.t (.sl (r.2.b.map rB)), .t (.sc (.int .i64 r.2.p))])])
theorem m_spec_l15Rd_of_ok (fuel : Nat) : m_spec_l15Rd_of_AC fuel := by
 intro o1 x2 r hF0
 unfold m_spec_l15Rd_of at hF0
 refine AC_i [.t (.sc (.str r.1))] Tryz.func105 rfl Tryz.ntmps105 ?_
 intro C hC
 refine awp_seq (awp_region ?_)
 refine s_as ?_
 refine k_nil (k_seq (awp_seq (awp_region ?_)))
 iterate 3 refine s_mv ?_
 refine s_lenT yU50 ?_
 obtain ⟨v1, hv1, hF1⟩ := bind_some' hF0
 refine s_call [(9000, 9000)] [] _ _ (m_spec_l15Rd_pick_ok fuel _ _ _ hv1) ?_
 obtain ⟨v2, hv2, hF2⟩ := bind_some' hF1
 refine s_ixT rS hv2 rfl yE50 ?_
 refine s_ld1 yA9 ?_
 refine s_as ?_
 refine k_nil (k_seq (awp_ret (k_fin ?_)))
 cases hF2
 exact ends_a _ [] Tryz.results105
def m_spec_l1Name_AC (fuel : Nat) : Prop := ∀ (x1 : ByteArray) (r : Form), m_spec_l1Name fuel x1 = some r → AC Tryz.prog 107 [.t (.sc (.str x1))] noOb (.ag [.t (.sc (.int .i64 r.kind)), .t (.sc (.str r.name)), .t (.sc (.int .i64 r.n)), .t (.sl (r.scopes.map rI)), .t (.sl (r.kids.map Form.row))]) noOb
theorem m_spec_l1Name_ok (fuel : Nat) : m_spec_l1Name_AC fuel := by
 intro x1 r hF0
 unfold m_spec_l1Name at hF0
 refine AC_i [.ag [.t (.sc (.int .i64 r.kind)), .t (.sc (.str r.name)), .t (.sc (.int .i64 r.n)), .t (.sl (r.scopes.map rI)), .t (.sl (r.kids.map Form.row))]] Tryz.func107 rfl Tryz.ntmps107 ?_
 intro C hC
 refine awp_seq (awp_region ?_)
 refine s_alloc yZ33 ?_
 refine k_nil (k_seq (awp_seq (awp_region ?_)))
 refine s_mv ?_
 refine s_bld yZ33 yL33 ?_
 refine s_stW yS33 ?_
 refine k_nil (k_seq (awp_ret (k_fin ?_)))
 cases hF0
 exact ends_gen [] [] (by rw [Tryz.results107]; exact (res_agg (by conv => lhs; whnf) (by conv => lhs; whnf) yA33 yS33 rfl res_nil))
def m_spec_l1Some_AC (fuel : Nat) : Prop := ∀ (o1 : l15Rd) (x2 : Int) (r : (Form × l15Rd)), m_spec_l1Some fuel o1 x2 = some r → AC Tryz.prog 70 [.rf 9000 0, .t (.sc (.int .i64 x2))] (objs [(9000, .box [.t (.sl (o1.b.map rB)), .t (.sc (.int .i64 o1.p))])]) (.ag [.t (.sc (.int .i64 r.1.kind)), .t (.sc (.str r.1.name)), .t (.sc (.int .i64 r.1.n)), .t (.sl (r.1.scopes.map rI)), .t (.sl (r.1.kids.map Form.row))]) (objs [(9000, .box [.t (.sl (r.2.b.map rB)), .t (.sc (.int .i64 r.2.p))])])
theorem m_spec_l1Some_st (fu : Nat) (ih_m_spec_l1Some : ∀ k, k ≤ fu → m_spec_l1Some_AC k) : m_spec_l1Some_AC (fu + 1) := by
 intro o1 x2 r hF0
 rw [m_spec_l1Some] at hF0
 refine AC_i [.ag [.t (.sc (.int .i64 r.1.kind)), .t (.sc (.str r.1.name)), .t (.sc (.int .i64 r.1.n)), .t (.sl (r.1.scopes.map rI)), .t (.sl (r.1.kids.map Form.row))]] Tryz.func70 rfl Tryz.ntmps70 ?_
 intro C hC
 refine awp_seq (awp_region ?_)
 refine s_alloc yZ33 ?_
 refine k_nil (k_seq (awp_seq (awp_seq (awp_region ?_))))
 refine s_mv ?_
 refine s_eq ?_
 refine s_mv ?_
 refine w_guard _ 9 hF0 ?_ ?_ <;> intro hc1 hF1
 iterate 3 refine r_no rfl ?_
 refine s_pkt ?_
 refine k_nil (k_seq (awp_true rfl (awp_seq (awp_seq (awp_region ?_)))))
 refine s_mv ?_
 obtain ⟨v2, hv2, hF2⟩ := bind_some' hF1
 refine s_call [(9000, 9000)] [] _ _ (m_spec_l15Rd_pick_ok fu _ _ _ hv2) ?_
 refine s_eq ?_
 refine k_nil (k_seq ?_)
 refine w_cond hF2 ?_ ?_ <;> intro hc3 hF3
 refine awp_seq (awp_region ?_)
 refine s_mv ?_
 refine s_bs rI [0, 1, 2, 7, 42, 999] yP22 yR3 ?_
 obtain ⟨v4, hv4, hF4⟩ := bind_some' hF3
 refine s_call [(9000, 9000)] [18] _ _ (m_spec_l15Rd_num_ok fu _ _ _ hv4) ?_
 refine s_bld yZ33 yL33 ?_
 refine s_stW yS33 ?_
 refine k_nil (k_seq (awp_ret (k_seq_ret (k_seq_ret (k_fin ?_)))))
 cases hF4
 exact ends_gen _ [] (by rw [Tryz.results70]; exact (res_agg (by conv => lhs; whnf) (by conv => lhs; whnf) yA33 yS33 rfl res_nil))
 refine awp_skip (k_seq (awp_seq (awp_region ?_)))
 refine s_mv ?_
 refine s_bs rS [(⟨#[97]⟩ : ByteArray), (⟨#[98]⟩ : ByteArray), (⟨#[120]⟩ : ByteArray), (⟨#[121]⟩ : ByteArray), (⟨#[102]⟩ : ByteArray), (⟨#[105, 102]⟩ : ByteArray), (⟨#[108, 101, 116]⟩ : ByteArray), (⟨#[43]⟩ : ByteArray)] yP50 yR9 ?_
 obtain ⟨v5, hv5, hF4⟩ := bind_some' hF3
 refine s_call [(9000, 9000)] [22] _ _ (m_spec_l15Rd_of_ok fu _ _ _ hv5) ?_
 obtain ⟨v6, hv6, hF5⟩ := bind_some' hF4
 refine s_pure [] (m_spec_l1Name_ok fu _ _ hv6) ?_
 refine s_stW yS33 ?_
 refine k_nil (k_seq (awp_ret (k_seq_ret (k_fin ?_))))
 cases hF5
 exact ends_gen _ [] (by rw [Tryz.results70]; exact (res_agg (by conv => lhs; whnf) (by conv => lhs; whnf) yA33 yS33 rfl res_nil))
 refine s_mv ?_
 obtain ⟨v7, hv7, hF2⟩ := bind_some' hF1
 refine s_call [(9000, 9000)] [] _ _ (m_spec_l15Rd_pick_ok fu _ _ _ hv7) ?_
 refine s_eq ?_
 refine s_pkf ?_
 refine k_nil (k_seq ?_)
 refine w_cond hF2 ?_ ?_ <;> intro hc8 hF3
 refine awp_seq (awp_seq (awp_region ?_))
 refine s_mv ?_
 obtain ⟨v9, hv9, hF4⟩ := bind_some' hF3
 refine s_call [(9000, 9000)] [] _ _ (m_spec_l15Rd_pick_ok fu _ _ _ hv9) ?_
 refine s_eq ?_
 refine k_nil (k_seq ?_)
 refine w_cond hF4 ?_ ?_ <;> intro hc10 hF5
 refine awp_seq (awp_region ?_)
 refine s_mv ?_
 refine s_bs rI [0, 1, 2, 7, 42, 999] yP22 yR3 ?_
 obtain ⟨v11, hv11, hF6⟩ := bind_some' hF5
 refine s_call [(9000, 9000)] [18] _ _ (m_spec_l15Rd_num_ok fu _ _ _ hv11) ?_
 refine s_bld yZ33 yL33 ?_
 refine s_stW yS33 ?_
 refine k_nil (k_seq (awp_ret (k_seq_ret (k_seq_ret (k_fin ?_)))))
 cases hF6
 exact ends_gen _ [] (by rw [Tryz.results70]; exact (res_agg (by conv => lhs; whnf) (by conv => lhs; whnf) yA33 yS33 rfl res_nil))
 refine awp_skip (k_seq (awp_seq (awp_region ?_)))
 refine s_mv ?_
 refine s_bs rS [(⟨#[97]⟩ : ByteArray), (⟨#[98]⟩ : ByteArray), (⟨#[120]⟩ : ByteArray), (⟨#[121]⟩ : ByteArray), (⟨#[102]⟩ : ByteArray), (⟨#[105, 102]⟩ : ByteArray), (⟨#[108, 101, 116]⟩ : ByteArray), (⟨#[43]⟩ : ByteArray)] yP50 yR9 ?_
 obtain ⟨v12, hv12, hF6⟩ := bind_some' hF5
 refine s_call [(9000, 9000)] [22] _ _ (m_spec_l15Rd_of_ok fu _ _ _ hv12) ?_
 obtain ⟨v13, hv13, hF7⟩ := bind_some' hF6
 refine s_pure [] (m_spec_l1Name_ok fu _ _ hv13) ?_
 refine s_stW yS33 ?_
 refine k_nil (k_seq (awp_ret (k_seq_ret (k_fin ?_))))
 cases hF7
 exact ends_gen _ [] (by rw [Tryz.results70]; exact (res_agg (by conv => lhs; whnf) (by conv => lhs; whnf) yA33 yS33 rfl res_nil))
 refine awp_skip (k_seq (awp_seq (awp_region ?_)))
 refine s_bld yZ33 yL33 ?_
 refine s_alloc yZ33 ?_
 refine s_stW yS33 ?_
 refine k_nil (k_seq (awp_seq (awp_seq (awp_region ?_))))
 refine s_mv ?_
 obtain ⟨v14, hv14, hF4⟩ := bind_some' hF3
 refine s_call [(9000, 9000)] [] _ _ (m_spec_l15Rd_pick_ok fu _ _ _ hv14) ?_
 refine s_as ?_
 refine k_nil (k_seq (awp_block ?_))
 refine awp_ownB 5 5020 33 [.t (.sc (.int .i64 3)), .t (.sc (.str (⟨#[]⟩ : ByteArray))), .t (.sc (.int .i64 0)), .nl, .ar 5020] yI33.choose_spec ?_
 refine awp_frame2 [6, 28, 29, 30, 31, 32, 33, 34, 35, 36, 37, 38, 39, 40] [5, 5020, 9000] [38, 39] [5020] (fun a : Nat × Int × (List Int) × Int × (List Form) => a.1) (fun a : Nat × Int × (List Int) × Int × (List Form) => [(6, .t (.sc (.int .i64 a.2.1)))]) (fun a : Nat × Int × (List Int) × Int × (List Form) => [(5, .box [.t (.sc (.int .i64 3)), .t (.sc (.str (⟨#[]⟩ : ByteArray))), .t (.sc (.int .i64 0)), .nl, .ar 5020]), (5020, .arr (a.2.2.2.2.map Form.row) 33 true), (9000, .box [.t (.sl (a.2.2.1.map rB)), .t (.sc (.int .i64 a.2.2.2.1))])]) (fun a : Nat × Int × (List Int) × Int × (List Form) => a.1 ≤ fu ∧ m_spec_l1Some_l1 a.1 x2 a.2.1 a.2.2.1 a.2.2.2.1 a.2.2.2.2 = some r) (fu, v14.1, v14.2.b, v14.2.p, ([] : List Form)) ⟨Nat.le_refl _, hF4⟩ (by rfl) (by rfl) (fun _ => rfl) (hasF_cons (by conv => lhs; whnf) (by rfl) hasF_nil) (hasO_cons (by conv => lhs; whnf) (by rfl) (hasO_cons (by conv => lhs; whnf) (by rfl) (hasO_cons (by conv => lhs; whnf) (by rfl) hasO_nil))) (fresh_C hC rfl) (by repeat (first | exact freshS_args rfl | refine freshS_upd rfl ?_ | refine freshS_frame rfl ?_)) (by repeat (first | exact freshM_no | exact objs_fresh rfl | refine freshM_upd rfl ?_ | refine freshM_frame rfl ?_)) ?_
 clear hF4
 rintro ⟨fu, g15, g16, g17, g18⟩ ⟨hl19, hF5⟩
 dsimp only at hl19 hF5 ⊢
 obtain _ | fu := fu
 · rw [m_spec_l1Some_l1] at hF5; cases hF5
 rw [m_spec_l1Some_l1] at hF5
 refine awp_seq (awp_seq (awp_region ?_))
 refine s_mv ?_
 refine s_gt ?_
 refine k_nil (k_seq ?_)
 refine w_cond hF5 ?_ ?_ <;> intro hc20 hF6
 refine awp_skip (k_seq (awp_seq (awp_block ?_)))
 refine awp_draw yMix (by kernel_rfl) ?_
 refine s_fa yF33_4 ?_
 refine s_ld1 yA31 ?_
 refine s_mv0 ?_
 refine s_mv ?_
 refine s_sub rfl ?_
 obtain ⟨v21, hv21, hF7⟩ := bind_some' hF6
 refine s_call [(9000, 9000)] [] _ _ (ih_m_spec_l1Some fu (by omega) _ _ _ hv21) ?_
 refine s_bs Form.row [v21.1] yP31 yR33 ?_
 obtain ⟨hk22, hF8⟩ := chk_some hF7
 refine s_apT Form.row (fun y => Form.row_len y) hk22 yP31 ?_
 refine s_fa yF33_4 ?_
 refine s_stP yS31 ?_
 refine k_nilD (by kernel_rfl) ?_
 refine k_blk (k_seq (awp_region ?_))
 refine s_mv ?_
 refine s_sub rfl ?_
 refine s_as ?_
 refine k_nil ?_
 exact s_rn (fu, (w64 (g15 - 1)), v21.2.b, v21.2.p, (g18 ++ [v21.1])) ⟨by first | omega | (dsimp only; omega), hF8⟩ [(5020, 39)]
 refine awp_exit (k_seq_exit (k_rnd_exit2 (k_blk_exit (k_seq (awp_seq (awp_region ?_))))))
 refine s_ldW yA33 yS33 ?_
 refine s_stW yS33 ?_
 refine k_nil (k_seq (awp_ret (k_fin ?_)))
 cases hF6
 exact ends_gen _ [5020] (by rw [Tryz.results70]; exact (res_agg (by conv => lhs; whnf) (by conv => lhs; whnf) yA33 yS33 rfl res_nil))
theorem m_spec_l1Some_all (fuel : Nat) : m_spec_l1Some_AC fuel := by
 induction fuel using Nat.strongRecOn with
 | _ N ih =>
   cases N with
   | zero => exact (by intro o1 x2 r h; rw [m_spec_l1Some] at h; cases h)
   | succ fu => exact m_spec_l1Some_st fu (fun k hk => (ih k (by omega)))
theorem m_spec_l1Some_ok (fuel : Nat) : m_spec_l1Some_AC fuel := (m_spec_l1Some_all fuel)
end Go.Abs
