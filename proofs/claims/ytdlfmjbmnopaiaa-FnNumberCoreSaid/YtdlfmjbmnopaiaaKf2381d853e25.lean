/- A part of the proof: what the functions that the law calls answer, as pure values. -/
import Derived.Test.YtdlfmjbmnopaiaaK566d99bbca90
import Derived.Test.YtdlfmjbmnopaiaaK780d2eb56f1c
import Derived.Test.YtdlfmjbmnopaiaaKb3c329c7c45a
import Derived.Test.YtdlfmjbmnopaiaaKd76126587010
import Derived.Test.YtdlfmjbmnopaiaaKde984a49f05e
set_option linter.unusedSimpArgs false
set_option linter.unusedVariables false
set_option maxRecDepth 100000
set_option maxHeartbeats 4000000
namespace Go.Abs
open Go.Proofs
theorem m_slices_EqualFunc_Core_sameCore_st (fu : Nat) (ih_m_impl_sameCore : ∀ k, k ≤ fu → m_impl_sameCore_AC k) (ih_m_slices_EqualFunc_Core_sameCore : ∀ k, k ≤ fu → m_slices_EqualFunc_Core_sameCore_AC k) : m_slices_EqualFunc_Core_sameCore_AC (fu + 1) := by
 intro x1 x2 r hF0
 rw [m_slices_EqualFunc_Core_sameCore] at hF0
 refine AC_i [.t (.sc (.bool r))] Try.func29 rfl Try.ntmps29 ?_
 intro C hC
 refine awp_seq (awp_region ?_)
 refine s_as ?_
 refine k_nil (k_seq (awp_seq (awp_seq (awp_region ?_))))
 refine s_mv ?_
 refine s_lenT yU27 ?_
 refine s_mv ?_
 refine s_lenT yU27 ?_
 refine s_ne ?_
 refine k_nil (k_seq ?_)
 refine w_cond hF0 ?_ ?_ <;> intro hc1 hF1
 refine awp_seq (awp_region ?_)
 refine s_as ?_
 refine k_nil (k_seq (awp_ret (k_seq_ret (k_fin ?_))))
 cases hF1
 exact ends_a [] [] Try.results29
 refine awp_skip (k_seq (awp_seq (awp_seq (awp_region ?_))))
 refine s_mv ?_
 refine s_lenT yU27 ?_
 refine s_mv ?_
 refine k_nil (k_seq (awp_block ?_))
 refine awp_fr (β := Int) [6, 7, 8, 9, 17, 18, 19, 20, 21, 22, 23, 24, 25, 26, 27, 28, 29, 30, 31] [] [8, 9] (fun a => [(17, .t (.sc (.int .i64 a.2)))]) (fun a => []) (fun a => a.1 ≤ fu ∧ m_slices_EqualFunc_Core_sameCore_l1 a.1 x1 x2 a.2 = some r ∧ 0 ≤ a.2) (fu, 0) ⟨Nat.le_refl _, hF1, by simp⟩ ?_
 clear hF1
 rintro ⟨fu, g2⟩ ⟨hl3, hF2, hn_g2⟩
 dsimp only at hl3 hF2 hn_g2 ⊢
 obtain _ | fu := fu
 · rw [m_slices_EqualFunc_Core_sameCore_l1] at hF2; cases hF2
 rw [m_slices_EqualFunc_Core_sameCore_l1] at hF2
 refine awp_seq (awp_region ?_)
 refine s_lt ?_
 refine k_nil (k_seq (awp_seq ?_))
 refine w_cond hF2 ?_ ?_ <;> intro hc4 hF3
 refine awp_lenT 0 (fun hb5 => ?_)
 refine awp_skip (k_seq (awp_seq (awp_block (awp_seq (awp_region ?_)))))
 refine s_mv ?_
 obtain ⟨v6, hv6, hF4⟩ := bind_some' hF3
 refine s_ixT Core.row hv6 (Core.row_eq _) yE27 ?_
 refine s_ldN yA29 yS29 ?_
 refine s_alloc yZ29 ?_
 refine s_as ?_
 refine s_stW yS29 ?_
 refine k_nil (k_seq (awp_seq (awp_region ?_)))
 refine s_mv ?_
 refine s_mv ?_
 obtain ⟨v7, hv7, hF5⟩ := bind_some' hF4
 refine s_ixT Core.row hv7 (Core.row_eq _) yE27 ?_
 refine s_ldN yA29 yS29 ?_
 refine s_alloc yZ29 ?_
 refine s_stW yS29 ?_
 refine k_nil (k_seq (awp_seq (awp_region ?_)))
 refine s_mv ?_
 refine s_ldW yA29 yS29 ?_
 refine s_ldW yA29 yS29 ?_
 obtain ⟨v8, hv8, hF6⟩ := bind_some' hF5
 refine s_pure [] (ih_m_impl_sameCore fu (by omega) _ _ _ hv8) ?_
 refine s_not ?_
 refine k_nil (k_seq ?_)
 refine w_cond hF6 ?_ ?_ <;> intro hc9 hF7
 refine awp_seq (awp_region ?_)
 refine s_as ?_
 refine k_nil (k_seq (awp_ret (k_blk_ret (k_seq_ret (k_rnd_ret2 (k_blk_ret (k_seq_ret (k_fin ?_))))))))
 cases hF7
 exact ends_a [] [] Try.results29
 refine awp_skip (k_blk (k_seq (awp_region ?_)))
 refine s_add (winc2 hc4 hb5 hn_g2) ?_
 refine s_mv ?_
 refine k_nil ?_
 exact s_rn (fu, (g2 + 1)) ⟨by first | omega | (dsimp only; omega), hF7, by first | omega | (dsimp only; omega)⟩
 refine awp_exit (k_seq_exit (k_rnd_exit2 (k_blk_exit (k_seq (awp_seq (awp_region ?_))))))
 refine s_as ?_
 refine k_nil (k_seq (awp_ret (k_fin ?_)))
 cases hF3
 exact ends_a [] [] Try.results29
theorem m_impl_sameCore_all (fuel : Nat) : m_impl_sameCore_AC fuel ∧ m_slices_EqualFunc_Core_sameCore_AC fuel := by
 induction fuel using Nat.strongRecOn with
 | _ N ih =>
   cases N with
   | zero => exact ⟨(by intro x1 x2 r h; rw [m_impl_sameCore] at h; cases h), (by intro x1 x2 r h; rw [m_slices_EqualFunc_Core_sameCore] at h; cases h)⟩
   | succ fu => exact ⟨m_impl_sameCore_st fu (fun k hk => (ih k (by omega)).1) (fun k hk => (ih k (by omega)).2), m_slices_EqualFunc_Core_sameCore_st fu (fun k hk => (ih k (by omega)).1) (fun k hk => (ih k (by omega)).2)⟩
theorem m_impl_sameCore_ok (fuel : Nat) : m_impl_sameCore_AC fuel := (m_impl_sameCore_all fuel).1
def m_impl_coreOk_AC (fuel : Nat) : Prop := ∀ (x1 : Core) (x2 : (List Int)) (x3 : Int) (o1 : Int) (r : (Bool × Int)), m_impl_coreOk fuel x1 x2 x3 o1 = some r → AC Try.prog 15 [.ag [.t (.sc (.int .i64 x1.kind)), .t (.sc (.int .i64 x1.id)), .t (.sc (.str x1.name)), .t (.sc (.int .i64 x1.n)), .t (.sl (x1.ids.map rI)), .t (.sc (.int .i64 x1.data.kind)), .t (.sc (.str x1.data.name)), .t (.sc (.int .i64 x1.data.n)), .t (.sl (x1.data.scopes.map rI)), .t (.sl (x1.data.kids.map Form.row)), .t (.sl (x1.kids.map Core.row))], .t (.sl (x2.map rI)), .t (.sc (.int .i64 x3)), .rf 9000 0] (objs [(9000, .box [.t (.sc (.int .i64 o1))])]) (.t (.sc (.bool r.1))) (objs [(9000, .box [.t (.sc (.int .i64 r.2))])])
theorem m_impl_coreOk_st (fu : Nat) (ih_m_impl_coreOk : ∀ k, k ≤ fu → m_impl_coreOk_AC k) : m_impl_coreOk_AC (fu + 1) := by
 intro x1 x2 x3 o1 r hF0
 rw [m_impl_coreOk] at hF0
 refine AC_i [.t (.sc (.bool r.1))] Try.func15 rfl Try.ntmps15 ?_
 intro C hC
 refine awp_seq (awp_region ?_)
 refine s_box ?_
 refine s_as ?_
 refine k_nil (k_seq (awp_seq (awp_region ?_)))
 refine s_mv ?_
 refine s_nc ?_
 refine s_ld1 yA3 ?_
 refine s_sub rfl ?_
 refine s_nc ?_
 refine s_stW yS3 ?_
 refine k_nil (k_seq (awp_seq ?_))
 refine awp_jn (α := Nat × Bool) [21, 22, 23, 24, 25, 26, 27, 28] [] [] (fun a => [(28, .t (.sc (.bool a.2)))]) (fun a => []) (fun a => a.1 ≤ fu ∧ m_impl_coreOk_j1 a.1 x1 x2 x3 o1 a.2 = some r) ?_ ?_
 refine awp_region ?_
 refine s_mv ?_
 refine s_nc ?_
 refine s_ld1 yA3 ?_
 refine s_lt ?_
 refine s_mv ?_
 refine w_guard _ 25 hF0 ?_ ?_ <;> intro hc1 hF1
 refine r_no rfl (r_no rfl ?_)
 refine s_pkt ?_
 refine k_nil ?_
 exact s_jn (fu, true) ⟨by first | omega | (dsimp only; omega), hF1⟩
 refine s_mv ?_
 refine s_gt ?_
 refine s_pkf ?_
 refine k_nil ?_
 exact s_jn (fu, (decide (120 < x3))) ⟨by first | omega | (dsimp only; omega), hF1⟩
 clear hF0
 rintro ⟨fu, g2⟩ ⟨hl3, hF1⟩
 dsimp only at hl3 hF1 ⊢
 obtain _ | fu := fu
 · rw [m_impl_coreOk_j1] at hF1; cases hF1
 rw [m_impl_coreOk_j1] at hF1
 refine w_cond hF1 ?_ ?_ <;> intro hc4 hF2
 refine awp_seq (awp_region ?_)
 refine s_as ?_
 refine k_nil (k_seq (awp_ret (k_seq_ret (k_fin ?_))))
 cases hF2
 exact ends_a _ [] Try.results15
 refine awp_skip (k_seq (awp_seq (awp_region ?_)))
 refine s_fa yF29_0 ?_
 refine s_ld1 yA3 ?_
 refine s_fa yF29_6 ?_
 refine s_ld1 yA27 ?_
 refine s_bld yZ29 yL29 ?_
 refine s_mv ?_
 refine s_alloc yZ29 ?_
 refine s_stW yS29 ?_
 refine s_as ?_
 refine s_as ?_
 refine k_nil (k_seq ?_)
 refine awp_jn (α := Nat × Int × (List Int) × Int × ByteArray × Int × (List Int) × Int × ByteArray × Int × (List Int) × (List Form)) [8, 10, 11, 13, 35, 36, 37, 38, 39, 40, 41, 42, 43, 44, 45, 46, 47, 48, 49, 50, 51, 52, 53, 54, 55, 56, 57, 58, 59, 60, 61, 62, 63, 64, 65, 66, 67, 68, 69, 70, 71, 72, 73, 74, 75, 76, 77, 78, 79, 80, 81, 82, 83, 84, 85, 86, 87, 88, 89, 90, 91, 92, 93, 94, 95, 96, 97, 98, 99, 100, 101, 102, 103, 104, 105, 106, 107, 108, 109, 110, 111, 112, 113, 114, 115, 116, 117, 118, 119, 120, 121] [9] [2093, 5060] (fun a => [(10, .t (.sc (.int .i64 a.2.1))), (11, .t (.sl (a.2.2.1.map rI)))]) (fun a => [(9, .box [.t (.sc (.int .i64 x1.kind)), .t (.sc (.int .i64 a.2.2.2.1)), .t (.sc (.str a.2.2.2.2.1)), .t (.sc (.int .i64 a.2.2.2.2.2.1)), .t (.sl (a.2.2.2.2.2.2.1.map rI)), .t (.sc (.int .i64 a.2.2.2.2.2.2.2.1)), .t (.sc (.str a.2.2.2.2.2.2.2.2.1)), .t (.sc (.int .i64 a.2.2.2.2.2.2.2.2.2.1)), .t (.sl (a.2.2.2.2.2.2.2.2.2.2.1.map rI)), .t (.sl (a.2.2.2.2.2.2.2.2.2.2.2.map Form.row)), .t (.sl (x1.kids.map Core.row))])]) (fun a => a.1 ≤ fu ∧ m_impl_coreOk_j2 a.1 x1 x3 o1 a.2.1 a.2.2.1 a.2.2.2.1 a.2.2.2.2.1 a.2.2.2.2.2.1 a.2.2.2.2.2.2.1 a.2.2.2.2.2.2.2.1 a.2.2.2.2.2.2.2.2.1 a.2.2.2.2.2.2.2.2.2.1 a.2.2.2.2.2.2.2.2.2.2.1 a.2.2.2.2.2.2.2.2.2.2.2 = some r) ?_ ?_
 refine awp_seq (awp_region ?_)
 refine s_fa yF29_0 ?_
 refine s_ld1 yA3 ?_
 refine k_nil (k_seq (awp_block (awp_seq (awp_region ?_))))
 refine s_eq ?_
 refine s_as ?_
 refine k_nil (k_seq ?_)
 refine w_cond hF2 ?_ ?_ <;> intro hc5 hF3
 refine awp_seq (awp_region ?_)
 refine s_fa yF29_1 ?_
 refine s_ld1 yA3 ?_
 refine s_fa yF29_1 ?_
 refine s_stP yS3 ?_
 refine k_nil (k_seq (awp_seq (awp_region ?_)))
 refine s_fa yF29_1 ?_
 refine s_ld1 yA3 ?_
 obtain ⟨v6, hv6, hF4⟩ := bind_some' hF3
 refine s_pure [] (m_impl_within_ok fu _ _ _ _ hv6) ?_
 refine s_not ?_
 refine s_mv ?_
 refine w_guard _ 46 hF4 ?_ ?_ <;> intro hc7 hF5
 iterate 5 refine r_no rfl ?_
 refine s_pkt ?_
 refine k_nil (k_seq (awp_true rfl (awp_seq (awp_region ?_))))
 refine s_as ?_
 refine k_nil (k_seq (awp_ret (k_blk_ret (k_jn_ret (k_fin ?_)))))
 cases hF5
 exact ends_a _ [] Try.results15
 refine s_mv ?_
 refine s_fa yF29_1 ?_
 refine s_ld1 yA3 ?_
 obtain ⟨v8, hv8, hF6⟩ := bind_some' hF5
 refine s_pure [] (m_slices_Contains_int_ok fu _ _ _ hv8) ?_
 refine s_not ?_
 refine s_pkf ?_
 refine k_nil (k_seq ?_)
 refine w_cond hF6 ?_ ?_ <;> intro hc9 hF7
 refine awp_seq (awp_region ?_)
 refine s_as ?_
 refine k_nil (k_seq (awp_ret (k_blk_ret (k_jn_ret (k_fin ?_)))))
 cases hF7
 exact ends_a _ [] Try.results15
 refine awp_nlB 9 4 [.t (.sc (.int .i64 x1.kind)), .t (.sc (.int .i64 x1.id)), .t (.sc (.str (⟨#[]⟩ : ByteArray))), .t (.sc (.int .i64 0)), .t (.sl (([] : List Int).map rI)), .t (.sc (.int .i64 0)), .t (.sc (.str (⟨#[]⟩ : ByteArray))), .t (.sc (.int .i64 0)), .nl, .nl, .t (.sl (x1.kids.map Core.row))] (by conv => lhs; whnf) rfl rfl ?_
 refine awp_nlB 9 8 [.t (.sc (.int .i64 x1.kind)), .t (.sc (.int .i64 x1.id)), .t (.sc (.str (⟨#[]⟩ : ByteArray))), .t (.sc (.int .i64 0)), .t (.sl (([] : List Int).map rI)), .t (.sc (.int .i64 0)), .t (.sc (.str (⟨#[]⟩ : ByteArray))), .t (.sc (.int .i64 0)), .t (.sl (([] : List Int).map rI)), .nl, .t (.sl (x1.kids.map Core.row))] (by conv => lhs; whnf) rfl rfl ?_
 refine awp_nlB 9 9 [.t (.sc (.int .i64 x1.kind)), .t (.sc (.int .i64 x1.id)), .t (.sc (.str (⟨#[]⟩ : ByteArray))), .t (.sc (.int .i64 0)), .t (.sl (([] : List Int).map rI)), .t (.sc (.int .i64 0)), .t (.sc (.str (⟨#[]⟩ : ByteArray))), .t (.sc (.int .i64 0)), .t (.sl (([] : List Int).map rI)), .t (.sl (([] : List Form).map Form.row)), .t (.sl (x1.kids.map Core.row))] (by conv => lhs; whnf) rfl rfl ?_
 refine awp_skip (k_blk ?_)
 exact s_jn (fu, 0, x2, x1.id, (⟨#[]⟩ : ByteArray), 0, ([] : List Int), 0, (⟨#[]⟩ : ByteArray), 0, ([] : List Int), ([] : List Form)) ⟨by first | omega | (dsimp only; omega), hF7⟩
 refine awp_seq (awp_region ?_)
 refine s_eq ?_
 refine s_as ?_
 refine k_nil (k_seq ?_)
 refine w_cond hF3 ?_ ?_ <;> intro hc10 hF4
 refine awp_seq (awp_region ?_)
 refine s_fa yF29_2 ?_
 refine s_ld1 yA9 ?_
 refine s_fa yF29_2 ?_
 refine s_stP yS9 ?_
 refine k_nil (k_seq (awp_seq (awp_region ?_)))
 refine s_fa yF29_2 ?_
 refine s_ld1 yA9 ?_
 obtain ⟨v11, hv11, hF5⟩ := bind_some' hF4
 refine s_pure [] (m_impl_NameValid_ok fu _ _ hv11) ?_
 refine s_not ?_
 refine k_nil (k_seq ?_)
 refine w_cond hF5 ?_ ?_ <;> intro hc12 hF6
 refine awp_seq (awp_region ?_)
 refine s_as ?_
 refine k_nil (k_seq (awp_ret (k_blk_ret (k_jn_ret (k_fin ?_)))))
 cases hF6
 exact ends_a _ [] Try.results15
 refine awp_nlB 9 4 [.t (.sc (.int .i64 x1.kind)), .t (.sc (.int .i64 0)), .t (.sc (.str x1.name)), .t (.sc (.int .i64 0)), .t (.sl (([] : List Int).map rI)), .t (.sc (.int .i64 0)), .t (.sc (.str (⟨#[]⟩ : ByteArray))), .t (.sc (.int .i64 0)), .nl, .nl, .t (.sl (x1.kids.map Core.row))] (by conv => lhs; whnf) rfl rfl ?_
 refine awp_nlB 9 8 [.t (.sc (.int .i64 x1.kind)), .t (.sc (.int .i64 0)), .t (.sc (.str x1.name)), .t (.sc (.int .i64 0)), .t (.sl (([] : List Int).map rI)), .t (.sc (.int .i64 0)), .t (.sc (.str (⟨#[]⟩ : ByteArray))), .t (.sc (.int .i64 0)), .t (.sl (([] : List Int).map rI)), .nl, .t (.sl (x1.kids.map Core.row))] (by conv => lhs; whnf) rfl rfl ?_
 refine awp_nlB 9 9 [.t (.sc (.int .i64 x1.kind)), .t (.sc (.int .i64 0)), .t (.sc (.str x1.name)), .t (.sc (.int .i64 0)), .t (.sl (([] : List Int).map rI)), .t (.sc (.int .i64 0)), .t (.sc (.str (⟨#[]⟩ : ByteArray))), .t (.sc (.int .i64 0)), .t (.sl (([] : List Int).map rI)), .t (.sl (([] : List Form).map Form.row)), .t (.sl (x1.kids.map Core.row))] (by conv => lhs; whnf) rfl rfl ?_
 refine awp_skip (k_blk ?_)
 exact s_jn (fu, 0, x2, 0, x1.name, 0, ([] : List Int), 0, (⟨#[]⟩ : ByteArray), 0, ([] : List Int), ([] : List Form)) ⟨by first | omega | (dsimp only; omega), hF6⟩
 refine awp_seq (awp_region ?_)
 refine s_eq ?_
 refine s_as ?_
 refine k_nil (k_seq ?_)
 refine w_cond hF4 ?_ ?_ <;> intro hc13 hF5
 refine awp_seq (awp_region ?_)
 refine s_fa yF29_3 ?_
 refine s_ld1 yA3 ?_
 refine s_fa yF29_3 ?_
 refine s_stP yS3 ?_
 refine k_nil (k_seq (awp_seq (awp_region ?_)))
 refine s_fa yF29_3 ?_
 refine s_ld1 yA3 ?_
 obtain ⟨v14, hv14, hF6⟩ := bind_some' hF5
 refine s_pure [] (m_impl_within_ok fu _ _ _ _ hv14) ?_
 refine s_not ?_
 refine k_nil (k_seq ?_)
 refine w_cond hF6 ?_ ?_ <;> intro hc15 hF7
 refine awp_seq (awp_region ?_)
 refine s_as ?_
 refine k_nil (k_seq (awp_ret (k_blk_ret (k_jn_ret (k_fin ?_)))))
 cases hF7
 exact ends_a _ [] Try.results15
 refine awp_nlB 9 4 [.t (.sc (.int .i64 x1.kind)), .t (.sc (.int .i64 0)), .t (.sc (.str (⟨#[]⟩ : ByteArray))), .t (.sc (.int .i64 x1.n)), .t (.sl (([] : List Int).map rI)), .t (.sc (.int .i64 0)), .t (.sc (.str (⟨#[]⟩ : ByteArray))), .t (.sc (.int .i64 0)), .nl, .nl, .t (.sl (x1.kids.map Core.row))] (by conv => lhs; whnf) rfl rfl ?_
 refine awp_nlB 9 8 [.t (.sc (.int .i64 x1.kind)), .t (.sc (.int .i64 0)), .t (.sc (.str (⟨#[]⟩ : ByteArray))), .t (.sc (.int .i64 x1.n)), .t (.sl (([] : List Int).map rI)), .t (.sc (.int .i64 0)), .t (.sc (.str (⟨#[]⟩ : ByteArray))), .t (.sc (.int .i64 0)), .t (.sl (([] : List Int).map rI)), .nl, .t (.sl (x1.kids.map Core.row))] (by conv => lhs; whnf) rfl rfl ?_
 refine awp_nlB 9 9 [.t (.sc (.int .i64 x1.kind)), .t (.sc (.int .i64 0)), .t (.sc (.str (⟨#[]⟩ : ByteArray))), .t (.sc (.int .i64 x1.n)), .t (.sl (([] : List Int).map rI)), .t (.sc (.int .i64 0)), .t (.sc (.str (⟨#[]⟩ : ByteArray))), .t (.sc (.int .i64 0)), .t (.sl (([] : List Int).map rI)), .t (.sl (([] : List Form).map Form.row)), .t (.sl (x1.kids.map Core.row))] (by conv => lhs; whnf) rfl rfl ?_
 refine awp_skip (k_blk ?_)
 exact s_jn (fu, 0, x2, 0, (⟨#[]⟩ : ByteArray), x1.n, ([] : List Int), 0, (⟨#[]⟩ : ByteArray), 0, ([] : List Int), ([] : List Form)) ⟨by first | omega | (dsimp only; omega), hF7⟩
 refine awp_seq (awp_region ?_)
 refine s_eq ?_
 refine s_as ?_
 refine k_nil (k_seq ?_)
 refine w_cond hF5 ?_ ?_ <;> intro hc16 hF6
 refine awp_seq (awp_region ?_)
 refine s_fa yF29_5 ?_
 refine s_ldN yA26 yS26 ?_
 refine s_fa yF29_5 ?_
 refine s_stP yS26 ?_
 refine k_nil (k_seq (awp_seq (awp_region ?_)))
 refine s_fa yF29_5 ?_
 refine s_ldN yA26 yS26 ?_
 obtain ⟨v17, hv17, hF7⟩ := bind_some' hF6
 refine s_pure [] (m_impl_FormValid_ok fu _ _ hv17) ?_
 refine s_not ?_
 refine s_mv ?_
 refine w_guard _ 80 hF7 ?_ ?_ <;> intro hc18 hF8
 iterate 5 refine r_no rfl ?_
 refine s_pkt ?_
 refine k_nil (k_seq (awp_true rfl (awp_seq (awp_region ?_))))
 refine s_as ?_
 refine k_nil (k_seq (awp_ret (k_blk_ret (k_jn_ret (k_fin ?_)))))
 cases hF8
 exact ends_a _ [] Try.results15
 refine s_fa yF29_5 ?_
 refine s_ldN yA26 yS26 ?_
 obtain ⟨v19, hv19, hF9⟩ := bind_some' hF8
 refine s_pure [] (m_impl_ScopesOf_ok fu _ _ hv19) ?_
 refine s_lenT yU23 ?_
 refine s_gt ?_
 refine s_pkf ?_
 refine k_nil (k_seq ?_)
 refine w_cond hF9 ?_ ?_ <;> intro hc20 hF10
 refine awp_lenT 83 (fun hb21 => ?_)
 refine awp_seq (awp_region ?_)
 refine s_as ?_
 refine k_nil (k_seq (awp_ret (k_blk_ret (k_jn_ret (k_fin ?_)))))
 cases hF10
 exact ends_a _ [] Try.results15
 refine awp_nlB 9 4 [.t (.sc (.int .i64 x1.kind)), .t (.sc (.int .i64 0)), .t (.sc (.str (⟨#[]⟩ : ByteArray))), .t (.sc (.int .i64 0)), .t (.sl (([] : List Int).map rI)), .t (.sc (.int .i64 x1.data.kind)), .t (.sc (.str x1.data.name)), .t (.sc (.int .i64 x1.data.n)), .t (.sl (x1.data.scopes.map rI)), .t (.sl (x1.data.kids.map Form.row)), .t (.sl (x1.kids.map Core.row))] (by conv => lhs; whnf) rfl rfl ?_
 refine awp_skip (k_blk ?_)
 exact s_jn (fu, 0, x2, 0, (⟨#[]⟩ : ByteArray), 0, ([] : List Int), x1.data.kind, x1.data.name, x1.data.n, x1.data.scopes, x1.data.kids) ⟨by first | omega | (dsimp only; omega), hF10⟩
 refine awp_seq (awp_region ?_)
 refine s_eq ?_
 refine s_as ?_
 refine k_nil (k_seq ?_)
 refine w_cond hF6 ?_ ?_ <;> intro hc22 hF7
 refine awp_seq (awp_region ?_)
 refine s_fa yF29_4 ?_
 refine s_ld1 yA23 ?_
 refine s_fa yF29_4 ?_
 refine s_stP yS23 ?_
 refine s_as ?_
 refine k_nil (k_seq (awp_seq (awp_region ?_)))
 refine s_mv ?_
 obtain ⟨v23, hv23, hF8⟩ := bind_some' hF7
 refine s_call [(9200, 2093)] [] _ _ (m_slices_Clone_int_ok fu _ _ hv23) ?_
 refine s_as ?_
 refine k_nil (k_seq (awp_seq (awp_region ?_)))
 refine s_fa yF29_4 ?_
 refine s_ld1 yA23 ?_
 refine s_lenT yU23 ?_
 refine s_mv ?_
 refine k_nil (k_seq (awp_block ?_))
 refine awp_mv 11 2093 5060 (by conv => lhs; whnf) (by conv => lhs; whnf) rfl ?_
 refine awp_frz 5060 (by conv => lhs; whnf) ?_
 refine awp_frame2 [8, 11, 13, 97, 98, 99, 100, 101, 102, 103, 104, 105, 106, 107, 108, 109, 110, 111, 112, 113] [5060] [111, 112] [5060] (fun a : Nat × (List Int) × Int => a.1) (fun a : Nat × (List Int) × Int => [(11, .ar 5060), (97, .t (.sc (.int .i64 a.2.2)))]) (fun a : Nat × (List Int) × Int => [(5060, .arr (a.2.1.map rI) 3 false)]) (fun a : Nat × (List Int) × Int => a.1 ≤ fu ∧ m_impl_coreOk_l3 a.1 x1 x3 o1 a.2.1 a.2.2 = some r ∧ 0 ≤ a.2.2) (fu, v23, 0) ⟨Nat.le_refl _, hF8, by simp⟩ (by rfl) (by rfl) (fun _ => rfl) (hasF_cons (by conv => lhs; whnf) (by rfl) (hasF_cons (by conv => lhs; whnf) (by rfl) hasF_nil)) (hasO_cons (by conv => lhs; whnf) (by rfl) hasO_nil) (fresh_C hC rfl) (by repeat (first | exact freshS_args rfl | refine freshS_upd rfl ?_ | refine freshS_frame rfl ?_)) (by repeat (first | exact freshM_no | exact objs_fresh rfl | refine freshM_upd rfl ?_ | refine freshM_frame rfl ?_)) ?_
 clear hF8
 rintro ⟨fu, g24, g25⟩ ⟨hl26, hF9, hn_g25⟩
 dsimp only at hl26 hF9 hn_g25 ⊢
 obtain _ | fu := fu
 · rw [m_impl_coreOk_l3] at hF9; cases hF9
 rw [m_impl_coreOk_l3] at hF9
 refine awp_seq (awp_region ?_)
 refine s_lt ?_
 refine k_nil (k_seq (awp_seq ?_))
 refine w_cond hF9 ?_ ?_ <;> intro hc27 hF10
 refine awp_lenT 90 (fun hb28 => ?_)
 refine awp_skip (k_seq (awp_seq (awp_block (awp_seq (awp_region ?_)))))
 obtain ⟨v29, hv29, hF11⟩ := bind_some' hF10
 refine s_ixT rI hv29 rfl yE23 ?_
 refine s_ld1 yA3 ?_
 refine s_as ?_
 refine k_nil (k_seq (awp_seq (awp_seq (awp_region ?_))))
 refine s_mv ?_
 obtain ⟨v30, hv30, hF12⟩ := bind_some' hF11
 refine s_pure [] (m_impl_within_ok fu _ _ _ _ hv30) ?_
 refine s_not ?_
 refine s_mv ?_
 refine w_guard _ 104 hF12 ?_ ?_ <;> intro hc31 hF13
 iterate 3 refine r_no rfl ?_
 refine s_pkt ?_
 refine k_nil (k_seq (awp_true rfl (awp_seq (awp_region ?_))))
 refine s_as ?_
 refine k_nil (k_seq (awp_ret (k_seq_ret (k_blk_ret (k_seq_ret (k_rnd_ret2 (k_blk_ret (k_blk_ret (k_jn_ret (k_fin ?_))))))))))
 cases hF13
 exact ends_a _ [] Try.results15
 refine s_mv ?_
 refine s_mv ?_
 obtain ⟨v32, hv32, hF14⟩ := bind_some' hF13
 refine s_pure [5060] (m_slices_Contains_int_ok fu _ _ _ hv32) ?_
 refine s_pkf ?_
 refine k_nil (k_seq ?_)
 refine w_cond hF14 ?_ ?_ <;> intro hc33 hF15
 refine awp_seq (awp_region ?_)
 refine s_as ?_
 refine k_nil (k_seq (awp_ret (k_seq_ret (k_blk_ret (k_seq_ret (k_rnd_ret2 (k_blk_ret (k_blk_ret (k_jn_ret (k_fin ?_))))))))))
 cases hF15
 exact ends_a _ [] Try.results15
 refine awp_skip (k_seq (awp_region ?_))
 refine s_mv ?_
 refine s_mv ?_
 refine s_bs rI [v29] yP23 yR3 ?_
 obtain ⟨hk34, hF16⟩ := chk_some hF15
 refine s_apF rI (fun _ => rfl) hk34 yP23 ?_
 refine s_as ?_
 refine k_nil (k_blk (k_seq (awp_region ?_)))
 refine s_add (winc2 hc27 hb28 hn_g25) ?_
 refine s_mv ?_
 refine k_nil ?_
 exact s_rn (fu, (g24 ++ [v29]), (g25 + 1)) ⟨by first | omega | (dsimp only; omega), hF16, by first | omega | (dsimp only; omega)⟩ [(5060, 112)]
 refine awp_nlB 9 8 [.t (.sc (.int .i64 x1.kind)), .t (.sc (.int .i64 0)), .t (.sc (.str (⟨#[]⟩ : ByteArray))), .t (.sc (.int .i64 0)), .t (.sl (x1.ids.map rI)), .t (.sc (.int .i64 0)), .t (.sc (.str (⟨#[]⟩ : ByteArray))), .t (.sc (.int .i64 0)), .t (.sl (([] : List Int).map rI)), .nl, .t (.sl (x1.kids.map Core.row))] (by conv => lhs; whnf) rfl rfl ?_
 refine awp_nlB 9 9 [.t (.sc (.int .i64 x1.kind)), .t (.sc (.int .i64 0)), .t (.sc (.str (⟨#[]⟩ : ByteArray))), .t (.sc (.int .i64 0)), .t (.sl (x1.ids.map rI)), .t (.sc (.int .i64 0)), .t (.sc (.str (⟨#[]⟩ : ByteArray))), .t (.sc (.int .i64 0)), .t (.sl (([] : List Int).map rI)), .t (.sl (([] : List Form).map Form.row)), .t (.sl (x1.kids.map Core.row))] (by conv => lhs; whnf) rfl rfl ?_
 refine awp_pz 11 ?_
 refine awp_exit (k_seq_exit (k_rnd_exit2 (k_blk_exit (k_blk ?_))))
 exact s_jn (fu, 1, g24, 0, (⟨#[]⟩ : ByteArray), 0, x1.ids, 0, (⟨#[]⟩ : ByteArray), 0, ([] : List Int), ([] : List Form)) ⟨by first | omega | (dsimp only; omega), hF10⟩
 refine awp_seq (awp_region ?_)
 refine s_eq ?_
 refine s_as ?_
 refine k_nil (k_seq ?_)
 refine w_cond hF7 ?_ ?_ <;> intro hc35 hF8
 refine awp_nlB 9 4 [.t (.sc (.int .i64 x1.kind)), .t (.sc (.int .i64 0)), .t (.sc (.str (⟨#[]⟩ : ByteArray))), .t (.sc (.int .i64 0)), .t (.sl (([] : List Int).map rI)), .t (.sc (.int .i64 0)), .t (.sc (.str (⟨#[]⟩ : ByteArray))), .t (.sc (.int .i64 0)), .nl, .nl, .t (.sl (x1.kids.map Core.row))] (by conv => lhs; whnf) rfl rfl ?_
 refine awp_nlB 9 8 [.t (.sc (.int .i64 x1.kind)), .t (.sc (.int .i64 0)), .t (.sc (.str (⟨#[]⟩ : ByteArray))), .t (.sc (.int .i64 0)), .t (.sl (([] : List Int).map rI)), .t (.sc (.int .i64 0)), .t (.sc (.str (⟨#[]⟩ : ByteArray))), .t (.sc (.int .i64 0)), .t (.sl (([] : List Int).map rI)), .nl, .t (.sl (x1.kids.map Core.row))] (by conv => lhs; whnf) rfl rfl ?_
 refine awp_nlB 9 9 [.t (.sc (.int .i64 x1.kind)), .t (.sc (.int .i64 0)), .t (.sc (.str (⟨#[]⟩ : ByteArray))), .t (.sc (.int .i64 0)), .t (.sl (([] : List Int).map rI)), .t (.sc (.int .i64 0)), .t (.sc (.str (⟨#[]⟩ : ByteArray))), .t (.sc (.int .i64 0)), .t (.sl (([] : List Int).map rI)), .t (.sl (([] : List Form).map Form.row)), .t (.sl (x1.kids.map Core.row))] (by conv => lhs; whnf) rfl rfl ?_
 refine awp_region ?_
 refine s_fa yF29_6 ?_
 refine s_ld1 yA27 ?_
 refine s_lenT yU27 ?_
 refine s_max ?_
 refine s_as ?_
 refine k_nil (k_blk ?_)
 exact s_jn (fu, (if (x1.kids.length : Int) > 1 then (x1.kids.length : Int) else 1), x2, 0, (⟨#[]⟩ : ByteArray), 0, ([] : List Int), 0, (⟨#[]⟩ : ByteArray), 0, ([] : List Int), ([] : List Form)) ⟨by first | omega | (dsimp only; omega), hF8⟩
 refine awp_seq (awp_region ?_)
 refine s_eq ?_
 refine s_as ?_
 refine k_nil (k_seq ?_)
 refine w_cond hF8 ?_ ?_ <;> intro hc36 hF9
 refine awp_nlB 9 4 [.t (.sc (.int .i64 x1.kind)), .t (.sc (.int .i64 0)), .t (.sc (.str (⟨#[]⟩ : ByteArray))), .t (.sc (.int .i64 0)), .t (.sl (([] : List Int).map rI)), .t (.sc (.int .i64 0)), .t (.sc (.str (⟨#[]⟩ : ByteArray))), .t (.sc (.int .i64 0)), .nl, .nl, .t (.sl (x1.kids.map Core.row))] (by conv => lhs; whnf) rfl rfl ?_
 refine awp_nlB 9 8 [.t (.sc (.int .i64 x1.kind)), .t (.sc (.int .i64 0)), .t (.sc (.str (⟨#[]⟩ : ByteArray))), .t (.sc (.int .i64 0)), .t (.sl (([] : List Int).map rI)), .t (.sc (.int .i64 0)), .t (.sc (.str (⟨#[]⟩ : ByteArray))), .t (.sc (.int .i64 0)), .t (.sl (([] : List Int).map rI)), .nl, .t (.sl (x1.kids.map Core.row))] (by conv => lhs; whnf) rfl rfl ?_
 refine awp_nlB 9 9 [.t (.sc (.int .i64 x1.kind)), .t (.sc (.int .i64 0)), .t (.sc (.str (⟨#[]⟩ : ByteArray))), .t (.sc (.int .i64 0)), .t (.sl (([] : List Int).map rI)), .t (.sc (.int .i64 0)), .t (.sc (.str (⟨#[]⟩ : ByteArray))), .t (.sc (.int .i64 0)), .t (.sl (([] : List Int).map rI)), .t (.sl (([] : List Form).map Form.row)), .t (.sl (x1.kids.map Core.row))] (by conv => lhs; whnf) rfl rfl ?_
 refine awp_region ?_
 refine s_as ?_
 refine k_nil (k_blk ?_)
 exact s_jn (fu, 3, x2, 0, (⟨#[]⟩ : ByteArray), 0, ([] : List Int), 0, (⟨#[]⟩ : ByteArray), 0, ([] : List Int), ([] : List Form)) ⟨by first | omega | (dsimp only; omega), hF9⟩
 refine awp_seq (awp_region ?_)
 refine s_as ?_
 refine k_nil (k_seq (awp_ret (k_blk_ret (k_jn_ret (k_fin ?_)))))
 cases hF9
 exact ends_a _ [] Try.results15
 clear hF2
 rintro ⟨fu, g37, g38, g39, g40, g41, g42, g43, g44, g45, g46, g47⟩ ⟨hl48, hF3⟩
 dsimp only at hl48 hF3 ⊢
 obtain _ | fu := fu
 · rw [m_impl_coreOk_j2] at hF3; cases hF3
 rw [m_impl_coreOk_j2] at hF3
 refine awp_seq ?_
 refine awp_jn (α := Nat × Bool) [122, 123, 124, 125, 126, 127, 128, 129, 130, 131, 132] [] [] (fun a => [(132, .t (.sc (.bool a.2)))]) (fun a => []) (fun a => a.1 ≤ fu ∧ m_impl_coreOk_j4 a.1 x1 x3 o1 g38 a.2 = some r) ?_ ?_
 refine awp_region ?_
 refine s_fa yF29_6 ?_
 refine s_ld1 yA27 ?_
 refine s_lenT yU27 ?_
 refine s_mv ?_
 refine s_ne ?_
 refine s_mv ?_
 refine w_guard _ 127 hF3 ?_ ?_ <;> intro hc49 hF4
 iterate 4 refine r_no rfl ?_
 refine s_pkt ?_
 refine k_nil ?_
 exact s_jn (fu, true) ⟨by first | omega | (dsimp only; omega), hF4⟩
 refine s_ldW yA29 yS29 ?_
 refine s_ldW yA29 yS29 ?_
 obtain ⟨v50, hv50, hF5⟩ := bind_some' hF4
 refine s_pure [] (m_impl_sameCore_ok fu _ _ _ hv50) ?_
 refine s_not ?_
 refine s_pkf ?_
 refine k_nil ?_
 exact s_jn (fu, (!v50)) ⟨by first | omega | (dsimp only; omega), hF5⟩
 clear hF3
 rintro ⟨fu, g51⟩ ⟨hl52, hF4⟩
 dsimp only at hl52 hF4 ⊢
 obtain _ | fu := fu
 · rw [m_impl_coreOk_j4] at hF4; cases hF4
 rw [m_impl_coreOk_j4] at hF4
 refine w_cond hF4 ?_ ?_ <;> intro hc53 hF5
 refine awp_seq (awp_region ?_)
 refine s_as ?_
 refine k_nil (k_seq (awp_ret (k_seq_ret (k_fin ?_))))
 cases hF5
 exact ends_a _ [] Try.results15
 refine awp_skip (k_seq (awp_seq (awp_seq (awp_region ?_))))
 refine s_fa yF29_6 ?_
 refine s_ld1 yA27 ?_
 refine s_lenT yU27 ?_
 refine s_mv ?_
 refine k_nil (k_seq (awp_block ?_))
 refine awp_fr (β := Int × Int) [8, 15, 136, 137, 138, 139, 140, 141, 142, 143, 144, 145, 146, 147] [9000] [15] (fun a => [(136, .t (.sc (.int .i64 a.2.1)))]) (fun a => [(9000, .box [.t (.sc (.int .i64 a.2.2))])]) (fun a => a.1 ≤ fu ∧ m_impl_coreOk_l5 a.1 x1 x3 g38 a.2.1 a.2.2 = some r ∧ 0 ≤ a.2.1) (fu, 0, (w64 (o1 - 1))) ⟨Nat.le_refl _, hF5, by simp⟩ ?_
 clear hF5
 rintro ⟨fu, g54, g55⟩ ⟨hl56, hF6, hn_g54⟩
 dsimp only at hl56 hF6 hn_g54 ⊢
 obtain _ | fu := fu
 · rw [m_impl_coreOk_l5] at hF6; cases hF6
 rw [m_impl_coreOk_l5] at hF6
 refine awp_seq (awp_region ?_)
 refine s_lt ?_
 refine k_nil (k_seq (awp_seq ?_))
 refine w_cond hF6 ?_ ?_ <;> intro hc57 hF7
 refine awp_lenT 32 (fun hb58 => ?_)
 refine awp_skip (k_seq (awp_seq (awp_block (awp_seq (awp_region ?_)))))
 obtain ⟨v59, hv59, hF8⟩ := bind_some' hF7
 refine s_ixT Core.row hv59 (Core.row_eq _) yE27 ?_
 refine s_ldN yA29 yS29 ?_
 refine s_alloc yZ29 ?_
 refine s_stW yS29 ?_
 refine k_nil (k_seq (awp_seq (awp_region ?_)))
 refine s_ldW yA29 yS29 ?_
 refine s_mv ?_
 refine s_mv ?_
 refine s_add rfl ?_
 refine s_mv ?_
 obtain ⟨v60, hv60, hF9⟩ := bind_some' hF8
 refine s_call [(9000, 9000)] [] _ _ (ih_m_impl_coreOk fu (by omega) _ _ _ _ _ hv60) ?_
 refine s_not ?_
 refine k_nil (k_seq ?_)
 refine w_cond hF9 ?_ ?_ <;> intro hc61 hF10
 refine awp_seq (awp_region ?_)
 refine s_as ?_
 refine k_nil (k_seq (awp_ret (k_blk_ret (k_seq_ret (k_rnd_ret2 (k_blk_ret (k_seq_ret (k_fin ?_))))))))
 cases hF10
 exact ends_a _ [] Try.results15
 refine awp_skip (k_blk (k_seq (awp_region ?_)))
 refine s_add (winc2 hc57 hb58 hn_g54) ?_
 refine s_mv ?_
 refine k_nil ?_
 exact s_rn (fu, (g54 + 1), v60.2) ⟨by first | omega | (dsimp only; omega), hF10, by first | omega | (dsimp only; omega)⟩
 refine awp_exit (k_seq_exit (k_rnd_exit2 (k_blk_exit (k_seq (awp_seq (awp_region ?_))))))
 refine s_as ?_
 refine k_nil (k_seq (awp_ret (k_fin ?_)))
 cases hF7
 exact ends_a _ [] Try.results15
theorem m_impl_coreOk_all (fuel : Nat) : m_impl_coreOk_AC fuel := by
 induction fuel using Nat.strongRecOn with
 | _ N ih =>
   cases N with
   | zero => exact (by intro x1 x2 x3 o1 r h; rw [m_impl_coreOk] at h; cases h)
   | succ fu => exact m_impl_coreOk_st fu (fun k hk => (ih k (by omega)))
theorem m_impl_coreOk_ok (fuel : Nat) : m_impl_coreOk_AC fuel := (m_impl_coreOk_all fuel)
def m_impl_CoreValid_AC (fuel : Nat) : Prop := ∀ (x1 : Core) (r : Bool), m_impl_CoreValid fuel x1 = some r → AC Try.prog 8 [.ag [.t (.sc (.int .i64 x1.kind)), .t (.sc (.int .i64 x1.id)), .t (.sc (.str x1.name)), .t (.sc (.int .i64 x1.n)), .t (.sl (x1.ids.map rI)), .t (.sc (.int .i64 x1.data.kind)), .t (.sc (.str x1.data.name)), .t (.sc (.int .i64 x1.data.n)), .t (.sl (x1.data.scopes.map rI)), .t (.sl (x1.data.kids.map Form.row)), .t (.sl (x1.kids.map Core.row))]] noOb (.t (.sc (.bool r))) noOb
theorem m_impl_CoreValid_ok (fuel : Nat) : m_impl_CoreValid_AC fuel := by
 intro x1 r hF0
 unfold m_impl_CoreValid at hF0
 refine AC_i [.t (.sc (.bool r))] Try.func8 rfl Try.ntmps8 ?_
 intro C hC
 refine awp_seq (awp_region ?_)
 refine s_box ?_
 refine s_as ?_
 refine k_nil (k_seq (awp_seq (awp_region ?_)))
 refine s_alloc yZ3 ?_
 refine s_stW yS3 ?_
 refine k_nil (k_seq (awp_seq (awp_region ?_)))
 refine s_ldW yA29 yS29 ?_
 obtain ⟨v1, hv1, hF1⟩ := bind_some' hF0
 refine s_call [(9000, 3)] [] _ _ (m_impl_coreOk_ok fuel _ _ _ _ _ hv1) ?_
 refine s_as ?_
 refine k_nil (k_seq (awp_ret (k_fin ?_)))
 cases hF1
 exact ends_a [] [] Try.results8
def m_impl_copyForm_AC (fuel : Nat) : Prop := ∀ (x1 : Form) (r : Form), m_impl_copyForm fuel x1 = some r → AC Try.prog 22 [.ag [.t (.sc (.int .i64 x1.kind)), .t (.sc (.str x1.name)), .t (.sc (.int .i64 x1.n)), .t (.sl (x1.scopes.map rI)), .t (.sl (x1.kids.map Form.row))]] noOb (.ag [.t (.sc (.int .i64 r.kind)), .t (.sc (.str r.name)), .t (.sc (.int .i64 r.n)), .t (.sl (r.scopes.map rI)), .t (.sl (r.kids.map Form.row))]) noOb
theorem m_impl_copyForm_st (fu : Nat) (ih_m_impl_copyForm : ∀ k, k ≤ fu → m_impl_copyForm_AC k) : m_impl_copyForm_AC (fu + 1) := by
 intro x1 r hF0
 rw [m_impl_copyForm] at hF0
 refine AC_i [.ag [.t (.sc (.int .i64 r.kind)), .t (.sc (.str r.name)), .t (.sc (.int .i64 r.n)), .t (.sl (r.scopes.map rI)), .t (.sl (r.kids.map Form.row))]] Try.func22 rfl Try.ntmps22 ?_
 intro C hC
 refine awp_seq (awp_region ?_)
 refine s_box ?_
 refine s_alloc yZ26 ?_
 refine k_nil (k_seq (awp_seq ?_))
 refine awp_draw yMix (by kernel_rfl) ?_
 refine s_fa yF26_0 ?_
 refine s_ld1 yA3 ?_
 refine s_fa yF26_1 ?_
 refine s_ld1 yA9 ?_
 refine s_fa yF26_2 ?_
 refine s_ld1 yA3 ?_
 refine s_fa yF26_3 ?_
 refine s_ld1 yA23 ?_
 obtain ⟨v1, hv1, hF1⟩ := bind_some' hF0
 refine s_call [(9200, 2014)] [] _ _ (m_slices_Clone_int_ok fu _ _ hv1) ?_
 refine s_bld yZ26 yL26 ?_
 refine s_alloc yZ26 ?_
 refine s_stW yS26 ?_
 refine k_nilD (by kernel_rfl) ?_
 refine k_seq (awp_seq (awp_seq (awp_region ?_)))
 refine s_fa yF26_4 ?_
 refine s_ld1 yA24 ?_
 refine s_lenT yU24 ?_
 refine s_mv ?_
 refine k_nil (k_seq (awp_block ?_))
 refine awp_ownB 3 5020 26 [.t (.sc (.int .i64 x1.kind)), .t (.sc (.str x1.name)), .t (.sc (.int .i64 x1.n)), .ar 2014, .ar 5020] yI26.choose_spec ?_
 refine awp_frame2 [5, 19, 20, 21, 22, 23, 24, 25, 26, 27, 28, 29, 30] [3, 5020] [5, 27, 28] [5020] (fun a : Nat × Int × (List Form) => a.1) (fun a : Nat × Int × (List Form) => [(19, .t (.sc (.int .i64 a.2.1)))]) (fun a : Nat × Int × (List Form) => [(3, .box [.t (.sc (.int .i64 x1.kind)), .t (.sc (.str x1.name)), .t (.sc (.int .i64 x1.n)), .ar 2014, .ar 5020]), (5020, .arr (a.2.2.map Form.row) 26 true)]) (fun a : Nat × Int × (List Form) => a.1 ≤ fu ∧ m_impl_copyForm_l1 a.1 x1 v1 a.2.1 a.2.2 = some r ∧ 0 ≤ a.2.1) (fu, 0, ([] : List Form)) ⟨Nat.le_refl _, hF1, by simp⟩ (by rfl) (by rfl) (fun _ => rfl) (hasF_cons (by conv => lhs; whnf) (by rfl) hasF_nil) (hasO_cons (by conv => lhs; whnf) (by rfl) (hasO_cons (by conv => lhs; whnf) (by rfl) hasO_nil)) (fresh_C hC rfl) (by repeat (first | exact freshS_args rfl | refine freshS_upd rfl ?_ | refine freshS_frame rfl ?_)) (by repeat (first | exact freshM_no | exact objs_fresh rfl | refine freshM_upd rfl ?_ | refine freshM_frame rfl ?_)) ?_
 clear hF1
 rintro ⟨fu, g2, g3⟩ ⟨hl4, hF2, hn_g2⟩
 dsimp only at hl4 hF2 hn_g2 ⊢
 obtain _ | fu := fu
 · rw [m_impl_copyForm_l1] at hF2; cases hF2
 rw [m_impl_copyForm_l1] at hF2
 refine awp_seq (awp_region ?_)
 refine s_lt ?_
 refine k_nil (k_seq (awp_seq ?_))
 refine w_cond hF2 ?_ ?_ <;> intro hc5 hF3
 refine awp_lenT 17 (fun hb6 => ?_)
 refine awp_skip (k_seq (awp_seq (awp_block (awp_seq (awp_region ?_)))))
 obtain ⟨v7, hv7, hF4⟩ := bind_some' hF3
 refine s_ixT Form.row hv7 (Form.row_eq _) yE24 ?_
 refine s_ldN yA26 yS26 ?_
 refine s_alloc yZ26 ?_
 refine s_stW yS26 ?_
 refine k_nil (k_seq ?_)
 refine awp_draw yMix (by kernel_rfl) ?_
 refine s_fa yF26_4 ?_
 refine s_ld1 yA24 ?_
 refine s_ldW yA26 yS26 ?_
 obtain ⟨v8, hv8, hF5⟩ := bind_some' hF4
 refine s_pure [] (ih_m_impl_copyForm fu (by omega) _ _ hv8) ?_
 refine s_bs Form.row [v8] yP24 yR26 ?_
 obtain ⟨hk9, hF6⟩ := chk_some hF5
 refine s_apT Form.row (fun y => Form.row_len y) hk9 yP24 ?_
 refine s_fa yF26_4 ?_
 refine s_stP yS24 ?_
 refine k_nilD (by kernel_rfl) ?_
 refine k_blk (k_seq (awp_region ?_))
 refine s_add (winc2 hc5 hb6 hn_g2) ?_
 refine s_mv ?_
 refine k_nil ?_
 exact s_rn (fu, (g2 + 1), (g3 ++ [v8])) ⟨by first | omega | (dsimp only; omega), hF6, by first | omega | (dsimp only; omega)⟩ [(5020, 28)]
 refine awp_exit (k_seq_exit (k_rnd_exit2 (k_blk_exit (k_seq (awp_seq (awp_region ?_))))))
 refine s_ldW yA26 yS26 ?_
 refine s_stW yS26 ?_
 refine k_nil (k_seq (awp_ret (k_fin ?_)))
 cases hF3
 exact ends_gen [] [2014, 5020] (by rw [Try.results22]; exact (res_agg (by conv => lhs; whnf) (by conv => lhs; whnf) yA26 yS26 rfl res_nil))
theorem m_impl_copyForm_all (fuel : Nat) : m_impl_copyForm_AC fuel := by
 induction fuel using Nat.strongRecOn with
 | _ N ih =>
   cases N with
   | zero => exact (by intro x1 r h; rw [m_impl_copyForm] at h; cases h)
   | succ fu => exact m_impl_copyForm_st fu (fun k hk => (ih k (by omega)))
theorem m_impl_copyForm_ok (fuel : Nat) : m_impl_copyForm_AC fuel := (m_impl_copyForm_all fuel)
def m_impl_renumber_AC (fuel : Nat) : Prop := ∀ (x1 : Core) (x2 : (Int → Option Int)) (o1 : Int) (r : (Core × Int)), m_impl_renumber fuel x1 x2 o1 = some r → AC Try.prog 11 [.ag [.t (.sc (.int .i64 x1.kind)), .t (.sc (.int .i64 x1.id)), .t (.sc (.str x1.name)), .t (.sc (.int .i64 x1.n)), .t (.sl (x1.ids.map rI)), .t (.sc (.int .i64 x1.data.kind)), .t (.sc (.str x1.data.name)), .t (.sc (.int .i64 x1.data.n)), .t (.sl (x1.data.scopes.map rI)), .t (.sl (x1.data.kids.map Form.row)), .t (.sl (x1.kids.map Core.row))], .ar 9301, .rf 9000 0] (objs [(9301, .mp x2), (9000, .box [.t (.sc (.int .i64 o1))])]) (.ag [.t (.sc (.int .i64 r.1.kind)), .t (.sc (.int .i64 r.1.id)), .t (.sc (.str r.1.name)), .t (.sc (.int .i64 r.1.n)), .t (.sl (r.1.ids.map rI)), .t (.sc (.int .i64 r.1.data.kind)), .t (.sc (.str r.1.data.name)), .t (.sc (.int .i64 r.1.data.n)), .t (.sl (r.1.data.scopes.map rI)), .t (.sl (r.1.data.kids.map Form.row)), .t (.sl (r.1.kids.map Core.row))]) (objs [(9301, .mp x2), (9000, .box [.t (.sc (.int .i64 r.2))])])
theorem m_impl_renumber_st (fu : Nat) (ih_m_impl_renumber : ∀ k, k ≤ fu → m_impl_renumber_AC k) : m_impl_renumber_AC (fu + 1) := by
 intro x1 x2 o1 r hF0
 rw [m_impl_renumber] at hF0
 refine AC_i [.ag [.t (.sc (.int .i64 r.1.kind)), .t (.sc (.int .i64 r.1.id)), .t (.sc (.str r.1.name)), .t (.sc (.int .i64 r.1.n)), .t (.sl (r.1.ids.map rI)), .t (.sc (.int .i64 r.1.data.kind)), .t (.sc (.str r.1.data.name)), .t (.sc (.int .i64 r.1.data.n)), .t (.sl (r.1.data.scopes.map rI)), .t (.sl (r.1.data.kids.map Form.row)), .t (.sl (r.1.kids.map Core.row))]] Try.func11 rfl Try.ntmps11 ?_
 intro C hC
 refine awp_seq (awp_region ?_)
 refine s_box ?_
 refine s_alloc yZ29 ?_
 refine k_nil (k_seq (awp_seq ?_))
 refine awp_draw yMix (by kernel_rfl) ?_
 refine s_fa yF29_0 ?_
 refine s_ld1 yA3 ?_
 refine s_fa yF29_1 ?_
 refine s_ld1 yA3 ?_
 refine s_fa yF29_2 ?_
 refine s_ld1 yA9 ?_
 refine s_fa yF29_3 ?_
 refine s_ld1 yA3 ?_
 refine s_fa yF29_5 ?_
 refine s_ldN yA26 yS26 ?_
 obtain ⟨v1, hv1, hF1⟩ := bind_some' hF0
 refine s_pure [] (m_impl_copyForm_ok fu _ _ hv1) ?_
 refine s_bld yZ29 yL29 ?_
 refine s_alloc yZ29 ?_
 refine s_stW yS29 ?_
 refine k_nilD (by kernel_rfl) ?_
 refine k_seq ?_
 refine awp_jn (α := Nat × Int) [27, 28, 29, 30, 31, 32, 33, 34] [7] [] (fun a => []) (fun a => [(7, .box [.t (.sc (.int .i64 x1.kind)), .t (.sc (.int .i64 a.2)), .t (.sc (.str x1.name)), .t (.sc (.int .i64 x1.n)), .nl, .t (.sc (.int .i64 v1.kind)), .t (.sc (.str v1.name)), .t (.sc (.int .i64 v1.n)), .t (.sl (v1.scopes.map rI)), .t (.sl (v1.kids.map Form.row)), .nl])]) (fun a => a.1 ≤ fu ∧ m_impl_renumber_j1 a.1 x1 x2 o1 v1 a.2 = some r) ?_ ?_
 refine awp_seq (awp_region ?_)
 refine s_fa yF29_0 ?_
 refine s_ld1 yA3 ?_
 refine s_eq ?_
 refine k_nil (k_seq ?_)
 refine w_cond hF1 ?_ ?_ <;> intro hc2 hF2
 refine awp_region ?_
 refine s_mv ?_
 refine s_fa yF29_1 ?_
 refine s_ld1 yA3 ?_
 refine s_look yM48 ?_
 refine s_fa yF29_1 ?_
 refine s_stP yS3 ?_
 refine k_nil ?_
 exact s_jn (fu, (mapGet x2 x1.id)) ⟨by first | omega | (dsimp only; omega), hF2⟩
 refine awp_skip ?_
 exact s_jn (fu, x1.id) ⟨by first | omega | (dsimp only; omega), hF2⟩
 clear hF1
 rintro ⟨fu, g3⟩ ⟨hl4, hF2⟩
 dsimp only at hl4 hF2 ⊢
 obtain _ | fu := fu
 · rw [m_impl_renumber_j1] at hF2; cases hF2
 rw [m_impl_renumber_j1] at hF2
 refine awp_seq (awp_region ?_)
 refine s_mkm ?_
 refine s_as ?_
 refine k_nil (k_seq (awp_seq (awp_seq ?_)))
 refine awp_mpx 9301 (by conv => lhs; whnf) (fun bmhE5 eshE5 clockhE5 hE5 => ?_)
 refine awp_region ?_
 refine s_mv ?_
 refine s_range yM48 ?_
 refine k_nil (k_seq (awp_block ?_))
 refine awp_fr (β := Array Nat × (Int → Option Int)) [9, 10, 38, 39, 40, 41, 42, 43, 44, 45] [35, 37] [] (fun a => []) (fun a => [(35, .mp a.2.2), (37, .it (some bmhE5) clockhE5 a.2.1 clockhE5)]) (fun a => a.1 = (leftL eshE5 a.2.1).length + 1 ∧ WalkI eshE5 a.2.1 x2 a.2.2) ((leftL eshE5 #[]).length + 1, #[], map0) ⟨rfl, walk_start⟩ ?_
 rintro ⟨_, seen, g⟩ ⟨hN, hW⟩
 dsimp only at hN hW ⊢
 subst hN
 refine awp_seq ?_
 refine awp_nextS 9301 hE5 (fun x0 hx0 => ?_) (fun hl => ?_)
 obtain ⟨hm0, k0, v0, hk0, hv0, hf0⟩ := walk_at hE5 hx0
 have hlt0 := walk_less hx0
 refine k_seq (awp_seq (awp_true rfl (awp_skip (k_seq (awp_block (awp_seq (awp_region ?_)))))))
 refine s_entry hE5 hm0 hk0 hv0 (q := 9301) ?_
 refine s_ext ?_
 refine s_ext ?_
 refine s_as ?_
 refine s_as ?_
 refine k_nil (k_seq (awp_region ?_))
 iterate 3 refine s_mv ?_
 refine s_mupd yM48 ?_
 refine k_nil (k_blk ?_)
 exact s_rn ((leftL eshE5 (seen.push x0.born)).length + 1, seen.push x0.born, mapSet g k0 v0) ⟨rfl, walk_step hE5 hx0 hk0 hf0 hW⟩
 have hfg := walk_end hE5 hl hW
 subst hfg
 refine k_seq (awp_seq (awp_false rfl ?_))
 refine awp_exit (k_seq_exit (k_rnd_exit2 (k_blk_exit ?_)))
 refine k_seq ?_
 refine awp_mpo 9301 hE5 (by conv => lhs; whnf) ?_
 refine awp_kill 37 rfl ?_
 refine awp_jn (α := Nat × Int × (Int → Option Int) × (List Int)) [12, 46, 47, 48, 49, 50, 51, 52, 53, 54, 55, 56, 57, 58, 59, 60, 61, 62, 63, 64, 65, 66, 67, 68, 69, 70, 71] [7, 35, 5060, 9000] [] (fun a => []) (fun a => [(7, .box [.t (.sc (.int .i64 x1.kind)), .t (.sc (.int .i64 g3)), .t (.sc (.str x1.name)), .t (.sc (.int .i64 x1.n)), .ar 5060, .t (.sc (.int .i64 v1.kind)), .t (.sc (.str v1.name)), .t (.sc (.int .i64 v1.n)), .t (.sl (v1.scopes.map rI)), .t (.sl (v1.kids.map Form.row)), .nl]), (35, .mp a.2.2.1), (5060, .arr (a.2.2.2.map rI) 3 true), (9000, .box [.t (.sc (.int .i64 a.2.1))])]) (fun a => a.1 ≤ fu ∧ m_impl_renumber_j2 a.1 x1 v1 g3 a.2.1 a.2.2.1 a.2.2.2 = some r) ?_ ?_
 refine awp_seq (awp_region ?_)
 refine s_fa yF29_4 ?_
 refine s_ld1 yA23 ?_
 refine s_lenT yU23 ?_
 refine s_mv ?_
 refine k_nil (k_seq (awp_block ?_))
 refine awp_ownB 7 5060 3 [.t (.sc (.int .i64 x1.kind)), .t (.sc (.int .i64 g3)), .t (.sc (.str x1.name)), .t (.sc (.int .i64 x1.n)), .ar 5060, .t (.sc (.int .i64 v1.kind)), .t (.sc (.str v1.name)), .t (.sc (.int .i64 v1.n)), .t (.sl (v1.scopes.map rI)), .t (.sl (v1.kids.map Form.row)), .nl] yI3.choose_spec ?_
 refine awp_frame2 [12, 49, 50, 51, 52, 53, 54, 55, 56, 57, 58, 59, 60, 61, 62, 63, 64, 65, 66, 67, 68, 69, 70, 71] [7, 35, 5060, 9000] [68, 69] [5060] (fun a : Nat × Int × Int × (List Int) × (Int → Option Int) => a.1) (fun a : Nat × Int × Int × (List Int) × (Int → Option Int) => [(49, .t (.sc (.int .i64 a.2.1)))]) (fun a : Nat × Int × Int × (List Int) × (Int → Option Int) => [(7, .box [.t (.sc (.int .i64 x1.kind)), .t (.sc (.int .i64 g3)), .t (.sc (.str x1.name)), .t (.sc (.int .i64 x1.n)), .ar 5060, .t (.sc (.int .i64 v1.kind)), .t (.sc (.str v1.name)), .t (.sc (.int .i64 v1.n)), .t (.sl (v1.scopes.map rI)), .t (.sl (v1.kids.map Form.row)), .nl]), (35, .mp a.2.2.2.2), (5060, .arr (a.2.2.2.1.map rI) 3 true), (9000, .box [.t (.sc (.int .i64 a.2.2.1))])]) (fun a : Nat × Int × Int × (List Int) × (Int → Option Int) => a.1 ≤ fu ∧ m_impl_renumber_l3 a.1 x1 v1 g3 a.2.1 a.2.2.1 a.2.2.2.1 a.2.2.2.2 = some r ∧ 0 ≤ a.2.1) (fu, 0, o1, ([] : List Int), x2) ⟨Nat.le_refl _, hF2, by simp⟩ (by rfl) (by rfl) (fun _ => rfl) (hasF_cons (by conv => lhs; whnf) (by rfl) hasF_nil) (hasO_cons (by conv => lhs; whnf) (by rfl) (hasO_cons (by conv => lhs; whnf) (by rfl) (hasO_cons (by conv => lhs; whnf) (by rfl) (hasO_cons (by conv => lhs; whnf) (by rfl) hasO_nil)))) (fresh_C hC rfl) (by repeat (first | exact freshS_args rfl | refine freshS_upd rfl ?_ | refine freshS_frame rfl ?_)) (by repeat (first | exact freshM_no | exact objs_fresh rfl | refine freshM_upd rfl ?_ | refine freshM_frame rfl ?_)) ?_
 clear hF2
 rintro ⟨fu, g6, g7, g8, g9⟩ ⟨hl10, hF3, hn_g6⟩
 dsimp only at hl10 hF3 hn_g6 ⊢
 obtain _ | fu := fu
 · rw [m_impl_renumber_l3] at hF3; cases hF3
 rw [m_impl_renumber_l3] at hF3
 refine awp_seq (awp_region ?_)
 refine s_lt ?_
 refine k_nil (k_seq (awp_seq ?_))
 refine w_cond hF3 ?_ ?_ <;> intro hc11 hF4
 refine awp_lenT 47 (fun hb12 => ?_)
 refine awp_skip (k_seq (awp_seq (awp_block (awp_seq (awp_region ?_)))))
 obtain ⟨v13, hv13, hF5⟩ := bind_some' hF4
 refine s_ixT rI hv13 rfl yE23 ?_
 refine s_ld1 yA3 ?_
 refine s_as ?_
 refine k_nil (k_seq (awp_seq (awp_region ?_)))
 refine s_mv ?_
 refine s_nc ?_
 refine s_ld1 yA3 ?_
 refine s_add rfl ?_
 refine s_nc ?_
 refine s_stW yS3 ?_
 refine k_nil (k_seq (awp_seq (awp_region ?_)))
 iterate 3 refine s_mv ?_
 refine s_nc ?_
 refine s_ld1 yA3 ?_
 refine s_mupd yM48 ?_
 refine k_nil (k_seq ?_)
 refine awp_draw yMix (by kernel_rfl) ?_
 refine s_fa yF29_4 ?_
 refine s_ld1 yA23 ?_
 refine s_mv0 ?_
 refine s_nc ?_
 refine s_ld1 yA3 ?_
 refine s_bs rI [(w64 (g7 + 1))] yP23 yR3 ?_
 obtain ⟨hk14, hF6⟩ := chk_some hF5
 refine s_apT rI (fun _ => rfl) hk14 yP23 ?_
 refine s_fa yF29_4 ?_
 refine s_stP yS23 ?_
 refine k_nilD (by kernel_rfl) ?_
 refine k_blk (k_seq (awp_region ?_))
 refine s_add (winc2 hc11 hb12 hn_g6) ?_
 refine s_mv ?_
 refine k_nil ?_
 exact s_rn (fu, (g6 + 1), (w64 (g7 + 1)), (g8 ++ [(w64 (g7 + 1))]), (mapSet g9 v13 (w64 (g7 + 1)))) ⟨by first | omega | (dsimp only; omega), hF6, by first | omega | (dsimp only; omega)⟩ [(5060, 69)]
 refine awp_exit (k_seq_exit (k_rnd_exit2 (k_blk_exit ?_)))
 exact s_jn (fu, g7, g9, g8) ⟨by first | omega | (dsimp only; omega), hF4⟩
 clear hF2
 rintro ⟨fu, g15, g16, g17⟩ ⟨hl18, hF3⟩
 dsimp only at hl18 hF3 ⊢
 obtain _ | fu := fu
 · rw [m_impl_renumber_j2] at hF3; cases hF3
 rw [m_impl_renumber_j2] at hF3
 refine awp_seq (awp_seq (awp_region ?_))
 refine s_fa yF29_6 ?_
 refine s_ld1 yA27 ?_
 refine s_lenT yU27 ?_
 refine s_mv ?_
 refine k_nil (k_seq (awp_block ?_))
 refine awp_ownB 7 5080 29 [.t (.sc (.int .i64 x1.kind)), .t (.sc (.int .i64 g3)), .t (.sc (.str x1.name)), .t (.sc (.int .i64 x1.n)), .ar 5060, .t (.sc (.int .i64 v1.kind)), .t (.sc (.str v1.name)), .t (.sc (.int .i64 v1.n)), .t (.sl (v1.scopes.map rI)), .t (.sl (v1.kids.map Form.row)), .ar 5080] yI29.choose_spec ?_
 refine awp_frame2 [14, 75, 76, 77, 78, 79, 80, 81, 82, 83, 84, 85, 86, 87, 88] [7, 5080, 9000] [14, 85, 86] [5080] (fun a : Nat × Int × Int × (List Core) => a.1) (fun a : Nat × Int × Int × (List Core) => [(75, .t (.sc (.int .i64 a.2.1)))]) (fun a : Nat × Int × Int × (List Core) => [(7, .box [.t (.sc (.int .i64 x1.kind)), .t (.sc (.int .i64 g3)), .t (.sc (.str x1.name)), .t (.sc (.int .i64 x1.n)), .ar 5060, .t (.sc (.int .i64 v1.kind)), .t (.sc (.str v1.name)), .t (.sc (.int .i64 v1.n)), .t (.sl (v1.scopes.map rI)), .t (.sl (v1.kids.map Form.row)), .ar 5080]), (5080, .arr (a.2.2.2.map Core.row) 29 true), (9000, .box [.t (.sc (.int .i64 a.2.2.1))])]) (fun a : Nat × Int × Int × (List Core) => a.1 ≤ fu ∧ m_impl_renumber_l4 a.1 x1 v1 g3 g16 g17 a.2.1 a.2.2.1 a.2.2.2 = some r ∧ 0 ≤ a.2.1) (fu, 0, g15, ([] : List Core)) ⟨Nat.le_refl _, hF3, by simp⟩ (by rfl) (by rfl) (fun _ => rfl) (hasF_cons (by conv => lhs; whnf) (by rfl) hasF_nil) (hasO_cons (by conv => lhs; whnf) (by rfl) (hasO_cons (by conv => lhs; whnf) (by rfl) (hasO_cons (by conv => lhs; whnf) (by rfl) hasO_nil))) (fresh_C hC rfl) (by repeat (first | exact freshS_args rfl | refine freshS_upd rfl ?_ | refine freshS_frame rfl ?_)) (by repeat (first | exact freshM_no | exact objs_fresh rfl | refine freshM_upd rfl ?_ | refine freshM_frame rfl ?_)) ?_
 clear hF3
 rintro ⟨fu, g19, g20, g21⟩ ⟨hl22, hF4, hn_g19⟩
 dsimp only at hl22 hF4 hn_g19 ⊢
 obtain _ | fu := fu
 · rw [m_impl_renumber_l4] at hF4; cases hF4
 rw [m_impl_renumber_l4] at hF4
 refine awp_seq (awp_region ?_)
 refine s_lt ?_
 refine k_nil (k_seq (awp_seq ?_))
 refine w_cond hF4 ?_ ?_ <;> intro hc23 hF5
 refine awp_lenT 73 (fun hb24 => ?_)
 refine awp_skip (k_seq (awp_seq (awp_block (awp_seq (awp_region ?_)))))
 obtain ⟨v25, hv25, hF6⟩ := bind_some' hF5
 refine s_ixT Core.row hv25 (Core.row_eq _) yE27 ?_
 refine s_ldN yA29 yS29 ?_
 refine s_alloc yZ29 ?_
 refine s_stW yS29 ?_
 refine k_nil (k_seq ?_)
 refine awp_draw yMix (by kernel_rfl) ?_
 refine s_fa yF29_6 ?_
 refine s_ld1 yA27 ?_
 refine s_ldW yA29 yS29 ?_
 refine s_mv0 ?_
 refine s_mv0 ?_
 obtain ⟨v26, hv26, hF7⟩ := bind_some' hF6
 refine s_call [(9301, 35), (9000, 9000)] [] _ _ (ih_m_impl_renumber fu (by omega) _ _ _ _ hv26) ?_
 refine s_bs Core.row [v26.1] yP27 yR29 ?_
 obtain ⟨hk27, hF8⟩ := chk_some hF7
 refine s_apT Core.row (fun y => Core.row_len y) hk27 yP27 ?_
 refine s_fa yF29_6 ?_
 refine s_stP yS27 ?_
 refine k_nilD (by kernel_rfl) ?_
 refine k_blk (k_seq (awp_region ?_))
 refine s_add (winc2 hc23 hb24 hn_g19) ?_
 refine s_mv ?_
 refine k_nil ?_
 exact s_rn (fu, (g19 + 1), v26.2, (g21 ++ [v26.1])) ⟨by first | omega | (dsimp only; omega), hF8, by first | omega | (dsimp only; omega)⟩ [(5080, 86)]
 refine awp_exit (k_seq_exit (k_rnd_exit2 (k_blk_exit (k_seq (awp_seq (awp_region ?_))))))
 refine s_ldW yA29 yS29 ?_
 refine s_stW yS29 ?_
 refine k_nil (k_seq (awp_ret (k_fin ?_)))
 cases hF5
 exact ends_gen _ [5060, 5080] (by rw [Try.results11]; exact (res_agg (by conv => lhs; whnf) (by conv => lhs; whnf) yA29 yS29 rfl res_nil))
end Go.Abs
