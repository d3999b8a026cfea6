/- A part of the proof: what the functions that the law calls answer, as pure values. -/
import Derived.Test.YtdlfmjbmnopaiaaK566d99bbca90
import Derived.Test.YtdlfmjbmnopaiaaK780d2eb56f1c
import Derived.Test.YtdlfmjbmnopaiaaK9bbfcf4c24ff
import Derived.Test.YtdlfmjbmnopaiaaKb3c329c7c45a
import Derived.Test.YtdlfmjbmnopaiaaKd76126587010
import Derived.Test.YtdlfmjbmnopaiaaKde984a49f05e
import Derived.Test.YtdlfmjbmnopaiaaKf2381d853e25
set_option linter.unusedSimpArgs false
set_option linter.unusedVariables false
set_option maxRecDepth 100000
set_option maxHeartbeats 4000000
namespace Go.Abs
open Go.Proofs
theorem m_spec_l6Is_all (fuel : Nat) : m_spec_l6Is_AC fuel := by
 induction fuel using Nat.strongRecOn with
 | _ N ih =>
   cases N with
   | zero => exact (by intro x1 x2 x3 r h; rw [m_spec_l6Is] at h; cases h)
   | succ fu => exact m_spec_l6Is_st fu (fun k hk => (ih k (by omega)))
theorem m_spec_l6Is_ok (fuel : Nat) : m_spec_l6Is_AC fuel := (m_spec_l6Is_all fuel)
def m_spec_l6Count_AC (fuel : Nat) : Prop := ∀ (x1 : Core) (r : Int), m_spec_l6Count fuel x1 = some r → AC Try.prog 24 [.ag [.t (.sc (.int .i64 x1.kind)), .t (.sc (.int .i64 x1.id)), .t (.sc (.str x1.name)), .t (.sc (.int .i64 x1.n)), .t (.sl (x1.ids.map rI)), .t (.sc (.int .i64 x1.data.kind)), .t (.sc (.str x1.data.name)), .t (.sc (.int .i64 x1.data.n)), .t (.sl (x1.data.scopes.map rI)), .t (.sl (x1.data.kids.map Form.row)), .t (.sl (x1.kids.map Core.row))]] noOb (.t (.sc (.int .i64 r))) noOb
theorem m_spec_l6Count_st (fu : Nat) (ih_m_spec_l6Count : ∀ k, k ≤ fu → m_spec_l6Count_AC k) : m_spec_l6Count_AC (fu + 1) := by
 intro x1 r hF0
 rw [m_spec_l6Count] at hF0
 refine AC_i [.t (.sc (.int .i64 r))] Try.func24 rfl Try.ntmps24 ?_
 intro C hC
 refine awp_seq (awp_region ?_)
 refine s_box ?_
 refine s_as ?_
 refine k_nil (k_seq (awp_seq (awp_region ?_)))
 refine s_as ?_
 refine k_nil (k_seq (awp_seq (awp_seq (awp_region ?_))))
 refine s_as ?_
 refine k_nil (k_seq (awp_block ?_))
 refine awp_fr (β := Int × Int) [3, 4, 5, 6, 7, 8, 9, 10, 11, 12, 13, 14, 15, 16, 17, 18, 19] [] [] (fun a => [(3, .t (.sc (.int .i64 a.2.1))), (4, .t (.sc (.int .i64 a.2.2)))]) (fun a => []) (fun a => a.1 ≤ fu ∧ m_spec_l6Count_l1 a.1 x1 a.2.1 a.2.2 = some r ∧ 0 ≤ a.2.2) (fu, 1, 0) ⟨Nat.le_refl _, hF0, by simp⟩ ?_
 clear hF0
 rintro ⟨fu, g1, g2⟩ ⟨hl3, hF1, hn_g2⟩
 dsimp only at hl3 hF1 hn_g2 ⊢
 obtain _ | fu := fu
 · rw [m_spec_l6Count_l1] at hF1; cases hF1
 rw [m_spec_l6Count_l1] at hF1
 refine awp_seq (awp_seq (awp_region ?_))
 refine s_mv ?_
 refine s_fa yF29_6 ?_
 refine s_ld1 yA27 ?_
 refine s_lenT yU27 ?_
 refine s_lt ?_
 refine k_nil (k_seq ?_)
 refine w_cond hF1 ?_ ?_ <;> intro hc4 hF2
 refine awp_lenT 7 (fun hb5 => ?_)
 refine awp_skip (k_seq (awp_seq (awp_block (awp_region ?_))))
 refine s_mv ?_
 refine s_fa yF29_6 ?_
 refine s_ld1 yA27 ?_
 refine s_mv ?_
 obtain ⟨v6, hv6, hF3⟩ := bind_some' hF2
 refine s_ixT Core.row hv6 (Core.row_eq _) yE27 ?_
 refine s_ldN yA29 yS29 ?_
 obtain ⟨v7, hv7, hF4⟩ := bind_some' hF3
 refine s_pure [] (ih_m_spec_l6Count fu (by omega) _ _ hv7) ?_
 refine s_add rfl ?_
 refine s_as ?_
 refine k_nil (k_blk (k_seq (awp_region ?_)))
 refine s_mv ?_
 refine s_add (winc2 hc4 hb5 hn_g2) ?_
 refine s_as ?_
 refine k_nil ?_
 exact s_rn (fu, (w64 (g1 + v7)), (g2 + 1)) ⟨by first | omega | (dsimp only; omega), hF4, by first | omega | (dsimp only; omega)⟩
 refine awp_exit (k_seq_exit (k_rnd_exit2 (k_blk_exit (k_seq (awp_seq (awp_region ?_))))))
 refine s_mv ?_
 refine s_as ?_
 refine k_nil (k_seq (awp_ret (k_fin ?_)))
 cases hF2
 exact ends_a [] [] Try.results24
theorem m_spec_l6Count_all (fuel : Nat) : m_spec_l6Count_AC fuel := by
 induction fuel using Nat.strongRecOn with
 | _ N ih =>
   cases N with
   | zero => exact (by intro x1 r h; rw [m_spec_l6Count] at h; cases h)
   | succ fu => exact m_spec_l6Count_st fu (fun k hk => (ih k (by omega)))
theorem m_spec_l6Count_ok (fuel : Nat) : m_spec_l6Count_AC fuel := (m_spec_l6Count_all fuel)
def m_spec_CoreValid_AC (fuel : Nat) : Prop := ∀ (x1 : Core) (r : Bool), m_spec_CoreValid fuel x1 = some r → AC Try.prog 12 [.ag [.t (.sc (.int .i64 x1.kind)), .t (.sc (.int .i64 x1.id)), .t (.sc (.str x1.name)), .t (.sc (.int .i64 x1.n)), .t (.sl (x1.ids.map rI)), .t (.sc (.int .i64 x1.data.kind)), .t (.sc (.str x1.data.name)), .t (.sc (.int .i64 x1.data.n)), .t (.sl (x1.data.scopes.map rI)), .t (.sl (x1.data.kids.map Form.row)), .t (.sl (x1.kids.map Core.row))]] noOb (.t (.sc (.bool r))) noOb
theorem m_spec_CoreValid_ok (fuel : Nat) : m_spec_CoreValid_AC fuel := by
 intro x1 r hF0
 unfold m_spec_CoreValid at hF0
 refine AC_i [.t (.sc (.bool r))] Try.func12 rfl Try.ntmps12 ?_
 intro C hC
 refine awp_seq (awp_region ?_)
 refine s_box ?_
 refine s_as ?_
 refine k_nil (k_seq (awp_seq (awp_region ?_)))
 refine s_ldW yA29 yS29 ?_
 refine s_bs rI ([] : List Int) yP23 yR3 ?_
 obtain ⟨v1, hv1, hF1⟩ := bind_some' hF0
 refine s_pure [4] (m_spec_l6Is_ok fuel _ _ _ _ hv1) ?_
 refine s_mv ?_
 refine w_guard _ 6 hF1 ?_ ?_ <;> intro hc2 hF2
 refine s_ldW yA29 yS29 ?_
 obtain ⟨v3, hv3, hF3⟩ := bind_some' hF2
 refine s_pure [] (m_spec_l6Count_ok fuel _ _ hv3) ?_
 refine s_le ?_
 refine s_pkt ?_
 refine s_as ?_
 refine k_nil (k_seq (awp_ret (k_fin ?_)))
 cases hF3
 exact ends_a [] [] Try.results12
 iterate 3 refine r_no rfl ?_
 refine s_pkf ?_
 refine s_as ?_
 refine k_nil (k_seq (awp_ret (k_fin ?_)))
 cases hF2
 exact ends_a [] [] Try.results12
def m_spec_l6Last_AC (fuel : Nat) : Prop := ∀ (x1 : (List Int)) (x2 : Int) (r : Int), m_spec_l6Last fuel x1 x2 = some r → AC Try.prog 26 [.t (.sl (x1.map rI)), .t (.sc (.int .i64 x2))] noOb (.t (.sc (.int .i64 r))) noOb
theorem m_spec_l6Last_ok (fuel : Nat) : m_spec_l6Last_AC fuel := by
 intro x1 x2 r hF0
 unfold m_spec_l6Last at hF0
 refine AC_i [.t (.sc (.int .i64 r))] Try.func26 rfl Try.ntmps26 ?_
 intro C hC
 refine awp_seq (awp_region ?_)
 refine s_as ?_
 refine k_nil (k_seq (awp_seq (awp_seq (awp_region ?_))))
 refine s_mv ?_
 refine s_lenT yU23 ?_
 refine s_sub rfl ?_
 refine s_as ?_
 refine k_nil (k_seq (awp_block ?_))
 refine awp_fr (β := Int) [4, 5, 9, 10, 11, 12, 13, 14, 15, 16, 17, 18, 19, 20, 21, 22, 23] [] [] (fun a => [(5, .t (.sc (.int .i64 a.2)))]) (fun a => []) (fun a => a.1 ≤ fuel ∧ m_spec_l6Last_l1 a.1 x1 x2 a.2 = some r) (fuel, (w64 ((x1.length : Int) - 1))) ⟨Nat.le_refl _, hF0⟩ ?_
 clear hF0
 rintro ⟨fu, g1⟩ ⟨hl2, hF1⟩
 dsimp only at hl2 hF1 ⊢
 obtain _ | fu := fu
 · rw [m_spec_l6Last_l1] at hF1; cases hF1
 rw [m_spec_l6Last_l1] at hF1
 refine awp_seq (awp_seq (awp_region ?_))
 refine s_mv ?_
 refine s_ge ?_
 refine k_nil (k_seq ?_)
 refine w_cond hF1 ?_ ?_ <;> intro hc3 hF2
 refine awp_skip (k_seq (awp_seq (awp_block (awp_seq (awp_region ?_)))))
 refine s_mv ?_
 refine s_mv ?_
 obtain ⟨v4, hv4, hF3⟩ := bind_some' hF2
 refine s_ixT rI hv4 rfl yE23 ?_
 refine s_ld1 yA3 ?_
 refine s_mv ?_
 refine s_eq ?_
 refine k_nil (k_seq ?_)
 refine w_cond hF3 ?_ ?_ <;> intro hc5 hF4
 refine awp_seq (awp_region ?_)
 refine s_mv ?_
 refine s_lenT yU23 ?_
 refine s_sub rfl ?_
 refine s_mv ?_
 refine s_sub rfl ?_
 refine s_as ?_
 refine k_nil (k_seq (awp_ret (k_blk_ret (k_seq_ret (k_rnd_ret2 (k_blk_ret (k_seq_ret (k_fin ?_))))))))
 cases hF4
 exact ends_a [] [] Try.results26
 refine awp_skip (k_blk (k_seq (awp_region ?_)))
 refine s_mv ?_
 refine s_sub rfl ?_
 refine s_as ?_
 refine k_nil ?_
 exact s_rn (fu, (w64 (g1 - 1))) ⟨by first | omega | (dsimp only; omega), hF4⟩
 refine awp_exit (k_seq_exit (k_rnd_exit2 (k_blk_exit (k_seq (awp_seq (awp_region ?_))))))
 refine s_as ?_
 refine k_nil (k_seq (awp_ret (k_fin ?_)))
 cases hF2
 exact ends_a [] [] Try.results26
def m_spec_l6Number_AC (fuel : Nat) : Prop := ∀ (x1 : Core) (x2 : (List Int)) (x3 : (List Int)) (x4 : Int) (r : (Core × Int)), m_spec_l6Number fuel x1 x2 x3 x4 = some r → AC Try.prog 13 [.ag [.t (.sc (.int .i64 x1.kind)), .t (.sc (.int .i64 x1.id)), .t (.sc (.str x1.name)), .t (.sc (.int .i64 x1.n)), .t (.sl (x1.ids.map rI)), .t (.sc (.int .i64 x1.data.kind)), .t (.sc (.str x1.data.name)), .t (.sc (.int .i64 x1.data.n)), .t (.sl (x1.data.scopes.map rI)), .t (.sl (x1.data.kids.map Form.row)), .t (.sl (x1.kids.map Core.row))], .t (.sl (x2.map rI)), .t (.sl (x3.map rI)), .t (.sc (.int .i64 x4))] noOb (.tp [.ag [.t (.sc (.int .i64 r.1.kind)), .t (.sc (.int .i64 r.1.id)), .t (.sc (.str r.1.name)), .t (.sc (.int .i64 r.1.n)), .t (.sl (r.1.ids.map rI)), .t (.sc (.int .i64 r.1.data.kind)), .t (.sc (.str r.1.data.name)), .t (.sc (.int .i64 r.1.data.n)), .t (.sl (r.1.data.scopes.map rI)), .t (.sl (r.1.data.kids.map Form.row)), .t (.sl (r.1.kids.map Core.row))], .t (.sc (.int .i64 r.2))]) noOb
theorem m_spec_l6Number_st (fu : Nat) (ih_m_spec_l6Number : ∀ k, k ≤ fu → m_spec_l6Number_AC k) : m_spec_l6Number_AC (fu + 1) := by
 intro x1 x2 x3 x4 r hF0
 rw [m_spec_l6Number] at hF0
 refine AC_i [.ag [.t (.sc (.int .i64 r.1.kind)), .t (.sc (.int .i64 r.1.id)), .t (.sc (.str r.1.name)), .t (.sc (.int .i64 r.1.n)), .t (.sl (r.1.ids.map rI)), .t (.sc (.int .i64 r.1.data.kind)), .t (.sc (.str r.1.data.name)), .t (.sc (.int .i64 r.1.data.n)), .t (.sl (r.1.data.scopes.map rI)), .t (.sl (r.1.data.kids.map Form.row)), .t (.sl (r.1.kids.map Core.row))], .t (.sc (.int .i64 r.2))] Try.func13 rfl Try.ntmps13 ?_
 intro C hC
 refine awp_seq (awp_region ?_)
 refine s_box ?_
 refine s_alloc yZ29 ?_
 refine s_as ?_
 refine k_nil (k_seq (awp_seq ?_))
 refine awp_draw yMix (by kernel_rfl) ?_
 refine s_fa yF29_0 ?_
 refine s_ld1 yA3 ?_
 refine s_fa yF29_2 ?_
 refine s_ld1 yA9 ?_
 refine s_fa yF29_3 ?_
 refine s_ld1 yA3 ?_
 refine s_fa yF29_5 ?_
 refine s_ldN yA26 yS26 ?_
 obtain ⟨v1, hv1, hF1⟩ := bind_some' hF0
 refine s_call [(9203, 2023), (9204, 12023)] [] _ _ (m_spec_l1Copy_ok fu _ _ hv1) ?_
 refine s_bld yZ29 yL29 ?_
 refine s_alloc yZ29 ?_
 refine s_stW yS29 ?_
 refine k_nilD (by kernel_rfl) ?_
 refine k_seq ?_
 refine awp_jn (α := Nat × Int) [25, 26, 27, 28, 29, 30, 31, 32, 33, 34, 35, 36, 37, 38, 39] [10] [] (fun a => []) (fun a => [(10, .box [.t (.sc (.int .i64 x1.kind)), .t (.sc (.int .i64 a.2)), .t (.sc (.str x1.name)), .t (.sc (.int .i64 x1.n)), .nl, .t (.sc (.int .i64 v1.kind)), .t (.sc (.str v1.name)), .t (.sc (.int .i64 v1.n)), .ar 2023, .ar 12023, .nl])]) (fun a => a.1 ≤ fu ∧ m_spec_l6Number_j1 a.1 x1 x2 x3 x4 v1 a.2 = some r) ?_ ?_
 refine awp_seq (awp_region ?_)
 refine s_fa yF29_0 ?_
 refine s_ld1 yA3 ?_
 refine s_eq ?_
 refine k_nil (k_seq ?_)
 refine w_cond hF1 ?_ ?_ <;> intro hc2 hF2
 refine awp_region ?_
 refine s_mv ?_
 refine s_mv ?_
 refine s_lenT yU23 ?_
 refine s_sub rfl ?_
 refine s_mv ?_
 refine s_fa yF29_1 ?_
 refine s_ld1 yA3 ?_
 obtain ⟨v3, hv3, hF3⟩ := bind_some' hF2
 refine s_pure [] (m_spec_l6Last_ok fu _ _ _ hv3) ?_
 refine s_sub rfl ?_
 obtain ⟨v4, hv4, hF4⟩ := bind_some' hF3
 refine s_ixT rI hv4 rfl yE23 ?_
 refine s_ld1 yA3 ?_
 refine s_fa yF29_1 ?_
 refine s_stP yS3 ?_
 refine k_nil ?_
 exact s_jn (fu, v4) ⟨by first | omega | (dsimp only; omega), hF4⟩
 refine awp_skip ?_
 exact s_jn (fu, 0) ⟨by first | omega | (dsimp only; omega), hF2⟩
 clear hF1
 rintro ⟨fu, g5⟩ ⟨hl6, hF2⟩
 dsimp only at hl6 hF2 ⊢
 obtain _ | fu := fu
 · rw [m_spec_l6Number_j1] at hF2; cases hF2
 rw [m_spec_l6Number_j1] at hF2
 refine awp_jn (α := Nat × (List Int) × (List Int) × Int × (List Int)) [1, 2, 3, 11, 40, 41, 42, 43, 44, 45, 46, 47, 48, 49, 50, 51, 52, 53, 54, 55, 56, 57, 58, 59, 60, 61, 62, 63, 64, 65, 66, 67, 68, 69, 70] [10, 5060] [] (fun a => [(1, .t (.sl (a.2.1.map rI))), (2, .t (.sl (a.2.2.1.map rI))), (3, .t (.sc (.int .i64 a.2.2.2.1)))]) (fun a => [(10, .box [.t (.sc (.int .i64 x1.kind)), .t (.sc (.int .i64 g5)), .t (.sc (.str x1.name)), .t (.sc (.int .i64 x1.n)), .ar 5060, .t (.sc (.int .i64 v1.kind)), .t (.sc (.str v1.name)), .t (.sc (.int .i64 v1.n)), .ar 2023, .ar 12023, .nl]), (5060, .arr (a.2.2.2.2.map rI) 3 true)]) (fun a => a.1 ≤ fu ∧ m_spec_l6Number_j2 a.1 x1 v1 g5 a.2.1 a.2.2.1 a.2.2.2.1 a.2.2.2.2 = some r) ?_ ?_
 refine awp_seq (awp_region ?_)
 refine s_as ?_
 refine k_nil (k_seq (awp_block ?_))
 refine awp_ownB 10 5060 3 [.t (.sc (.int .i64 x1.kind)), .t (.sc (.int .i64 g5)), .t (.sc (.str x1.name)), .t (.sc (.int .i64 x1.n)), .ar 5060, .t (.sc (.int .i64 v1.kind)), .t (.sc (.str v1.name)), .t (.sc (.int .i64 v1.n)), .ar 2023, .ar 12023, .nl] yI3.choose_spec ?_
 refine awp_frame2 [1, 2, 3, 11, 40, 41, 42, 43, 44, 45, 46, 47, 48, 49, 50, 51, 52, 53, 54, 55, 56, 57, 58, 59, 60, 61, 62, 63, 64, 65, 66, 67, 68, 69, 70] [10, 5060] [52, 53, 55, 57, 63, 64, 65, 67, 69, 70] [5060] (fun a : Nat × (List Int) × (List Int) × Int × Int × (List Int) => a.1) (fun a : Nat × (List Int) × (List Int) × Int × Int × (List Int) => [(1, .t (.sl (a.2.1.map rI))), (2, .t (.sl (a.2.2.1.map rI))), (3, .t (.sc (.int .i64 a.2.2.2.1))), (11, .t (.sc (.int .i64 a.2.2.2.2.1)))]) (fun a : Nat × (List Int) × (List Int) × Int × Int × (List Int) => [(10, .box [.t (.sc (.int .i64 x1.kind)), .t (.sc (.int .i64 g5)), .t (.sc (.str x1.name)), .t (.sc (.int .i64 x1.n)), .ar 5060, .t (.sc (.int .i64 v1.kind)), .t (.sc (.str v1.name)), .t (.sc (.int .i64 v1.n)), .ar 2023, .ar 12023, .nl]), (5060, .arr (a.2.2.2.2.2.map rI) 3 true)]) (fun a : Nat × (List Int) × (List Int) × Int × Int × (List Int) => a.1 ≤ fu ∧ m_spec_l6Number_l3 a.1 x1 v1 g5 a.2.1 a.2.2.1 a.2.2.2.1 a.2.2.2.2.1 a.2.2.2.2.2 = some r ∧ 0 ≤ a.2.2.2.2.1) (fu, x2, x3, x4, 0, ([] : List Int)) ⟨Nat.le_refl _, hF2, by simp⟩ (by rfl) (by rfl) (fun _ => rfl) (hasF_cons (by conv => lhs; whnf) (by rfl) (hasF_cons (by conv => lhs; whnf) (by rfl) (hasF_cons (by conv => lhs; whnf) (by rfl) (hasF_cons (by conv => lhs; whnf) (by rfl) hasF_nil)))) (hasO_cons (by conv => lhs; whnf) (by rfl) (hasO_cons (by conv => lhs; whnf) (by rfl) hasO_nil)) (fresh_C hC rfl) (by repeat (first | exact freshS_args rfl | refine freshS_upd rfl ?_ | refine freshS_frame rfl ?_)) (by repeat (first | exact freshM_no | exact objs_fresh rfl | refine freshM_upd rfl ?_ | refine freshM_frame rfl ?_)) ?_
 clear hF2
 rintro ⟨fu, g7, g8, g9, g10, g11⟩ ⟨hl12, hF3, hn_g10⟩
 dsimp only at hl12 hF3 hn_g10 ⊢
 obtain _ | fu := fu
 · rw [m_spec_l6Number_l3] at hF3; cases hF3
 rw [m_spec_l6Number_l3] at hF3
 refine awp_seq (awp_seq (awp_region ?_))
 refine s_mv ?_
 refine s_fa yF29_4 ?_
 refine s_ld1 yA23 ?_
 refine s_lenT yU23 ?_
 refine s_lt ?_
 refine k_nil (k_seq ?_)
 refine w_cond hF3 ?_ ?_ <;> intro hc13 hF4
 refine awp_lenT 42 (fun hb14 => ?_)
 refine awp_skip (k_seq (awp_seq (awp_block (awp_seq (awp_region ?_)))))
 refine s_mv ?_
 refine s_add rfl ?_
 refine s_as ?_
 refine k_nil (k_seq (awp_seq (awp_region ?_)))
 refine s_fa yF29_4 ?_
 refine s_ld1 yA23 ?_
 refine s_mv ?_
 refine s_bs rI [(w64 (g9 + 1))] yP23 yR3 ?_
 obtain ⟨hk15, hF5⟩ := chk_some hF4
 refine s_apT rI (fun _ => rfl) hk15 yP23 ?_
 refine s_fa yF29_4 ?_
 refine s_stP yS23 ?_
 refine k_nil (k_seq (awp_seq ?_))
 refine awp_draw yMix (by kernel_rfl) ?_
 refine s_bs rI ([] : List Int) yP23 yR3 ?_
 refine s_mv ?_
 obtain ⟨hk16, hF6⟩ := chk_some hF5
 refine s_apT rI (fun _ => rfl) hk16 yP23 ?_
 refine s_fa yF29_4 ?_
 refine s_ld1 yA23 ?_
 refine s_mv ?_
 obtain ⟨v17, hv17, hF7⟩ := bind_some' hF6
 refine s_ixT rI hv17 rfl yE23 ?_
 refine s_ld1 yA3 ?_
 refine s_bs rI [v17] yP23 yR3 ?_
 obtain ⟨hk18, hF8⟩ := chk_some hF7
 refine s_apT rI (fun _ => rfl) hk18 yP23 ?_
 refine s_as ?_
 refine k_nilD (by kernel_rfl) ?_
 refine k_seq ?_
 refine awp_pz 1 ?_
 refine awp_region ?_
 refine s_bs rI ([] : List Int) yP23 yR3 ?_
 refine s_mv ?_
 obtain ⟨hk19, hF9⟩ := chk_some hF8
 refine s_apT rI (fun _ => rfl) hk19 yP23 ?_
 refine s_mv ?_
 refine s_bs rI [(w64 (g9 + 1))] yP23 yR3 ?_
 obtain ⟨hk20, hF10⟩ := chk_some hF9
 refine s_apT rI (fun _ => rfl) hk20 yP23 ?_
 refine s_as ?_
 refine k_nil (k_blk (k_seq ?_))
 refine awp_pz 2 ?_
 refine awp_region ?_
 refine s_mv ?_
 refine s_add (winc2 hc13 hb14 hn_g10) ?_
 refine s_as ?_
 refine k_nil ?_
 exact s_rn (fu, ((([] : List Int) ++ g7) ++ [v17]), ((([] : List Int) ++ g8) ++ [(w64 (g9 + 1))]), (w64 (g9 + 1)), (g10 + 1), (g11 ++ [(w64 (g9 + 1))])) ⟨by first | omega | (dsimp only; omega), hF10, by first | omega | (dsimp only; omega)⟩ [(5060, 53)]
 refine awp_exit (k_seq_exit (k_rnd_exit2 (k_blk_exit ?_)))
 exact s_jn (fu, g7, g8, g9, g11) ⟨by first | omega | (dsimp only; omega), hF4⟩
 clear hF2
 rintro ⟨fu, g21, g22, g23, g24⟩ ⟨hl25, hF3⟩
 dsimp only at hl25 hF3 ⊢
 obtain _ | fu := fu
 · rw [m_spec_l6Number_j2] at hF3; cases hF3
 rw [m_spec_l6Number_j2] at hF3
 refine awp_seq (awp_seq (awp_region ?_))
 refine s_as ?_
 refine k_nil (k_seq (awp_block ?_))
 refine awp_ownB 10 5080 29 [.t (.sc (.int .i64 x1.kind)), .t (.sc (.int .i64 g5)), .t (.sc (.str x1.name)), .t (.sc (.int .i64 x1.n)), .ar 5060, .t (.sc (.int .i64 v1.kind)), .t (.sc (.str v1.name)), .t (.sc (.int .i64 v1.n)), .ar 2023, .ar 12023, .ar 5080] yI29.choose_spec ?_
 refine awp_frame2 [3, 12, 13, 14, 71, 72, 73, 74, 75, 76, 77, 78, 79, 80, 81, 82, 83, 84, 85, 86, 87, 88, 89, 90, 91, 92, 93, 94, 95, 96] [10, 5080] [13, 94, 95] [5080] (fun a : Nat × Int × Int × (List Core) => a.1) (fun a : Nat × Int × Int × (List Core) => [(3, .t (.sc (.int .i64 a.2.1))), (12, .t (.sc (.int .i64 a.2.2.1)))]) (fun a : Nat × Int × Int × (List Core) => [(10, .box [.t (.sc (.int .i64 x1.kind)), .t (.sc (.int .i64 g5)), .t (.sc (.str x1.name)), .t (.sc (.int .i64 x1.n)), .ar 5060, .t (.sc (.int .i64 v1.kind)), .t (.sc (.str v1.name)), .t (.sc (.int .i64 v1.n)), .ar 2023, .ar 12023, .ar 5080]), (5080, .arr (a.2.2.2.map Core.row) 29 true)]) (fun a : Nat × Int × Int × (List Core) => a.1 ≤ fu ∧ m_spec_l6Number_l4 a.1 x1 v1 g5 g21 g22 g24 a.2.1 a.2.2.1 a.2.2.2 = some r ∧ 0 ≤ a.2.2.1) (fu, g23, 0, ([] : List Core)) ⟨Nat.le_refl _, hF3, by simp⟩ (by rfl) (by rfl) (fun _ => rfl) (hasF_cons (by conv => lhs; whnf) (by rfl) (hasF_cons (by conv => lhs; whnf) (by rfl) hasF_nil)) (hasO_cons (by conv => lhs; whnf) (by rfl) (hasO_cons (by conv => lhs; whnf) (by rfl) hasO_nil)) (fresh_C hC rfl) (by repeat (first | exact freshS_args rfl | refine freshS_upd rfl ?_ | refine freshS_frame rfl ?_)) (by repeat (first | exact freshM_no | exact objs_fresh rfl | refine freshM_upd rfl ?_ | refine freshM_frame rfl ?_)) ?_
 clear hF3
 rintro ⟨fu, g26, g27, g28⟩ ⟨hl29, hF4, hn_g27⟩
 dsimp only at hl29 hF4 hn_g27 ⊢
 obtain _ | fu := fu
 · rw [m_spec_l6Number_l4] at hF4; cases hF4
 rw [m_spec_l6Number_l4] at hF4
 refine awp_seq (awp_seq (awp_region ?_))
 refine s_mv ?_
 refine s_fa yF29_6 ?_
 refine s_ld1 yA27 ?_
 refine s_lenT yU27 ?_
 refine s_lt ?_
 refine k_nil (k_seq ?_)
 refine w_cond hF4 ?_ ?_ <;> intro hc30 hF5
 refine awp_lenT 73 (fun hb31 => ?_)
 refine awp_skip (k_seq (awp_seq (awp_block (awp_seq (awp_region ?_)))))
 refine s_fa yF29_6 ?_
 refine s_ld1 yA27 ?_
 refine s_mv ?_
 obtain ⟨v32, hv32, hF6⟩ := bind_some' hF5
 refine s_ixT Core.row hv32 (Core.row_eq _) yE27 ?_
 refine s_ldN yA29 yS29 ?_
 iterate 3 refine s_mv ?_
 obtain ⟨v33, hv33, hF7⟩ := bind_some' hF6
 refine s_pure [] (ih_m_spec_l6Number fu (by omega) _ _ _ _ _ hv33) ?_
 refine s_mv ?_
 refine s_ext ?_
 refine s_ext ?_
 refine s_alloc yZ29 ?_
 refine s_stW yS29 ?_
 refine s_as ?_
 refine k_nil (k_seq (awp_seq (awp_region ?_)))
 refine s_mv ?_
 refine s_as ?_
 refine k_nil (k_seq (awp_region ?_))
 refine s_fa yF29_6 ?_
 refine s_ld1 yA27 ?_
 refine s_ldW yA29 yS29 ?_
 refine s_bs Core.row [v33.1] yP27 yR29 ?_
 obtain ⟨hk34, hF8⟩ := chk_some hF7
 refine s_apT Core.row (fun y => Core.row_len y) hk34 yP27 ?_
 refine s_fa yF29_6 ?_
 refine s_stP yS27 ?_
 refine k_nil (k_blk (k_seq (awp_region ?_)))
 refine s_mv ?_
 refine s_add (winc2 hc30 hb31 hn_g27) ?_
 refine s_as ?_
 refine k_nil ?_
 exact s_rn (fu, v33.2, (g27 + 1), (g28 ++ [v33.1])) ⟨by first | omega | (dsimp only; omega), hF8, by first | omega | (dsimp only; omega)⟩ [(5080, 95)]
 refine awp_exit (k_seq_exit (k_rnd_exit2 (k_blk_exit (k_seq (awp_seq (awp_region ?_))))))
 refine s_ldW yA29 yS29 ?_
 refine s_mv ?_
 refine s_stW yS29 ?_
 refine s_as ?_
 refine k_nil (k_seq (awp_ret (k_fin ?_)))
 cases hF5
 exact ends_gen [] [5060, 2023, 12023, 5080] (by rw [Try.results13]; exact (res_agg (by conv => lhs; whnf) (by conv => lhs; whnf) yA29 yS29 rfl (res_tmp (by conv => lhs; whnf) res_nil)))
theorem m_spec_l6Number_all (fuel : Nat) : m_spec_l6Number_AC fuel := by
 induction fuel using Nat.strongRecOn with
 | _ N ih =>
   cases N with
   | zero => exact (by intro x1 x2 x3 x4 r h; rw [m_spec_l6Number] at h; cases h)
   | succ fu => exact m_spec_l6Number_st fu (fun k hk => (ih k (by omega)))
theorem m_spec_l6Number_ok (fuel : Nat) : m_spec_l6Number_AC fuel := (m_spec_l6Number_all fuel)
def m_spec_NumberCore_AC (fuel : Nat) : Prop := ∀ (x1 : Core) (r : (Core × Bool)), m_spec_NumberCore fuel x1 = some r → AC Try.prog 6 [.ag [.t (.sc (.int .i64 x1.kind)), .t (.sc (.int .i64 x1.id)), .t (.sc (.str x1.name)), .t (.sc (.int .i64 x1.n)), .t (.sl (x1.ids.map rI)), .t (.sc (.int .i64 x1.data.kind)), .t (.sc (.str x1.data.name)), .t (.sc (.int .i64 x1.data.n)), .t (.sl (x1.data.scopes.map rI)), .t (.sl (x1.data.kids.map Form.row)), .t (.sl (x1.kids.map Core.row))]] noOb (.tp [.ag [.t (.sc (.int .i64 r.1.kind)), .t (.sc (.int .i64 r.1.id)), .t (.sc (.str r.1.name)), .t (.sc (.int .i64 r.1.n)), .t (.sl (r.1.ids.map rI)), .t (.sc (.int .i64 r.1.data.kind)), .t (.sc (.str r.1.data.name)), .t (.sc (.int .i64 r.1.data.n)), .t (.sl (r.1.data.scopes.map rI)), .t (.sl (r.1.data.kids.map Form.row)), .t (.sl (r.1.kids.map Core.row))], .t (.sc (.bool r.2))]) noOb
theorem m_spec_NumberCore_ok (fuel : Nat) : m_spec_NumberCore_AC fuel := by
 intro x1 r hF0
 unfold m_spec_NumberCore at hF0
 refine AC_i [.ag [.t (.sc (.int .i64 r.1.kind)), .t (.sc (.int .i64 r.1.id)), .t (.sc (.str r.1.name)), .t (.sc (.int .i64 r.1.n)), .t (.sl (r.1.ids.map rI)), .t (.sc (.int .i64 r.1.data.kind)), .t (.sc (.str r.1.data.name)), .t (.sc (.int .i64 r.1.data.n)), .t (.sl (r.1.data.scopes.map rI)), .t (.sl (r.1.data.kids.map Form.row)), .t (.sl (r.1.kids.map Core.row))], .t (.sc (.bool r.2))] Try.func6 rfl Try.ntmps6 ?_
 intro C hC
 refine awp_seq (awp_region ?_)
 refine s_box ?_
 refine s_alloc yZ29 ?_
 refine s_as ?_
 refine k_nil (k_seq (awp_seq (awp_seq (awp_region ?_))))
 refine s_ldW yA29 yS29 ?_
 obtain ⟨v1, hv1, hF1⟩ := bind_some' hF0
 refine s_pure [] (m_spec_CoreValid_ok fuel _ _ hv1) ?_
 refine s_not ?_
 refine k_nil (k_seq ?_)
 refine w_cond hF1 ?_ ?_ <;> intro hc2 hF2
 refine awp_seq (awp_region ?_)
 refine s_bld yZ29 yL29 ?_
 refine s_stW yS29 ?_
 refine s_as ?_
 refine k_nil (k_seq (awp_ret (k_seq_ret (k_fin ?_))))
 cases hF2
 exact ends_gen [] [] (by rw [Try.results6]; exact (res_agg (by conv => lhs; whnf) (by conv => lhs; whnf) yA29 yS29 rfl (res_tmp (by conv => lhs; whnf) res_nil)))
 refine awp_skip (k_seq (awp_seq (awp_region ?_)))
 refine s_ldW yA29 yS29 ?_
 refine s_bs rI ([] : List Int) yP23 yR3 ?_
 refine s_bs rI ([] : List Int) yP23 yR3 ?_
 obtain ⟨v3, hv3, hF3⟩ := bind_some' hF2
 refine s_pure [12, 13] (m_spec_l6Number_ok fuel _ _ _ _ _ hv3) ?_
 refine s_mv ?_
 refine s_ext ?_
 refine s_ext ?_
 refine s_alloc yZ29 ?_
 refine s_stW yS29 ?_
 refine s_as ?_
 refine k_nil (k_seq (awp_seq (awp_seq (awp_region ?_))))
 refine s_mv ?_
 refine s_gt ?_
 refine k_nil (k_seq ?_)
 refine w_cond hF3 ?_ ?_ <;> intro hc4 hF4
 refine awp_seq (awp_region ?_)
 refine s_bld yZ29 yL29 ?_
 refine s_stW yS29 ?_
 refine s_as ?_
 refine k_nil (k_seq (awp_ret (k_seq_ret (k_fin ?_))))
 cases hF4
 exact ends_gen [] [] (by rw [Try.results6]; exact (res_agg (by conv => lhs; whnf) (by conv => lhs; whnf) yA29 yS29 rfl (res_tmp (by conv => lhs; whnf) res_nil)))
 refine awp_skip (k_seq (awp_seq (awp_region ?_)))
 refine s_ldW yA29 yS29 ?_
 refine s_stW yS29 ?_
 refine s_as ?_
 refine k_nil (k_seq (awp_ret (k_fin ?_)))
 cases hF4
 exact ends_gen [] [] (by rw [Try.results6]; exact (res_agg (by conv => lhs; whnf) (by conv => lhs; whnf) yA29 yS29 rfl (res_tmp (by conv => lhs; whnf) res_nil)))
def m_impl_CoreSame_AC (fuel : Nat) : Prop := ∀ (x1 : Core) (x2 : Core) (r : Bool), m_impl_CoreSame fuel x1 x2 = some r → AC Try.prog 7 [.ag [.t (.sc (.int .i64 x1.kind)), .t (.sc (.int .i64 x1.id)), .t (.sc (.str x1.name)), .t (.sc (.int .i64 x1.n)), .t (.sl (x1.ids.map rI)), .t (.sc (.int .i64 x1.data.kind)), .t (.sc (.str x1.data.name)), .t (.sc (.int .i64 x1.data.n)), .t (.sl (x1.data.scopes.map rI)), .t (.sl (x1.data.kids.map Form.row)), .t (.sl (x1.kids.map Core.row))], .ag [.t (.sc (.int .i64 x2.kind)), .t (.sc (.int .i64 x2.id)), .t (.sc (.str x2.name)), .t (.sc (.int .i64 x2.n)), .t (.sl (x2.ids.map rI)), .t (.sc (.int .i64 x2.data.kind)), .t (.sc (.str x2.data.name)), .t (.sc (.int .i64 x2.data.n)), .t (.sl (x2.data.scopes.map rI)), .t (.sl (x2.data.kids.map Form.row)), .t (.sl (x2.kids.map Core.row))]] noOb (.t (.sc (.bool r))) noOb
theorem m_impl_CoreSame_ok (fuel : Nat) : m_impl_CoreSame_AC fuel := by
 intro x1 x2 r hF0
 unfold m_impl_CoreSame at hF0
 refine AC_i [.t (.sc (.bool r))] Try.func7 rfl Try.ntmps7 ?_
 intro C hC
 refine awp_seq (awp_region ?_)
 refine s_box ?_
 refine s_box ?_
 refine s_as ?_
 refine k_nil (k_seq (awp_seq (awp_region ?_)))
 refine s_ldW yA29 yS29 ?_
 refine s_ldW yA29 yS29 ?_
 obtain ⟨v1, hv1, hF1⟩ := bind_some' hF0
 refine s_pure [] (m_impl_sameCore_ok fuel _ _ _ hv1) ?_
 refine s_as ?_
 refine k_nil (k_seq (awp_ret (k_fin ?_)))
 cases hF1
 exact ends_a [] [] Try.results7
def m_impl_alike_AC (fuel : Nat) : Prop := ∀ (x1 : Core) (x2 : Core) (x3 : (Int → Option Int)) (r : Bool), m_impl_alike fuel x1 x2 x3 = some r → AC Try.prog 16 [.ag [.t (.sc (.int .i64 x1.kind)), .t (.sc (.int .i64 x1.id)), .t (.sc (.str x1.name)), .t (.sc (.int .i64 x1.n)), .t (.sl (x1.ids.map rI)), .t (.sc (.int .i64 x1.data.kind)), .t (.sc (.str x1.data.name)), .t (.sc (.int .i64 x1.data.n)), .t (.sl (x1.data.scopes.map rI)), .t (.sl (x1.data.kids.map Form.row)), .t (.sl (x1.kids.map Core.row))], .ag [.t (.sc (.int .i64 x2.kind)), .t (.sc (.int .i64 x2.id)), .t (.sc (.str x2.name)), .t (.sc (.int .i64 x2.n)), .t (.sl (x2.ids.map rI)), .t (.sc (.int .i64 x2.data.kind)), .t (.sc (.str x2.data.name)), .t (.sc (.int .i64 x2.data.n)), .t (.sl (x2.data.scopes.map rI)), .t (.sl (x2.data.kids.map Form.row)), .t (.sl (x2.kids.map Core.row))], .ar 9302] (objs [(9302, .mp x3)]) (.t (.sc (.bool r))) (objs [(9302, .mp x3)])
theorem m_impl_alike_st (fu : Nat) (ih_m_impl_alike : ∀ k, k ≤ fu → m_impl_alike_AC k) : m_impl_alike_AC (fu + 1) := by
 intro x1 x2 x3 r hF0
 rw [m_impl_alike] at hF0
 refine AC_i [.t (.sc (.bool r))] Try.func16 rfl Try.ntmps16 ?_
 intro C hC
 refine awp_seq (awp_region ?_)
 refine s_box ?_
 refine s_box ?_
 refine s_as ?_
 refine k_nil (k_seq (awp_seq ?_))
 refine awp_jn (α := Nat × Bool) [13, 14, 15, 16, 17, 18, 19, 20, 21, 22, 23, 24, 25, 26, 27, 28, 29, 30, 31, 32, 33, 34, 35] [] [] (fun a => [(35, .t (.sc (.bool a.2)))]) (fun a => []) (fun a => a.1 ≤ fu ∧ m_impl_alike_j1 a.1 x1 x2 x3 a.2 = some r) ?_ ?_
 refine awp_region ?_
 refine s_fa yF29_0 ?_
 refine s_ld1 yA3 ?_
 refine s_fa yF29_0 ?_
 refine s_ld1 yA3 ?_
 refine s_ne ?_
 refine s_mv ?_
 refine w_guard _ 18 hF0 ?_ ?_ <;> intro hc1 hF1
 iterate 7 refine r_no rfl ?_
 refine s_pkt ?_
 refine s_mv ?_
 iterate 7 refine r_no rfl ?_
 refine s_pkt ?_
 refine k_nil ?_
 exact s_jn (fu, true) ⟨by first | omega | (dsimp only; omega), hF1⟩
 refine s_fa yF29_6 ?_
 refine s_ld1 yA27 ?_
 refine s_lenT yU27 ?_
 refine s_fa yF29_6 ?_
 refine s_ld1 yA27 ?_
 refine s_lenT yU27 ?_
 refine s_ne ?_
 refine s_pkf ?_
 refine s_mv ?_
 refine w_guard _ 27 hF1 ?_ ?_ <;> intro hc2 hF2
 iterate 7 refine r_no rfl ?_
 refine s_pkt ?_
 refine k_nil ?_
 exact s_jn (fu, true) ⟨by first | omega | (dsimp only; omega), hF2⟩
 refine s_fa yF29_4 ?_
 refine s_ld1 yA23 ?_
 refine s_lenT yU23 ?_
 refine s_fa yF29_4 ?_
 refine s_ld1 yA23 ?_
 refine s_lenT yU23 ?_
 refine s_ne ?_
 refine s_pkf ?_
 refine k_nil ?_
 exact s_jn (fu, (decide ((x1.ids.length : Int) ≠ (x2.ids.length : Int)))) ⟨by first | omega | (dsimp only; omega), hF2⟩
 clear hF0
 rintro ⟨fu, g3⟩ ⟨hl4, hF1⟩
 dsimp only at hl4 hF1 ⊢
 obtain _ | fu := fu
 · rw [m_impl_alike_j1] at hF1; cases hF1
 rw [m_impl_alike_j1] at hF1
 refine w_cond hF1 ?_ ?_ <;> intro hc5 hF2
 refine awp_seq (awp_region ?_)
 refine s_as ?_
 refine k_nil (k_seq (awp_ret (k_seq_ret (k_fin ?_))))
 cases hF2
 exact ends_a _ [] Try.results16
 refine awp_skip (k_seq (awp_seq (awp_seq (awp_region ?_))))
 refine s_fa yF29_0 ?_
 refine s_ld1 yA3 ?_
 refine k_nil (k_seq (awp_block (awp_seq (awp_region ?_))))
 refine s_eq ?_
 refine s_as ?_
 refine k_nil (k_seq ?_)
 refine w_cond hF2 ?_ ?_ <;> intro hc6 hF3
 refine awp_seq (awp_region ?_)
 refine s_mv ?_
 refine s_fa yF29_1 ?_
 refine s_ld1 yA3 ?_
 refine s_look yM48 ?_
 refine s_fa yF29_1 ?_
 refine s_ld1 yA3 ?_
 refine s_eq ?_
 refine s_as ?_
 refine k_nil (k_seq (awp_ret (k_blk_ret (k_seq_ret (k_fin ?_)))))
 cases hF3
 exact ends_a _ [] Try.results16
 refine awp_seq (awp_region ?_)
 refine s_eq ?_
 refine s_as ?_
 refine k_nil (k_seq ?_)
 refine w_cond hF3 ?_ ?_ <;> intro hc7 hF4
 refine awp_seq (awp_region ?_)
 refine s_mkm ?_
 refine s_as ?_
 refine k_nil (k_seq (awp_seq (awp_seq ?_)))
 refine awp_mpx 9302 (by conv => lhs; whnf) (fun bmhE8 eshE8 clockhE8 hE8 => ?_)
 refine awp_region ?_
 refine s_mv ?_
 refine s_range yM48 ?_
 refine k_nil (k_seq (awp_block ?_))
 refine awp_fr (β := Array Nat × (Int → Option Int)) [8, 9, 52, 53, 54, 55, 56, 57, 58, 59] [49, 51] [] (fun a => []) (fun a => [(49, .mp a.2.2), (51, .it (some bmhE8) clockhE8 a.2.1 clockhE8)]) (fun a => a.1 = (leftL eshE8 a.2.1).length + 1 ∧ WalkI eshE8 a.2.1 x3 a.2.2) ((leftL eshE8 #[]).length + 1, #[], map0) ⟨rfl, walk_start⟩ ?_
 rintro ⟨_, seen, g⟩ ⟨hN, hW⟩
 dsimp only at hN hW ⊢
 subst hN
 refine awp_seq ?_
 refine awp_nextS 9302 hE8 (fun x0 hx0 => ?_) (fun hl => ?_)
 obtain ⟨hm0, k0, v0, hk0, hv0, hf0⟩ := walk_at hE8 hx0
 have hlt0 := walk_less hx0
 refine k_seq (awp_seq (awp_true rfl (awp_skip (k_seq (awp_block (awp_seq (awp_region ?_)))))))
 refine s_entry hE8 hm0 hk0 hv0 (q := 9302) ?_
 refine s_ext ?_
 refine s_ext ?_
 refine s_as ?_
 refine s_as ?_
 refine k_nil (k_seq (awp_region ?_))
 iterate 3 refine s_mv ?_
 refine s_mupd yM48 ?_
 refine k_nil (k_blk ?_)
 exact s_rn ((leftL eshE8 (seen.push x0.born)).length + 1, seen.push x0.born, mapSet g k0 v0) ⟨rfl, walk_step hE8 hx0 hk0 hf0 hW⟩
 have hfg := walk_end hE8 hl hW
 subst hfg
 refine k_seq (awp_seq (awp_false rfl ?_))
 refine awp_exit (k_seq_exit (k_rnd_exit2 (k_blk_exit ?_)))
 refine k_seq ?_
 refine awp_mpo 9302 hE8 (by conv => lhs; whnf) ?_
 refine awp_kill 51 rfl ?_
 refine awp_jn (α := Nat × (Int → Option Int)) [10, 11, 60, 61, 62, 63, 64, 65, 66, 67, 68, 69, 70, 71, 72, 73, 74, 75] [49] [] (fun a => []) (fun a => [(49, .mp a.2)]) (fun a => a.1 ≤ fu ∧ m_impl_alike_j2 a.1 x1 x2 a.2 = some r) ?_ ?_
 refine awp_seq (awp_region ?_)
 refine s_fa yF29_4 ?_
 refine s_ld1 yA23 ?_
 refine s_lenT yU23 ?_
 refine s_mv ?_
 refine k_nil (k_seq (awp_block ?_))
 refine awp_fr (β := Int × (Int → Option Int)) [10, 11, 63, 64, 65, 66, 67, 68, 69, 70, 71, 72, 73, 74, 75] [49] [] (fun a => [(63, .t (.sc (.int .i64 a.2.1)))]) (fun a => [(49, .mp a.2.2)]) (fun a => a.1 ≤ fu ∧ m_impl_alike_l3 a.1 x1 x2 a.2.1 a.2.2 = some r ∧ 0 ≤ a.2.1) (fu, 0, x3) ⟨Nat.le_refl _, hF4, by simp⟩ ?_
 clear hF4
 rintro ⟨fu, g9, g10⟩ ⟨hl11, hF5, hn_g9⟩
 dsimp only at hl11 hF5 hn_g9 ⊢
 obtain _ | fu := fu
 · rw [m_impl_alike_l3] at hF5; cases hF5
 rw [m_impl_alike_l3] at hF5
 refine awp_seq (awp_region ?_)
 refine s_lt ?_
 refine k_nil (k_seq (awp_seq ?_))
 refine w_cond hF5 ?_ ?_ <;> intro hc12 hF6
 refine awp_lenT 61 (fun hb13 => ?_)
 refine awp_skip (k_seq (awp_seq (awp_block (awp_seq (awp_region ?_)))))
 refine s_mv ?_
 obtain ⟨v14, hv14, hF7⟩ := bind_some' hF6
 refine s_ixT rI hv14 rfl yE23 ?_
 refine s_ld1 yA3 ?_
 refine s_as ?_
 refine s_as ?_
 refine k_nil (k_seq (awp_region ?_))
 refine s_mv ?_
 refine s_mv ?_
 refine s_fa yF29_4 ?_
 refine s_ld1 yA23 ?_
 refine s_mv ?_
 obtain ⟨v15, hv15, hF8⟩ := bind_some' hF7
 refine s_ixT rI hv15 rfl yE23 ?_
 refine s_ld1 yA3 ?_
 refine s_mupd yM48 ?_
 refine k_nil (k_blk (k_seq (awp_region ?_)))
 refine s_add (winc2 hc12 hb13 hn_g9) ?_
 refine s_mv ?_
 refine k_nil ?_
 exact s_rn (fu, (g9 + 1), (mapSet g10 v14 v15)) ⟨by first | omega | (dsimp only; omega), hF8, by first | omega | (dsimp only; omega)⟩
 refine awp_exit (k_seq_exit (k_rnd_exit2 (k_blk_exit ?_)))
 exact s_jn (fu, g10) ⟨by first | omega | (dsimp only; omega), hF6⟩
 clear hF4
 rintro ⟨fu, g16⟩ ⟨hl17, hF5⟩
 dsimp only at hl17 hF5 ⊢
 obtain _ | fu := fu
 · rw [m_impl_alike_j2] at hF5; cases hF5
 rw [m_impl_alike_j2] at hF5
 refine awp_seq ?_
 refine awp_draw yMix (by kernel_rfl) ?_
 refine s_fa yF29_6 ?_
 refine s_ld1 yA27 ?_
 obtain ⟨v18, hv18, hF6⟩ := bind_some' hF5
 refine s_ixT Core.row hv18 (Core.row_eq _) yE27 ?_
 refine s_ldN yA29 yS29 ?_
 refine s_fa yF29_6 ?_
 refine s_ld1 yA27 ?_
 obtain ⟨v19, hv19, hF7⟩ := bind_some' hF6
 refine s_ixT Core.row hv19 (Core.row_eq _) yE27 ?_
 refine s_ldN yA29 yS29 ?_
 refine s_mv0 ?_
 obtain ⟨v20, hv20, hF8⟩ := bind_some' hF7
 refine s_call [(9302, 49)] [] _ _ (ih_m_impl_alike fu (by omega) _ _ _ _ hv20) ?_
 refine s_as ?_
 refine k_nilD (by kernel_rfl) ?_
 refine k_seq (awp_ret (k_blk_ret (k_seq_ret (k_fin ?_))))
 cases hF8
 exact ends_a _ [] Try.results16
 refine awp_skip (k_blk (k_seq (awp_seq ?_)))
 refine awp_jn (α := Nat × Bool) [86, 87, 88, 89, 90, 91, 92, 93, 94, 95, 96, 97, 98, 99, 100, 101, 102, 103, 104, 105] [] [] (fun a => [(105, .t (.sc (.bool a.2)))]) (fun a => []) (fun a => a.1 ≤ fu ∧ m_impl_alike_j4 a.1 x1 x2 x3 a.2 = some r) ?_ ?_
 refine awp_region ?_
 refine s_fa yF29_2 ?_
 refine s_ld1 yA9 ?_
 refine s_fa yF29_2 ?_
 refine s_ld1 yA9 ?_
 refine s_neS ?_
 refine s_mv ?_
 refine w_guard _ 91 hF4 ?_ ?_ <;> intro hc21 hF5
 iterate 5 refine r_no rfl ?_
 refine s_pkt ?_
 refine s_mv ?_
 iterate 6 refine r_no rfl ?_
 refine s_pkt ?_
 refine k_nil ?_
 exact s_jn (fu, true) ⟨by first | omega | (dsimp only; omega), hF5⟩
 refine s_fa yF29_3 ?_
 refine s_ld1 yA3 ?_
 refine s_fa yF29_3 ?_
 refine s_ld1 yA3 ?_
 refine s_ne ?_
 refine s_pkf ?_
 refine s_mv ?_
 refine w_guard _ 98 hF5 ?_ ?_ <;> intro hc22 hF6
 iterate 6 refine r_no rfl ?_
 refine s_pkt ?_
 refine k_nil ?_
 exact s_jn (fu, true) ⟨by first | omega | (dsimp only; omega), hF6⟩
 refine s_fa yF29_5 ?_
 refine s_ldN yA26 yS26 ?_
 refine s_fa yF29_5 ?_
 refine s_ldN yA26 yS26 ?_
 obtain ⟨v23, hv23, hF7⟩ := bind_some' hF6
 refine s_pure [] (m_impl_FormSame_ok fu _ _ _ hv23) ?_
 refine s_not ?_
 refine s_pkf ?_
 refine k_nil ?_
 exact s_jn (fu, (!v23)) ⟨by first | omega | (dsimp only; omega), hF7⟩
 clear hF4
 rintro ⟨fu, g24⟩ ⟨hl25, hF5⟩
 dsimp only at hl25 hF5 ⊢
 obtain _ | fu := fu
 · rw [m_impl_alike_j4] at hF5; cases hF5
 rw [m_impl_alike_j4] at hF5
 refine w_cond hF5 ?_ ?_ <;> intro hc26 hF6
 refine awp_seq (awp_region ?_)
 refine s_as ?_
 refine k_nil (k_seq (awp_ret (k_seq_ret (k_fin ?_))))
 cases hF6
 exact ends_a _ [] Try.results16
 refine awp_skip (k_seq (awp_seq (awp_seq (awp_region ?_))))
 refine s_fa yF29_6 ?_
 refine s_ld1 yA27 ?_
 refine s_lenT yU27 ?_
 refine s_mv ?_
 refine k_nil (k_seq (awp_block ?_))
 refine awp_fr (β := Int) [6, 12, 109, 110, 111, 112, 113, 114, 115, 116, 117, 118, 119, 120, 121, 122, 123, 124, 125] [] [] (fun a => [(109, .t (.sc (.int .i64 a.2)))]) (fun a => []) (fun a => a.1 ≤ fu ∧ m_impl_alike_l5 a.1 x1 x2 x3 a.2 = some r ∧ 0 ≤ a.2) (fu, 0) ⟨Nat.le_refl _, hF6, by simp⟩ ?_
 clear hF6
 rintro ⟨fu, g27⟩ ⟨hl28, hF7, hn_g27⟩
 dsimp only at hl28 hF7 hn_g27 ⊢
 obtain _ | fu := fu
 · rw [m_impl_alike_l5] at hF7; cases hF7
 rw [m_impl_alike_l5] at hF7
 refine awp_seq (awp_region ?_)
 refine s_lt ?_
 refine k_nil (k_seq (awp_seq ?_))
 refine w_cond hF7 ?_ ?_ <;> intro hc29 hF8
 refine awp_lenT 107 (fun hb30 => ?_)
 refine awp_skip (k_seq (awp_seq (awp_block (awp_seq (awp_region ?_)))))
 refine s_mv ?_
 refine s_as ?_
 refine k_nil (k_seq (awp_seq ?_))
 refine awp_draw yMix (by kernel_rfl) ?_
 refine s_fa yF29_6 ?_
 refine s_ld1 yA27 ?_
 refine s_mv ?_
 obtain ⟨v31, hv31, hF9⟩ := bind_some' hF8
 refine s_ixT Core.row hv31 (Core.row_eq _) yE27 ?_
 refine s_ldN yA29 yS29 ?_
 refine s_fa yF29_6 ?_
 refine s_ld1 yA27 ?_
 refine s_mv ?_
 obtain ⟨v32, hv32, hF10⟩ := bind_some' hF9
 refine s_ixT Core.row hv32 (Core.row_eq _) yE27 ?_
 refine s_ldN yA29 yS29 ?_
 refine s_mv0 ?_
 obtain ⟨v33, hv33, hF11⟩ := bind_some' hF10
 refine s_call [(9302, 9302)] [] _ _ (ih_m_impl_alike fu (by omega) _ _ _ _ hv33) ?_
 refine s_not ?_
 refine k_nilD (by kernel_rfl) ?_
 refine k_seq ?_
 refine w_cond hF11 ?_ ?_ <;> intro hc34 hF12
 refine awp_seq (awp_region ?_)
 refine s_as ?_
 refine k_nil (k_seq (awp_ret (k_blk_ret (k_seq_ret (k_rnd_ret2 (k_blk_ret (k_seq_ret (k_fin ?_))))))))
 cases hF12
 exact ends_a _ [] Try.results16
 refine awp_skip (k_blk (k_seq (awp_region ?_)))
 refine s_add (winc2 hc29 hb30 hn_g27) ?_
 refine s_mv ?_
 refine k_nil ?_
 exact s_rn (fu, (g27 + 1)) ⟨by first | omega | (dsimp only; omega), hF12, by first | omega | (dsimp only; omega)⟩
 refine awp_exit (k_seq_exit (k_rnd_exit2 (k_blk_exit (k_seq (awp_seq (awp_region ?_))))))
 refine s_as ?_
 refine k_nil (k_seq (awp_ret (k_fin ?_)))
 cases hF8
 exact ends_a _ [] Try.results16
theorem m_impl_alike_all (fuel : Nat) : m_impl_alike_AC fuel := by
 induction fuel using Nat.strongRecOn with
 | _ N ih =>
   cases N with
   | zero => exact (by intro x1 x2 x3 r h; rw [m_impl_alike] at h; cases h)
   | succ fu => exact m_impl_alike_st fu (fun k hk => (ih k (by omega)))
theorem m_impl_alike_ok (fuel : Nat) : m_impl_alike_AC fuel := (m_impl_alike_all fuel)
def m_impl_alike_n_AC (fuel : Nat) : Prop := ∀ (x1 : Core) (x2 : Core) (r : Bool), m_impl_alike_n fuel x1 x2 = some r → AC Try.prog 16 [.ag [.t (.sc (.int .i64 x1.kind)), .t (.sc (.int .i64 x1.id)), .t (.sc (.str x1.name)), .t (.sc (.int .i64 x1.n)), .t (.sl (x1.ids.map rI)), .t (.sc (.int .i64 x1.data.kind)), .t (.sc (.str x1.data.name)), .t (.sc (.int .i64 x1.data.n)), .t (.sl (x1.data.scopes.map rI)), .t (.sl (x1.data.kids.map Form.row)), .t (.sl (x1.kids.map Core.row))], .ag [.t (.sc (.int .i64 x2.kind)), .t (.sc (.int .i64 x2.id)), .t (.sc (.str x2.name)), .t (.sc (.int .i64 x2.n)), .t (.sl (x2.ids.map rI)), .t (.sc (.int .i64 x2.data.kind)), .t (.sc (.str x2.data.name)), .t (.sc (.int .i64 x2.data.n)), .t (.sl (x2.data.scopes.map rI)), .t (.sl (x2.data.kids.map Form.row)), .t (.sl (x2.kids.map Core.row))], .t (.sc .nim)] noOb (.t (.sc (.bool r))) noOb
theorem m_impl_alike_n_st (fu : Nat) (ih_m_impl_alike_n : ∀ k, k ≤ fu → m_impl_alike_n_AC k) : m_impl_alike_n_AC (fu + 1) := by
 intro x1 x2 r hF0
 rw [m_impl_alike_n] at hF0
 refine AC_i [.t (.sc (.bool r))] Try.func16 rfl Try.ntmps16 ?_
 intro C hC
 refine awp_seq (awp_region ?_)
 refine s_box ?_
 refine s_box ?_
 refine s_as ?_
 refine k_nil (k_seq (awp_seq ?_))
 refine awp_jn (α := Nat × Bool) [13, 14, 15, 16, 17, 18, 19, 20, 21, 22, 23, 24, 25, 26, 27, 28, 29, 30, 31, 32, 33, 34, 35] [] [] (fun a => [(35, .t (.sc (.bool a.2)))]) (fun a => []) (fun a => a.1 ≤ fu ∧ m_impl_alike_n_j1 a.1 x1 x2 a.2 = some r) ?_ ?_
 refine awp_region ?_
 refine s_fa yF29_0 ?_
 refine s_ld1 yA3 ?_
 refine s_fa yF29_0 ?_
 refine s_ld1 yA3 ?_
 refine s_ne ?_
 refine s_mv ?_
 refine w_guard _ 18 hF0 ?_ ?_ <;> intro hc1 hF1
 iterate 7 refine r_no rfl ?_
 refine s_pkt ?_
 refine s_mv ?_
 iterate 7 refine r_no rfl ?_
 refine s_pkt ?_
 refine k_nil ?_
 exact s_jn (fu, true) ⟨by first | omega | (dsimp only; omega), hF1⟩
 refine s_fa yF29_6 ?_
 refine s_ld1 yA27 ?_
 refine s_lenT yU27 ?_
 refine s_fa yF29_6 ?_
 refine s_ld1 yA27 ?_
 refine s_lenT yU27 ?_
 refine s_ne ?_
 refine s_pkf ?_
 refine s_mv ?_
 refine w_guard _ 27 hF1 ?_ ?_ <;> intro hc2 hF2
 iterate 7 refine r_no rfl ?_
 refine s_pkt ?_
 refine k_nil ?_
 exact s_jn (fu, true) ⟨by first | omega | (dsimp only; omega), hF2⟩
 refine s_fa yF29_4 ?_
 refine s_ld1 yA23 ?_
 refine s_lenT yU23 ?_
 refine s_fa yF29_4 ?_
 refine s_ld1 yA23 ?_
 refine s_lenT yU23 ?_
 refine s_ne ?_
 refine s_pkf ?_
 refine k_nil ?_
 exact s_jn (fu, (decide ((x1.ids.length : Int) ≠ (x2.ids.length : Int)))) ⟨by first | omega | (dsimp only; omega), hF2⟩
 clear hF0
 rintro ⟨fu, g3⟩ ⟨hl4, hF1⟩
 dsimp only at hl4 hF1 ⊢
 obtain _ | fu := fu
 · rw [m_impl_alike_n_j1] at hF1; cases hF1
 rw [m_impl_alike_n_j1] at hF1
 refine w_cond hF1 ?_ ?_ <;> intro hc5 hF2
 refine awp_seq (awp_region ?_)
 refine s_as ?_
 refine k_nil (k_seq (awp_ret (k_seq_ret (k_fin ?_))))
 cases hF2
 exact ends_a [] [] Try.results16
 refine awp_skip (k_seq (awp_seq (awp_seq (awp_region ?_))))
 refine s_fa yF29_0 ?_
 refine s_ld1 yA3 ?_
 refine k_nil (k_seq (awp_block (awp_seq (awp_region ?_))))
 refine s_eq ?_
 refine s_as ?_
 refine k_nil (k_seq ?_)
 refine w_cond hF2 ?_ ?_ <;> intro hc6 hF3
 refine awp_seq (awp_region ?_)
 refine s_mv ?_
 refine s_fa yF29_1 ?_
 refine s_ld1 yA3 ?_
 refine s_lookN yM48 ?_
 refine s_fa yF29_1 ?_
 refine s_ld1 yA3 ?_
 refine s_eq ?_
 refine s_as ?_
 refine k_nil (k_seq (awp_ret (k_blk_ret (k_seq_ret (k_fin ?_)))))
 cases hF3
 exact ends_a [] [] Try.results16
 refine awp_seq (awp_region ?_)
 refine s_eq ?_
 refine s_as ?_
 refine k_nil (k_seq ?_)
 refine w_cond hF3 ?_ ?_ <;> intro hc7 hF4
 refine awp_seq (awp_region ?_)
 refine s_mkm ?_
 refine s_as ?_
 refine k_nil (k_seq (awp_seq (awp_seq (awp_region ?_))))
 refine s_mv ?_
 refine s_rangeN yM48 ?_
 refine k_nil (k_seq (awp_block ?_))
 refine awp_fr (β := Unit) [8, 9, 52, 53, 54, 55, 56, 57, 58, 59] [] [] (fun a => []) (fun a => []) (fun a => True) (0, ()) trivial ?_
 rintro ⟨_, _⟩ _
 refine awp_seq (awp_region ?_)
 refine s_nextN ?_
 refine s_ext ?_
 refine k_nil (k_seq (awp_seq (awp_false rfl ?_)))
 refine awp_exit (k_seq_exit (k_rnd_exit2 (k_blk_exit ?_)))
 refine k_seq ?_
 refine awp_kill 51 rfl ?_
 refine awp_jn (α := Nat × (Int → Option Int)) [10, 11, 60, 61, 62, 63, 64, 65, 66, 67, 68, 69, 70, 71, 72, 73, 74, 75] [49] [] (fun a => []) (fun a => [(49, .mp a.2)]) (fun a => a.1 ≤ fu ∧ m_impl_alike_j2 a.1 x1 x2 a.2 = some r) ?_ ?_
 refine awp_seq (awp_region ?_)
 refine s_fa yF29_4 ?_
 refine s_ld1 yA23 ?_
 refine s_lenT yU23 ?_
 refine s_mv ?_
 refine k_nil (k_seq (awp_block ?_))
 refine awp_fr (β := Int × (Int → Option Int)) [10, 11, 63, 64, 65, 66, 67, 68, 69, 70, 71, 72, 73, 74, 75] [49] [] (fun a => [(63, .t (.sc (.int .i64 a.2.1)))]) (fun a => [(49, .mp a.2.2)]) (fun a => a.1 ≤ fu ∧ m_impl_alike_l3 a.1 x1 x2 a.2.1 a.2.2 = some r ∧ 0 ≤ a.2.1) (fu, 0, map0) ⟨Nat.le_refl _, hF4, by simp⟩ ?_
 clear hF4
 rintro ⟨fu, g8, g9⟩ ⟨hl10, hF5, hn_g8⟩
 dsimp only at hl10 hF5 hn_g8 ⊢
 obtain _ | fu := fu
 · rw [m_impl_alike_l3] at hF5; cases hF5
 rw [m_impl_alike_l3] at hF5
 refine awp_seq (awp_region ?_)
 refine s_lt ?_
 refine k_nil (k_seq (awp_seq ?_))
 refine w_cond hF5 ?_ ?_ <;> intro hc11 hF6
 refine awp_lenT 61 (fun hb12 => ?_)
 refine awp_skip (k_seq (awp_seq (awp_block (awp_seq (awp_region ?_)))))
 refine s_mv ?_
 obtain ⟨v13, hv13, hF7⟩ := bind_some' hF6
 refine s_ixT rI hv13 rfl yE23 ?_
 refine s_ld1 yA3 ?_
 refine s_as ?_
 refine s_as ?_
 refine k_nil (k_seq (awp_region ?_))
 refine s_mv ?_
 refine s_mv ?_
 refine s_fa yF29_4 ?_
 refine s_ld1 yA23 ?_
 refine s_mv ?_
 obtain ⟨v14, hv14, hF8⟩ := bind_some' hF7
 refine s_ixT rI hv14 rfl yE23 ?_
 refine s_ld1 yA3 ?_
 refine s_mupd yM48 ?_
 refine k_nil (k_blk (k_seq (awp_region ?_)))
 refine s_add (winc2 hc11 hb12 hn_g8) ?_
 refine s_mv ?_
 refine k_nil ?_
 exact s_rn (fu, (g8 + 1), (mapSet g9 v13 v14)) ⟨by first | omega | (dsimp only; omega), hF8, by first | omega | (dsimp only; omega)⟩
 refine awp_exit (k_seq_exit (k_rnd_exit2 (k_blk_exit ?_)))
 exact s_jn (fu, g9) ⟨by first | omega | (dsimp only; omega), hF6⟩
 clear hF4
 rintro ⟨fu, g15⟩ ⟨hl16, hF5⟩
 dsimp only at hl16 hF5 ⊢
 obtain _ | fu := fu
 · rw [m_impl_alike_j2] at hF5; cases hF5
 rw [m_impl_alike_j2] at hF5
 refine awp_seq ?_
 refine awp_draw yMix (by kernel_rfl) ?_
 refine s_fa yF29_6 ?_
 refine s_ld1 yA27 ?_
 obtain ⟨v17, hv17, hF6⟩ := bind_some' hF5
 refine s_ixT Core.row hv17 (Core.row_eq _) yE27 ?_
 refine s_ldN yA29 yS29 ?_
 refine s_fa yF29_6 ?_
 refine s_ld1 yA27 ?_
 obtain ⟨v18, hv18, hF7⟩ := bind_some' hF6
 refine s_ixT Core.row hv18 (Core.row_eq _) yE27 ?_
 refine s_ldN yA29 yS29 ?_
 refine s_mv0 ?_
 obtain ⟨v19, hv19, hF8⟩ := bind_some' hF7
 refine s_call [(9302, 49)] [] _ _ (m_impl_alike_ok fu _ _ _ _ hv19) ?_
 refine s_as ?_
 refine k_nilD (by kernel_rfl) ?_
 refine k_seq (awp_ret (k_blk_ret (k_seq_ret (k_fin ?_))))
 cases hF8
 exact ends_a [] [] Try.results16
 refine awp_skip (k_blk (k_seq (awp_seq ?_)))
 refine awp_jn (α := Nat × Bool) [86, 87, 88, 89, 90, 91, 92, 93, 94, 95, 96, 97, 98, 99, 100, 101, 102, 103, 104, 105] [] [] (fun a => [(105, .t (.sc (.bool a.2)))]) (fun a => []) (fun a => a.1 ≤ fu ∧ m_impl_alike_n_j4 a.1 x1 x2 a.2 = some r) ?_ ?_
 refine awp_region ?_
 refine s_fa yF29_2 ?_
 refine s_ld1 yA9 ?_
 refine s_fa yF29_2 ?_
 refine s_ld1 yA9 ?_
 refine s_neS ?_
 refine s_mv ?_
 refine w_guard _ 91 hF4 ?_ ?_ <;> intro hc20 hF5
 iterate 5 refine r_no rfl ?_
 refine s_pkt ?_
 refine s_mv ?_
 iterate 6 refine r_no rfl ?_
 refine s_pkt ?_
 refine k_nil ?_
 exact s_jn (fu, true) ⟨by first | omega | (dsimp only; omega), hF5⟩
 refine s_fa yF29_3 ?_
 refine s_ld1 yA3 ?_
 refine s_fa yF29_3 ?_
 refine s_ld1 yA3 ?_
 refine s_ne ?_
 refine s_pkf ?_
 refine s_mv ?_
 refine w_guard _ 98 hF5 ?_ ?_ <;> intro hc21 hF6
 iterate 6 refine r_no rfl ?_
 refine s_pkt ?_
 refine k_nil ?_
 exact s_jn (fu, true) ⟨by first | omega | (dsimp only; omega), hF6⟩
 refine s_fa yF29_5 ?_
 refine s_ldN yA26 yS26 ?_
 refine s_fa yF29_5 ?_
 refine s_ldN yA26 yS26 ?_
 obtain ⟨v22, hv22, hF7⟩ := bind_some' hF6
 refine s_pure [] (m_impl_FormSame_ok fu _ _ _ hv22) ?_
 refine s_not ?_
 refine s_pkf ?_
 refine k_nil ?_
 exact s_jn (fu, (!v22)) ⟨by first | omega | (dsimp only; omega), hF7⟩
 clear hF4
 rintro ⟨fu, g23⟩ ⟨hl24, hF5⟩
 dsimp only at hl24 hF5 ⊢
 obtain _ | fu := fu
 · rw [m_impl_alike_n_j4] at hF5; cases hF5
 rw [m_impl_alike_n_j4] at hF5
 refine w_cond hF5 ?_ ?_ <;> intro hc25 hF6
 refine awp_seq (awp_region ?_)
 refine s_as ?_
 refine k_nil (k_seq (awp_ret (k_seq_ret (k_fin ?_))))
 cases hF6
 exact ends_a [] [] Try.results16
 refine awp_skip (k_seq (awp_seq (awp_seq (awp_region ?_))))
 refine s_fa yF29_6 ?_
 refine s_ld1 yA27 ?_
 refine s_lenT yU27 ?_
 refine s_mv ?_
 refine k_nil (k_seq (awp_block ?_))
 refine awp_fr (β := Int) [6, 12, 109, 110, 111, 112, 113, 114, 115, 116, 117, 118, 119, 120, 121, 122, 123, 124, 125] [] [] (fun a => [(109, .t (.sc (.int .i64 a.2)))]) (fun a => []) (fun a => a.1 ≤ fu ∧ m_impl_alike_n_l5 a.1 x1 x2 a.2 = some r ∧ 0 ≤ a.2) (fu, 0) ⟨Nat.le_refl _, hF6, by simp⟩ ?_
 clear hF6
 rintro ⟨fu, g26⟩ ⟨hl27, hF7, hn_g26⟩
 dsimp only at hl27 hF7 hn_g26 ⊢
 obtain _ | fu := fu
 · rw [m_impl_alike_n_l5] at hF7; cases hF7
 rw [m_impl_alike_n_l5] at hF7
 refine awp_seq (awp_region ?_)
 refine s_lt ?_
 refine k_nil (k_seq (awp_seq ?_))
 refine w_cond hF7 ?_ ?_ <;> intro hc28 hF8
 refine awp_lenT 107 (fun hb29 => ?_)
 refine awp_skip (k_seq (awp_seq (awp_block (awp_seq (awp_region ?_)))))
 refine s_mv ?_
 refine s_as ?_
 refine k_nil (k_seq (awp_seq ?_))
 refine awp_draw yMix (by kernel_rfl) ?_
 refine s_fa yF29_6 ?_
 refine s_ld1 yA27 ?_
 refine s_mv ?_
 obtain ⟨v30, hv30, hF9⟩ := bind_some' hF8
 refine s_ixT Core.row hv30 (Core.row_eq _) yE27 ?_
 refine s_ldN yA29 yS29 ?_
 refine s_fa yF29_6 ?_
 refine s_ld1 yA27 ?_
 refine s_mv ?_
 obtain ⟨v31, hv31, hF10⟩ := bind_some' hF9
 refine s_ixT Core.row hv31 (Core.row_eq _) yE27 ?_
 refine s_ldN yA29 yS29 ?_
 refine s_mv ?_
 obtain ⟨v32, hv32, hF11⟩ := bind_some' hF10
 refine s_pure [] (ih_m_impl_alike_n fu (by omega) _ _ _ hv32) ?_
 refine s_not ?_
 refine k_nilD (by kernel_rfl) ?_
 refine k_seq ?_
 refine w_cond hF11 ?_ ?_ <;> intro hc33 hF12
 refine awp_seq (awp_region ?_)
 refine s_as ?_
 refine k_nil (k_seq (awp_ret (k_blk_ret (k_seq_ret (k_rnd_ret2 (k_blk_ret (k_seq_ret (k_fin ?_))))))))
 cases hF12
 exact ends_a [] [] Try.results16
 refine awp_skip (k_blk (k_seq (awp_region ?_)))
 refine s_add (winc2 hc28 hb29 hn_g26) ?_
 refine s_mv ?_
 refine k_nil ?_
 exact s_rn (fu, (g26 + 1)) ⟨by first | omega | (dsimp only; omega), hF12, by first | omega | (dsimp only; omega)⟩
 refine awp_exit (k_seq_exit (k_rnd_exit2 (k_blk_exit (k_seq (awp_seq (awp_region ?_))))))
 refine s_as ?_
 refine k_nil (k_seq (awp_ret (k_fin ?_)))
 cases hF8
 exact ends_a [] [] Try.results16
end Go.Abs
