/- A part of the proof: what the functions that the law calls answer, as pure values. -/
import Derived.Test.YtcebadpiebamdaaKd5f769f9ceb4
import Derived.Test.YtcebadpiebamdaaKfbb18fd52a0f
set_option linter.unusedSimpArgs false
set_option linter.unusedVariables false
set_option maxRecDepth 100000
set_option maxHeartbeats 4000000
namespace Go.Abs
open Go.Proofs
def m_laws_szIntS_AC (fuel : Nat) : Prop := ∀ (x1 : (List Int)) (x2 : Int) (r : Int), m_laws_szIntS fuel x1 x2 = some r → AC Try.prog 15 [.t (.sl (x1.map rI)), .t (.sc (.int .i64 x2))] noOb (.t (.sc (.int .i64 r))) noOb
theorem m_laws_szIntS_ok (fuel : Nat) : m_laws_szIntS_AC fuel := by
 intro x1 x2 r hF0
 unfold m_laws_szIntS at hF0
 refine AC_i [.t (.sc (.int .i64 r))] Try.func15 rfl Try.ntmps15 ?_
 intro C hC
 refine awp_seq (awp_region ?_)
 refine s_as ?_
 refine k_nil (k_seq (awp_seq (awp_region ?_)))
 refine s_mv ?_
 refine s_mv ?_
 refine s_lenT yU22 ?_
 refine s_sub rfl ?_
 refine s_as ?_
 refine k_nil (k_seq (awp_seq (awp_seq (awp_region ?_))))
 refine s_mv ?_
 refine s_lt ?_
 refine k_nil (k_seq ?_)
 refine w_cond hF0 ?_ ?_ <;> intro hc1 hF1
 refine awp_seq (awp_region ?_)
 refine s_as ?_
 refine k_nil (k_seq (awp_ret (k_seq_ret (k_fin ?_))))
 cases hF1
 exact ends_a [] [] Try.results15
 refine awp_skip (k_seq (awp_seq (awp_region ?_)))
 refine s_mv ?_
 refine s_as ?_
 refine k_nil (k_seq (awp_ret (k_fin ?_)))
 cases hF1
 exact ends_a [] [] Try.results15
def m_laws_szForm_AC (fuel : Nat) : Prop := ∀ (x1 : Form) (x2 : Int) (r : Int), m_laws_szForm fuel x1 x2 = some r → AC Try.prog 4 [.ag [.t (.sc (.int .i64 x1.kind)), .t (.sc (.str x1.name)), .t (.sc (.int .i64 x1.n)), .t (.sl (x1.scopes.map rI)), .t (.sl (x1.kids.map Form.row))], .t (.sc (.int .i64 x2))] noOb (.t (.sc (.int .i64 r))) noOb
def m_laws_szFormS_AC (fuel : Nat) : Prop := ∀ (x1 : (List Form)) (x2 : Int) (r : Int), m_laws_szFormS fuel x1 x2 = some r → AC Try.prog 5 [.t (.sl (x1.map Form.row)), .t (.sc (.int .i64 x2))] noOb (.t (.sc (.int .i64 r))) noOb
theorem m_laws_szForm_st (fu : Nat) (ih_m_laws_szForm : ∀ k, k ≤ fu → m_laws_szForm_AC k) (ih_m_laws_szFormS : ∀ k, k ≤ fu → m_laws_szFormS_AC k) : m_laws_szForm_AC (fu + 1) := by
 intro x1 x2 r hF0
 rw [m_laws_szForm] at hF0
 refine AC_i [.t (.sc (.int .i64 r))] Try.func4 rfl Try.ntmps4 ?_
 intro C hC
 refine awp_seq (awp_region ?_)
 refine s_box ?_
 refine s_as ?_
 refine k_nil (k_seq (awp_seq (awp_region ?_)))
 refine s_mv ?_
 refine s_fa yF25_1 ?_
 refine s_ld1 yA9 ?_
 refine s_lenS yU9 ?_
 refine s_sub rfl ?_
 refine s_as ?_
 refine k_nil (k_seq (awp_seq (awp_seq (awp_region ?_))))
 refine s_mv ?_
 refine s_lt ?_
 refine k_nil (k_seq ?_)
 refine w_cond hF0 ?_ ?_ <;> intro hc1 hF1
 refine awp_seq (awp_region ?_)
 refine s_as ?_
 refine k_nil (k_seq (awp_ret (k_seq_ret (k_fin ?_))))
 cases hF1
 exact ends_a [] [] Try.results4
 refine awp_skip (k_seq (awp_seq (awp_region ?_)))
 refine s_fa yF25_3 ?_
 refine s_ld1 yA22 ?_
 refine s_mv ?_
 obtain ⟨v2, hv2, hF2⟩ := bind_some' hF1
 refine s_pure [] (m_laws_szIntS_ok fu _ _ _ hv2) ?_
 refine s_as ?_
 refine k_nil (k_seq (awp_seq (awp_seq (awp_region ?_))))
 refine s_mv ?_
 refine s_lt ?_
 refine k_nil (k_seq ?_)
 refine w_cond hF2 ?_ ?_ <;> intro hc3 hF3
 refine awp_seq (awp_region ?_)
 refine s_as ?_
 refine k_nil (k_seq (awp_ret (k_seq_ret (k_fin ?_))))
 cases hF3
 exact ends_a [] [] Try.results4
 refine awp_skip (k_seq (awp_seq (awp_region ?_)))
 refine s_fa yF25_4 ?_
 refine s_ld1 yA23 ?_
 refine s_mv ?_
 obtain ⟨v4, hv4, hF4⟩ := bind_some' hF3
 refine s_pure [] (ih_m_laws_szFormS fu (by omega) _ _ _ hv4) ?_
 refine s_as ?_
 refine k_nil (k_seq (awp_seq (awp_seq (awp_region ?_))))
 refine s_mv ?_
 refine s_lt ?_
 refine k_nil (k_seq ?_)
 refine w_cond hF4 ?_ ?_ <;> intro hc5 hF5
 refine awp_seq (awp_region ?_)
 refine s_as ?_
 refine k_nil (k_seq (awp_ret (k_seq_ret (k_fin ?_))))
 cases hF5
 exact ends_a [] [] Try.results4
 refine awp_skip (k_seq (awp_seq (awp_region ?_)))
 refine s_mv ?_
 refine s_as ?_
 refine k_nil (k_seq (awp_ret (k_fin ?_)))
 cases hF5
 exact ends_a [] [] Try.results4
theorem m_laws_szFormS_st (fu : Nat) (ih_m_laws_szForm : ∀ k, k ≤ fu → m_laws_szForm_AC k) (ih_m_laws_szFormS : ∀ k, k ≤ fu → m_laws_szFormS_AC k) : m_laws_szFormS_AC (fu + 1) := by
 intro x1 x2 r hF0
 rw [m_laws_szFormS] at hF0
 refine AC_i [.t (.sc (.int .i64 r))] Try.func5 rfl Try.ntmps5 ?_
 intro C hC
 refine awp_seq (awp_region ?_)
 refine s_as ?_
 refine k_nil (k_seq (awp_seq (awp_region ?_)))
 refine s_mv ?_
 refine s_mv ?_
 refine s_lenT yU23 ?_
 refine s_sub rfl ?_
 refine s_as ?_
 refine k_nil (k_seq (awp_seq (awp_seq (awp_region ?_))))
 refine s_mv ?_
 refine s_lt ?_
 refine k_nil (k_seq ?_)
 refine w_cond hF0 ?_ ?_ <;> intro hc1 hF1
 refine awp_seq (awp_region ?_)
 refine s_as ?_
 refine k_nil (k_seq (awp_ret (k_seq_ret (k_fin ?_))))
 cases hF1
 exact ends_a [] [] Try.results5
 refine awp_skip (k_seq (awp_seq (awp_seq (awp_region ?_))))
 refine s_as ?_
 refine k_nil (k_seq (awp_block ?_))
 refine awp_fr (β := Int × Int) [1, 4, 5, 12, 13, 14, 15, 16, 17, 18, 19, 20, 21, 22, 23, 24, 25] [] [] (fun a => [(1, .t (.sc (.int .i64 a.2.1))), (5, .t (.sc (.int .i64 a.2.2)))]) (fun a => []) (fun a => a.1 ≤ fu ∧ m_laws_szFormS_l1 a.1 x1 a.2.1 a.2.2 = some r ∧ 0 ≤ a.2.2) (fu, (w64 (x2 - (x1.length : Int))), 0) ⟨Nat.le_refl _, hF1, by simp⟩ ?_
 clear hF1
 rintro ⟨fu, g2, g3⟩ ⟨hl4, hF2, hn_g3⟩
 dsimp only at hl4 hF2 hn_g3 ⊢
 obtain _ | fu := fu
 · rw [m_laws_szFormS_l1] at hF2; cases hF2
 rw [m_laws_szFormS_l1] at hF2
 refine awp_seq (awp_seq (awp_region ?_))
 refine s_mv ?_
 refine s_mv ?_
 refine s_lenT yU23 ?_
 refine s_lt ?_
 refine k_nil (k_seq ?_)
 refine w_cond hF2 ?_ ?_ <;> intro hc5 hF3
 refine awp_lenT 0 (fun hb6 => ?_)
 refine awp_skip (k_seq (awp_seq (awp_block (awp_seq (awp_region ?_)))))
 refine s_mv ?_
 refine s_mv ?_
 obtain ⟨v7, hv7, hF4⟩ := bind_some' hF3
 refine s_ixT Form.row hv7 (Form.row_eq _) yE23 ?_
 refine s_ldN yA25 yS25 ?_
 refine s_mv ?_
 obtain ⟨v8, hv8, hF5⟩ := bind_some' hF4
 refine s_pure [] (ih_m_laws_szForm fu (by omega) _ _ _ hv8) ?_
 refine s_as ?_
 refine k_nil (k_seq (awp_seq (awp_region ?_)))
 refine s_mv ?_
 refine s_lt ?_
 refine k_nil (k_seq ?_)
 refine w_cond hF5 ?_ ?_ <;> intro hc9 hF6
 refine awp_seq (awp_region ?_)
 refine s_as ?_
 refine k_nil (k_seq (awp_ret (k_blk_ret (k_seq_ret (k_rnd_ret2 (k_blk_ret (k_seq_ret (k_fin ?_))))))))
 cases hF6
 exact ends_a [] [] Try.results5
 refine awp_skip (k_blk (k_seq (awp_region ?_)))
 refine s_mv ?_
 refine s_add (winc2 hc5 hb6 hn_g3) ?_
 refine s_as ?_
 refine k_nil ?_
 exact s_rn (fu, v8, (g3 + 1)) ⟨by first | omega | (dsimp only; omega), hF6, by first | omega | (dsimp only; omega)⟩
 refine awp_exit (k_seq_exit (k_rnd_exit2 (k_blk_exit (k_seq (awp_seq (awp_region ?_))))))
 refine s_mv ?_
 refine s_as ?_
 refine k_nil (k_seq (awp_ret (k_fin ?_)))
 cases hF3
 exact ends_a [] [] Try.results5
theorem m_laws_szForm_all (fuel : Nat) : m_laws_szForm_AC fuel ∧ m_laws_szFormS_AC fuel := by
 induction fuel using Nat.strongRecOn with
 | _ N ih =>
   cases N with
   | zero => exact ⟨(by intro x1 x2 r h; rw [m_laws_szForm] at h; cases h), (by intro x1 x2 r h; rw [m_laws_szFormS] at h; cases h)⟩
   | succ fu => exact ⟨m_laws_szForm_st fu (fun k hk => (ih k (by omega)).1) (fun k hk => (ih k (by omega)).2), m_laws_szFormS_st fu (fun k hk => (ih k (by omega)).1) (fun k hk => (ih k (by omega)).2)⟩
theorem m_laws_szForm_ok (fuel : Nat) : m_laws_szForm_AC fuel := (m_laws_szForm_all fuel).1
theorem m_laws_szFormS_ok (fuel : Nat) : m_laws_szFormS_AC fuel := (m_laws_szForm_all fuel).2
def m_laws_toIntS_AC (fuel : Nat) : Prop := ∀ (x1 : (List Int)) (r : (List Int)), m_laws_toIntS fuel x1 = some r → AC Try.prog 19 [.t (.sl (x1.map rI))] noOb (.t (.sl (r.map rI))) noOb
theorem m_laws_toIntS_ok (fuel : Nat) : m_laws_toIntS_AC fuel := by
 intro x1 r hF0
 unfold m_laws_toIntS at hF0
 refine AC_i [.t (.sl (r.map rI))] Try.func19 rfl Try.ntmps19 ?_
 intro C hC
 refine awp_seq (awp_region ?_)
 refine s_as ?_
 refine k_nil (k_seq (awp_seq (awp_region ?_)))
 refine s_mv ?_
 refine s_lenT yU22 ?_
 obtain ⟨hk1, hF1⟩ := chk_some hF0
 refine s_mk rI 0 rfl hk1 yP22 yR3 ?_
 refine s_as ?_
 refine k_nil (k_seq (awp_seq (awp_seq (awp_region ?_))))
 refine s_as ?_
 refine k_nil (k_seq (awp_block ?_))
 refine awp_fr (β := Int × (List Int)) [4, 8, 9, 10, 11, 12, 13, 14, 15, 16, 17, 18, 19, 20] [7] [] (fun a => [(4, .t (.sc (.int .i64 a.2.1)))]) (fun a => [(7, .arr (a.2.2.map rI) 3 true)]) (fun a => a.1 ≤ fuel ∧ m_laws_toIntS_l1 a.1 x1 a.2.1 a.2.2 = some r ∧ 0 ≤ a.2.1) (fuel, 0, (List.replicate (x1.length : Int).toNat 0)) ⟨Nat.le_refl _, hF1, by simp⟩ ?_
 clear hF1
 rintro ⟨fu, g2, g3⟩ ⟨hl4, hF2, hn_g2⟩
 dsimp only at hl4 hF2 hn_g2 ⊢
 obtain _ | fu := fu
 · rw [m_laws_toIntS_l1] at hF2; cases hF2
 rw [m_laws_toIntS_l1] at hF2
 refine awp_seq (awp_seq (awp_region ?_))
 refine s_mv ?_
 refine s_mv ?_
 refine s_lenT yU22 ?_
 refine s_lt ?_
 refine k_nil (k_seq ?_)
 refine w_cond hF2 ?_ ?_ <;> intro hc5 hF3
 refine awp_lenT 0 (fun hb6 => ?_)
 refine awp_skip (k_seq (awp_seq (awp_block (awp_region ?_))))
 iterate 4 refine s_mv ?_
 obtain ⟨v7, hv7, hF4⟩ := bind_some' hF3
 refine s_ixT rI hv7 rfl yE22 ?_
 refine s_ld1 yA3 ?_
 obtain ⟨v8, hv8, hF5⟩ := bind_some' hF4
 refine s_ixA rI hv8 yE22 ?_
 refine s_stA rI v7 hv8 rfl rfl yS3 yS3 ?_
 refine k_nil (k_blk (k_seq (awp_region ?_)))
 refine s_mv ?_
 refine s_add (winc2 hc5 hb6 hn_g2) ?_
 refine s_as ?_
 refine k_nil ?_
 exact s_rn (fu, (g2 + 1), (g3.set g2.toNat v7)) ⟨by first | omega | (dsimp only; omega), hF5, by first | omega | (dsimp only; omega)⟩
 refine awp_exit (k_seq_exit (k_rnd_exit2 (k_blk_exit (k_seq (awp_seq (awp_region ?_))))))
 refine s_mv ?_
 refine s_as ?_
 refine k_nil (k_seq (awp_ret (k_fin ?_)))
 cases hF3
 exact ends_a [] [7] Try.results19
def m_laws_toForm_AC (fuel : Nat) : Prop := ∀ (x1 : Form) (r : Form), m_laws_toForm fuel x1 = some r → AC Try.prog 7 [.ag [.t (.sc (.int .i64 x1.kind)), .t (.sc (.str x1.name)), .t (.sc (.int .i64 x1.n)), .t (.sl (x1.scopes.map rI)), .t (.sl (x1.kids.map Form.row))]] noOb (.ag [.t (.sc (.int .i64 r.kind)), .t (.sc (.str r.name)), .t (.sc (.int .i64 r.n)), .t (.sl (r.scopes.map rI)), .t (.sl (r.kids.map Form.row))]) noOb
def m_laws_toFormS_AC (fuel : Nat) : Prop := ∀ (x1 : (List Form)) (r : (List Form)), m_laws_toFormS fuel x1 = some r → AC Try.prog 8 [.t (.sl (x1.map Form.row))] noOb (.t (.sl (r.map Form.row))) noOb
theorem m_laws_toForm_st (fu : Nat) (ih_m_laws_toForm : ∀ k, k ≤ fu → m_laws_toForm_AC k) (ih_m_laws_toFormS : ∀ k, k ≤ fu → m_laws_toFormS_AC k) : m_laws_toForm_AC (fu + 1) := by
 intro x1 r hF0
 rw [m_laws_toForm] at hF0
 refine AC_i [.ag [.t (.sc (.int .i64 r.kind)), .t (.sc (.str r.name)), .t (.sc (.int .i64 r.n)), .t (.sl (r.scopes.map rI)), .t (.sl (r.kids.map Form.row))]] Try.func7 rfl Try.ntmps7 ?_
 intro C hC
 refine awp_seq (awp_region ?_)
 refine s_box ?_
 refine s_alloc yZ31 ?_
 refine k_nil (k_seq (awp_seq (awp_region ?_)))
 refine s_alloc yZ31 ?_
 refine k_nil (k_seq (awp_seq (awp_region ?_)))
 refine s_fa yF25_0 ?_
 refine s_ld1 yA3 ?_
 refine s_fa yF31_0 ?_
 refine s_stP yS3 ?_
 refine k_nil (k_seq (awp_seq (awp_region ?_)))
 refine s_fa yF25_1 ?_
 refine s_ld1 yA9 ?_
 refine s_fa yF31_1 ?_
 refine s_stP yS9 ?_
 refine k_nil (k_seq (awp_seq (awp_region ?_)))
 refine s_fa yF25_2 ?_
 refine s_ld1 yA3 ?_
 refine s_fa yF31_2 ?_
 refine s_stP yS3 ?_
 refine k_nil (k_seq (awp_seq (awp_region ?_)))
 refine s_fa yF25_3 ?_
 refine s_ld1 yA22 ?_
 obtain ⟨v1, hv1, hF1⟩ := bind_some' hF0
 refine s_pure [] (m_laws_toIntS_ok fu _ _ hv1) ?_
 refine s_fa yF31_3 ?_
 refine s_stP yS22 ?_
 refine k_nil (k_seq (awp_seq (awp_region ?_)))
 refine s_fa yF25_4 ?_
 refine s_ld1 yA23 ?_
 obtain ⟨v2, hv2, hF2⟩ := bind_some' hF1
 refine s_pure [] (ih_m_laws_toFormS fu (by omega) _ _ hv2) ?_
 refine s_fa yF31_4 ?_
 refine s_stP yS28 ?_
 refine k_nil (k_seq (awp_seq (awp_region ?_)))
 refine s_ldW yA31 yS31 ?_
 refine s_stW yS31 ?_
 refine k_nil (k_seq (awp_ret (k_fin ?_)))
 cases hF2
 exact ends_gen [] [] (by rw [Try.results7]; exact (res_agg (by conv => lhs; whnf) (by conv => lhs; whnf) yA31 yS31 rfl res_nil))
theorem m_laws_toFormS_st (fu : Nat) (ih_m_laws_toForm : ∀ k, k ≤ fu → m_laws_toForm_AC k) (ih_m_laws_toFormS : ∀ k, k ≤ fu → m_laws_toFormS_AC k) : m_laws_toFormS_AC (fu + 1) := by
 intro x1 r hF0
 rw [m_laws_toFormS] at hF0
 refine AC_i [.t (.sl (r.map Form.row))] Try.func8 rfl Try.ntmps8 ?_
 intro C hC
 refine awp_seq (awp_region ?_)
 refine s_as ?_
 refine k_nil (k_seq (awp_seq (awp_region ?_)))
 refine s_mv ?_
 refine s_lenT yU23 ?_
 obtain ⟨hk1, hF1⟩ := chk_some hF0
 refine s_mk Form.row (Form.mk 0 (⟨#[]⟩ : ByteArray) 0 ([] : List Int) ([] : List Form)) (Form.row_eq _) hk1 yP28 yR31 ?_
 refine s_as ?_
 refine k_nil (k_seq (awp_seq (awp_seq (awp_region ?_))))
 refine s_as ?_
 refine k_nil (k_seq (awp_block ?_))
 refine awp_fr (β := Int × (List Form)) [4, 8, 9, 10, 11, 12, 13, 14, 15, 16, 17, 18, 19, 20, 21] [7] [] (fun a => [(4, .t (.sc (.int .i64 a.2.1)))]) (fun a => [(7, .arr (a.2.2.map Form.row) 31 true)]) (fun a => a.1 ≤ fu ∧ m_laws_toFormS_l1 a.1 x1 a.2.1 a.2.2 = some r ∧ 0 ≤ a.2.1) (fu, 0, (List.replicate (x1.length : Int).toNat (Form.mk 0 (⟨#[]⟩ : ByteArray) 0 ([] : List Int) ([] : List Form)))) ⟨Nat.le_refl _, hF1, by simp⟩ ?_
 clear hF1
 rintro ⟨fu, g2, g3⟩ ⟨hl4, hF2, hn_g2⟩
 dsimp only at hl4 hF2 hn_g2 ⊢
 obtain _ | fu := fu
 · rw [m_laws_toFormS_l1] at hF2; cases hF2
 rw [m_laws_toFormS_l1] at hF2
 refine awp_seq (awp_seq (awp_region ?_))
 refine s_mv ?_
 refine s_mv ?_
 refine s_lenT yU23 ?_
 refine s_lt ?_
 refine k_nil (k_seq ?_)
 refine w_cond hF2 ?_ ?_ <;> intro hc5 hF3
 refine awp_lenT 0 (fun hb6 => ?_)
 refine awp_skip (k_seq (awp_seq (awp_block (awp_region ?_))))
 iterate 4 refine s_mv ?_
 obtain ⟨v7, hv7, hF4⟩ := bind_some' hF3
 refine s_ixT Form.row hv7 (Form.row_eq _) yE23 ?_
 refine s_ldN yA25 yS25 ?_
 obtain ⟨v8, hv8, hF5⟩ := bind_some' hF4
 refine s_pure [] (ih_m_laws_toForm fu (by omega) _ _ hv8) ?_
 obtain ⟨v9, hv9, hF6⟩ := bind_some' hF5
 refine s_ixA Form.row hv9 yE28 ?_
 refine s_stA Form.row v8 hv9 (Form.row_eq _) (Form.row_eq _) yS31 yS31 ?_
 refine k_nil (k_blk (k_seq (awp_region ?_)))
 refine s_mv ?_
 refine s_add (winc2 hc5 hb6 hn_g2) ?_
 refine s_as ?_
 refine k_nil ?_
 exact s_rn (fu, (g2 + 1), (g3.set g2.toNat v8)) ⟨by first | omega | (dsimp only; omega), hF6, by first | omega | (dsimp only; omega)⟩
 refine awp_exit (k_seq_exit (k_rnd_exit2 (k_blk_exit (k_seq (awp_seq (awp_region ?_))))))
 refine s_mv ?_
 refine s_as ?_
 refine k_nil (k_seq (awp_ret (k_fin ?_)))
 cases hF3
 exact ends_a [] [7] Try.results8
theorem m_laws_toForm_all (fuel : Nat) : m_laws_toForm_AC fuel ∧ m_laws_toFormS_AC fuel := by
 induction fuel using Nat.strongRecOn with
 | _ N ih =>
   cases N with
   | zero => exact ⟨(by intro x1 r h; rw [m_laws_toForm] at h; cases h), (by intro x1 r h; rw [m_laws_toFormS] at h; cases h)⟩
   | succ fu => exact ⟨m_laws_toForm_st fu (fun k hk => (ih k (by omega)).1) (fun k hk => (ih k (by omega)).2), m_laws_toFormS_st fu (fun k hk => (ih k (by omega)).1) (fun k hk => (ih k (by omega)).2)⟩
theorem m_laws_toForm_ok (fuel : Nat) : m_laws_toForm_AC fuel := (m_laws_toForm_all fuel).1
theorem m_laws_toFormS_ok (fuel : Nat) : m_laws_toFormS_AC fuel := (m_laws_toForm_all fuel).2
def m_spec_l15OwnForm_AC (fuel : Nat) : Prop := ∀ (x1 : Form) (r : Form), m_spec_l15OwnForm fuel x1 = some r → AC Try.prog 16 [.ag [.t (.sc (.int .i64 x1.kind)), .t (.sc (.str x1.name)), .t (.sc (.int .i64 x1.n)), .t (.sl (x1.scopes.map rI)), .t (.sl (x1.kids.map Form.row))]] noOb (.ag [.t (.sc (.int .i64 r.kind)), .t (.sc (.str r.name)), .t (.sc (.int .i64 r.n)), .t (.sl (r.scopes.map rI)), .t (.sl (r.kids.map Form.row))]) noOb
def m_spec_l15OwnListForm_AC (fuel : Nat) : Prop := ∀ (x1 : (List Form)) (r : (List Form)), m_spec_l15OwnListForm fuel x1 = some r → AC Try.prog 27 [.t (.sl (x1.map Form.row))] noOb (.t (.sl (r.map Form.row))) noOb
theorem m_spec_l15OwnForm_st (fu : Nat) (ih_m_spec_l15OwnForm : ∀ k, k ≤ fu → m_spec_l15OwnForm_AC k) (ih_m_spec_l15OwnListForm : ∀ k, k ≤ fu → m_spec_l15OwnListForm_AC k) : m_spec_l15OwnForm_AC (fu + 1) := by
 intro x1 r hF0
 rw [m_spec_l15OwnForm] at hF0
 refine AC_i [.ag [.t (.sc (.int .i64 r.kind)), .t (.sc (.str r.name)), .t (.sc (.int .i64 r.n)), .t (.sl (r.scopes.map rI)), .t (.sl (r.kids.map Form.row))]] Try.func16 rfl Try.ntmps16 ?_
 intro C hC
 refine awp_seq (awp_region ?_)
 refine s_box ?_
 refine s_alloc yZ31 ?_
 refine k_nil (k_seq (awp_seq (awp_region ?_)))
 refine s_bs rI ([] : List Int) yP22 yR3 ?_
 refine s_fa yF31_3 ?_
 refine s_ld1 yA22 ?_
 obtain ⟨hk1, hF1⟩ := chk_some hF0
 refine s_apT rI (fun _ => rfl) hk1 yP22 ?_
 refine s_fa yF31_3 ?_
 refine s_stP yS22 ?_
 refine k_nil (k_seq (awp_seq (awp_region ?_)))
 refine s_fa yF31_4 ?_
 refine s_ld1 yA28 ?_
 obtain ⟨v2, hv2, hF2⟩ := bind_some' hF1
 refine s_pure [] (ih_m_spec_l15OwnListForm fu (by omega) _ _ hv2) ?_
 refine s_fa yF31_4 ?_
 refine s_stP yS28 ?_
 refine k_nil (k_seq (awp_seq (awp_region ?_)))
 refine s_ldW yA31 yS31 ?_
 refine s_stW yS31 ?_
 refine k_nil (k_seq (awp_ret (k_fin ?_)))
 cases hF2
 exact ends_gen [] [6] (by rw [Try.results16]; exact (res_agg (by conv => lhs; whnf) (by conv => lhs; whnf) yA31 yS31 rfl res_nil))
theorem m_spec_l15OwnListForm_st (fu : Nat) (ih_m_spec_l15OwnForm : ∀ k, k ≤ fu → m_spec_l15OwnForm_AC k) (ih_m_spec_l15OwnListForm : ∀ k, k ≤ fu → m_spec_l15OwnListForm_AC k) : m_spec_l15OwnListForm_AC (fu + 1) := by
 intro x1 r hF0
 rw [m_spec_l15OwnListForm] at hF0
 refine AC_i [.t (.sl (r.map Form.row))] Try.func27 rfl Try.ntmps27 ?_
 intro C hC
 refine awp_seq (awp_region ?_)
 refine s_as ?_
 refine k_nil (k_seq (awp_seq (awp_region ?_)))
 refine s_bs Form.row ([] : List Form) yP28 yR31 ?_
 refine s_as ?_
 refine k_nil (k_seq (awp_seq (awp_seq (awp_region ?_))))
 refine s_mv ?_
 refine s_lenT yU28 ?_
 refine s_mv ?_
 refine k_nil (k_seq (awp_block ?_))
 refine awp_mv 3 6 5020 (by conv => lhs; whnf) (by conv => lhs; whnf) rfl ?_
 refine awp_frame2 [3, 5, 9, 10, 11, 12, 13, 14, 15, 16, 17, 18] [5020] [5, 16, 17] [5020] (fun a : Nat × (List Form) × Int => a.1) (fun a : Nat × (List Form) × Int => [(3, .ar 5020), (9, .t (.sc (.int .i64 a.2.2)))]) (fun a : Nat × (List Form) × Int => [(5020, .arr (a.2.1.map Form.row) 31 true)]) (fun a : Nat × (List Form) × Int => a.1 ≤ fu ∧ m_spec_l15OwnListForm_l1 a.1 x1 a.2.1 a.2.2 = some r ∧ 0 ≤ a.2.2) (fu, ([] : List Form), 0) ⟨Nat.le_refl _, hF0, by simp⟩ (by rfl) (by rfl) (fun _ => rfl) (hasF_cons (by conv => lhs; whnf) (by rfl) (hasF_cons (by conv => lhs; whnf) (by rfl) hasF_nil)) (hasO_cons (by conv => lhs; whnf) (by rfl) hasO_nil) (fresh_C hC rfl) (by repeat (first | exact freshS_args rfl | refine freshS_upd rfl ?_ | refine freshS_frame rfl ?_)) (by repeat (first | exact freshM_no | exact objs_fresh rfl | refine freshM_upd rfl ?_ | refine freshM_frame rfl ?_)) ?_
 clear hF0
 rintro ⟨fu, g1, g2⟩ ⟨hl3, hF1, hn_g2⟩
 dsimp only at hl3 hF1 hn_g2 ⊢
 obtain _ | fu := fu
 · rw [m_spec_l15OwnListForm_l1] at hF1; cases hF1
 rw [m_spec_l15OwnListForm_l1] at hF1
 refine awp_seq (awp_region ?_)
 refine s_lt ?_
 refine k_nil (k_seq (awp_seq ?_))
 refine w_cond hF1 ?_ ?_ <;> intro hc4 hF2
 refine awp_lenT 0 (fun hb5 => ?_)
 refine awp_skip (k_seq (awp_seq (awp_block (awp_seq (awp_region ?_)))))
 obtain ⟨v6, hv6, hF3⟩ := bind_some' hF2
 refine s_ixT Form.row hv6 (Form.row_eq _) yE28 ?_
 refine s_ldN yA31 yS31 ?_
 refine s_alloc yZ31 ?_
 refine s_stW yS31 ?_
 refine k_nil (k_seq (awp_region ?_))
 refine s_mv ?_
 refine s_ldW yA31 yS31 ?_
 obtain ⟨v7, hv7, hF4⟩ := bind_some' hF3
 refine s_pure [] (ih_m_spec_l15OwnForm fu (by omega) _ _ hv7) ?_
 refine s_bs Form.row [v7] yP28 yR31 ?_
 obtain ⟨hk8, hF5⟩ := chk_some hF4
 refine s_apT Form.row (fun y => Form.row_len y) hk8 yP28 ?_
 refine s_as ?_
 refine k_nil (k_blk (k_seq (awp_region ?_)))
 refine s_add (winc2 hc4 hb5 hn_g2) ?_
 refine s_mv ?_
 refine k_nil ?_
 exact s_rn (fu, (g1 ++ [v7]), (g2 + 1)) ⟨by first | omega | (dsimp only; omega), hF5, by first | omega | (dsimp only; omega)⟩ [(5020, 17)]
 refine awp_exit (k_seq_exit (k_rnd_exit2 (k_blk_exit (k_seq (awp_seq (awp_region ?_))))))
 refine s_mv ?_
 refine s_as ?_
 refine k_nil (k_seq (awp_ret (k_fin ?_)))
 cases hF2
 exact ends_a [] [5020] Try.results27
theorem m_spec_l15OwnForm_all (fuel : Nat) : m_spec_l15OwnForm_AC fuel ∧ m_spec_l15OwnListForm_AC fuel := by
 induction fuel using Nat.strongRecOn with
 | _ N ih =>
   cases N with
   | zero => exact ⟨(by intro x1 r h; rw [m_spec_l15OwnForm] at h; cases h), (by intro x1 r h; rw [m_spec_l15OwnListForm] at h; cases h)⟩
   | succ fu => exact ⟨m_spec_l15OwnForm_st fu (fun k hk => (ih k (by omega)).1) (fun k hk => (ih k (by omega)).2), m_spec_l15OwnListForm_st fu (fun k hk => (ih k (by omega)).1) (fun k hk => (ih k (by omega)).2)⟩
theorem m_spec_l15OwnForm_ok (fuel : Nat) : m_spec_l15OwnForm_AC fuel := (m_spec_l15OwnForm_all fuel).1
def m_spec_l1Letter_AC (fuel : Nat) : Prop := ∀ (x1 : Int) (x2 : Bool) (r : Bool), m_spec_l1Letter fuel x1 x2 = some r → AC Try.prog 63 [.t (.sc (.int .u8 x1)), .t (.sc (.bool x2))] noOb (.t (.sc (.bool r))) noOb
theorem m_spec_l1Letter_ok (fuel : Nat) : m_spec_l1Letter_AC fuel := by
 intro x1 x2 r hF0
 unfold m_spec_l1Letter at hF0
 refine AC_i [.t (.sc (.bool r))] Try.func63 rfl Try.ntmps63 ?_
 intro C hC
 refine awp_seq (awp_region ?_)
 refine s_as ?_
 refine k_nil (k_seq (awp_seq (awp_seq (awp_region ?_))))
 refine s_mv ?_
 refine s_ge ?_
 refine s_mv ?_
 refine w_guard _ 7 hF0 ?_ ?_ <;> intro hc1 hF1
 refine s_mv ?_
 refine s_le ?_
 refine s_pkt ?_
 refine s_mv ?_
 refine w_guard _ 11 hF1 ?_ ?_ <;> intro hc2 hF2
 refine r_no rfl (r_no rfl ?_)
 refine s_pkt ?_
 refine s_mv ?_
 refine r_no rfl (r_no rfl ?_)
 refine s_pkt ?_
 refine s_mv ?_
 refine r_no rfl (r_no rfl ?_)
 refine s_pkt ?_
 refine s_mv ?_
 refine r_no rfl (r_no rfl ?_)
 refine s_pkt ?_
 refine s_mv ?_
 refine r_no rfl (r_no rfl ?_)
 refine s_pkt ?_
 refine k_nil (k_seq (awp_true rfl (awp_seq (awp_region ?_))))
 refine s_as ?_
 refine k_nil (k_seq (awp_ret (k_seq_ret (k_fin ?_))))
 cases hF2
 exact ends_a [] [] Try.results63
 refine s_mv ?_
 refine s_eq ?_
 refine s_pkf ?_
 refine s_mv ?_
 refine w_guard _ 15 hF2 ?_ ?_ <;> intro hc3 hF3
 refine r_no rfl (r_no rfl ?_)
 refine s_pkt ?_
 refine s_mv ?_
 refine r_no rfl (r_no rfl ?_)
 refine s_pkt ?_
 refine s_mv ?_
 refine r_no rfl (r_no rfl ?_)
 refine s_pkt ?_
 refine s_mv ?_
 refine r_no rfl (r_no rfl ?_)
 refine s_pkt ?_
 refine k_nil (k_seq (awp_true rfl (awp_seq (awp_region ?_))))
 refine s_as ?_
 refine k_nil (k_seq (awp_ret (k_seq_ret (k_fin ?_))))
 cases hF3
 exact ends_a [] [] Try.results63
 refine s_mv ?_
 refine s_eq ?_
 refine s_pkf ?_
 refine s_mv ?_
 refine w_guard _ 19 hF3 ?_ ?_ <;> intro hc4 hF4
 refine r_no rfl (r_no rfl ?_)
 refine s_pkt ?_
 refine s_mv ?_
 refine r_no rfl (r_no rfl ?_)
 refine s_pkt ?_
 refine s_mv ?_
 refine r_no rfl (r_no rfl ?_)
 refine s_pkt ?_
 refine k_nil (k_seq (awp_true rfl (awp_seq (awp_region ?_))))
 refine s_as ?_
 refine k_nil (k_seq (awp_ret (k_seq_ret (k_fin ?_))))
 cases hF4
 exact ends_a [] [] Try.results63
 refine s_mv ?_
 refine s_eq ?_
 refine s_pkf ?_
 refine s_mv ?_
 refine w_guard _ 23 hF4 ?_ ?_ <;> intro hc5 hF5
 refine r_no rfl (r_no rfl ?_)
 refine s_pkt ?_
 refine s_mv ?_
 refine r_no rfl (r_no rfl ?_)
 refine s_pkt ?_
 refine k_nil (k_seq (awp_true rfl (awp_seq (awp_region ?_))))
 refine s_as ?_
 refine k_nil (k_seq (awp_ret (k_seq_ret (k_fin ?_))))
 cases hF5
 exact ends_a [] [] Try.results63
 refine s_mv ?_
 refine s_eq ?_
 refine s_pkf ?_
 refine s_mv ?_
 refine w_guard _ 27 hF5 ?_ ?_ <;> intro hc6 hF6
 refine r_no rfl (r_no rfl ?_)
 refine s_pkt ?_
 refine k_nil (k_seq (awp_true rfl (awp_seq (awp_region ?_))))
 refine s_as ?_
 refine k_nil (k_seq (awp_ret (k_seq_ret (k_fin ?_))))
 cases hF6
 exact ends_a [] [] Try.results63
 refine s_mv ?_
 refine s_eq ?_
 refine s_pkf ?_
 refine k_nil (k_seq ?_)
 refine w_cond hF6 ?_ ?_ <;> intro hc7 hF7
 refine awp_seq (awp_region ?_)
 refine s_as ?_
 refine k_nil (k_seq (awp_ret (k_seq_ret (k_fin ?_))))
 cases hF7
 exact ends_a [] [] Try.results63
 refine awp_skip (k_seq (awp_seq (awp_region ?_)))
 refine s_mv ?_
 refine s_not ?_
 refine s_mv ?_
 refine w_guard _ 33 hF7 ?_ ?_ <;> intro hc8 hF8
 refine s_mv ?_
 refine s_ge ?_
 refine s_mv ?_
 refine w_guard _ 36 hF8 ?_ ?_ <;> intro hc9 hF9
 refine s_mv ?_
 refine s_le ?_
 refine s_pkt ?_
 refine s_mv ?_
 refine w_guard _ 40 hF9 ?_ ?_ <;> intro hc10 hF10
 refine r_no rfl (r_no rfl ?_)
 refine s_pkt ?_
 refine s_pkt ?_
 refine s_as ?_
 refine k_nil (k_seq (awp_ret (k_fin ?_)))
 cases hF10
 exact ends_a [] [] Try.results63
 refine s_mv ?_
 refine s_eq ?_
 refine s_pkf ?_
 refine s_pkt ?_
 refine s_as ?_
 refine k_nil (k_seq (awp_ret (k_fin ?_)))
 cases hF10
 exact ends_a [] [] Try.results63
 refine r_no rfl (r_no rfl ?_)
 refine s_pkf ?_
 refine s_mv ?_
 refine s_mv ?_
 refine s_eq ?_
 refine s_pkf ?_
 refine s_pkt ?_
 refine s_as ?_
 refine k_nil (k_seq (awp_ret (k_fin ?_)))
 cases hF9
 exact ends_a [] [] Try.results63
 iterate 10 refine r_no rfl ?_
 refine s_pkf ?_
 refine s_as ?_
 refine k_nil (k_seq (awp_ret (k_fin ?_)))
 cases hF8
 exact ends_a [] [] Try.results63
 refine r_no rfl (r_no rfl ?_)
 refine s_pkf ?_
 refine s_mv ?_
 refine s_mv ?_
 refine s_eq ?_
 refine s_pkf ?_
 refine s_mv ?_
 refine w_guard _ 15 hF1 ?_ ?_ <;> intro hc11 hF2
 refine r_no rfl (r_no rfl ?_)
 refine s_pkt ?_
 refine s_mv ?_
 refine r_no rfl (r_no rfl ?_)
 refine s_pkt ?_
 refine s_mv ?_
 refine r_no rfl (r_no rfl ?_)
 refine s_pkt ?_
 refine s_mv ?_
 refine r_no rfl (r_no rfl ?_)
 refine s_pkt ?_
 refine k_nil (k_seq (awp_true rfl (awp_seq (awp_region ?_))))
 refine s_as ?_
 refine k_nil (k_seq (awp_ret (k_seq_ret (k_fin ?_))))
 cases hF2
 exact ends_a [] [] Try.results63
 refine s_mv ?_
 refine s_eq ?_
 refine s_pkf ?_
 refine s_mv ?_
 refine w_guard _ 19 hF2 ?_ ?_ <;> intro hc12 hF3
 refine r_no rfl (r_no rfl ?_)
 refine s_pkt ?_
 refine s_mv ?_
 refine r_no rfl (r_no rfl ?_)
 refine s_pkt ?_
 refine s_mv ?_
 refine r_no rfl (r_no rfl ?_)
 refine s_pkt ?_
 refine k_nil (k_seq (awp_true rfl (awp_seq (awp_region ?_))))
 refine s_as ?_
 refine k_nil (k_seq (awp_ret (k_seq_ret (k_fin ?_))))
 cases hF3
 exact ends_a [] [] Try.results63
 refine s_mv ?_
 refine s_eq ?_
 refine s_pkf ?_
 refine s_mv ?_
 refine w_guard _ 23 hF3 ?_ ?_ <;> intro hc13 hF4
 refine r_no rfl (r_no rfl ?_)
 refine s_pkt ?_
 refine s_mv ?_
 refine r_no rfl (r_no rfl ?_)
 refine s_pkt ?_
 refine k_nil (k_seq (awp_true rfl (awp_seq (awp_region ?_))))
 refine s_as ?_
 refine k_nil (k_seq (awp_ret (k_seq_ret (k_fin ?_))))
 cases hF4
 exact ends_a [] [] Try.results63
 refine s_mv ?_
 refine s_eq ?_
 refine s_pkf ?_
 refine s_mv ?_
 refine w_guard _ 27 hF4 ?_ ?_ <;> intro hc14 hF5
 refine r_no rfl (r_no rfl ?_)
 refine s_pkt ?_
 refine k_nil (k_seq (awp_true rfl (awp_seq (awp_region ?_))))
 refine s_as ?_
 refine k_nil (k_seq (awp_ret (k_seq_ret (k_fin ?_))))
 cases hF5
 exact ends_a [] [] Try.results63
 refine s_mv ?_
 refine s_eq ?_
 refine s_pkf ?_
 refine k_nil (k_seq ?_)
 refine w_cond hF5 ?_ ?_ <;> intro hc15 hF6
 refine awp_seq (awp_region ?_)
 refine s_as ?_
 refine k_nil (k_seq (awp_ret (k_seq_ret (k_fin ?_))))
 cases hF6
 exact ends_a [] [] Try.results63
 refine awp_skip (k_seq (awp_seq (awp_region ?_)))
 refine s_mv ?_
 refine s_not ?_
 refine s_mv ?_
 refine w_guard _ 33 hF6 ?_ ?_ <;> intro hc16 hF7
 refine s_mv ?_
 refine s_ge ?_
 refine s_mv ?_
 refine w_guard _ 36 hF7 ?_ ?_ <;> intro hc17 hF8
 refine s_mv ?_
 refine s_le ?_
 refine s_pkt ?_
 refine s_mv ?_
 refine w_guard _ 40 hF8 ?_ ?_ <;> intro hc18 hF9
 refine r_no rfl (r_no rfl ?_)
 refine s_pkt ?_
 refine s_pkt ?_
 refine s_as ?_
 refine k_nil (k_seq (awp_ret (k_fin ?_)))
 cases hF9
 exact ends_a [] [] Try.results63
 refine s_mv ?_
 refine s_eq ?_
 refine s_pkf ?_
 refine s_pkt ?_
 refine s_as ?_
 refine k_nil (k_seq (awp_ret (k_fin ?_)))
 cases hF9
 exact ends_a [] [] Try.results63
 refine r_no rfl (r_no rfl ?_)
 refine s_pkf ?_
 refine s_mv ?_
 refine s_mv ?_
 refine s_eq ?_
 refine s_pkf ?_
 refine s_pkt ?_
 refine s_as ?_
 refine k_nil (k_seq (awp_ret (k_fin ?_)))
 cases hF8
 exact ends_a [] [] Try.results63
 iterate 10 refine r_no rfl ?_
 refine s_pkf ?_
 refine s_as ?_
 refine k_nil (k_seq (awp_ret (k_fin ?_)))
 cases hF7
 exact ends_a [] [] Try.results63
def m_spec_NameValid_AC (fuel : Nat) : Prop := ∀ (x1 : ByteArray) (r : Bool), m_spec_NameValid fuel x1 = some r → AC Try.prog 53 [.t (.sc (.str x1))] noOb (.t (.sc (.bool r))) noOb
theorem m_spec_NameValid_ok (fuel : Nat) : m_spec_NameValid_AC fuel := by
 intro x1 r hF0
 unfold m_spec_NameValid at hF0
 refine AC_i [.t (.sc (.bool r))] Try.func53 rfl Try.ntmps53 ?_
 intro C hC
 refine awp_seq (awp_region ?_)
 refine s_as ?_
 refine k_nil (k_seq (awp_seq (awp_seq (awp_region ?_))))
 refine s_mv ?_
 refine s_eqS ?_
 refine s_mv ?_
 refine w_guard _ 6 hF0 ?_ ?_ <;> intro hc1 hF1
 refine r_no rfl (r_no rfl ?_)
 refine s_pkt ?_
 refine k_nil (k_seq (awp_true rfl (awp_seq (awp_region ?_))))
 refine s_as ?_
 refine k_nil (k_seq (awp_ret (k_seq_ret (k_fin ?_))))
 cases hF1
 exact ends_a [] [] Try.results53
 refine s_mv ?_
 refine s_eqS ?_
 refine s_pkf ?_
 refine k_nil (k_seq ?_)
 refine w_cond hF1 ?_ ?_ <;> intro hc2 hF2
 refine awp_seq (awp_region ?_)
 refine s_as ?_
 refine k_nil (k_seq (awp_ret (k_seq_ret (k_fin ?_))))
 cases hF2
 exact ends_a [] [] Try.results53
 refine awp_skip (k_seq (awp_seq (awp_seq (awp_region ?_))))
 refine s_as ?_
 refine k_nil (k_seq (awp_block ?_))
 refine awp_fr (β := Int) [2, 3, 10, 11, 12, 13, 14, 15, 16, 17, 18, 19, 20, 21, 22, 23, 24, 25, 26] [] [] (fun a => [(3, .t (.sc (.int .i64 a.2)))]) (fun a => []) (fun a => a.1 ≤ fuel ∧ m_spec_NameValid_l1 a.1 x1 a.2 = some r) (fuel, 0) ⟨Nat.le_refl _, hF2⟩ ?_
 clear hF2
 rintro ⟨fu, g3⟩ ⟨hl4, hF3⟩
 dsimp only at hl4 hF3 ⊢
 obtain _ | fu := fu
 · rw [m_spec_NameValid_l1] at hF3; cases hF3
 rw [m_spec_NameValid_l1] at hF3
 refine awp_seq (awp_seq (awp_region ?_))
 refine s_mv ?_
 refine s_mv ?_
 refine s_lenS yU9 ?_
 refine s_lt ?_
 refine s_mv ?_
 refine w_guard _ 14 hF3 ?_ ?_ <;> intro hc5 hF4
 refine s_mv ?_
 refine s_le ?_
 refine s_pkt ?_
 refine k_nil (k_seq ?_)
 refine w_cond hF4 ?_ ?_ <;> intro hc6 hF5
 refine awp_skip (k_seq (awp_seq (awp_block (awp_seq (awp_region ?_)))))
 refine s_mv ?_
 refine s_mv ?_
 obtain ⟨v7, hv7, hF6⟩ := bind_some' hF5
 refine s_ixS hv7 yU9 ?_
 refine s_mv ?_
 refine s_eq ?_
 obtain ⟨v8, hv8, hF7⟩ := bind_some' hF6
 refine s_pure [] (m_spec_l1Letter_ok fu _ _ _ hv8) ?_
 refine s_not ?_
 refine k_nil (k_seq ?_)
 refine w_cond hF7 ?_ ?_ <;> intro hc9 hF8
 refine awp_seq (awp_region ?_)
 refine s_as ?_
 refine k_nil (k_seq (awp_ret (k_blk_ret (k_seq_ret (k_rnd_ret2 (k_blk_ret (k_seq_ret (k_fin ?_))))))))
 cases hF8
 exact ends_a [] [] Try.results53
 refine awp_skip (k_blk (k_seq (awp_region ?_)))
 refine s_mv ?_
 refine s_add rfl ?_
 refine s_as ?_
 refine k_nil ?_
 exact s_rn (fu, (w64 (g3 + 1))) ⟨by first | omega | (dsimp only; omega), hF8⟩
 refine awp_exit (k_seq_exit (k_rnd_exit2 (k_blk_exit (k_seq (awp_seq (awp_region ?_))))))
 refine s_mv ?_
 refine s_lenS yU9 ?_
 refine s_ge ?_
 refine s_mv ?_
 refine w_guard _ 30 hF5 ?_ ?_ <;> intro hc10 hF6
 refine s_mv ?_
 refine s_lenS yU9 ?_
 refine s_le ?_
 refine s_pkt ?_
 refine s_as ?_
 refine k_nil (k_seq (awp_ret (k_fin ?_)))
 cases hF6
 exact ends_a [] [] Try.results53
 iterate 3 refine r_no rfl ?_
 refine s_pkf ?_
 refine s_as ?_
 refine k_nil (k_seq (awp_ret (k_fin ?_)))
 cases hF6
 exact ends_a [] [] Try.results53
 refine r_no rfl (r_no rfl ?_)
 refine s_pkf ?_
 refine k_nil (k_seq (awp_false rfl (awp_exit (k_seq_exit (k_rnd_exit2 (k_blk_exit (k_seq (awp_seq (awp_region ?_)))))))))
 refine s_mv ?_
 refine s_lenS yU9 ?_
 refine s_ge ?_
 refine s_mv ?_
 refine w_guard _ 30 hF4 ?_ ?_ <;> intro hc11 hF5
 refine s_mv ?_
 refine s_lenS yU9 ?_
 refine s_le ?_
 refine s_pkt ?_
 refine s_as ?_
 refine k_nil (k_seq (awp_ret (k_fin ?_)))
 cases hF5
 exact ends_a [] [] Try.results53
 iterate 3 refine r_no rfl ?_
 refine s_pkf ?_
 refine s_as ?_
 refine k_nil (k_seq (awp_ret (k_fin ?_)))
 cases hF5
 exact ends_a [] [] Try.results53
def m_spec_l1Scopes_AC (fuel : Nat) : Prop := ∀ (x1 : (List Int)) (r : Bool), m_spec_l1Scopes fuel x1 = some r → AC Try.prog 54 [.t (.sl (x1.map rI))] noOb (.t (.sc (.bool r))) noOb
theorem m_spec_l1Scopes_ok (fuel : Nat) : m_spec_l1Scopes_AC fuel := by
 intro x1 r hF0
 unfold m_spec_l1Scopes at hF0
 refine AC_i [.t (.sc (.bool r))] Try.func54 rfl Try.ntmps54 ?_
 intro C hC
 refine awp_seq (awp_region ?_)
 refine s_as ?_
 refine k_nil (k_seq (awp_seq (awp_seq (awp_region ?_))))
 refine s_as ?_
 refine k_nil (k_seq (awp_block ?_))
 refine awp_fr (β := Int) [2, 3, 4, 5, 6, 7, 8, 9, 10, 11, 12, 13, 14, 15, 16, 17, 18, 19, 20, 21, 22, 23, 24, 25, 26, 27, 28, 29, 30, 31, 32, 33, 34, 35, 36, 37, 38, 39, 40, 41] [] [] (fun a => [(3, .t (.sc (.int .i64 a.2)))]) (fun a => []) (fun a => a.1 ≤ fuel ∧ m_spec_l1Scopes_l1 a.1 x1 a.2 = some r) (fuel, 0) ⟨Nat.le_refl _, hF0⟩ ?_
 clear hF0
 rintro ⟨fu, g1⟩ ⟨hl2, hF1⟩
 dsimp only at hl2 hF1 ⊢
 obtain _ | fu := fu
 · rw [m_spec_l1Scopes_l1] at hF1; cases hF1
 rw [m_spec_l1Scopes_l1] at hF1
 refine awp_seq (awp_seq (awp_region ?_))
 refine s_mv ?_
 refine s_mv ?_
 refine s_lenT yU22 ?_
 refine s_lt ?_
 refine s_mv ?_
 refine w_guard _ 8 hF1 ?_ ?_ <;> intro hc3 hF2
 refine s_mv ?_
 refine s_le ?_
 refine s_pkt ?_
 refine k_nil (k_seq ?_)
 refine w_cond hF2 ?_ ?_ <;> intro hc4 hF3
 refine awp_skip (k_seq (awp_seq (awp_block (awp_seq ?_))))
 refine awp_draw yMix (by kernel_rfl) ?_
 refine s_mv ?_
 refine s_mv ?_
 obtain ⟨v5, hv5, hF4⟩ := bind_some' hF3
 refine s_ixT rI hv5 rfl yE22 ?_
 refine s_ld1 yA3 ?_
 refine s_lt ?_
 refine s_mv ?_
 refine w_guard _ 19 hF4 ?_ ?_ <;> intro hc6 hF5
 iterate 5 refine r_no rfl ?_
 refine s_pkt ?_
 refine s_mv ?_
 iterate 14 refine r_no rfl ?_
 refine s_pkt ?_
 refine k_nilD (by kernel_rfl) ?_
 refine k_seq (awp_true rfl (awp_seq (awp_region ?_)))
 refine s_as ?_
 refine k_nil (k_seq (awp_ret (k_blk_ret (k_seq_ret (k_rnd_ret2 (k_blk_ret (k_seq_ret (k_fin ?_))))))))
 cases hF5
 exact ends_a [] [] Try.results54
 refine s_mv ?_
 refine s_mv ?_
 obtain ⟨v7, hv7, hF6⟩ := bind_some' hF5
 refine s_ixT rI hv7 rfl yE22 ?_
 refine s_ld1 yA3 ?_
 refine s_gt ?_
 refine s_pkf ?_
 refine s_mv ?_
 refine w_guard _ 26 hF6 ?_ ?_ <;> intro hc8 hF7
 iterate 14 refine r_no rfl ?_
 refine s_pkt ?_
 refine k_nilD (by kernel_rfl) ?_
 refine k_seq (awp_true rfl (awp_seq (awp_region ?_)))
 refine s_as ?_
 refine k_nil (k_seq (awp_ret (k_blk_ret (k_seq_ret (k_rnd_ret2 (k_blk_ret (k_seq_ret (k_fin ?_))))))))
 cases hF7
 exact ends_a [] [] Try.results54
 refine s_mv ?_
 refine s_gt ?_
 refine s_mv ?_
 refine w_guard _ 29 hF7 ?_ ?_ <;> intro hc9 hF8
 refine s_mv ?_
 refine s_mv ?_
 obtain ⟨v10, hv10, hF9⟩ := bind_some' hF8
 refine s_ixT rI hv10 rfl yE22 ?_
 refine s_ld1 yA3 ?_
 refine s_mv ?_
 refine s_mv ?_
 refine s_sub rfl ?_
 obtain ⟨v11, hv11, hF10⟩ := bind_some' hF9
 refine s_ixT rI hv11 rfl yE22 ?_
 refine s_ld1 yA3 ?_
 refine s_le ?_
 refine s_pkt ?_
 refine s_pkf ?_
 refine k_nilD (by kernel_rfl) ?_
 refine k_seq ?_
 refine w_cond hF10 ?_ ?_ <;> intro hc12 hF11
 refine awp_seq (awp_region ?_)
 refine s_as ?_
 refine k_nil (k_seq (awp_ret (k_blk_ret (k_seq_ret (k_rnd_ret2 (k_blk_ret (k_seq_ret (k_fin ?_))))))))
 cases hF11
 exact ends_a [] [] Try.results54
 refine awp_skip (k_blk (k_seq (awp_region ?_)))
 refine s_mv ?_
 refine s_add rfl ?_
 refine s_as ?_
 refine k_nil ?_
 exact s_rn (fu, (w64 (g1 + 1))) ⟨by first | omega | (dsimp only; omega), hF11⟩
 iterate 10 refine r_no rfl ?_
 refine s_pkf ?_
 refine s_pkf ?_
 refine k_nilD (by kernel_rfl) ?_
 refine k_seq (awp_false rfl (awp_skip (k_blk (k_seq (awp_region ?_)))))
 refine s_mv ?_
 refine s_add rfl ?_
 refine s_as ?_
 refine k_nil ?_
 exact s_rn (fu, (w64 (g1 + 1))) ⟨by first | omega | (dsimp only; omega), hF8⟩
 refine awp_exit (k_seq_exit (k_rnd_exit2 (k_blk_exit (k_seq (awp_seq (awp_region ?_))))))
 refine s_mv ?_
 refine s_lenT yU22 ?_
 refine s_le ?_
 refine s_as ?_
 refine k_nil (k_seq (awp_ret (k_fin ?_)))
 cases hF3
 exact ends_a [] [] Try.results54
 refine r_no rfl (r_no rfl ?_)
 refine s_pkf ?_
 refine k_nil (k_seq (awp_false rfl (awp_exit (k_seq_exit (k_rnd_exit2 (k_blk_exit (k_seq (awp_seq (awp_region ?_)))))))))
 refine s_mv ?_
 refine s_lenT yU22 ?_
 refine s_le ?_
 refine s_as ?_
 refine k_nil (k_seq (awp_ret (k_fin ?_)))
 cases hF2
 exact ends_a [] [] Try.results54
def m_spec_l1Is_AC (fuel : Nat) : Prop := ∀ (x1 : Form) (x2 : Int) (r : Bool), m_spec_l1Is fuel x1 x2 = some r → AC Try.prog 41 [.ag [.t (.sc (.int .i64 x1.kind)), .t (.sc (.str x1.name)), .t (.sc (.int .i64 x1.n)), .t (.sl (x1.scopes.map rI)), .t (.sl (x1.kids.map Form.row))], .t (.sc (.int .i64 x2))] noOb (.t (.sc (.bool r))) noOb
theorem m_spec_l1Is_st (fu : Nat) (ih_m_spec_l1Is : ∀ k, k ≤ fu → m_spec_l1Is_AC k) : m_spec_l1Is_AC (fu + 1) := by
 intro x1 x2 r hF0
 rw [m_spec_l1Is] at hF0
 refine AC_i [.t (.sc (.bool r))] Try.func41 rfl Try.ntmps41 ?_
 intro C hC
 refine awp_seq (awp_region ?_)
 refine s_box ?_
 refine s_as ?_
 refine k_nil (k_seq (awp_seq (awp_seq (awp_region ?_))))
 refine s_mv ?_
 refine s_eq ?_
 refine k_nil (k_seq ?_)
 refine w_cond hF0 ?_ ?_ <;> intro hc1 hF1
 refine awp_seq (awp_region ?_)
 refine s_as ?_
 refine k_nil (k_seq (awp_ret (k_seq_ret (k_fin ?_))))
 cases hF1
 exact ends_a [] [] Try.results41
 refine awp_skip (k_seq (awp_seq (awp_seq (awp_region ?_))))
 refine s_fa yF31_0 ?_
 refine s_ld1 yA3 ?_
 refine k_nil (k_seq (awp_block (awp_seq (awp_region ?_))))
 refine s_eq ?_
 refine s_as ?_
 refine k_nil (k_seq ?_)
 refine w_cond hF1 ?_ ?_ <;> intro hc2 hF2
 refine awp_seq (awp_region ?_)
 refine s_fa yF31_1 ?_
 refine s_ld1 yA9 ?_
 obtain ⟨v3, hv3, hF3⟩ := bind_some' hF2
 refine s_pure [] (m_spec_NameValid_ok fu _ _ hv3) ?_
 refine s_mv ?_
 refine w_guard _ 15 hF3 ?_ ?_ <;> intro hc4 hF4
 refine s_fa yF31_2 ?_
 refine s_ld1 yA3 ?_
 refine s_eq ?_
 refine s_pkt ?_
 refine s_mv ?_
 refine w_guard _ 20 hF4 ?_ ?_ <;> intro hc5 hF5
 refine s_fa yF31_3 ?_
 refine s_ld1 yA22 ?_
 obtain ⟨v6, hv6, hF6⟩ := bind_some' hF5
 refine s_pure [] (m_spec_l1Scopes_ok fu _ _ hv6) ?_
 refine s_pkt ?_
 refine s_mv ?_
 refine w_guard _ 25 hF6 ?_ ?_ <;> intro hc7 hF7
 refine s_fa yF31_4 ?_
 refine s_ld1 yA28 ?_
 refine s_lenT yU28 ?_
 refine s_eq ?_
 refine s_pkt ?_
 refine s_as ?_
 refine k_nil (k_seq (awp_ret (k_blk_ret (k_seq_ret (k_fin ?_)))))
 cases hF7
 exact ends_a [] [] Try.results41
 iterate 4 refine r_no rfl ?_
 refine s_pkf ?_
 refine s_as ?_
 refine k_nil (k_seq (awp_ret (k_blk_ret (k_seq_ret (k_fin ?_)))))
 cases hF7
 exact ends_a [] [] Try.results41
 iterate 3 refine r_no rfl ?_
 refine s_pkf ?_
 refine s_mv ?_
 iterate 4 refine r_no rfl ?_
 refine s_pkf ?_
 refine s_as ?_
 refine k_nil (k_seq (awp_ret (k_blk_ret (k_seq_ret (k_fin ?_)))))
 cases hF5
 exact ends_a [] [] Try.results41
 iterate 3 refine r_no rfl ?_
 refine s_pkf ?_
 refine s_mv ?_
 iterate 3 refine r_no rfl ?_
 refine s_pkf ?_
 refine s_mv ?_
 iterate 4 refine r_no rfl ?_
 refine s_pkf ?_
 refine s_as ?_
 refine k_nil (k_seq (awp_ret (k_blk_ret (k_seq_ret (k_fin ?_)))))
 cases hF4
 exact ends_a [] [] Try.results41
 refine awp_seq (awp_region ?_)
 refine s_eq ?_
 refine s_as ?_
 refine k_nil (k_seq ?_)
 refine w_cond hF2 ?_ ?_ <;> intro hc8 hF3
 refine awp_seq (awp_region ?_)
 refine s_fa yF31_1 ?_
 refine s_ld1 yA9 ?_
 refine s_eqS ?_
 refine s_mv ?_
 refine w_guard _ 36 hF3 ?_ ?_ <;> intro hc9 hF4
 refine s_fa yF31_2 ?_
 refine s_ld1 yA3 ?_
 refine s_ge ?_
 refine s_pkt ?_
 refine s_mv ?_
 refine w_guard _ 41 hF4 ?_ ?_ <;> intro hc10 hF5
 refine s_fa yF31_2 ?_
 refine s_ld1 yA3 ?_
 refine s_le ?_
 refine s_pkt ?_
 refine s_mv ?_
 refine w_guard _ 46 hF5 ?_ ?_ <;> intro hc11 hF6
 refine s_fa yF31_3 ?_
 refine s_ld1 yA22 ?_
 refine s_lenT yU22 ?_
 refine s_eq ?_
 refine s_pkt ?_
 refine s_mv ?_
 refine w_guard _ 52 hF6 ?_ ?_ <;> intro hc12 hF7
 refine s_fa yF31_4 ?_
 refine s_ld1 yA28 ?_
 refine s_lenT yU28 ?_
 refine s_eq ?_
 refine s_pkt ?_
 refine s_as ?_
 refine k_nil (k_seq (awp_ret (k_blk_ret (k_seq_ret (k_fin ?_)))))
 cases hF7
 exact ends_a [] [] Try.results41
 iterate 4 refine r_no rfl ?_
 refine s_pkf ?_
 refine s_as ?_
 refine k_nil (k_seq (awp_ret (k_blk_ret (k_seq_ret (k_fin ?_)))))
 cases hF7
 exact ends_a [] [] Try.results41
 iterate 4 refine r_no rfl ?_
 refine s_pkf ?_
 refine s_mv ?_
 iterate 4 refine r_no rfl ?_
 refine s_pkf ?_
 refine s_as ?_
 refine k_nil (k_seq (awp_ret (k_blk_ret (k_seq_ret (k_fin ?_)))))
 cases hF6
 exact ends_a [] [] Try.results41
 iterate 3 refine r_no rfl ?_
 refine s_pkf ?_
 refine s_mv ?_
 iterate 4 refine r_no rfl ?_
 refine s_pkf ?_
 refine s_mv ?_
 iterate 4 refine r_no rfl ?_
 refine s_pkf ?_
 refine s_as ?_
 refine k_nil (k_seq (awp_ret (k_blk_ret (k_seq_ret (k_fin ?_)))))
 cases hF5
 exact ends_a [] [] Try.results41
 iterate 3 refine r_no rfl ?_
 refine s_pkf ?_
 refine s_mv ?_
 iterate 3 refine r_no rfl ?_
 refine s_pkf ?_
 refine s_mv ?_
 iterate 4 refine r_no rfl ?_
 refine s_pkf ?_
 refine s_mv ?_
 iterate 4 refine r_no rfl ?_
 refine s_pkf ?_
 refine s_as ?_
 refine k_nil (k_seq (awp_ret (k_blk_ret (k_seq_ret (k_fin ?_)))))
 cases hF4
 exact ends_a [] [] Try.results41
 refine awp_skip (k_blk (k_seq (awp_seq (awp_seq (awp_region ?_)))))
 refine s_fa yF31_0 ?_
 refine s_ld1 yA3 ?_
 refine s_ne ?_
 refine s_mv ?_
 refine w_guard _ 61 hF3 ?_ ?_ <;> intro hc13 hF4
 iterate 3 refine r_no rfl ?_
 refine s_pkt ?_
 refine s_mv ?_
 iterate 3 refine r_no rfl ?_
 refine s_pkt ?_
 refine s_mv ?_
 iterate 4 refine r_no rfl ?_
 refine s_pkt ?_
 refine k_nil (k_seq (awp_true rfl (awp_seq (awp_region ?_))))
 refine s_as ?_
 refine k_nil (k_seq (awp_ret (k_seq_ret (k_fin ?_))))
 cases hF4
 exact ends_a [] [] Try.results41
 refine s_fa yF31_1 ?_
 refine s_ld1 yA9 ?_
 refine s_neS ?_
 refine s_pkf ?_
 refine s_mv ?_
 refine w_guard _ 66 hF4 ?_ ?_ <;> intro hc14 hF5
 iterate 3 refine r_no rfl ?_
 refine s_pkt ?_
 refine s_mv ?_
 iterate 4 refine r_no rfl ?_
 refine s_pkt ?_
 refine k_nil (k_seq (awp_true rfl (awp_seq (awp_region ?_))))
 refine s_as ?_
 refine k_nil (k_seq (awp_ret (k_seq_ret (k_fin ?_))))
 cases hF5
 exact ends_a [] [] Try.results41
 refine s_fa yF31_2 ?_
 refine s_ld1 yA3 ?_
 refine s_ne ?_
 refine s_pkf ?_
 refine s_mv ?_
 refine w_guard _ 71 hF5 ?_ ?_ <;> intro hc15 hF6
 iterate 4 refine r_no rfl ?_
 refine s_pkt ?_
 refine k_nil (k_seq (awp_true rfl (awp_seq (awp_region ?_))))
 refine s_as ?_
 refine k_nil (k_seq (awp_ret (k_seq_ret (k_fin ?_))))
 cases hF6
 exact ends_a [] [] Try.results41
 refine s_fa yF31_3 ?_
 refine s_ld1 yA22 ?_
 refine s_lenT yU22 ?_
 refine s_ne ?_
 refine s_pkf ?_
 refine k_nil (k_seq ?_)
 refine w_cond hF6 ?_ ?_ <;> intro hc16 hF7
 refine awp_seq (awp_region ?_)
 refine s_as ?_
 refine k_nil (k_seq (awp_ret (k_seq_ret (k_fin ?_))))
 cases hF7
 exact ends_a [] [] Try.results41
 refine awp_skip (k_seq (awp_seq (awp_seq (awp_region ?_))))
 refine s_as ?_
 refine k_nil (k_seq (awp_block ?_))
 refine awp_fr (β := Int) [4, 5, 77, 78, 79, 80, 81, 82, 83, 84, 85, 86, 87, 88, 89, 90, 91, 92] [] [] (fun a => [(5, .t (.sc (.int .i64 a.2)))]) (fun a => []) (fun a => a.1 ≤ fu ∧ m_spec_l1Is_l1 a.1 x1 x2 a.2 = some r ∧ 0 ≤ a.2) (fu, 0) ⟨Nat.le_refl _, hF7, by simp⟩ ?_
 clear hF7
 rintro ⟨fu, g17⟩ ⟨hl18, hF8, hn_g17⟩
 dsimp only at hl18 hF8 hn_g17 ⊢
 obtain _ | fu := fu
 · rw [m_spec_l1Is_l1] at hF8; cases hF8
 rw [m_spec_l1Is_l1] at hF8
 refine awp_seq (awp_seq (awp_region ?_))
 refine s_mv ?_
 refine s_fa yF31_4 ?_
 refine s_ld1 yA28 ?_
 refine s_lenT yU28 ?_
 refine s_lt ?_
 refine k_nil (k_seq ?_)
 refine w_cond hF8 ?_ ?_ <;> intro hc19 hF9
 refine awp_lenT 79 (fun hb20 => ?_)
 refine awp_skip (k_seq (awp_seq (awp_block (awp_seq (awp_region ?_)))))
 refine s_fa yF31_4 ?_
 refine s_ld1 yA28 ?_
 refine s_mv ?_
 obtain ⟨v21, hv21, hF10⟩ := bind_some' hF9
 refine s_ixT Form.row hv21 (Form.row_eq _) yE28 ?_
 refine s_ldN yA31 yS31 ?_
 refine s_mv ?_
 refine s_sub rfl ?_
 obtain ⟨v22, hv22, hF11⟩ := bind_some' hF10
 refine s_pure [] (ih_m_spec_l1Is fu (by omega) _ _ _ hv22) ?_
 refine s_not ?_
 refine k_nil (k_seq ?_)
 refine w_cond hF11 ?_ ?_ <;> intro hc23 hF12
 refine awp_seq (awp_region ?_)
 refine s_as ?_
 refine k_nil (k_seq (awp_ret (k_blk_ret (k_seq_ret (k_rnd_ret2 (k_blk_ret (k_seq_ret (k_fin ?_))))))))
 cases hF12
 exact ends_a [] [] Try.results41
 refine awp_skip (k_blk (k_seq (awp_region ?_)))
 refine s_mv ?_
 refine s_add (winc2 hc19 hb20 hn_g17) ?_
 refine s_as ?_
 refine k_nil ?_
 exact s_rn (fu, (g17 + 1)) ⟨by first | omega | (dsimp only; omega), hF12, by first | omega | (dsimp only; omega)⟩
 refine awp_exit (k_seq_exit (k_rnd_exit2 (k_blk_exit (k_seq (awp_seq (awp_region ?_))))))
 refine s_as ?_
 refine k_nil (k_seq (awp_ret (k_fin ?_)))
 cases hF9
 exact ends_a [] [] Try.results41
end Go.Abs
