/- A part of the proof: what the functions that the law calls answer, as pure values. -/
import Derived.Test.YtbkdbbfgdjcfgaaK6b7fadcb8d20
import Derived.Test.YtbkdbbfgdjcfgaaK70dadfb6b6c5
import Derived.Test.YtbkdbbfgdjcfgaaK77b7fab21485
set_option linter.unusedSimpArgs false
set_option linter.unusedVariables false
set_option maxRecDepth 100000
set_option maxHeartbeats 4000000
namespace Go.Abs
open Go.Proofs
theorem m_laws_markFormS_D_all (fuel : Nat) : m_laws_markFormS_D_AC fuel := by
 induction fuel using Nat.strongRecOn with
 | _ N ih =>
   cases N with
   | zero => exact (by intro x1 x2 r h; rw [m_laws_markFormS] at h; cases h)
   | succ fu => exact m_laws_markFormS_D_st fu (fun k hk => (ih k (by omega)))
theorem m_laws_markFormS_D_ok (fuel : Nat) : m_laws_markFormS_D_AC fuel := (m_laws_markFormS_D_all fuel)
def m_laws_markForm_D_AC (fuel : Nat) : Prop := ∀ (x1 : Form) (x2 : Int) (r : (Int × (List Int) × (List Form))), m_laws_markForm fuel x1 x2 = some r → AC Try.prog 45 [.ag [.t (.sc (.int .i64 x1.kind)), .t (.sc (.str x1.name)), .t (.sc (.int .i64 x1.n)), .ar 9303, .ar 9304], .t (.sc (.int .i64 x2))] (objs [(9303, .arr (x1.scopes.map rI) 3 true), (9304, .dar (x1.kids.map (Form.rowD 3 34)) 34)]) (.t (.sc (.int .i64 r.1))) (objs [(9303, .arr (r.2.1.map rI) 3 true), (9304, .dar (r.2.2.map (Form.rowD 3 34)) 34)])
theorem m_laws_markForm_D_ok (fuel : Nat) : m_laws_markForm_D_AC fuel := by
 intro x1 x2 r hF0
 unfold m_laws_markForm at hF0
 refine AC_i [.t (.sc (.int .i64 r.1))] Try.func45 rfl Try.ntmps45 ?_
 intro C hC
 refine awp_seq (awp_region ?_)
 refine s_box ?_
 refine s_as ?_
 refine k_nil (k_seq (awp_seq (awp_region ?_)))
 refine s_fa yF34_3 ?_
 refine s_ld1 yA22 ?_
 refine s_mv ?_
 obtain ⟨v1, hv1, hF1⟩ := bind_some' hF0
 refine s_call [(9300, 9303)] [] _ _ (m_laws_markIntS_D_ok fuel _ _ _ hv1) ?_
 refine s_as ?_
 refine k_nil (k_seq (awp_seq (awp_region ?_)))
 refine s_fa yF34_4 ?_
 refine s_ld1 yA32 ?_
 refine s_mv ?_
 obtain ⟨v2, hv2, hF2⟩ := bind_some' hF1
 refine s_call [(9300, 9304)] [] _ _ (m_laws_markFormS_D_ok fuel _ _ _ hv2) ?_
 refine s_as ?_
 refine k_nil (k_seq (awp_seq (awp_region ?_)))
 refine s_mv ?_
 refine s_as ?_
 refine k_nil (k_seq (awp_ret (k_fin ?_)))
 cases hF2
 exact ends_a _ [] Try.results45
def m_laws_szCore_AC (fuel : Nat) : Prop := ∀ (x1 : Core) (x2 : Int) (r : Int), m_laws_szCore fuel x1 x2 = some r → AC Try.prog 11 [.ag [.t (.sc (.int .i64 x1.kind)), .t (.sc (.int .i64 x1.id)), .t (.sc (.str x1.name)), .t (.sc (.int .i64 x1.n)), .t (.sl (x1.ids.map rI)), .t (.sc (.int .i64 x1.data.kind)), .t (.sc (.str x1.data.name)), .t (.sc (.int .i64 x1.data.n)), .t (.sl (x1.data.scopes.map rI)), .t (.sl (x1.data.kids.map Form.row)), .t (.sl (x1.kids.map Core.row))], .t (.sc (.int .i64 x2))] noOb (.t (.sc (.int .i64 r))) noOb
def m_laws_szCoreS_AC (fuel : Nat) : Prop := ∀ (x1 : (List Core)) (x2 : Int) (r : Int), m_laws_szCoreS fuel x1 x2 = some r → AC Try.prog 63 [.t (.sl (x1.map Core.row)), .t (.sc (.int .i64 x2))] noOb (.t (.sc (.int .i64 r))) noOb
theorem m_laws_szCore_st (fu : Nat) (ih_m_laws_szCore : ∀ k, k ≤ fu → m_laws_szCore_AC k) (ih_m_laws_szCoreS : ∀ k, k ≤ fu → m_laws_szCoreS_AC k) : m_laws_szCore_AC (fu + 1) := by
 intro x1 x2 r hF0
 rw [m_laws_szCore] at hF0
 refine AC_i [.t (.sc (.int .i64 r))] Try.func11 rfl Try.ntmps11 ?_
 intro C hC
 refine awp_seq (awp_region ?_)
 refine s_box ?_
 refine s_as ?_
 refine k_nil (k_seq (awp_seq (awp_region ?_)))
 refine s_mv ?_
 refine s_fa yF28_2 ?_
 refine s_ld1 yA9 ?_
 refine s_lenS yU9 ?_
 refine s_sub rfl ?_
 refine s_as ?_
 refine k_nil (k_seq (awp_seq (awp_seq (awp_region ?_))))
 refine s_mv ?_
 refine s_lt ?_
 refine k_nil (k_seq ?_)
 refine w_cond hF0 ?_ ?_ <;> intro hc1 hF1
 refine awp_seq (awp_region ?_)
 refine s_as ?_
 refine k_nil (k_seq (awp_ret (k_seq_ret (k_fin ?_))))
 cases hF1
 exact ends_a [] [] Try.results11
 refine awp_skip (k_seq (awp_seq (awp_region ?_)))
 refine s_fa yF28_4 ?_
 refine s_ld1 yA22 ?_
 refine s_mv ?_
 obtain ⟨v2, hv2, hF2⟩ := bind_some' hF1
 refine s_pure [] (m_laws_szIntS_ok fu _ _ _ hv2) ?_
 refine s_as ?_
 refine k_nil (k_seq (awp_seq (awp_seq (awp_region ?_))))
 refine s_mv ?_
 refine s_lt ?_
 refine k_nil (k_seq ?_)
 refine w_cond hF2 ?_ ?_ <;> intro hc3 hF3
 refine awp_seq (awp_region ?_)
 refine s_as ?_
 refine k_nil (k_seq (awp_ret (k_seq_ret (k_fin ?_))))
 cases hF3
 exact ends_a [] [] Try.results11
 refine awp_skip (k_seq (awp_seq (awp_region ?_)))
 refine s_fa yF28_5 ?_
 refine s_ldN yA25 yS25 ?_
 refine s_mv ?_
 obtain ⟨v4, hv4, hF4⟩ := bind_some' hF3
 refine s_pure [] (m_laws_szForm_ok fu _ _ _ hv4) ?_
 refine s_as ?_
 refine k_nil (k_seq (awp_seq (awp_seq (awp_region ?_))))
 refine s_mv ?_
 refine s_lt ?_
 refine k_nil (k_seq ?_)
 refine w_cond hF4 ?_ ?_ <;> intro hc5 hF5
 refine awp_seq (awp_region ?_)
 refine s_as ?_
 refine k_nil (k_seq (awp_ret (k_seq_ret (k_fin ?_))))
 cases hF5
 exact ends_a [] [] Try.results11
 refine awp_skip (k_seq (awp_seq (awp_region ?_)))
 refine s_fa yF28_6 ?_
 refine s_ld1 yA26 ?_
 refine s_mv ?_
 obtain ⟨v6, hv6, hF6⟩ := bind_some' hF5
 refine s_pure [] (ih_m_laws_szCoreS fu (by omega) _ _ _ hv6) ?_
 refine s_as ?_
 refine k_nil (k_seq (awp_seq (awp_seq (awp_region ?_))))
 refine s_mv ?_
 refine s_lt ?_
 refine k_nil (k_seq ?_)
 refine w_cond hF6 ?_ ?_ <;> intro hc7 hF7
 refine awp_seq (awp_region ?_)
 refine s_as ?_
 refine k_nil (k_seq (awp_ret (k_seq_ret (k_fin ?_))))
 cases hF7
 exact ends_a [] [] Try.results11
 refine awp_skip (k_seq (awp_seq (awp_region ?_)))
 refine s_mv ?_
 refine s_as ?_
 refine k_nil (k_seq (awp_ret (k_fin ?_)))
 cases hF7
 exact ends_a [] [] Try.results11
theorem m_laws_szCoreS_st (fu : Nat) (ih_m_laws_szCore : ∀ k, k ≤ fu → m_laws_szCore_AC k) (ih_m_laws_szCoreS : ∀ k, k ≤ fu → m_laws_szCoreS_AC k) : m_laws_szCoreS_AC (fu + 1) := by
 intro x1 x2 r hF0
 rw [m_laws_szCoreS] at hF0
 refine AC_i [.t (.sc (.int .i64 r))] Try.func63 rfl Try.ntmps63 ?_
 intro C hC
 refine awp_seq (awp_region ?_)
 refine s_as ?_
 refine k_nil (k_seq (awp_seq (awp_region ?_)))
 refine s_mv ?_
 refine s_mv ?_
 refine s_lenT yU26 ?_
 refine s_sub rfl ?_
 refine s_as ?_
 refine k_nil (k_seq (awp_seq (awp_seq (awp_region ?_))))
 refine s_mv ?_
 refine s_lt ?_
 refine k_nil (k_seq ?_)
 refine w_cond hF0 ?_ ?_ <;> intro hc1 hF1
 refine awp_seq (awp_region ?_)
 refine s_as ?_
 refine k_nil (k_seq (awp_ret (k_seq_ret (k_fin ?_))))
 cases hF1
 exact ends_a [] [] Try.results63
 refine awp_skip (k_seq (awp_seq (awp_seq (awp_region ?_))))
 refine s_as ?_
 refine k_nil (k_seq (awp_block ?_))
 refine awp_fr (β := Int × Int) [1, 4, 5, 12, 13, 14, 15, 16, 17, 18, 19, 20, 21, 22, 23, 24, 25] [] [] (fun a => [(1, .t (.sc (.int .i64 a.2.1))), (5, .t (.sc (.int .i64 a.2.2)))]) (fun a => []) (fun a => a.1 ≤ fu ∧ m_laws_szCoreS_l1 a.1 x1 a.2.1 a.2.2 = some r ∧ 0 ≤ a.2.2) (fu, (w64 (x2 - (x1.length : Int))), 0) ⟨Nat.le_refl _, hF1, by simp⟩ ?_
 clear hF1
 rintro ⟨fu, g2, g3⟩ ⟨hl4, hF2, hn_g3⟩
 dsimp only at hl4 hF2 hn_g3 ⊢
 obtain _ | fu := fu
 · rw [m_laws_szCoreS_l1] at hF2; cases hF2
 rw [m_laws_szCoreS_l1] at hF2
 refine awp_seq (awp_seq (awp_region ?_))
 refine s_mv ?_
 refine s_mv ?_
 refine s_lenT yU26 ?_
 refine s_lt ?_
 refine k_nil (k_seq ?_)
 refine w_cond hF2 ?_ ?_ <;> intro hc5 hF3
 refine awp_lenT 0 (fun hb6 => ?_)
 refine awp_skip (k_seq (awp_seq (awp_block (awp_seq (awp_region ?_)))))
 refine s_mv ?_
 refine s_mv ?_
 obtain ⟨v7, hv7, hF4⟩ := bind_some' hF3
 refine s_ixT Core.row hv7 (Core.row_eq _) yE26 ?_
 refine s_ldN yA28 yS28 ?_
 refine s_mv ?_
 obtain ⟨v8, hv8, hF5⟩ := bind_some' hF4
 refine s_pure [] (ih_m_laws_szCore fu (by omega) _ _ _ hv8) ?_
 refine s_as ?_
 refine k_nil (k_seq (awp_seq (awp_region ?_)))
 refine s_mv ?_
 refine s_lt ?_
 refine k_nil (k_seq ?_)
 refine w_cond hF5 ?_ ?_ <;> intro hc9 hF6
 refine awp_seq (awp_region ?_)
 refine s_as ?_
 refine k_nil (k_seq (awp_ret (k_blk_ret (k_seq_ret (k_rnd_ret2 (k_blk_ret (k_seq_ret (k_fin ?_))))))))
 cases hF6
 exact ends_a [] [] Try.results63
 refine awp_skip (k_blk (k_seq (awp_region ?_)))
 refine s_mv ?_
 refine s_add (winc2 hc5 hb6 hn_g3) ?_
 refine s_as ?_
 refine k_nil ?_
 exact s_rn (fu, v8, (g3 + 1)) ⟨by first | omega | (dsimp only; omega), hF6, by first | omega | (dsimp only; omega)⟩
 refine awp_exit (k_seq_exit (k_rnd_exit2 (k_blk_exit (k_seq (awp_seq (awp_region ?_))))))
 refine s_mv ?_
 refine s_as ?_
 refine k_nil (k_seq (awp_ret (k_fin ?_)))
 cases hF3
 exact ends_a [] [] Try.results63
theorem m_laws_szCore_all (fuel : Nat) : m_laws_szCore_AC fuel ∧ m_laws_szCoreS_AC fuel := by
 induction fuel using Nat.strongRecOn with
 | _ N ih =>
   cases N with
   | zero => exact ⟨(by intro x1 x2 r h; rw [m_laws_szCore] at h; cases h), (by intro x1 x2 r h; rw [m_laws_szCoreS] at h; cases h)⟩
   | succ fu => exact ⟨m_laws_szCore_st fu (fun k hk => (ih k (by omega)).1) (fun k hk => (ih k (by omega)).2), m_laws_szCoreS_st fu (fun k hk => (ih k (by omega)).1) (fun k hk => (ih k (by omega)).2)⟩
theorem m_laws_szCore_ok (fuel : Nat) : m_laws_szCore_AC fuel := (m_laws_szCore_all fuel).1
def m_laws_toCore_AC (fuel : Nat) : Prop := ∀ (x1 : Core) (r : Core), m_laws_toCore fuel x1 = some r → AC Try.prog 13 [.ag [.t (.sc (.int .i64 x1.kind)), .t (.sc (.int .i64 x1.id)), .t (.sc (.str x1.name)), .t (.sc (.int .i64 x1.n)), .t (.sl (x1.ids.map rI)), .t (.sc (.int .i64 x1.data.kind)), .t (.sc (.str x1.data.name)), .t (.sc (.int .i64 x1.data.n)), .t (.sl (x1.data.scopes.map rI)), .t (.sl (x1.data.kids.map Form.row)), .t (.sl (x1.kids.map Core.row))]] noOb (.ag [.t (.sc (.int .i64 r.kind)), .t (.sc (.int .i64 r.id)), .t (.sc (.str r.name)), .t (.sc (.int .i64 r.n)), .t (.sl (r.ids.map rI)), .t (.sc (.int .i64 r.data.kind)), .t (.sc (.str r.data.name)), .t (.sc (.int .i64 r.data.n)), .t (.sl (r.data.scopes.map rI)), .t (.sl (r.data.kids.map Form.row)), .t (.sl (r.kids.map Core.row))]) noOb
def m_laws_toCoreS_AC (fuel : Nat) : Prop := ∀ (x1 : (List Core)) (r : (List Core)), m_laws_toCoreS fuel x1 = some r → AC Try.prog 66 [.t (.sl (x1.map Core.row))] noOb (.t (.sl (r.map Core.row))) noOb
theorem m_laws_toCore_st (fu : Nat) (ih_m_laws_toCore : ∀ k, k ≤ fu → m_laws_toCore_AC k) (ih_m_laws_toCoreS : ∀ k, k ≤ fu → m_laws_toCoreS_AC k) : m_laws_toCore_AC (fu + 1) := by
 intro x1 r hF0
 rw [m_laws_toCore] at hF0
 refine AC_i [.ag [.t (.sc (.int .i64 r.kind)), .t (.sc (.int .i64 r.id)), .t (.sc (.str r.name)), .t (.sc (.int .i64 r.n)), .t (.sl (r.ids.map rI)), .t (.sc (.int .i64 r.data.kind)), .t (.sc (.str r.data.name)), .t (.sc (.int .i64 r.data.n)), .t (.sl (r.data.scopes.map rI)), .t (.sl (r.data.kids.map Form.row)), .t (.sl (r.kids.map Core.row))]] Try.func13 rfl Try.ntmps13 ?_
 intro C hC
 refine awp_seq (awp_region ?_)
 refine s_box ?_
 refine s_alloc yZ37 ?_
 refine k_nil (k_seq (awp_seq (awp_region ?_)))
 refine s_alloc yZ37 ?_
 refine k_nil (k_seq (awp_seq (awp_region ?_)))
 refine s_fa yF28_0 ?_
 refine s_ld1 yA3 ?_
 refine s_fa yF37_0 ?_
 refine s_stP yS3 ?_
 refine k_nil (k_seq (awp_seq (awp_region ?_)))
 refine s_fa yF28_1 ?_
 refine s_ld1 yA3 ?_
 refine s_fa yF37_1 ?_
 refine s_stP yS3 ?_
 refine k_nil (k_seq (awp_seq (awp_region ?_)))
 refine s_fa yF28_2 ?_
 refine s_ld1 yA9 ?_
 refine s_fa yF37_2 ?_
 refine s_stP yS9 ?_
 refine k_nil (k_seq (awp_seq (awp_region ?_)))
 refine s_fa yF28_3 ?_
 refine s_ld1 yA3 ?_
 refine s_fa yF37_3 ?_
 refine s_stP yS3 ?_
 refine k_nil (k_seq (awp_seq (awp_region ?_)))
 refine s_fa yF28_4 ?_
 refine s_ld1 yA22 ?_
 obtain ⟨v1, hv1, hF1⟩ := bind_some' hF0
 refine s_pure [] (m_laws_toIntS_ok fu _ _ hv1) ?_
 refine s_fa yF37_4 ?_
 refine s_stP yS22 ?_
 refine k_nil (k_seq (awp_seq (awp_region ?_)))
 refine s_fa yF28_5 ?_
 refine s_ldN yA25 yS25 ?_
 obtain ⟨v2, hv2, hF2⟩ := bind_some' hF1
 refine s_pure [] (m_laws_toForm_ok fu _ _ hv2) ?_
 refine s_fa yF37_5 ?_
 refine s_stP yS34 ?_
 refine k_nil (k_seq (awp_seq (awp_region ?_)))
 refine s_fa yF28_6 ?_
 refine s_ld1 yA26 ?_
 obtain ⟨v3, hv3, hF3⟩ := bind_some' hF2
 refine s_pure [] (ih_m_laws_toCoreS fu (by omega) _ _ hv3) ?_
 refine s_fa yF37_6 ?_
 refine s_stP yS35 ?_
 refine k_nil (k_seq (awp_seq (awp_region ?_)))
 refine s_ldW yA37 yS37 ?_
 refine s_stW yS37 ?_
 refine k_nil (k_seq (awp_ret (k_fin ?_)))
 cases hF3
 exact ends_gen [] [] (by rw [Try.results13]; exact (res_agg (by conv => lhs; whnf) (by conv => lhs; whnf) yA37 yS37 rfl res_nil))
theorem m_laws_toCoreS_st (fu : Nat) (ih_m_laws_toCore : ∀ k, k ≤ fu → m_laws_toCore_AC k) (ih_m_laws_toCoreS : ∀ k, k ≤ fu → m_laws_toCoreS_AC k) : m_laws_toCoreS_AC (fu + 1) := by
 intro x1 r hF0
 rw [m_laws_toCoreS] at hF0
 refine AC_i [.t (.sl (r.map Core.row))] Try.func66 rfl Try.ntmps66 ?_
 intro C hC
 refine awp_seq (awp_region ?_)
 refine s_as ?_
 refine k_nil (k_seq (awp_seq (awp_region ?_)))
 refine s_mv ?_
 refine s_lenT yU26 ?_
 obtain ⟨hk1, hF1⟩ := chk_some hF0
 refine s_mk Core.row (Core.mk 0 0 (⟨#[]⟩ : ByteArray) 0 ([] : List Int) (Form.mk 0 (⟨#[]⟩ : ByteArray) 0 ([] : List Int) ([] : List Form)) ([] : List Core)) (Core.row_eq _) hk1 yP35 yR37 ?_
 refine s_as ?_
 refine k_nil (k_seq (awp_seq (awp_seq (awp_region ?_))))
 refine s_as ?_
 refine k_nil (k_seq (awp_block ?_))
 refine awp_fr (β := Int × (List Core)) [4, 8, 9, 10, 11, 12, 13, 14, 15, 16, 17, 18, 19, 20, 21] [7] [] (fun a => [(4, .t (.sc (.int .i64 a.2.1)))]) (fun a => [(7, .arr (a.2.2.map Core.row) 37 true)]) (fun a => a.1 ≤ fu ∧ m_laws_toCoreS_l1 a.1 x1 a.2.1 a.2.2 = some r ∧ 0 ≤ a.2.1) (fu, 0, (List.replicate (x1.length : Int).toNat (Core.mk 0 0 (⟨#[]⟩ : ByteArray) 0 ([] : List Int) (Form.mk 0 (⟨#[]⟩ : ByteArray) 0 ([] : List Int) ([] : List Form)) ([] : List Core)))) ⟨Nat.le_refl _, hF1, by simp⟩ ?_
 clear hF1
 rintro ⟨fu, g2, g3⟩ ⟨hl4, hF2, hn_g2⟩
 dsimp only at hl4 hF2 hn_g2 ⊢
 obtain _ | fu := fu
 · rw [m_laws_toCoreS_l1] at hF2; cases hF2
 rw [m_laws_toCoreS_l1] at hF2
 refine awp_seq (awp_seq (awp_region ?_))
 refine s_mv ?_
 refine s_mv ?_
 refine s_lenT yU26 ?_
 refine s_lt ?_
 refine k_nil (k_seq ?_)
 refine w_cond hF2 ?_ ?_ <;> intro hc5 hF3
 refine awp_lenT 0 (fun hb6 => ?_)
 refine awp_skip (k_seq (awp_seq (awp_block (awp_region ?_))))
 iterate 4 refine s_mv ?_
 obtain ⟨v7, hv7, hF4⟩ := bind_some' hF3
 refine s_ixT Core.row hv7 (Core.row_eq _) yE26 ?_
 refine s_ldN yA28 yS28 ?_
 obtain ⟨v8, hv8, hF5⟩ := bind_some' hF4
 refine s_pure [] (ih_m_laws_toCore fu (by omega) _ _ hv8) ?_
 obtain ⟨v9, hv9, hF6⟩ := bind_some' hF5
 refine s_ixA Core.row hv9 yE35 ?_
 refine s_stA Core.row v8 hv9 (Core.row_eq _) (Core.row_eq _) yS37 yS37 ?_
 refine k_nil (k_blk (k_seq (awp_region ?_)))
 refine s_mv ?_
 refine s_add (winc2 hc5 hb6 hn_g2) ?_
 refine s_as ?_
 refine k_nil ?_
 exact s_rn (fu, (g2 + 1), (g3.set g2.toNat v8)) ⟨by first | omega | (dsimp only; omega), hF6, by first | omega | (dsimp only; omega)⟩
 refine awp_exit (k_seq_exit (k_rnd_exit2 (k_blk_exit (k_seq (awp_seq (awp_region ?_))))))
 refine s_mv ?_
 refine s_as ?_
 refine k_nil (k_seq (awp_ret (k_fin ?_)))
 cases hF3
 exact ends_a [] [7] Try.results66
theorem m_laws_toCore_all (fuel : Nat) : m_laws_toCore_AC fuel ∧ m_laws_toCoreS_AC fuel := by
 induction fuel using Nat.strongRecOn with
 | _ N ih =>
   cases N with
   | zero => exact ⟨(by intro x1 r h; rw [m_laws_toCore] at h; cases h), (by intro x1 r h; rw [m_laws_toCoreS] at h; cases h)⟩
   | succ fu => exact ⟨m_laws_toCore_st fu (fun k hk => (ih k (by omega)).1) (fun k hk => (ih k (by omega)).2), m_laws_toCoreS_st fu (fun k hk => (ih k (by omega)).1) (fun k hk => (ih k (by omega)).2)⟩
theorem m_laws_toCore_ok (fuel : Nat) : m_laws_toCore_AC fuel := (m_laws_toCore_all fuel).1
def m_laws_toCoreS_D_AC (fuel : Nat) : Prop := ∀ (x1 : (List Core)) (r : (List Core)), m_laws_toCoreS fuel x1 = some r → AC Try.prog 66 [.t (.sl (x1.map Core.row))] (objs []) (.ar 9200) (objs [(9200, .dar (r.map (Core.rowD 3 34 37)) 37)])
def m_laws_toCore_D_AC (fuel : Nat) : Prop := ∀ (x1 : Core) (r : Core), m_laws_toCore fuel x1 = some r → AC Try.prog 13 [.ag [.t (.sc (.int .i64 x1.kind)), .t (.sc (.int .i64 x1.id)), .t (.sc (.str x1.name)), .t (.sc (.int .i64 x1.n)), .t (.sl (x1.ids.map rI)), .t (.sc (.int .i64 x1.data.kind)), .t (.sc (.str x1.data.name)), .t (.sc (.int .i64 x1.data.n)), .t (.sl (x1.data.scopes.map rI)), .t (.sl (x1.data.kids.map Form.row)), .t (.sl (x1.kids.map Core.row))]] (objs []) (.ag [.t (.sc (.int .i64 r.kind)), .t (.sc (.int .i64 r.id)), .t (.sc (.str r.name)), .t (.sc (.int .i64 r.n)), .ar 9204, .t (.sc (.int .i64 r.data.kind)), .t (.sc (.str r.data.name)), .t (.sc (.int .i64 r.data.n)), .ar 9208, .ar 9209, .ar 9210]) (objs [(9204, .arr (r.ids.map rI) 3 true), (9208, .arr (r.data.scopes.map rI) 3 true), (9209, .dar (r.data.kids.map (Form.rowD 3 34)) 34), (9210, .dar (r.kids.map (Core.rowD 3 34 37)) 37)])
theorem m_laws_toCoreS_D_st (fu : Nat) (ih_m_laws_toCoreS_D : ∀ k, k ≤ fu → m_laws_toCoreS_D_AC k) (ih_m_laws_toCore_D : ∀ k, k ≤ fu → m_laws_toCore_D_AC k) : m_laws_toCoreS_D_AC (fu + 1) := by
 intro x1 r hF0
 rw [m_laws_toCoreS] at hF0
 refine AC_i [.ar 9200] Try.func66 rfl Try.ntmps66 ?_
 intro C hC
 refine awp_seq (awp_region ?_)
 refine s_as ?_
 refine k_nil (k_seq (awp_seq (awp_region ?_)))
 refine s_mv ?_
 refine s_lenT yU26 ?_
 obtain ⟨hk1, hF1⟩ := chk_some hF0
 refine s_mkD (Core.rowD 3 34 37) (Core.mk 0 0 (⟨#[]⟩ : ByteArray) 0 ([] : List Int) (Form.mk 0 (⟨#[]⟩ : ByteArray) 0 ([] : List Int) ([] : List Form)) ([] : List Core)) [.sc (.int .i64 0), .sc (.int .i64 0), .sc (.str (⟨#[]⟩ : ByteArray)), .sc (.int .i64 0), .sc (.nis 3), .sc (.int .i64 0), .sc (.str (⟨#[]⟩ : ByteArray)), .sc (.int .i64 0), .sc (.nis 3), .sc (.nis 34), .sc (.nis 37)] (by rw [(Core.rowDE _ _ _ _)]; rfl) hk1 yP35 yZ37 yN37 ?_
 refine s_as ?_
 refine k_nil (k_seq (awp_seq (awp_seq (awp_region ?_))))
 refine s_as ?_
 refine k_nil (k_seq (awp_block ?_))
 refine awp_fr (β := Int × (List Core)) [4, 8, 9, 10, 11, 12, 13, 14, 15, 16, 17, 18, 19, 20, 21] [7] [2020, 12020, 22020, 32020] (fun a => [(4, .t (.sc (.int .i64 a.2.1)))]) (fun a => [(7, .dar (a.2.2.map (Core.rowD 3 34 37)) 37)]) (fun a => a.1 ≤ fu ∧ m_laws_toCoreS_l1 a.1 x1 a.2.1 a.2.2 = some r ∧ 0 ≤ a.2.1) (fu, 0, (List.replicate (x1.length : Int).toNat (Core.mk 0 0 (⟨#[]⟩ : ByteArray) 0 ([] : List Int) (Form.mk 0 (⟨#[]⟩ : ByteArray) 0 ([] : List Int) ([] : List Form)) ([] : List Core)))) ⟨Nat.le_refl _, hF1, by simp⟩ ?_
 clear hF1
 rintro ⟨fu, g2, g3⟩ ⟨hl4, hF2, hn_g2⟩
 dsimp only at hl4 hF2 hn_g2 ⊢
 obtain _ | fu := fu
 · rw [m_laws_toCoreS_l1] at hF2; cases hF2
 rw [m_laws_toCoreS_l1] at hF2
 refine awp_seq (awp_seq (awp_region ?_))
 refine s_mv ?_
 refine s_mv ?_
 refine s_lenT yU26 ?_
 refine s_lt ?_
 refine k_nil (k_seq ?_)
 refine w_cond hF2 ?_ ?_ <;> intro hc5 hF3
 refine awp_lenT 0 (fun hb6 => ?_)
 refine awp_skip (k_seq (awp_seq (awp_block (awp_region ?_))))
 iterate 4 refine s_mv ?_
 obtain ⟨v7, hv7, hF4⟩ := bind_some' hF3
 refine s_ixT Core.row hv7 (Core.row_eq _) yE26 ?_
 refine s_ldN yA28 yS28 ?_
 obtain ⟨v8, hv8, hF5⟩ := bind_some' hF4
 refine s_call [(9204, 2020), (9208, 12020), (9209, 22020), (9210, 32020)] [] _ _ (ih_m_laws_toCore_D fu (by omega) _ _ hv8) ?_
 obtain ⟨v9, hv9, hF6⟩ := bind_some' hF5
 refine s_ixD (Core.rowD 3 34 37) hv9 yE35 ?_
 refine s_stS (Core.rowD 3 34 37) [.sc (.int .i64 v8.kind), .sc (.int .i64 v8.id), .sc (.str v8.name), .sc (.int .i64 v8.n), .any, .sc (.int .i64 v8.data.kind), .sc (.str v8.data.name), .sc (.int .i64 v8.data.n), .any, .any, .any] [(g2.toNat, 4, 2020), (g2.toNat, 8, 12020), (g2.toNat, 9, 22020), (g2.toNat, 10, 32020)] hv9 yS37 yS37 ?_
 refine k_nil (k_blk (k_seq ?_))
 refine awp_jsA 7 2020 [.sc (.int .i64 v8.kind), .sc (.int .i64 v8.id), .sc (.str v8.name), .sc (.int .i64 v8.n), .ow 3 (v8.ids.map rI), .sc (.int .i64 v8.data.kind), .sc (.str v8.data.name), .sc (.int .i64 v8.data.n), .any, .any, .any] hv9 ?_
 refine awp_jsA 7 12020 [.sc (.int .i64 v8.kind), .sc (.int .i64 v8.id), .sc (.str v8.name), .sc (.int .i64 v8.n), .ow 3 (v8.ids.map rI), .sc (.int .i64 v8.data.kind), .sc (.str v8.data.name), .sc (.int .i64 v8.data.n), .ow 3 (v8.data.scopes.map rI), .any, .any] hv9 ?_
 refine awp_jsD 7 22020 [.sc (.int .i64 v8.kind), .sc (.int .i64 v8.id), .sc (.str v8.name), .sc (.int .i64 v8.n), .ow 3 (v8.ids.map rI), .sc (.int .i64 v8.data.kind), .sc (.str v8.data.name), .sc (.int .i64 v8.data.n), .ow 3 (v8.data.scopes.map rI), .ow 34 (v8.data.kids.map (Form.rowD 3 34)), .any] hv9 ?_
 refine awp_jsD 7 32020 [.sc (.int .i64 v8.kind), .sc (.int .i64 v8.id), .sc (.str v8.name), .sc (.int .i64 v8.n), .ow 3 (v8.ids.map rI), .sc (.int .i64 v8.data.kind), .sc (.str v8.data.name), .sc (.int .i64 v8.data.n), .ow 3 (v8.data.scopes.map rI), .ow 34 (v8.data.kids.map (Form.rowD 3 34)), .ow 37 (v8.kids.map (Core.rowD 3 34 37))] hv9 ?_
 refine awp_nsH 7 (row := (Core.rowD 3 34 37)) (fs := [.sc (.int .i64 v8.kind), .sc (.int .i64 v8.id), .sc (.str v8.name), .sc (.int .i64 v8.n), .ow 3 (v8.ids.map rI), .sc (.int .i64 v8.data.kind), .sc (.str v8.data.name), .sc (.int .i64 v8.data.n), .ow 3 (v8.data.scopes.map rI), .ow 34 (v8.data.kids.map (Form.rowD 3 34)), .ow 37 (v8.kids.map (Core.rowD 3 34 37))]) v8 (Core.rowDE _ _ _ _) ?_
 refine awp_region ?_
 refine s_mv ?_
 refine s_add (winc2 hc5 hb6 hn_g2) ?_
 refine s_as ?_
 refine k_nil ?_
 exact s_rn (fu, (g2 + 1), (g3.set g2.toNat v8)) ⟨by first | omega | (dsimp only; omega), hF6, by first | omega | (dsimp only; omega)⟩
 refine awp_exit (k_seq_exit (k_rnd_exit2 (k_blk_exit (k_seq (awp_seq (awp_region ?_))))))
 refine s_mv ?_
 refine s_as ?_
 refine k_nil (k_seq ?_)
 refine awp_mvD 2 7 9200 (by conv => lhs; whnf) (by conv => lhs; whnf) rfl ?_
 refine awp_ret (k_fin ?_)
 cases hF3
 exact ends_a _ [] Try.results66
theorem m_laws_toCore_D_st (fu : Nat) (ih_m_laws_toCoreS_D : ∀ k, k ≤ fu → m_laws_toCoreS_D_AC k) (ih_m_laws_toCore_D : ∀ k, k ≤ fu → m_laws_toCore_D_AC k) : m_laws_toCore_D_AC (fu + 1) := by
 intro x1 r hF0
 rw [m_laws_toCore] at hF0
 refine AC_i [.ag [.t (.sc (.int .i64 r.kind)), .t (.sc (.int .i64 r.id)), .t (.sc (.str r.name)), .t (.sc (.int .i64 r.n)), .ar 9204, .t (.sc (.int .i64 r.data.kind)), .t (.sc (.str r.data.name)), .t (.sc (.int .i64 r.data.n)), .ar 9208, .ar 9209, .ar 9210]] Try.func13 rfl Try.ntmps13 ?_
 intro C hC
 refine awp_seq (awp_region ?_)
 refine s_box ?_
 refine s_alloc yZ37 ?_
 refine k_nil (k_seq (awp_seq (awp_region ?_)))
 refine s_alloc yZ37 ?_
 refine k_nil (k_seq (awp_seq (awp_region ?_)))
 refine s_fa yF28_0 ?_
 refine s_ld1 yA3 ?_
 refine s_fa yF37_0 ?_
 refine s_stP yS3 ?_
 refine k_nil (k_seq (awp_seq (awp_region ?_)))
 refine s_fa yF28_1 ?_
 refine s_ld1 yA3 ?_
 refine s_fa yF37_1 ?_
 refine s_stP yS3 ?_
 refine k_nil (k_seq (awp_seq (awp_region ?_)))
 refine s_fa yF28_2 ?_
 refine s_ld1 yA9 ?_
 refine s_fa yF37_2 ?_
 refine s_stP yS9 ?_
 refine k_nil (k_seq (awp_seq (awp_region ?_)))
 refine s_fa yF28_3 ?_
 refine s_ld1 yA3 ?_
 refine s_fa yF37_3 ?_
 refine s_stP yS3 ?_
 refine k_nil (k_seq (awp_seq (awp_region ?_)))
 refine s_fa yF28_4 ?_
 refine s_ld1 yA22 ?_
 obtain ⟨v1, hv1, hF1⟩ := bind_some' hF0
 refine s_call [(9200, 2018)] [] _ _ (m_laws_toIntS_D_ok fu _ _ hv1) ?_
 refine s_fa yF37_4 ?_
 refine s_stP yS22 ?_
 refine k_nil (k_seq (awp_seq (awp_region ?_)))
 refine s_fa yF28_5 ?_
 refine s_ldN yA25 yS25 ?_
 obtain ⟨v2, hv2, hF2⟩ := bind_some' hF1
 refine s_call [(9203, 2022), (9204, 12022)] [] _ _ (m_laws_toForm_D_ok fu _ _ hv2) ?_
 refine s_fa yF37_5 ?_
 refine s_stP yS34 ?_
 refine k_nil (k_seq (awp_seq (awp_region ?_)))
 refine s_fa yF28_6 ?_
 refine s_ld1 yA26 ?_
 obtain ⟨v3, hv3, hF3⟩ := bind_some' hF2
 refine s_call [(9200, 2026)] [] _ _ (ih_m_laws_toCoreS_D fu (by omega) _ _ hv3) ?_
 refine s_fa yF37_6 ?_
 refine s_stP yS35 ?_
 refine k_nil (k_seq (awp_seq (awp_region ?_)))
 refine s_ldW yA37 yS37 ?_
 refine s_stW yS37 ?_
 refine k_nil (k_seq ?_)
 refine awp_mvB 2 2018 9204 [.t (.sc (.int .i64 x1.kind)), .t (.sc (.int .i64 x1.id)), .t (.sc (.str x1.name)), .t (.sc (.int .i64 x1.n)), .ar 9204, .t (.sc (.int .i64 v2.kind)), .t (.sc (.str v2.name)), .t (.sc (.int .i64 v2.n)), .ar 2022, .ar 12022, .ar 2026] ?_
 refine awp_mvB 2 2022 9208 [.t (.sc (.int .i64 x1.kind)), .t (.sc (.int .i64 x1.id)), .t (.sc (.str x1.name)), .t (.sc (.int .i64 x1.n)), .ar 9204, .t (.sc (.int .i64 v2.kind)), .t (.sc (.str v2.name)), .t (.sc (.int .i64 v2.n)), .ar 9208, .ar 12022, .ar 2026] ?_
 refine awp_mvBO 2 12022 9209 [.t (.sc (.int .i64 x1.kind)), .t (.sc (.int .i64 x1.id)), .t (.sc (.str x1.name)), .t (.sc (.int .i64 x1.n)), .ar 9204, .t (.sc (.int .i64 v2.kind)), .t (.sc (.str v2.name)), .t (.sc (.int .i64 v2.n)), .ar 9208, .ar 9209, .ar 2026] ?_
 refine awp_mvBO 2 2026 9210 [.t (.sc (.int .i64 x1.kind)), .t (.sc (.int .i64 x1.id)), .t (.sc (.str x1.name)), .t (.sc (.int .i64 x1.n)), .ar 9204, .t (.sc (.int .i64 v2.kind)), .t (.sc (.str v2.name)), .t (.sc (.int .i64 v2.n)), .ar 9208, .ar 9209, .ar 9210] ?_
 refine awp_ret (k_fin ?_)
 cases hF3
 exact ends_gen _ [] (by rw [Try.results13]; exact (res_agg (by conv => lhs; whnf) (by conv => lhs; whnf) yA37 yS37 rfl res_nil))
theorem m_laws_toCoreS_D_all (fuel : Nat) : m_laws_toCoreS_D_AC fuel ∧ m_laws_toCore_D_AC fuel := by
 induction fuel using Nat.strongRecOn with
 | _ N ih =>
   cases N with
   | zero => exact ⟨(by intro x1 r h; rw [m_laws_toCoreS] at h; cases h), (by intro x1 r h; rw [m_laws_toCore] at h; cases h)⟩
   | succ fu => exact ⟨m_laws_toCoreS_D_st fu (fun k hk => (ih k (by omega)).1) (fun k hk => (ih k (by omega)).2), m_laws_toCore_D_st fu (fun k hk => (ih k (by omega)).1) (fun k hk => (ih k (by omega)).2)⟩
theorem m_laws_toCore_D_ok (fuel : Nat) : m_laws_toCore_D_AC fuel := (m_laws_toCoreS_D_all fuel).2
def m_laws_eqCore_AC (fuel : Nat) : Prop := ∀ (x1 : Core) (x2 : Core) (r : Bool), m_laws_eqCore fuel x1 x2 = some r → AC Try.prog 16 [.ag [.t (.sc (.int .i64 x1.kind)), .t (.sc (.int .i64 x1.id)), .t (.sc (.str x1.name)), .t (.sc (.int .i64 x1.n)), .t (.sl (x1.ids.map rI)), .t (.sc (.int .i64 x1.data.kind)), .t (.sc (.str x1.data.name)), .t (.sc (.int .i64 x1.data.n)), .t (.sl (x1.data.scopes.map rI)), .t (.sl (x1.data.kids.map Form.row)), .t (.sl (x1.kids.map Core.row))], .ag [.t (.sc (.int .i64 x2.kind)), .t (.sc (.int .i64 x2.id)), .t (.sc (.str x2.name)), .t (.sc (.int .i64 x2.n)), .t (.sl (x2.ids.map rI)), .t (.sc (.int .i64 x2.data.kind)), .t (.sc (.str x2.data.name)), .t (.sc (.int .i64 x2.data.n)), .t (.sl (x2.data.scopes.map rI)), .t (.sl (x2.data.kids.map Form.row)), .t (.sl (x2.kids.map Core.row))]] noOb (.t (.sc (.bool r))) noOb
def m_laws_eqCoreS_AC (fuel : Nat) : Prop := ∀ (x1 : (List Core)) (x2 : (List Core)) (r : Bool), m_laws_eqCoreS fuel x1 x2 = some r → AC Try.prog 68 [.t (.sl (x1.map Core.row)), .t (.sl (x2.map Core.row))] noOb (.t (.sc (.bool r))) noOb
theorem m_laws_eqCore_st (fu : Nat) (ih_m_laws_eqCore : ∀ k, k ≤ fu → m_laws_eqCore_AC k) (ih_m_laws_eqCoreS : ∀ k, k ≤ fu → m_laws_eqCoreS_AC k) : m_laws_eqCore_AC (fu + 1) := by
 intro x1 x2 r hF0
 rw [m_laws_eqCore] at hF0
 refine AC_i [.t (.sc (.bool r))] Try.func16 rfl Try.ntmps16 ?_
 intro C hC
 refine awp_seq (awp_region ?_)
 refine s_box ?_
 refine s_box ?_
 refine s_as ?_
 refine k_nil (k_seq (awp_seq (awp_seq (awp_region ?_))))
 refine s_fa yF37_0 ?_
 refine s_ld1 yA3 ?_
 refine s_fa yF37_0 ?_
 refine s_ld1 yA3 ?_
 refine s_ne ?_
 refine k_nil (k_seq ?_)
 refine w_cond hF0 ?_ ?_ <;> intro hc1 hF1
 refine awp_seq (awp_region ?_)
 refine s_as ?_
 refine k_nil (k_seq (awp_ret (k_seq_ret (k_fin ?_))))
 cases hF1
 exact ends_a [] [] Try.results16
 refine awp_skip (k_seq (awp_seq (awp_seq (awp_region ?_))))
 refine s_fa yF37_1 ?_
 refine s_ld1 yA3 ?_
 refine s_fa yF37_1 ?_
 refine s_ld1 yA3 ?_
 refine s_ne ?_
 refine k_nil (k_seq ?_)
 refine w_cond hF1 ?_ ?_ <;> intro hc2 hF2
 refine awp_seq (awp_region ?_)
 refine s_as ?_
 refine k_nil (k_seq (awp_ret (k_seq_ret (k_fin ?_))))
 cases hF2
 exact ends_a [] [] Try.results16
 refine awp_skip (k_seq (awp_seq (awp_seq (awp_region ?_))))
 refine s_fa yF37_2 ?_
 refine s_ld1 yA9 ?_
 refine s_fa yF37_2 ?_
 refine s_ld1 yA9 ?_
 refine s_neS ?_
 refine k_nil (k_seq ?_)
 refine w_cond hF2 ?_ ?_ <;> intro hc3 hF3
 refine awp_seq (awp_region ?_)
 refine s_as ?_
 refine k_nil (k_seq (awp_ret (k_seq_ret (k_fin ?_))))
 cases hF3
 exact ends_a [] [] Try.results16
 refine awp_skip (k_seq (awp_seq (awp_seq (awp_region ?_))))
 refine s_fa yF37_3 ?_
 refine s_ld1 yA3 ?_
 refine s_fa yF37_3 ?_
 refine s_ld1 yA3 ?_
 refine s_ne ?_
 refine k_nil (k_seq ?_)
 refine w_cond hF3 ?_ ?_ <;> intro hc4 hF4
 refine awp_seq (awp_region ?_)
 refine s_as ?_
 refine k_nil (k_seq (awp_ret (k_seq_ret (k_fin ?_))))
 cases hF4
 exact ends_a [] [] Try.results16
 refine awp_skip (k_seq (awp_seq (awp_seq (awp_region ?_))))
 refine s_fa yF37_4 ?_
 refine s_ld1 yA22 ?_
 refine s_fa yF37_4 ?_
 refine s_ld1 yA22 ?_
 obtain ⟨v5, hv5, hF5⟩ := bind_some' hF4
 refine s_pure [] (m_laws_eqIntS_ok fu _ _ _ hv5) ?_
 refine s_not ?_
 refine k_nil (k_seq ?_)
 refine w_cond hF5 ?_ ?_ <;> intro hc6 hF6
 refine awp_seq (awp_region ?_)
 refine s_as ?_
 refine k_nil (k_seq (awp_ret (k_seq_ret (k_fin ?_))))
 cases hF6
 exact ends_a [] [] Try.results16
 refine awp_skip (k_seq (awp_seq (awp_seq (awp_region ?_))))
 refine s_fa yF37_5 ?_
 refine s_ldN yA34 yS34 ?_
 refine s_fa yF37_5 ?_
 refine s_ldN yA34 yS34 ?_
 obtain ⟨v7, hv7, hF7⟩ := bind_some' hF6
 refine s_pure [] (m_laws_eqForm_ok fu _ _ _ hv7) ?_
 refine s_not ?_
 refine k_nil (k_seq ?_)
 refine w_cond hF7 ?_ ?_ <;> intro hc8 hF8
 refine awp_seq (awp_region ?_)
 refine s_as ?_
 refine k_nil (k_seq (awp_ret (k_seq_ret (k_fin ?_))))
 cases hF8
 exact ends_a [] [] Try.results16
 refine awp_skip (k_seq (awp_seq (awp_seq (awp_region ?_))))
 refine s_fa yF37_6 ?_
 refine s_ld1 yA35 ?_
 refine s_fa yF37_6 ?_
 refine s_ld1 yA35 ?_
 obtain ⟨v9, hv9, hF9⟩ := bind_some' hF8
 refine s_pure [] (ih_m_laws_eqCoreS fu (by omega) _ _ _ hv9) ?_
 refine s_not ?_
 refine k_nil (k_seq ?_)
 refine w_cond hF9 ?_ ?_ <;> intro hc10 hF10
 refine awp_seq (awp_region ?_)
 refine s_as ?_
 refine k_nil (k_seq (awp_ret (k_seq_ret (k_fin ?_))))
 cases hF10
 exact ends_a [] [] Try.results16
 refine awp_skip (k_seq (awp_seq (awp_region ?_)))
 refine s_as ?_
 refine k_nil (k_seq (awp_ret (k_fin ?_)))
 cases hF10
 exact ends_a [] [] Try.results16
theorem m_laws_eqCoreS_st (fu : Nat) (ih_m_laws_eqCore : ∀ k, k ≤ fu → m_laws_eqCore_AC k) (ih_m_laws_eqCoreS : ∀ k, k ≤ fu → m_laws_eqCoreS_AC k) : m_laws_eqCoreS_AC (fu + 1) := by
 intro x1 x2 r hF0
 rw [m_laws_eqCoreS] at hF0
 refine AC_i [.t (.sc (.bool r))] Try.func68 rfl Try.ntmps68 ?_
 intro C hC
 refine awp_seq (awp_region ?_)
 refine s_as ?_
 refine k_nil (k_seq (awp_seq (awp_seq (awp_region ?_))))
 refine s_mv ?_
 refine s_lenT yU35 ?_
 refine s_mv ?_
 refine s_lenT yU35 ?_
 refine s_ne ?_
 refine k_nil (k_seq ?_)
 refine w_cond hF0 ?_ ?_ <;> intro hc1 hF1
 refine awp_seq (awp_region ?_)
 refine s_as ?_
 refine k_nil (k_seq (awp_ret (k_seq_ret (k_fin ?_))))
 cases hF1
 exact ends_a [] [] Try.results68
 refine awp_skip (k_seq (awp_seq (awp_seq (awp_region ?_))))
 refine s_as ?_
 refine k_nil (k_seq (awp_block ?_))
 refine awp_fr (β := Int) [4, 5, 11, 12, 13, 14, 15, 16, 17, 18, 19, 20, 21, 22, 23, 24, 25, 26] [] [] (fun a => [(5, .t (.sc (.int .i64 a.2)))]) (fun a => []) (fun a => a.1 ≤ fu ∧ m_laws_eqCoreS_l1 a.1 x1 x2 a.2 = some r ∧ 0 ≤ a.2) (fu, 0) ⟨Nat.le_refl _, hF1, by simp⟩ ?_
 clear hF1
 rintro ⟨fu, g2⟩ ⟨hl3, hF2, hn_g2⟩
 dsimp only at hl3 hF2 hn_g2 ⊢
 obtain _ | fu := fu
 · rw [m_laws_eqCoreS_l1] at hF2; cases hF2
 rw [m_laws_eqCoreS_l1] at hF2
 refine awp_seq (awp_seq (awp_region ?_))
 refine s_mv ?_
 refine s_mv ?_
 refine s_lenT yU35 ?_
 refine s_lt ?_
 refine k_nil (k_seq ?_)
 refine w_cond hF2 ?_ ?_ <;> intro hc4 hF3
 refine awp_lenT 0 (fun hb5 => ?_)
 refine awp_skip (k_seq (awp_seq (awp_block (awp_seq ?_))))
 refine awp_draw yMix (by kernel_rfl) ?_
 refine s_mv ?_
 refine s_mv ?_
 obtain ⟨v6, hv6, hF4⟩ := bind_some' hF3
 refine s_ixT Core.row hv6 (Core.row_eq _) yE35 ?_
 refine s_ldN yA37 yS37 ?_
 refine s_mv ?_
 refine s_mv ?_
 obtain ⟨v7, hv7, hF5⟩ := bind_some' hF4
 refine s_ixT Core.row hv7 (Core.row_eq _) yE35 ?_
 refine s_ldN yA37 yS37 ?_
 obtain ⟨v8, hv8, hF6⟩ := bind_some' hF5
 refine s_pure [] (ih_m_laws_eqCore fu (by omega) _ _ _ hv8) ?_
 refine s_not ?_
 refine k_nilD (by kernel_rfl) ?_
 refine k_seq ?_
 refine w_cond hF6 ?_ ?_ <;> intro hc9 hF7
 refine awp_seq (awp_region ?_)
 refine s_as ?_
 refine k_nil (k_seq (awp_ret (k_blk_ret (k_seq_ret (k_rnd_ret2 (k_blk_ret (k_seq_ret (k_fin ?_))))))))
 cases hF7
 exact ends_a [] [] Try.results68
 refine awp_skip (k_blk (k_seq (awp_region ?_)))
 refine s_mv ?_
 refine s_add (winc2 hc4 hb5 hn_g2) ?_
 refine s_as ?_
 refine k_nil ?_
 exact s_rn (fu, (g2 + 1)) ⟨by first | omega | (dsimp only; omega), hF7, by first | omega | (dsimp only; omega)⟩
 refine awp_exit (k_seq_exit (k_rnd_exit2 (k_blk_exit (k_seq (awp_seq (awp_region ?_))))))
 refine s_as ?_
 refine k_nil (k_seq (awp_ret (k_fin ?_)))
 cases hF3
 exact ends_a [] [] Try.results68
theorem m_laws_eqCore_all (fuel : Nat) : m_laws_eqCore_AC fuel ∧ m_laws_eqCoreS_AC fuel := by
 induction fuel using Nat.strongRecOn with
 | _ N ih =>
   cases N with
   | zero => exact ⟨(by intro x1 x2 r h; rw [m_laws_eqCore] at h; cases h), (by intro x1 x2 r h; rw [m_laws_eqCoreS] at h; cases h)⟩
   | succ fu => exact ⟨m_laws_eqCore_st fu (fun k hk => (ih k (by omega)).1) (fun k hk => (ih k (by omega)).2), m_laws_eqCoreS_st fu (fun k hk => (ih k (by omega)).1) (fun k hk => (ih k (by omega)).2)⟩
theorem m_laws_eqCore_ok (fuel : Nat) : m_laws_eqCore_AC fuel := (m_laws_eqCore_all fuel).1
def m_laws_markCoreS_D_AC (fuel : Nat) : Prop := ∀ (x1 : (List Core)) (x2 : Int) (r : (Int × (List Core))), m_laws_markCoreS fuel x1 x2 = some r → AC Try.prog 69 [.ar 9300, .t (.sc (.int .i64 x2))] (objs [(9300, .dar (x1.map (Core.rowD 3 34 37)) 37)]) (.t (.sc (.int .i64 r.1))) (objs [(9300, .dar (r.2.map (Core.rowD 3 34 37)) 37)])
theorem m_laws_markCoreS_D_st (fu : Nat) (ih_m_laws_markCoreS_D : ∀ k, k ≤ fu → m_laws_markCoreS_D_AC k) : m_laws_markCoreS_D_AC (fu + 1) := by
 intro x1 x2 r hF0
 rw [m_laws_markCoreS] at hF0
 refine AC_i [.t (.sc (.int .i64 r.1))] Try.func69 rfl Try.ntmps69 ?_
 intro C hC
 refine awp_seq (awp_region ?_)
 refine s_as ?_
 refine k_nil (k_seq (awp_seq (awp_seq (awp_region ?_))))
 refine s_as ?_
 refine k_nil (k_seq (awp_block ?_))
 refine awp_fr (β := Int × Int × (List Core)) [1, 5, 6, 7, 8, 9, 10, 11, 12, 13, 14, 15, 16, 17, 18, 19, 20, 21, 22, 23, 24, 25, 26, 27, 28, 29, 30, 31, 32, 33, 34, 35, 36, 37, 38, 39, 40, 41, 42, 43, 44, 45, 46, 47, 48, 49, 50, 51, 52, 53, 54, 55, 56, 57, 58, 59, 60, 61, 62, 63, 64, 65, 66, 67, 68, 69, 70, 71, 72, 73, 74, 75, 76, 77, 78, 79, 80, 81, 82, 83, 84, 85, 86, 87, 88, 89, 90, 91, 92, 93, 94, 95] [9300] [45, 78, 86, 93] (fun a => [(1, .t (.sc (.int .i64 a.2.1))), (5, .t (.sc (.int .i64 a.2.2.1)))]) (fun a => [(9300, .dar (a.2.2.2.map (Core.rowD 3 34 37)) 37)]) (fun a => a.1 ≤ fu ∧ m_laws_markCoreS_l1 a.1  a.2.1 a.2.2.1 a.2.2.2 = some r) (fu, x2, 0, x1) ⟨Nat.le_refl _, hF0⟩ ?_
 clear hF0
 rintro ⟨fu, g1, g2, g3⟩ ⟨hl4, hF1⟩
 dsimp only at hl4 hF1 ⊢
 obtain _ | fu := fu
 · rw [m_laws_markCoreS_l1] at hF1; cases hF1
 rw [m_laws_markCoreS_l1] at hF1
 refine awp_seq (awp_seq (awp_region ?_))
 refine s_mv ?_
 refine s_mv ?_
 refine s_lenD yU35 ?_
 refine s_lt ?_
 refine k_nil (k_seq ?_)
 refine w_cond hF1 ?_ ?_ <;> intro hc5 hF2
 refine awp_skip (k_seq (awp_seq (awp_block (awp_seq (awp_region ?_)))))
 iterate 3 refine s_mv ?_
 obtain ⟨v6, hv6, hF3⟩ := bind_some' hF2
 refine s_ixD (Core.rowD 3 34 37) hv6 yE35 ?_
 refine s_fa yF37_0 ?_
 refine s_stC (q := 9300) (off := 0) (u := .sc (.int .i64 g1)) (Core.rowD 3 34 37) (Core.mk g1 v6.id v6.name v6.n v6.ids v6.data v6.kids) hv6 (by rw [(Core.rowDE _ _ _ _), (Core.rowDE _ _ _ _)]; rfl) yS3 yS37 (hw := by rw [(Core.rowDE _ _ _ _)]; rfl) ?_
 refine k_nil (k_seq (awp_seq (awp_region ?_)))
 refine s_mv ?_
 refine s_add rfl ?_
 refine s_as ?_
 refine k_nil (k_seq (awp_seq (awp_region ?_)))
 iterate 3 refine s_mv ?_
 obtain ⟨v7, hv7, hF4⟩ := bind_some' hF3
 refine s_ixD (Core.rowD 3 34 37) hv7 yE35 ?_
 refine s_fa yF37_1 ?_
 refine s_stC (q := 9300) (off := 1) (u := .sc (.int .i64 (w64 (g1 + 1)))) (Core.rowD 3 34 37) (Core.mk v7.kind (w64 (g1 + 1)) v7.name v7.n v7.ids v7.data v7.kids) hv7 (by rw [(Core.rowDE _ _ _ _), (Core.rowDE _ _ _ _)]; rfl) yS3 yS37 (hw := by rw [(Core.rowDE _ _ _ _)]; rfl) ?_
 refine k_nil (k_seq (awp_seq (awp_region ?_)))
 refine s_mv ?_
 refine s_add rfl ?_
 refine s_as ?_
 refine k_nil (k_seq (awp_seq (awp_region ?_)))
 iterate 3 refine s_mv ?_
 obtain ⟨v8, hv8, hF5⟩ := bind_some' hF4
 refine s_pure [] (m_laws_markText_D_ok fu _ _ hv8) ?_
 obtain ⟨v9, hv9, hF6⟩ := bind_some' hF5
 refine s_ixD (Core.rowD 3 34 37) hv9 yE35 ?_
 refine s_fa yF37_2 ?_
 refine s_stC (q := 9300) (off := 2) (u := .sc (.str v8)) (Core.rowD 3 34 37) (Core.mk v9.kind v9.id v8 v9.n v9.ids v9.data v9.kids) hv9 (by rw [(Core.rowDE _ _ _ _), (Core.rowDE _ _ _ _)]; rfl) yS9 yS37 (hw := by rw [(Core.rowDE _ _ _ _)]; rfl) ?_
 refine k_nil (k_seq (awp_seq (awp_region ?_)))
 refine s_mv ?_
 refine s_add rfl ?_
 refine s_as ?_
 refine k_nil (k_seq (awp_seq (awp_region ?_)))
 iterate 3 refine s_mv ?_
 obtain ⟨v10, hv10, hF7⟩ := bind_some' hF6
 refine s_ixD (Core.rowD 3 34 37) hv10 yE35 ?_
 refine s_fa yF37_3 ?_
 refine s_stC (q := 9300) (off := 3) (u := .sc (.int .i64 (w64 ((w64 ((w64 (g1 + 1)) + 1)) + 1)))) (Core.rowD 3 34 37) (Core.mk v10.kind v10.id v10.name (w64 ((w64 ((w64 (g1 + 1)) + 1)) + 1)) v10.ids v10.data v10.kids) hv10 (by rw [(Core.rowDE _ _ _ _), (Core.rowDE _ _ _ _)]; rfl) yS3 yS37 (hw := by rw [(Core.rowDE _ _ _ _)]; rfl) ?_
 refine k_nil (k_seq (awp_seq (awp_region ?_)))
 refine s_mv ?_
 refine s_add rfl ?_
 refine s_as ?_
 refine k_nil (k_seq (awp_seq (awp_region ?_)))
 refine s_mv ?_
 refine s_mv ?_
 obtain ⟨v11, hv11, hF8⟩ := bind_some' hF7
 refine s_ixD (Core.rowD 3 34 37) hv11 yE35 ?_
 refine s_fa yF37_4 ?_
 refine s_ldHA (Core.rowD 3 34 37) rI v11.ids plain_rI hv11 yA22 yS37 (hw := by rw [(Core.rowDE _ _ _ _)]; rfl) ?_
 refine s_mv ?_
 obtain ⟨v12, hv12, hF9⟩ := bind_some' hF8
 refine s_call [(9300, 45)] [] _ _ (m_laws_markIntS_D_ok fu _ _ _ hv12) ?_
 refine s_as ?_
 refine k_nil (k_seq ?_)
 refine awp_jsA 9300 45 [.sc (.int .i64 v11.kind), .sc (.int .i64 v11.id), .sc (.str v11.name), .sc (.int .i64 v11.n), .ow 3 (v12.2.map rI), .sc (.int .i64 v11.data.kind), .sc (.str v11.data.name), .sc (.int .i64 v11.data.n), .ow 3 (v11.data.scopes.map rI), .ow 34 (v11.data.kids.map (Form.rowD 3 34)), .ow 37 (v11.kids.map (Core.rowD 3 34 37))] hv11 (row := (Core.rowD 3 34 37)) (hj := by rw [(Core.rowDE _ _ _ _)]; rfl) (hf := by rw [(Core.rowDE _ _ _ _)]; rfl) ?_
 refine awp_nsH 9300 (row := (Core.rowD 3 34 37)) (fs := [.sc (.int .i64 v11.kind), .sc (.int .i64 v11.id), .sc (.str v11.name), .sc (.int .i64 v11.n), .ow 3 (v12.2.map rI), .sc (.int .i64 v11.data.kind), .sc (.str v11.data.name), .sc (.int .i64 v11.data.n), .ow 3 (v11.data.scopes.map rI), .ow 34 (v11.data.kids.map (Form.rowD 3 34)), .ow 37 (v11.kids.map (Core.rowD 3 34 37))]) (Core.mk v11.kind v11.id v11.name v11.n v12.2 v11.data v11.kids) (Core.rowDE _ _ _ _) ?_
 refine awp_seq (awp_region ?_)
 iterate 3 refine s_mv ?_
 obtain ⟨v13, hv13, hF10⟩ := bind_some' hF9
 refine s_ixD (Core.rowD 3 34 37) hv13 yE35 ?_
 refine s_fa yF37_5 ?_
 refine s_fa yF34_0 ?_
 refine s_stC (q := 9300) (off := 5) (u := .sc (.int .i64 v12.1)) (Core.rowD 3 34 37) (Core.mk v13.kind v13.id v13.name v13.n v13.ids (Form.mk v12.1 v13.data.name v13.data.n v13.data.scopes v13.data.kids) v13.kids) hv13 (by rw [(Core.rowDE _ _ _ _), (Core.rowDE _ _ _ _)]; rfl) yS3 yS37 (hw := by rw [(Core.rowDE _ _ _ _)]; rfl) ?_
 refine k_nil (k_seq (awp_seq (awp_region ?_)))
 refine s_mv ?_
 refine s_add rfl ?_
 refine s_as ?_
 refine k_nil (k_seq (awp_seq (awp_region ?_)))
 iterate 3 refine s_mv ?_
 obtain ⟨v14, hv14, hF11⟩ := bind_some' hF10
 refine s_pure [] (m_laws_markText_D_ok fu _ _ hv14) ?_
 obtain ⟨v15, hv15, hF12⟩ := bind_some' hF11
 refine s_ixD (Core.rowD 3 34 37) hv15 yE35 ?_
 refine s_fa yF37_5 ?_
 refine s_fa yF34_1 ?_
 refine s_stC (q := 9300) (off := 6) (u := .sc (.str v14)) (Core.rowD 3 34 37) (Core.mk v15.kind v15.id v15.name v15.n v15.ids (Form.mk v15.data.kind v14 v15.data.n v15.data.scopes v15.data.kids) v15.kids) hv15 (by rw [(Core.rowDE _ _ _ _), (Core.rowDE _ _ _ _)]; rfl) yS9 yS37 (hw := by rw [(Core.rowDE _ _ _ _)]; rfl) ?_
 refine k_nil (k_seq (awp_seq (awp_region ?_)))
 refine s_mv ?_
 refine s_add rfl ?_
 refine s_as ?_
 refine k_nil (k_seq (awp_seq (awp_region ?_)))
 iterate 3 refine s_mv ?_
 obtain ⟨v16, hv16, hF13⟩ := bind_some' hF12
 refine s_ixD (Core.rowD 3 34 37) hv16 yE35 ?_
 refine s_fa yF37_5 ?_
 refine s_fa yF34_2 ?_
 refine s_stC (q := 9300) (off := 7) (u := .sc (.int .i64 (w64 ((w64 (v12.1 + 1)) + 1)))) (Core.rowD 3 34 37) (Core.mk v16.kind v16.id v16.name v16.n v16.ids (Form.mk v16.data.kind v16.data.name (w64 ((w64 (v12.1 + 1)) + 1)) v16.data.scopes v16.data.kids) v16.kids) hv16 (by rw [(Core.rowDE _ _ _ _), (Core.rowDE _ _ _ _)]; rfl) yS3 yS37 (hw := by rw [(Core.rowDE _ _ _ _)]; rfl) ?_
 refine k_nil (k_seq (awp_seq (awp_region ?_)))
 refine s_mv ?_
 refine s_add rfl ?_
 refine s_as ?_
 refine k_nil (k_seq (awp_seq (awp_region ?_)))
 refine s_mv ?_
 refine s_mv ?_
 obtain ⟨v17, hv17, hF14⟩ := bind_some' hF13
 refine s_ixD (Core.rowD 3 34 37) hv17 yE35 ?_
 refine s_fa yF37_5 ?_
 refine s_fa yF34_3 ?_
 refine s_ldHA (Core.rowD 3 34 37) rI v17.data.scopes plain_rI hv17 yA22 yS37 (hw := by rw [(Core.rowDE _ _ _ _)]; rfl) ?_
 refine s_mv ?_
 obtain ⟨v18, hv18, hF15⟩ := bind_some' hF14
 refine s_call [(9300, 78)] [] _ _ (m_laws_markIntS_D_ok fu _ _ _ hv18) ?_
 refine s_as ?_
 refine k_nil (k_seq ?_)
 refine awp_jsA 9300 78 [.sc (.int .i64 v17.kind), .sc (.int .i64 v17.id), .sc (.str v17.name), .sc (.int .i64 v17.n), .ow 3 (v17.ids.map rI), .sc (.int .i64 v17.data.kind), .sc (.str v17.data.name), .sc (.int .i64 v17.data.n), .ow 3 (v18.2.map rI), .ow 34 (v17.data.kids.map (Form.rowD 3 34)), .ow 37 (v17.kids.map (Core.rowD 3 34 37))] hv17 (row := (Core.rowD 3 34 37)) (hj := by rw [(Core.rowDE _ _ _ _)]; rfl) (hf := by rw [(Core.rowDE _ _ _ _)]; rfl) ?_
 refine awp_nsH 9300 (row := (Core.rowD 3 34 37)) (fs := [.sc (.int .i64 v17.kind), .sc (.int .i64 v17.id), .sc (.str v17.name), .sc (.int .i64 v17.n), .ow 3 (v17.ids.map rI), .sc (.int .i64 v17.data.kind), .sc (.str v17.data.name), .sc (.int .i64 v17.data.n), .ow 3 (v18.2.map rI), .ow 34 (v17.data.kids.map (Form.rowD 3 34)), .ow 37 (v17.kids.map (Core.rowD 3 34 37))]) (Core.mk v17.kind v17.id v17.name v17.n v17.ids (Form.mk v17.data.kind v17.data.name v17.data.n v18.2 v17.data.kids) v17.kids) (Core.rowDE _ _ _ _) ?_
 refine awp_seq (awp_region ?_)
 refine s_mv ?_
 refine s_mv ?_
 obtain ⟨v19, hv19, hF16⟩ := bind_some' hF15
 refine s_ixD (Core.rowD 3 34 37) hv19 yE35 ?_
 refine s_fa yF37_5 ?_
 refine s_fa yF34_4 ?_
 refine s_ldHD (Core.rowD 3 34 37) (Form.rowD 3 34) v19.data.kids hv19 yA32 yS37 (hw := by rw [(Core.rowDE _ _ _ _)]; rfl) ?_
 refine s_mv ?_
 obtain ⟨v20, hv20, hF17⟩ := bind_some' hF16
 refine s_call [(9300, 86)] [] _ _ (m_laws_markFormS_D_ok fu _ _ _ hv20) ?_
 refine s_as ?_
 refine k_nil (k_seq ?_)
 refine awp_jsD 9300 86 [.sc (.int .i64 v19.kind), .sc (.int .i64 v19.id), .sc (.str v19.name), .sc (.int .i64 v19.n), .ow 3 (v19.ids.map rI), .sc (.int .i64 v19.data.kind), .sc (.str v19.data.name), .sc (.int .i64 v19.data.n), .ow 3 (v19.data.scopes.map rI), .ow 34 (v20.2.map (Form.rowD 3 34)), .ow 37 (v19.kids.map (Core.rowD 3 34 37))] hv19 (row := (Core.rowD 3 34 37)) (hj := by rw [(Core.rowDE _ _ _ _)]; rfl) (hf := by rw [(Core.rowDE _ _ _ _)]; rfl) ?_
 refine awp_nsH 9300 (row := (Core.rowD 3 34 37)) (fs := [.sc (.int .i64 v19.kind), .sc (.int .i64 v19.id), .sc (.str v19.name), .sc (.int .i64 v19.n), .ow 3 (v19.ids.map rI), .sc (.int .i64 v19.data.kind), .sc (.str v19.data.name), .sc (.int .i64 v19.data.n), .ow 3 (v19.data.scopes.map rI), .ow 34 (v20.2.map (Form.rowD 3 34)), .ow 37 (v19.kids.map (Core.rowD 3 34 37))]) (Core.mk v19.kind v19.id v19.name v19.n v19.ids (Form.mk v19.data.kind v19.data.name v19.data.n v19.data.scopes v20.2) v19.kids) (Core.rowDE _ _ _ _) ?_
 refine awp_region ?_
 refine s_mv ?_
 refine s_mv ?_
 obtain ⟨v21, hv21, hF18⟩ := bind_some' hF17
 refine s_ixD (Core.rowD 3 34 37) hv21 yE35 ?_
 refine s_fa yF37_6 ?_
 refine s_ldHD (Core.rowD 3 34 37) (Core.rowD 3 34 37) v21.kids hv21 yA35 yS37 (hw := by rw [(Core.rowDE _ _ _ _)]; rfl) ?_
 refine s_mv ?_
 obtain ⟨v22, hv22, hF19⟩ := bind_some' hF18
 refine s_call [(9300, 93)] [] _ _ (ih_m_laws_markCoreS_D fu (by omega) _ _ _ hv22) ?_
 refine s_as ?_
 refine k_nil (k_blk (k_seq ?_))
 refine awp_jsD 9300 93 [.sc (.int .i64 v21.kind), .sc (.int .i64 v21.id), .sc (.str v21.name), .sc (.int .i64 v21.n), .ow 3 (v21.ids.map rI), .sc (.int .i64 v21.data.kind), .sc (.str v21.data.name), .sc (.int .i64 v21.data.n), .ow 3 (v21.data.scopes.map rI), .ow 34 (v21.data.kids.map (Form.rowD 3 34)), .ow 37 (v22.2.map (Core.rowD 3 34 37))] hv21 (row := (Core.rowD 3 34 37)) (hj := by rw [(Core.rowDE _ _ _ _)]; rfl) (hf := by rw [(Core.rowDE _ _ _ _)]; rfl) ?_
 refine awp_nsH 9300 (row := (Core.rowD 3 34 37)) (fs := [.sc (.int .i64 v21.kind), .sc (.int .i64 v21.id), .sc (.str v21.name), .sc (.int .i64 v21.n), .ow 3 (v21.ids.map rI), .sc (.int .i64 v21.data.kind), .sc (.str v21.data.name), .sc (.int .i64 v21.data.n), .ow 3 (v21.data.scopes.map rI), .ow 34 (v21.data.kids.map (Form.rowD 3 34)), .ow 37 (v22.2.map (Core.rowD 3 34 37))]) (Core.mk v21.kind v21.id v21.name v21.n v21.ids v21.data v22.2) (Core.rowDE _ _ _ _) ?_
 refine awp_region ?_
 refine s_mv ?_
 refine s_add rfl ?_
 refine s_as ?_
 refine k_nil ?_
 exact s_rn (fu, v22.1, (w64 (g2 + 1)), (((((((((((g3.set g2.toNat (Core.mk g1 v6.id v6.name v6.n v6.ids v6.data v6.kids)).set g2.toNat (Core.mk v7.kind (w64 (g1 + 1)) v7.name v7.n v7.ids v7.data v7.kids)).set g2.toNat (Core.mk v9.kind v9.id v8 v9.n v9.ids v9.data v9.kids)).set g2.toNat (Core.mk v10.kind v10.id v10.name (w64 ((w64 ((w64 (g1 + 1)) + 1)) + 1)) v10.ids v10.data v10.kids)).set g2.toNat (Core.mk v11.kind v11.id v11.name v11.n v12.2 v11.data v11.kids)).set g2.toNat (Core.mk v13.kind v13.id v13.name v13.n v13.ids (Form.mk v12.1 v13.data.name v13.data.n v13.data.scopes v13.data.kids) v13.kids)).set g2.toNat (Core.mk v15.kind v15.id v15.name v15.n v15.ids (Form.mk v15.data.kind v14 v15.data.n v15.data.scopes v15.data.kids) v15.kids)).set g2.toNat (Core.mk v16.kind v16.id v16.name v16.n v16.ids (Form.mk v16.data.kind v16.data.name (w64 ((w64 (v12.1 + 1)) + 1)) v16.data.scopes v16.data.kids) v16.kids)).set g2.toNat (Core.mk v17.kind v17.id v17.name v17.n v17.ids (Form.mk v17.data.kind v17.data.name v17.data.n v18.2 v17.data.kids) v17.kids)).set g2.toNat (Core.mk v19.kind v19.id v19.name v19.n v19.ids (Form.mk v19.data.kind v19.data.name v19.data.n v19.data.scopes v20.2) v19.kids)).set g2.toNat (Core.mk v21.kind v21.id v21.name v21.n v21.ids v21.data v22.2))) ⟨by first | omega | (dsimp only; omega), hF19⟩
 refine awp_exit (k_seq_exit (k_rnd_exit2 (k_blk_exit (k_seq (awp_seq (awp_region ?_))))))
 refine s_mv ?_
 refine s_as ?_
 refine k_nil (k_seq (awp_ret (k_fin ?_)))
 cases hF2
 exact ends_a _ [] Try.results69
end Go.Abs
