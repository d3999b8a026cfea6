/- A part of the proof: what the functions that the law calls answer, as pure values. -/
import Derived.Test.YtjmfepncipfenaaDoorK9aa6ab23cd97
import Derived.Test.YtjmfepncipfenaaDoorKc8088f81fe82
import Derived.Test.YtjmfepncipfenaaDoorKd09733fbfdbc
import Derived.Test.YtjmfepncipfenaaDoorKe670389e41d4
set_option linter.unusedSimpArgs false
set_option linter.unusedVariables false
set_option maxRecDepth 100000
set_option maxHeartbeats 4000000
namespace Go.Abs
open Go.Proofs
theorem m_laws_heldFormS_all (fuel : Nat) : m_laws_heldFormS_AC fuel := by
 induction fuel using Nat.strongRecOn with
 | _ N ih =>
   cases N with
   | zero => exact (by intro x1 x2 r h; rw [m_laws_heldFormS] at h; cases h)
   | succ fu => exact m_laws_heldFormS_st fu (fun k hk => (ih k (by omega)))
theorem m_laws_heldFormS_ok (fuel : Nat) : m_laws_heldFormS_AC fuel := (m_laws_heldFormS_all fuel)
def m_laws_heldRuleS_AC (fuel : Nat) : Prop := ∀ (x1 : (List Rule)) (x2 : Int) (r : Int), m_laws_heldRuleS fuel x1 x2 = some r → AC Tryd.prog 24 [.t (.sl (x1.map Rule.row)), .t (.sc (.int .i64 x2))] noOb (.t (.sc (.int .i64 r))) noOb
theorem m_laws_heldRuleS_ok (fuel : Nat) : m_laws_heldRuleS_AC fuel := by
 intro x1 x2 r hF0
 unfold m_laws_heldRuleS at hF0
 refine AC_i [.t (.sc (.int .i64 r))] Tryd.func24 rfl Tryd.ntmps24 ?_
 intro C hC
 refine awp_seq (awp_region ?_)
 refine s_as ?_
 refine k_nil (k_seq (awp_seq (awp_seq (awp_region ?_))))
 refine s_as ?_
 refine k_nil (k_seq (awp_block ?_))
 refine awp_fr (β := Int × Int) [1, 4, 5, 6, 7, 8, 9, 10, 11, 12, 13, 14, 15, 16, 17, 18, 19, 20, 21, 22, 23, 24, 25, 26, 27, 28, 29, 30, 31, 32, 33, 34, 35, 36, 37, 38, 39, 40, 41, 42, 43, 44, 45, 46, 47, 48, 49, 50, 51, 52, 53, 54, 55, 56, 57, 58, 59, 60, 61, 62, 63, 64, 65, 66, 67, 68, 69, 70, 71, 72, 73, 74, 75, 76, 77, 78, 79, 80, 81, 82, 83, 84, 85, 86, 87, 88, 89, 90, 91, 92, 93, 94, 95, 96, 97, 98, 99, 100, 101, 102, 103, 104, 105, 106, 107, 108, 109, 110, 111, 112, 113] [] [] (fun a => [(1, .t (.sc (.int .i64 a.2.1))), (5, .t (.sc (.int .i64 a.2.2)))]) (fun a => []) (fun a => a.1 ≤ fuel ∧ m_laws_heldRuleS_l1 a.1 x1 a.2.1 a.2.2 = some r ∧ 0 ≤ a.2.2) (fuel, x2, 0) ⟨Nat.le_refl _, hF0, by simp⟩ ?_
 clear hF0
 rintro ⟨fu, g1, g2⟩ ⟨hl3, hF1, hn_g2⟩
 dsimp only at hl3 hF1 hn_g2 ⊢
 obtain _ | fu := fu
 · rw [m_laws_heldRuleS_l1] at hF1; cases hF1
 rw [m_laws_heldRuleS_l1] at hF1
 refine awp_seq (awp_seq (awp_region ?_))
 refine s_mv ?_
 refine s_mv ?_
 refine s_lenT yU43 ?_
 refine s_lt ?_
 refine k_nil (k_seq ?_)
 refine w_cond hF1 ?_ ?_ <;> intro hc4 hF2
 refine awp_lenT 0 (fun hb5 => ?_)
 refine awp_skip (k_seq (awp_seq (awp_block (awp_seq (awp_seq (awp_region ?_))))))
 refine s_mv ?_
 refine s_mv ?_
 obtain ⟨v6, hv6, hF3⟩ := bind_some' hF2
 refine s_ixT Rule.row hv6 (Rule.row_eq _) yE43 ?_
 refine s_fa yF57_0 ?_
 refine s_fa yF55_0 ?_
 refine s_ld1 yA3 ?_
 refine s_mv ?_
 refine s_ne ?_
 refine k_nil (k_seq ?_)
 refine w_cond hF3 ?_ ?_ <;> intro hc7 hF4
 refine awp_seq (awp_region ?_)
 refine s_as ?_
 refine k_nil (k_seq (awp_ret (k_seq_ret (k_blk_ret (k_seq_ret (k_rnd_ret2 (k_blk_ret (k_seq_ret (k_fin ?_)))))))))
 cases hF4
 exact ends_a [] [] Tryd.results24
 refine awp_skip (k_seq (awp_seq (awp_region ?_)))
 refine s_mv ?_
 refine s_add rfl ?_
 refine s_as ?_
 refine k_nil (k_seq (awp_seq (awp_seq ?_)))
 refine awp_draw yMix (by kernel_rfl) ?_
 refine s_mv ?_
 refine s_mv ?_
 obtain ⟨v8, hv8, hF5⟩ := bind_some' hF4
 refine s_ixT Rule.row hv8 (Rule.row_eq _) yE43 ?_
 refine s_fa yF57_0 ?_
 refine s_fa yF55_1 ?_
 refine s_ld1 yA9 ?_
 refine s_mv ?_
 obtain ⟨v9, hv9, hF6⟩ := bind_some' hF5
 refine s_pure [] (m_laws_markText_D_ok fu _ _ hv9) ?_
 refine s_neS ?_
 refine k_nilD (by kernel_rfl) ?_
 refine k_seq ?_
 refine w_cond hF6 ?_ ?_ <;> intro hc10 hF7
 refine awp_seq (awp_region ?_)
 refine s_as ?_
 refine k_nil (k_seq (awp_ret (k_seq_ret (k_blk_ret (k_seq_ret (k_rnd_ret2 (k_blk_ret (k_seq_ret (k_fin ?_)))))))))
 cases hF7
 exact ends_a [] [] Tryd.results24
 refine awp_skip (k_seq (awp_seq (awp_region ?_)))
 refine s_mv ?_
 refine s_add rfl ?_
 refine s_as ?_
 refine k_nil (k_seq (awp_seq (awp_seq (awp_region ?_))))
 refine s_mv ?_
 refine s_mv ?_
 obtain ⟨v11, hv11, hF8⟩ := bind_some' hF7
 refine s_ixT Rule.row hv11 (Rule.row_eq _) yE43 ?_
 refine s_fa yF57_0 ?_
 refine s_fa yF55_2 ?_
 refine s_ld1 yA3 ?_
 refine s_mv ?_
 refine s_ne ?_
 refine k_nil (k_seq ?_)
 refine w_cond hF8 ?_ ?_ <;> intro hc12 hF9
 refine awp_seq (awp_region ?_)
 refine s_as ?_
 refine k_nil (k_seq (awp_ret (k_seq_ret (k_blk_ret (k_seq_ret (k_rnd_ret2 (k_blk_ret (k_seq_ret (k_fin ?_)))))))))
 cases hF9
 exact ends_a [] [] Tryd.results24
 refine awp_skip (k_seq (awp_seq (awp_region ?_)))
 refine s_mv ?_
 refine s_add rfl ?_
 refine s_as ?_
 refine k_nil (k_seq (awp_seq (awp_region ?_)))
 refine s_mv ?_
 refine s_mv ?_
 obtain ⟨v13, hv13, hF10⟩ := bind_some' hF9
 refine s_ixT Rule.row hv13 (Rule.row_eq _) yE43 ?_
 refine s_fa yF57_0 ?_
 refine s_fa yF55_3 ?_
 refine s_ld1 yA32 ?_
 refine s_mv ?_
 obtain ⟨v14, hv14, hF11⟩ := bind_some' hF10
 refine s_pure [] (m_laws_heldIntS_ok fu _ _ _ hv14) ?_
 refine s_as ?_
 refine k_nil (k_seq (awp_seq (awp_seq (awp_region ?_))))
 refine s_mv ?_
 refine s_lt ?_
 refine k_nil (k_seq ?_)
 refine w_cond hF11 ?_ ?_ <;> intro hc15 hF12
 refine awp_seq (awp_region ?_)
 refine s_as ?_
 refine k_nil (k_seq (awp_ret (k_seq_ret (k_blk_ret (k_seq_ret (k_rnd_ret2 (k_blk_ret (k_seq_ret (k_fin ?_)))))))))
 cases hF12
 exact ends_a [] [] Tryd.results24
 refine awp_skip (k_seq (awp_seq (awp_region ?_)))
 refine s_mv ?_
 refine s_mv ?_
 obtain ⟨v16, hv16, hF13⟩ := bind_some' hF12
 refine s_ixT Rule.row hv16 (Rule.row_eq _) yE43 ?_
 refine s_fa yF57_0 ?_
 refine s_fa yF55_4 ?_
 refine s_ld1 yA42 ?_
 refine s_mv ?_
 obtain ⟨v17, hv17, hF14⟩ := bind_some' hF13
 refine s_pure [] (m_laws_heldFormS_ok fu _ _ _ hv17) ?_
 refine s_as ?_
 refine k_nil (k_seq (awp_seq (awp_seq (awp_region ?_))))
 refine s_mv ?_
 refine s_lt ?_
 refine k_nil (k_seq ?_)
 refine w_cond hF14 ?_ ?_ <;> intro hc18 hF15
 refine awp_seq (awp_region ?_)
 refine s_as ?_
 refine k_nil (k_seq (awp_ret (k_seq_ret (k_blk_ret (k_seq_ret (k_rnd_ret2 (k_blk_ret (k_seq_ret (k_fin ?_)))))))))
 cases hF15
 exact ends_a [] [] Tryd.results24
 refine awp_skip (k_seq (awp_seq (awp_seq (awp_region ?_))))
 refine s_mv ?_
 refine s_mv ?_
 obtain ⟨v19, hv19, hF16⟩ := bind_some' hF15
 refine s_ixT Rule.row hv19 (Rule.row_eq _) yE43 ?_
 refine s_fa yF57_1 ?_
 refine s_fa yF55_0 ?_
 refine s_ld1 yA3 ?_
 refine s_mv ?_
 refine s_ne ?_
 refine k_nil (k_seq ?_)
 refine w_cond hF16 ?_ ?_ <;> intro hc20 hF17
 refine awp_seq (awp_region ?_)
 refine s_as ?_
 refine k_nil (k_seq (awp_ret (k_seq_ret (k_blk_ret (k_seq_ret (k_rnd_ret2 (k_blk_ret (k_seq_ret (k_fin ?_)))))))))
 cases hF17
 exact ends_a [] [] Tryd.results24
 refine awp_skip (k_seq (awp_seq (awp_region ?_)))
 refine s_mv ?_
 refine s_add rfl ?_
 refine s_as ?_
 refine k_nil (k_seq (awp_seq (awp_seq ?_)))
 refine awp_draw yMix (by kernel_rfl) ?_
 refine s_mv ?_
 refine s_mv ?_
 obtain ⟨v21, hv21, hF18⟩ := bind_some' hF17
 refine s_ixT Rule.row hv21 (Rule.row_eq _) yE43 ?_
 refine s_fa yF57_1 ?_
 refine s_fa yF55_1 ?_
 refine s_ld1 yA9 ?_
 refine s_mv ?_
 obtain ⟨v22, hv22, hF19⟩ := bind_some' hF18
 refine s_pure [] (m_laws_markText_D_ok fu _ _ hv22) ?_
 refine s_neS ?_
 refine k_nilD (by kernel_rfl) ?_
 refine k_seq ?_
 refine w_cond hF19 ?_ ?_ <;> intro hc23 hF20
 refine awp_seq (awp_region ?_)
 refine s_as ?_
 refine k_nil (k_seq (awp_ret (k_seq_ret (k_blk_ret (k_seq_ret (k_rnd_ret2 (k_blk_ret (k_seq_ret (k_fin ?_)))))))))
 cases hF20
 exact ends_a [] [] Tryd.results24
 refine awp_skip (k_seq (awp_seq (awp_region ?_)))
 refine s_mv ?_
 refine s_add rfl ?_
 refine s_as ?_
 refine k_nil (k_seq (awp_seq (awp_seq (awp_region ?_))))
 refine s_mv ?_
 refine s_mv ?_
 obtain ⟨v24, hv24, hF21⟩ := bind_some' hF20
 refine s_ixT Rule.row hv24 (Rule.row_eq _) yE43 ?_
 refine s_fa yF57_1 ?_
 refine s_fa yF55_2 ?_
 refine s_ld1 yA3 ?_
 refine s_mv ?_
 refine s_ne ?_
 refine k_nil (k_seq ?_)
 refine w_cond hF21 ?_ ?_ <;> intro hc25 hF22
 refine awp_seq (awp_region ?_)
 refine s_as ?_
 refine k_nil (k_seq (awp_ret (k_seq_ret (k_blk_ret (k_seq_ret (k_rnd_ret2 (k_blk_ret (k_seq_ret (k_fin ?_)))))))))
 cases hF22
 exact ends_a [] [] Tryd.results24
 refine awp_skip (k_seq (awp_seq (awp_region ?_)))
 refine s_mv ?_
 refine s_add rfl ?_
 refine s_as ?_
 refine k_nil (k_seq (awp_seq (awp_region ?_)))
 refine s_mv ?_
 refine s_mv ?_
 obtain ⟨v26, hv26, hF23⟩ := bind_some' hF22
 refine s_ixT Rule.row hv26 (Rule.row_eq _) yE43 ?_
 refine s_fa yF57_1 ?_
 refine s_fa yF55_3 ?_
 refine s_ld1 yA32 ?_
 refine s_mv ?_
 obtain ⟨v27, hv27, hF24⟩ := bind_some' hF23
 refine s_pure [] (m_laws_heldIntS_ok fu _ _ _ hv27) ?_
 refine s_as ?_
 refine k_nil (k_seq (awp_seq (awp_seq (awp_region ?_))))
 refine s_mv ?_
 refine s_lt ?_
 refine k_nil (k_seq ?_)
 refine w_cond hF24 ?_ ?_ <;> intro hc28 hF25
 refine awp_seq (awp_region ?_)
 refine s_as ?_
 refine k_nil (k_seq (awp_ret (k_seq_ret (k_blk_ret (k_seq_ret (k_rnd_ret2 (k_blk_ret (k_seq_ret (k_fin ?_)))))))))
 cases hF25
 exact ends_a [] [] Tryd.results24
 refine awp_skip (k_seq (awp_seq (awp_region ?_)))
 refine s_mv ?_
 refine s_mv ?_
 obtain ⟨v29, hv29, hF26⟩ := bind_some' hF25
 refine s_ixT Rule.row hv29 (Rule.row_eq _) yE43 ?_
 refine s_fa yF57_1 ?_
 refine s_fa yF55_4 ?_
 refine s_ld1 yA42 ?_
 refine s_mv ?_
 obtain ⟨v30, hv30, hF27⟩ := bind_some' hF26
 refine s_pure [] (m_laws_heldFormS_ok fu _ _ _ hv30) ?_
 refine s_as ?_
 refine k_nil (k_seq (awp_seq (awp_region ?_)))
 refine s_mv ?_
 refine s_lt ?_
 refine k_nil (k_seq ?_)
 refine w_cond hF27 ?_ ?_ <;> intro hc31 hF28
 refine awp_seq (awp_region ?_)
 refine s_as ?_
 refine k_nil (k_seq (awp_ret (k_blk_ret (k_seq_ret (k_rnd_ret2 (k_blk_ret (k_seq_ret (k_fin ?_))))))))
 cases hF28
 exact ends_a [] [] Tryd.results24
 refine awp_skip (k_blk (k_seq (awp_region ?_)))
 refine s_mv ?_
 refine s_add (winc2 hc4 hb5 hn_g2) ?_
 refine s_as ?_
 refine k_nil ?_
 exact s_rn (fu, v30, (g2 + 1)) ⟨by first | omega | (dsimp only; omega), hF28, by first | omega | (dsimp only; omega)⟩
 refine awp_exit (k_seq_exit (k_rnd_exit2 (k_blk_exit (k_seq (awp_seq (awp_region ?_))))))
 refine s_mv ?_
 refine s_as ?_
 refine k_nil (k_seq (awp_ret (k_fin ?_)))
 cases hF2
 exact ends_a [] [] Tryd.results24
def m_laws_heldMacroS_AC (fuel : Nat) : Prop := ∀ (x1 : (List Macro)) (x2 : Int) (r : Int), m_laws_heldMacroS fuel x1 x2 = some r → AC Tryd.prog 15 [.t (.sl (x1.map Macro.row)), .t (.sc (.int .i64 x2))] noOb (.t (.sc (.int .i64 r))) noOb
theorem m_laws_heldMacroS_ok (fuel : Nat) : m_laws_heldMacroS_AC fuel := by
 intro x1 x2 r hF0
 unfold m_laws_heldMacroS at hF0
 refine AC_i [.t (.sc (.int .i64 r))] Tryd.func15 rfl Tryd.ntmps15 ?_
 intro C hC
 refine awp_seq (awp_region ?_)
 refine s_as ?_
 refine k_nil (k_seq (awp_seq (awp_seq (awp_region ?_))))
 refine s_as ?_
 refine k_nil (k_seq (awp_block ?_))
 refine awp_fr (β := Int × Int) [1, 4, 5, 6, 7, 8, 9, 10, 11, 12, 13, 14, 15, 16, 17, 18, 19, 20, 21, 22, 23, 24, 25, 26, 27, 28, 29, 30, 31, 32, 33, 34, 35, 36, 37, 38] [] [] (fun a => [(1, .t (.sc (.int .i64 a.2.1))), (5, .t (.sc (.int .i64 a.2.2)))]) (fun a => []) (fun a => a.1 ≤ fuel ∧ m_laws_heldMacroS_l1 a.1 x1 a.2.1 a.2.2 = some r ∧ 0 ≤ a.2.2) (fuel, x2, 0) ⟨Nat.le_refl _, hF0, by simp⟩ ?_
 clear hF0
 rintro ⟨fu, g1, g2⟩ ⟨hl3, hF1, hn_g2⟩
 dsimp only at hl3 hF1 hn_g2 ⊢
 obtain _ | fu := fu
 · rw [m_laws_heldMacroS_l1] at hF1; cases hF1
 rw [m_laws_heldMacroS_l1] at hF1
 refine awp_seq (awp_seq (awp_region ?_))
 refine s_mv ?_
 refine s_mv ?_
 refine s_lenT yU23 ?_
 refine s_lt ?_
 refine k_nil (k_seq ?_)
 refine w_cond hF1 ?_ ?_ <;> intro hc4 hF2
 refine awp_lenT 0 (fun hb5 => ?_)
 refine awp_skip (k_seq (awp_seq (awp_block (awp_seq (awp_seq (awp_region ?_))))))
 refine s_mv ?_
 refine s_mv ?_
 obtain ⟨v6, hv6, hF3⟩ := bind_some' hF2
 refine s_ixT Macro.row hv6 (Macro.row_eq _) yE23 ?_
 refine s_fa yF45_0 ?_
 refine s_ld1 yA3 ?_
 refine s_mv ?_
 refine s_ne ?_
 refine k_nil (k_seq ?_)
 refine w_cond hF3 ?_ ?_ <;> intro hc7 hF4
 refine awp_seq (awp_region ?_)
 refine s_as ?_
 refine k_nil (k_seq (awp_ret (k_seq_ret (k_blk_ret (k_seq_ret (k_rnd_ret2 (k_blk_ret (k_seq_ret (k_fin ?_)))))))))
 cases hF4
 exact ends_a [] [] Tryd.results15
 refine awp_skip (k_seq (awp_seq (awp_region ?_)))
 refine s_mv ?_
 refine s_add rfl ?_
 refine s_as ?_
 refine k_nil (k_seq (awp_seq (awp_region ?_)))
 refine s_mv ?_
 refine s_mv ?_
 obtain ⟨v8, hv8, hF5⟩ := bind_some' hF4
 refine s_ixT Macro.row hv8 (Macro.row_eq _) yE23 ?_
 refine s_fa yF45_1 ?_
 refine s_ld1 yA42 ?_
 refine s_mv ?_
 obtain ⟨v9, hv9, hF6⟩ := bind_some' hF5
 refine s_pure [] (m_laws_heldFormS_ok fu _ _ _ hv9) ?_
 refine s_as ?_
 refine k_nil (k_seq (awp_seq (awp_seq (awp_region ?_))))
 refine s_mv ?_
 refine s_lt ?_
 refine k_nil (k_seq ?_)
 refine w_cond hF6 ?_ ?_ <;> intro hc10 hF7
 refine awp_seq (awp_region ?_)
 refine s_as ?_
 refine k_nil (k_seq (awp_ret (k_seq_ret (k_blk_ret (k_seq_ret (k_rnd_ret2 (k_blk_ret (k_seq_ret (k_fin ?_)))))))))
 cases hF7
 exact ends_a [] [] Tryd.results15
 refine awp_skip (k_seq (awp_seq (awp_region ?_)))
 refine s_mv ?_
 refine s_mv ?_
 obtain ⟨v11, hv11, hF8⟩ := bind_some' hF7
 refine s_ixT Macro.row hv11 (Macro.row_eq _) yE23 ?_
 refine s_fa yF45_2 ?_
 refine s_ld1 yA43 ?_
 refine s_mv ?_
 obtain ⟨v12, hv12, hF9⟩ := bind_some' hF8
 refine s_pure [] (m_laws_heldRuleS_ok fu _ _ _ hv12) ?_
 refine s_as ?_
 refine k_nil (k_seq (awp_seq (awp_region ?_)))
 refine s_mv ?_
 refine s_lt ?_
 refine k_nil (k_seq ?_)
 refine w_cond hF9 ?_ ?_ <;> intro hc13 hF10
 refine awp_seq (awp_region ?_)
 refine s_as ?_
 refine k_nil (k_seq (awp_ret (k_blk_ret (k_seq_ret (k_rnd_ret2 (k_blk_ret (k_seq_ret (k_fin ?_))))))))
 cases hF10
 exact ends_a [] [] Tryd.results15
 refine awp_skip (k_blk (k_seq (awp_region ?_)))
 refine s_mv ?_
 refine s_add (winc2 hc4 hb5 hn_g2) ?_
 refine s_as ?_
 refine k_nil ?_
 exact s_rn (fu, v12, (g2 + 1)) ⟨by first | omega | (dsimp only; omega), hF10, by first | omega | (dsimp only; omega)⟩
 refine awp_exit (k_seq_exit (k_rnd_exit2 (k_blk_exit (k_seq (awp_seq (awp_region ?_))))))
 refine s_mv ?_
 refine s_as ?_
 refine k_nil (k_seq (awp_ret (k_fin ?_)))
 cases hF2
 exact ends_a [] [] Tryd.results15
def m_laws_heldExpansion_AC (fuel : Nat) : Prop := ∀ (x1 : Expansion) (x2 : Int) (r : Int), m_laws_heldExpansion fuel x1 x2 = some r → AC Tryd.prog 8 [.ag [.t (.sl (x1.binds.map Bind.row)), .t (.sl (x1.macros.map Macro.row)), .t (.sc (.int .i64 x1.scope)), .t (.sc (.int .i64 x1.id)), .t (.sc (.int .i64 x1.steps))], .t (.sc (.int .i64 x2))] noOb (.t (.sc (.int .i64 r))) noOb
theorem m_laws_heldExpansion_ok (fuel : Nat) : m_laws_heldExpansion_AC fuel := by
 intro x1 x2 r hF0
 unfold m_laws_heldExpansion at hF0
 refine AC_i [.t (.sc (.int .i64 r))] Tryd.func8 rfl Tryd.ntmps8 ?_
 intro C hC
 refine awp_seq (awp_region ?_)
 refine s_box ?_
 refine s_as ?_
 refine k_nil (k_seq (awp_seq (awp_region ?_)))
 refine s_fa yF25_0 ?_
 refine s_ld1 yA22 ?_
 refine s_mv ?_
 obtain ⟨v1, hv1, hF1⟩ := bind_some' hF0
 refine s_pure [] (m_laws_heldBindS_ok fuel _ _ _ hv1) ?_
 refine s_as ?_
 refine k_nil (k_seq (awp_seq (awp_seq (awp_region ?_))))
 refine s_mv ?_
 refine s_lt ?_
 refine k_nil (k_seq ?_)
 refine w_cond hF1 ?_ ?_ <;> intro hc2 hF2
 refine awp_seq (awp_region ?_)
 refine s_as ?_
 refine k_nil (k_seq (awp_ret (k_seq_ret (k_fin ?_))))
 cases hF2
 exact ends_a [] [] Tryd.results8
 refine awp_skip (k_seq (awp_seq (awp_region ?_)))
 refine s_fa yF25_1 ?_
 refine s_ld1 yA23 ?_
 refine s_mv ?_
 obtain ⟨v3, hv3, hF3⟩ := bind_some' hF2
 refine s_pure [] (m_laws_heldMacroS_ok fuel _ _ _ hv3) ?_
 refine s_as ?_
 refine k_nil (k_seq (awp_seq (awp_seq (awp_region ?_))))
 refine s_mv ?_
 refine s_lt ?_
 refine k_nil (k_seq ?_)
 refine w_cond hF3 ?_ ?_ <;> intro hc4 hF4
 refine awp_seq (awp_region ?_)
 refine s_as ?_
 refine k_nil (k_seq (awp_ret (k_seq_ret (k_fin ?_))))
 cases hF4
 exact ends_a [] [] Tryd.results8
 refine awp_skip (k_seq (awp_seq (awp_region ?_)))
 refine s_mv ?_
 refine s_as ?_
 refine k_nil (k_seq (awp_ret (k_fin ?_)))
 cases hF4
 exact ends_a [] [] Tryd.results8
def m_impl_StartExpansion_AC (fuel : Nat) : Prop := ∀  (r : Expansion), m_impl_StartExpansion fuel  = some r → AC Tryd.prog 5 [] noOb (.ag [.t (.sl (r.binds.map Bind.row)), .t (.sl (r.macros.map Macro.row)), .t (.sc (.int .i64 r.scope)), .t (.sc (.int .i64 r.id)), .t (.sc (.int .i64 r.steps))]) noOb
theorem m_impl_StartExpansion_ok (fuel : Nat) : m_impl_StartExpansion_AC fuel := by
 intro  r hF0
 unfold m_impl_StartExpansion at hF0
 refine AC_i [.ag [.t (.sl (r.binds.map Bind.row)), .t (.sl (r.macros.map Macro.row)), .t (.sc (.int .i64 r.scope)), .t (.sc (.int .i64 r.id)), .t (.sc (.int .i64 r.steps))]] Tryd.func5 rfl Tryd.ntmps5 ?_
 intro C hC
 refine awp_seq (awp_region ?_)
 refine s_alloc yZ25 ?_
 refine k_nil (k_seq (awp_seq (awp_region ?_)))
 refine s_bld yZ25 yL25 ?_
 refine s_alloc yZ25 ?_
 refine s_stW yS25 ?_
 refine k_nil (k_seq (awp_seq (awp_seq (awp_region ?_))))
 refine s_ldG yG0 yA35 yS35 ?_
 refine s_mv ?_
 refine k_nil (k_seq (awp_block ?_))
 refine awp_ownB 1 5020 34 [.ar 5020, .nl, .t (.sc (.int .i64 0)), .t (.sc (.int .i64 10)), .t (.sc (.int .i64 0))] yI34.choose_spec ?_
 refine awp_frame2 [2, 3, 6, 7, 8, 9, 10, 11, 12, 13, 14, 15, 16, 17, 18, 19] [1, 5020] [16, 17] [5020] (fun a : Nat × Int × (List Bind) => a.1) (fun a : Nat × Int × (List Bind) => [(6, .t (.sc (.int .i64 a.2.1)))]) (fun a : Nat × Int × (List Bind) => [(1, .box [.ar 5020, .nl, .t (.sc (.int .i64 0)), .t (.sc (.int .i64 10)), .t (.sc (.int .i64 0))]), (5020, .arr (a.2.2.map Bind.row) 34 true)]) (fun a : Nat × Int × (List Bind) => a.1 ≤ fuel ∧ m_impl_StartExpansion_l1 a.1  a.2.1 a.2.2 = some r) (fuel, 0, ([] : List Bind)) ⟨Nat.le_refl _, hF0⟩ (by rfl) (by rfl) (fun _ => rfl) (hasF_cons (by conv => lhs; whnf) (by rfl) hasF_nil) (hasO_cons (by conv => lhs; whnf) (by rfl) (hasO_cons (by conv => lhs; whnf) (by rfl) hasO_nil)) (fresh_C hC rfl) (by repeat (first | exact freshS_args rfl | refine freshS_upd rfl ?_ | refine freshS_frame rfl ?_)) (by repeat (first | exact freshM_no | exact objs_fresh rfl | refine freshM_upd rfl ?_ | refine freshM_frame rfl ?_)) ?_
 clear hF0
 rintro ⟨fu, g1, g2⟩ ⟨hl3, hF1⟩
 dsimp only at hl3 hF1 ⊢
 obtain _ | fu := fu
 · rw [m_impl_StartExpansion_l1] at hF1; cases hF1
 rw [m_impl_StartExpansion_l1] at hF1
 refine awp_seq (awp_region ?_)
 refine s_lt ?_
 refine k_nil (k_seq (awp_seq ?_))
 refine w_cond hF1 ?_ ?_ <;> intro hc4 hF2
 refine awp_skip (k_seq (awp_seq (awp_block (awp_seq (awp_region ?_)))))
 refine s_mv ?_
 obtain ⟨v5, hv5, hF3⟩ := bind_some' hF2
 refine s_ixG hv5 yU35 yA9 yS9 ?_
 refine s_as ?_
 refine s_as ?_
 refine k_nil (k_seq (awp_region ?_))
 refine s_fa yF25_0 ?_
 refine s_ld1 yA22 ?_
 refine s_mv ?_
 refine s_mv ?_
 refine s_add rfl ?_
 refine s_bld yZ34 yL34 ?_
 refine s_bs Bind.row [(Bind.mk v5 ([] : List Int) (w64 (g1 + 1)))] yP22 yR34 ?_
 obtain ⟨hk6, hF4⟩ := chk_some hF3
 refine s_apT Bind.row (fun y => Bind.row_len y) hk6 yP22 ?_
 refine s_fa yF25_0 ?_
 refine s_stP yS22 ?_
 refine k_nil (k_blk (k_seq (awp_region ?_)))
 refine s_add rfl ?_
 refine s_mv ?_
 refine k_nil ?_
 exact s_rn (fu, (w64 (g1 + 1)), (g2 ++ [(Bind.mk v5 ([] : List Int) (w64 (g1 + 1)))])) ⟨by first | omega | (dsimp only; omega), hF4⟩ [(5020, 17)]
 refine awp_exit (k_seq_exit (k_rnd_exit2 (k_blk_exit (k_seq (awp_seq (awp_region ?_))))))
 refine s_ldW yA25 yS25 ?_
 refine s_stW yS25 ?_
 refine k_nil (k_seq (awp_ret (k_fin ?_)))
 cases hF2
 exact ends_gen [] [5020] (by rw [Tryd.results5]; exact (res_agg (by conv => lhs; whnf) (by conv => lhs; whnf) yA25 yS25 rfl res_nil))
def m_laws_FnExactStartExpansion_AC (fuel : Nat) : Prop := ∀  (r : Bool), m_laws_FnExactStartExpansion fuel  = some r → AC Tryd.prog 3 [] noOb (.t (.sc (.bool r))) noOb
theorem m_laws_FnExactStartExpansion_ok (fuel : Nat) : m_laws_FnExactStartExpansion_AC fuel := by
 intro  r hF0
 unfold m_laws_FnExactStartExpansion at hF0
 refine AC_i [.t (.sc (.bool r))] Tryd.func3 rfl Tryd.ntmps3 ?_
 intro C hC
 refine awp_seq (awp_region ?_)
 refine s_as ?_
 refine k_nil (k_seq (awp_seq (awp_region ?_)))
 obtain ⟨v1, hv1, hF1⟩ := bind_some' hF0
 refine s_pure [] (m_spec_StartExpansion_ok fuel _ hv1) ?_
 refine s_alloc yZ25 ?_
 refine s_stW yS25 ?_
 refine k_nil (k_seq (awp_seq (awp_region ?_)))
 obtain ⟨v2, hv2, hF2⟩ := bind_some' hF1
 refine s_call [(9200, 2007), (9201, 12007)] [] _ _ (m_impl_StartExpansion_D_ok fuel _ hv2) ?_
 refine s_alloc yZ25 ?_
 refine s_stW yS25 ?_
 refine k_nil (k_seq (awp_seq (awp_seq (awp_region ?_))))
 refine s_ldW yA25 yS25 ?_
 refine s_ldW yA25 yS25 ?_
 obtain ⟨v3, hv3, hF3⟩ := bind_some' hF2
 refine s_call [(9700, 2007), (9701, 12007)] [] [(9700, .dar (v2.binds.map (Bind.rowD 3)) 34), (9701, .dar (v2.macros.map (Macro.rowD 3 55 57)) 45)] [(9700, .dar (v2.binds.map (Bind.rowD 3)) 34), (9701, .dar (v2.macros.map (Macro.rowD 3 55 57)) 45)] (ac_lend (args := [.ag [.ar 9700, .ar 9701, .t (.sc (.int .i64 v2.scope)), .t (.sc (.int .i64 v2.id)), .t (.sc (.int .i64 v2.steps))], .ag [.t (.sl (v1.binds.map Bind.row)), .t (.sl (v1.macros.map Macro.row)), .t (.sc (.int .i64 v1.scope)), .t (.sc (.int .i64 v1.id)), .t (.sc (.int .i64 v1.steps))]]) [(9700, .dar (v2.binds.map (Bind.rowD 3)) 34), (9701, .dar (v2.macros.map (Macro.rowD 3 55 57)) 45)] [] (m_laws_eqExpansion_ok fuel _ _ _ hv3) rfl (by simp only [V.lendL, V.lend, objs_cons, objs_nil, Nat.reduceEqDiff, reduceIte, if_true, if_false, Form.lendM, Core.lendM, Hit.lendM, Rule.lendM, Bind.lendM, Macro.lendM]; try rfl) (by rfl) (by rfl) (by rfl) (by rfl) (by simp only [List.all_cons, List.all_nil, Ob.flat, flat_rI, flat_rS, Form.flatM, Core.flatM, Hit.flatM, Rule.flatM, Bind.flatM, Macro.flatM, Bool.and_self, Bool.true_and]) (by rfl)) ?_
 refine s_not ?_
 refine k_nil (k_seq ?_)
 refine w_cond hF3 ?_ ?_ <;> intro hc4 hF4
 refine awp_seq (awp_region ?_)
 refine s_as ?_
 refine k_nil (k_seq (awp_ret (k_seq_ret (k_fin ?_))))
 cases hF4
 exact ends_a [] [] Tryd.results3
 refine awp_skip (k_seq (awp_seq (awp_region ?_)))
 refine s_as ?_
 refine k_nil (k_seq (awp_seq (awp_region ?_)))
 refine s_ldW yA25 yS25 ?_
 refine s_mv ?_
 obtain ⟨v5, hv5, hF5⟩ := bind_some' hF4
 refine s_call [(9300, 2007), (9301, 12007)] [] _ _ (m_laws_markExpansion_D_ok fuel _ _ _ hv5) ?_
 refine s_as ?_
 refine k_nil (k_seq (awp_seq (awp_region ?_)))
 refine s_as ?_
 refine k_nil (k_seq (awp_seq (awp_region ?_)))
 refine s_ldW yA25 yS25 ?_
 refine s_mv ?_
 obtain ⟨v6, hv6, hF6⟩ := bind_some' hF5
 refine s_call [(9700, 2007), (9701, 12007)] [] [(9700, .dar (v5.2.1.map (Bind.rowD 3)) 34), (9701, .dar (v5.2.2.map (Macro.rowD 3 55 57)) 45)] [(9700, .dar (v5.2.1.map (Bind.rowD 3)) 34), (9701, .dar (v5.2.2.map (Macro.rowD 3 55 57)) 45)] (ac_lend (args := [.ag [.ar 9700, .ar 9701, .t (.sc (.int .i64 v2.scope)), .t (.sc (.int .i64 v2.id)), .t (.sc (.int .i64 v2.steps))], .t (.sc (.int .i64 1))]) [(9700, .dar (v5.2.1.map (Bind.rowD 3)) 34), (9701, .dar (v5.2.2.map (Macro.rowD 3 55 57)) 45)] [] (m_laws_heldExpansion_ok fuel _ _ _ hv6) rfl (by simp only [V.lendL, V.lend, objs_cons, objs_nil, Nat.reduceEqDiff, reduceIte, if_true, if_false, Form.lendM, Core.lendM, Hit.lendM, Rule.lendM, Bind.lendM, Macro.lendM]; try rfl) (by rfl) (by rfl) (by rfl) (by rfl) (by simp only [List.all_cons, List.all_nil, Ob.flat, flat_rI, flat_rS, Form.flatM, Core.flatM, Hit.flatM, Rule.flatM, Bind.flatM, Macro.flatM, Bool.and_self, Bool.true_and]) (by rfl)) ?_
 refine s_as ?_
 refine k_nil (k_seq (awp_seq (awp_seq (awp_region ?_))))
 refine s_mv ?_
 refine s_lt ?_
 refine k_nil (k_seq ?_)
 refine w_cond hF6 ?_ ?_ <;> intro hc7 hF7
 refine awp_seq (awp_region ?_)
 refine s_as ?_
 refine k_nil (k_seq (awp_ret (k_seq_ret (k_fin ?_))))
 cases hF7
 exact ends_a [] [] Tryd.results3
 refine awp_skip (k_seq (awp_seq (awp_seq (awp_region ?_))))
 refine s_mv ?_
 refine s_mv ?_
 refine s_ne ?_
 refine k_nil (k_seq ?_)
 refine w_cond hF7 ?_ ?_ <;> intro hc8 hF8
 refine awp_seq (awp_region ?_)
 refine s_as ?_
 refine k_nil (k_seq (awp_ret (k_seq_ret (k_fin ?_))))
 cases hF8
 exact ends_a [] [] Tryd.results3
 refine awp_skip (k_seq (awp_seq (awp_region ?_)))
 obtain ⟨v9, hv9, hF9⟩ := bind_some' hF8
 refine s_pure [] (m_impl_StartExpansion_ok fuel _ hv9) ?_
 refine s_alloc yZ25 ?_
 refine s_stW yS25 ?_
 refine k_nil (k_seq (awp_seq (awp_seq (awp_region ?_))))
 refine s_ldW yA25 yS25 ?_
 refine s_ldW yA25 yS25 ?_
 obtain ⟨v10, hv10, hF10⟩ := bind_some' hF9
 refine s_pure [] (m_laws_eqExpansion_ok fuel _ _ _ hv10) ?_
 refine s_not ?_
 refine k_nil (k_seq ?_)
 refine w_cond hF10 ?_ ?_ <;> intro hc11 hF11
 refine awp_seq (awp_region ?_)
 refine s_as ?_
 refine k_nil (k_seq (awp_ret (k_seq_ret (k_fin ?_))))
 cases hF11
 exact ends_a [] [] Tryd.results3
 refine awp_skip (k_seq (awp_seq (awp_region ?_)))
 refine s_as ?_
 refine k_nil (k_seq (awp_seq (awp_region ?_)))
 refine s_ldW yA25 yS25 ?_
 refine s_mv ?_
 obtain ⟨v12, hv12, hF12⟩ := bind_some' hF11
 refine s_call [(9700, 2007), (9701, 12007)] [] [(9700, .dar (v5.2.1.map (Bind.rowD 3)) 34), (9701, .dar (v5.2.2.map (Macro.rowD 3 55 57)) 45)] [(9700, .dar (v5.2.1.map (Bind.rowD 3)) 34), (9701, .dar (v5.2.2.map (Macro.rowD 3 55 57)) 45)] (ac_lend (args := [.ag [.ar 9700, .ar 9701, .t (.sc (.int .i64 v2.scope)), .t (.sc (.int .i64 v2.id)), .t (.sc (.int .i64 v2.steps))], .t (.sc (.int .i64 1))]) [(9700, .dar (v5.2.1.map (Bind.rowD 3)) 34), (9701, .dar (v5.2.2.map (Macro.rowD 3 55 57)) 45)] [] (m_laws_heldExpansion_ok fuel _ _ _ hv12) rfl (by simp only [V.lendL, V.lend, objs_cons, objs_nil, Nat.reduceEqDiff, reduceIte, if_true, if_false, Form.lendM, Core.lendM, Hit.lendM, Rule.lendM, Bind.lendM, Macro.lendM]; try rfl) (by rfl) (by rfl) (by rfl) (by rfl) (by simp only [List.all_cons, List.all_nil, Ob.flat, flat_rI, flat_rS, Form.flatM, Core.flatM, Hit.flatM, Rule.flatM, Bind.flatM, Macro.flatM, Bool.and_self, Bool.true_and]) (by rfl)) ?_
 refine s_as ?_
 refine k_nil (k_seq (awp_seq (awp_seq (awp_region ?_))))
 refine s_mv ?_
 refine s_lt ?_
 refine k_nil (k_seq ?_)
 refine w_cond hF12 ?_ ?_ <;> intro hc13 hF13
 refine awp_seq (awp_region ?_)
 refine s_as ?_
 refine k_nil (k_seq (awp_ret (k_seq_ret (k_fin ?_))))
 cases hF13
 exact ends_a [] [] Tryd.results3
 refine awp_skip (k_seq (awp_seq (awp_seq (awp_region ?_))))
 refine s_mv ?_
 refine s_mv ?_
 refine s_ne ?_
 refine k_nil (k_seq ?_)
 refine w_cond hF13 ?_ ?_ <;> intro hc14 hF14
 refine awp_seq (awp_region ?_)
 refine s_as ?_
 refine k_nil (k_seq (awp_ret (k_seq_ret (k_fin ?_))))
 cases hF14
 exact ends_a [] [] Tryd.results3
 refine awp_skip (k_seq (awp_seq (awp_region ?_)))
 refine s_as ?_
 refine k_nil (k_seq (awp_ret (k_fin ?_)))
 cases hF14
 exact ends_a [] [] Tryd.results3
end Go.Abs
