/- A part of the proof: what the functions that the law calls answer, as pure values. -/
import Derived.Test.YtidbdmpbcpanjaaGreatDoorK10a31c29eeb6
import Derived.Test.YtidbdmpbcpanjaaGreatDoorK3aa03bdccf4b
import Derived.Test.YtidbdmpbcpanjaaGreatDoorKcff3435a29be
set_option linter.unusedSimpArgs false
set_option linter.unusedVariables false
set_option maxRecDepth 100000
set_option maxHeartbeats 4000000
namespace Go.Abs
open Go.Proofs
def m_spec_NameValid_AC (fuel : Nat) : Prop := ∀ (x1 : ByteArray) (r : Bool), m_spec_NameValid fuel x1 = some r → AC Tryz.prog 44 [.t (.sc (.str x1))] noOb (.t (.sc (.bool r))) noOb
theorem m_spec_NameValid_ok (fuel : Nat) : m_spec_NameValid_AC fuel := by
 intro x1 r hF0
 unfold m_spec_NameValid at hF0
 refine AC_i [.t (.sc (.bool r))] Tryz.func44 rfl Tryz.ntmps44 ?_
 intro C hC
 refine awp_seq (awp_region ?_)
 refine s_as ?_
 refine k_nil (k_seq (awp_seq (awp_seq (awp_region ?_))))
 refine s_mv ?_
 refine s_eqS ?_
 refine s_mv ?_
 refine w_guard _ 6 hF0 ?_ ?_ <;> intro hc1 hF1
 refine r_no rfl (r_no rfl ?_)
 refine s_pkt ?_
 refine k_nil (k_seq (awp_true rfl (awp_seq (awp_region ?_))))
 refine s_as ?_
 refine k_nil (k_seq (awp_ret (k_seq_ret (k_fin ?_))))
 cases hF1
 exact ends_a [] [] Tryz.results44
 refine s_mv ?_
 refine s_eqS ?_
 refine s_pkf ?_
 refine k_nil (k_seq ?_)
 refine w_cond hF1 ?_ ?_ <;> intro hc2 hF2
 refine awp_seq (awp_region ?_)
 refine s_as ?_
 refine k_nil (k_seq (awp_ret (k_seq_ret (k_fin ?_))))
 cases hF2
 exact ends_a [] [] Tryz.results44
 refine awp_skip (k_seq (awp_seq (awp_seq (awp_region ?_))))
 refine s_as ?_
 refine k_nil (k_seq (awp_block ?_))
 refine awp_fr (β := Int) [2, 3, 10, 11, 12, 13, 14, 15, 16, 17, 18, 19, 20, 21, 22, 23, 24, 25, 26] [] [] (fun a => [(3, .t (.sc (.int .i64 a.2)))]) (fun a => []) (fun a => a.1 ≤ fuel ∧ m_spec_NameValid_l1 a.1 x1 a.2 = some r) (fuel, 0) ⟨Nat.le_refl _, hF2⟩ ?_
 clear hF2
 rintro ⟨fu, g3⟩ ⟨hl4, hF3⟩
 dsimp only at hl4 hF3 ⊢
 obtain _ | fu := fu
 · rw [m_spec_NameValid_l1] at hF3; cases hF3
 rw [m_spec_NameValid_l1] at hF3
 refine awp_seq (awp_seq (awp_region ?_))
 refine s_mv ?_
 refine s_mv ?_
 refine s_lenS yU9 ?_
 refine s_lt ?_
 refine s_mv ?_
 refine w_guard _ 14 hF3 ?_ ?_ <;> intro hc5 hF4
 refine s_mv ?_
 refine s_le ?_
 refine s_pkt ?_
 refine k_nil (k_seq ?_)
 refine w_cond hF4 ?_ ?_ <;> intro hc6 hF5
 refine awp_skip (k_seq (awp_seq (awp_block (awp_seq (awp_region ?_)))))
 refine s_mv ?_
 refine s_mv ?_
 obtain ⟨v7, hv7, hF6⟩ := bind_some' hF5
 refine s_ixS hv7 yU9 ?_
 refine s_mv ?_
 refine s_eq ?_
 obtain ⟨v8, hv8, hF7⟩ := bind_some' hF6
 refine s_pure [] (m_spec_l1Letter_ok fu _ _ _ hv8) ?_
 refine s_not ?_
 refine k_nil (k_seq ?_)
 refine w_cond hF7 ?_ ?_ <;> intro hc9 hF8
 refine awp_seq (awp_region ?_)
 refine s_as ?_
 refine k_nil (k_seq (awp_ret (k_blk_ret (k_seq_ret (k_rnd_ret2 (k_blk_ret (k_seq_ret (k_fin ?_))))))))
 cases hF8
 exact ends_a [] [] Tryz.results44
 refine awp_skip (k_blk (k_seq (awp_region ?_)))
 refine s_mv ?_
 refine s_add rfl ?_
 refine s_as ?_
 refine k_nil ?_
 exact s_rn (fu, (w64 (g3 + 1))) ⟨by first | omega | (dsimp only; omega), hF8⟩
 refine awp_exit (k_seq_exit (k_rnd_exit2 (k_blk_exit (k_seq (awp_seq (awp_region ?_))))))
 refine s_mv ?_
 refine s_lenS yU9 ?_
 refine s_ge ?_
 refine s_mv ?_
 refine w_guard _ 30 hF5 ?_ ?_ <;> intro hc10 hF6
 refine s_mv ?_
 refine s_lenS yU9 ?_
 refine s_le ?_
 refine s_pkt ?_
 refine s_as ?_
 refine k_nil (k_seq (awp_ret (k_fin ?_)))
 cases hF6
 exact ends_a [] [] Tryz.results44
 iterate 3 refine r_no rfl ?_
 refine s_pkf ?_
 refine s_as ?_
 refine k_nil (k_seq (awp_ret (k_fin ?_)))
 cases hF6
 exact ends_a [] [] Tryz.results44
 refine r_no rfl (r_no rfl ?_)
 refine s_pkf ?_
 refine k_nil (k_seq (awp_false rfl (awp_exit (k_seq_exit (k_rnd_exit2 (k_blk_exit (k_seq (awp_seq (awp_region ?_)))))))))
 refine s_mv ?_
 refine s_lenS yU9 ?_
 refine s_ge ?_
 refine s_mv ?_
 refine w_guard _ 30 hF4 ?_ ?_ <;> intro hc11 hF5
 refine s_mv ?_
 refine s_lenS yU9 ?_
 refine s_le ?_
 refine s_pkt ?_
 refine s_as ?_
 refine k_nil (k_seq (awp_ret (k_fin ?_)))
 cases hF5
 exact ends_a [] [] Tryz.results44
 iterate 3 refine r_no rfl ?_
 refine s_pkf ?_
 refine s_as ?_
 refine k_nil (k_seq (awp_ret (k_fin ?_)))
 cases hF5
 exact ends_a [] [] Tryz.results44
def m_spec_l1Scopes_AC (fuel : Nat) : Prop := ∀ (x1 : (List Int)) (r : Bool), m_spec_l1Scopes fuel x1 = some r → AC Tryz.prog 45 [.t (.sl (x1.map rI))] noOb (.t (.sc (.bool r))) noOb
theorem m_spec_l1Scopes_ok (fuel : Nat) : m_spec_l1Scopes_AC fuel := by
 intro x1 r hF0
 unfold m_spec_l1Scopes at hF0
 refine AC_i [.t (.sc (.bool r))] Tryz.func45 rfl Tryz.ntmps45 ?_
 intro C hC
 refine awp_seq (awp_region ?_)
 refine s_as ?_
 refine k_nil (k_seq (awp_seq (awp_seq (awp_region ?_))))
 refine s_as ?_
 refine k_nil (k_seq (awp_block ?_))
 refine awp_fr (β := Int) [2, 3, 4, 5, 6, 7, 8, 9, 10, 11, 12, 13, 14, 15, 16, 17, 18, 19, 20, 21, 22, 23, 24, 25, 26, 27, 28, 29, 30, 31, 32, 33, 34, 35, 36, 37, 38, 39, 40, 41] [] [] (fun a => [(3, .t (.sc (.int .i64 a.2)))]) (fun a => []) (fun a => a.1 ≤ fuel ∧ m_spec_l1Scopes_l1 a.1 x1 a.2 = some r) (fuel, 0) ⟨Nat.le_refl _, hF0⟩ ?_
 clear hF0
 rintro ⟨fu, g1⟩ ⟨hl2, hF1⟩
 dsimp only at hl2 hF1 ⊢
 obtain _ | fu := fu
 · rw [m_spec_l1Scopes_l1] at hF1; cases hF1
 rw [m_spec_l1Scopes_l1] at hF1
 refine awp_seq (awp_seq (awp_region ?_))
 refine s_mv ?_
 refine s_mv ?_
 refine s_lenT yU23 ?_
 refine s_lt ?_
 refine s_mv ?_
 refine w_guard _ 8 hF1 ?_ ?_ <;> intro hc3 hF2
 refine s_mv ?_
 refine s_le ?_
 refine s_pkt ?_
 refine k_nil (k_seq ?_)
 refine w_cond hF2 ?_ ?_ <;> intro hc4 hF3
 refine awp_skip (k_seq (awp_seq (awp_block (awp_seq ?_))))
 refine awp_draw yMix (by kernel_rfl) ?_
 refine s_mv ?_
 refine s_mv ?_
 obtain ⟨v5, hv5, hF4⟩ := bind_some' hF3
 refine s_ixT rI hv5 rfl yE23 ?_
 refine s_ld1 yA3 ?_
 refine s_lt ?_
 refine s_mv ?_
 refine w_guard _ 19 hF4 ?_ ?_ <;> intro hc6 hF5
 iterate 5 refine r_no rfl ?_
 refine s_pkt ?_
 refine s_mv ?_
 iterate 14 refine r_no rfl ?_
 refine s_pkt ?_
 refine k_nilD (by kernel_rfl) ?_
 refine k_seq (awp_true rfl (awp_seq (awp_region ?_)))
 refine s_as ?_
 refine k_nil (k_seq (awp_ret (k_blk_ret (k_seq_ret (k_rnd_ret2 (k_blk_ret (k_seq_ret (k_fin ?_))))))))
 cases hF5
 exact ends_a [] [] Tryz.results45
 refine s_mv ?_
 refine s_mv ?_
 obtain ⟨v7, hv7, hF6⟩ := bind_some' hF5
 refine s_ixT rI hv7 rfl yE23 ?_
 refine s_ld1 yA3 ?_
 refine s_gt ?_
 refine s_pkf ?_
 refine s_mv ?_
 refine w_guard _ 26 hF6 ?_ ?_ <;> intro hc8 hF7
 iterate 14 refine r_no rfl ?_
 refine s_pkt ?_
 refine k_nilD (by kernel_rfl) ?_
 refine k_seq (awp_true rfl (awp_seq (awp_region ?_)))
 refine s_as ?_
 refine k_nil (k_seq (awp_ret (k_blk_ret (k_seq_ret (k_rnd_ret2 (k_blk_ret (k_seq_ret (k_fin ?_))))))))
 cases hF7
 exact ends_a [] [] Tryz.results45
 refine s_mv ?_
 refine s_gt ?_
 refine s_mv ?_
 refine w_guard _ 29 hF7 ?_ ?_ <;> intro hc9 hF8
 refine s_mv ?_
 refine s_mv ?_
 obtain ⟨v10, hv10, hF9⟩ := bind_some' hF8
 refine s_ixT rI hv10 rfl yE23 ?_
 refine s_ld1 yA3 ?_
 refine s_mv ?_
 refine s_mv ?_
 refine s_sub rfl ?_
 obtain ⟨v11, hv11, hF10⟩ := bind_some' hF9
 refine s_ixT rI hv11 rfl yE23 ?_
 refine s_ld1 yA3 ?_
 refine s_le ?_
 refine s_pkt ?_
 refine s_pkf ?_
 refine k_nilD (by kernel_rfl) ?_
 refine k_seq ?_
 refine w_cond hF10 ?_ ?_ <;> intro hc12 hF11
 refine awp_seq (awp_region ?_)
 refine s_as ?_
 refine k_nil (k_seq (awp_ret (k_blk_ret (k_seq_ret (k_rnd_ret2 (k_blk_ret (k_seq_ret (k_fin ?_))))))))
 cases hF11
 exact ends_a [] [] Tryz.results45
 refine awp_skip (k_blk (k_seq (awp_region ?_)))
 refine s_mv ?_
 refine s_add rfl ?_
 refine s_as ?_
 refine k_nil ?_
 exact s_rn (fu, (w64 (g1 + 1))) ⟨by first | omega | (dsimp only; omega), hF11⟩
 iterate 10 refine r_no rfl ?_
 refine s_pkf ?_
 refine s_pkf ?_
 refine k_nilD (by kernel_rfl) ?_
 refine k_seq (awp_false rfl (awp_skip (k_blk (k_seq (awp_region ?_)))))
 refine s_mv ?_
 refine s_add rfl ?_
 refine s_as ?_
 refine k_nil ?_
 exact s_rn (fu, (w64 (g1 + 1))) ⟨by first | omega | (dsimp only; omega), hF8⟩
 refine awp_exit (k_seq_exit (k_rnd_exit2 (k_blk_exit (k_seq (awp_seq (awp_region ?_))))))
 refine s_mv ?_
 refine s_lenT yU23 ?_
 refine s_le ?_
 refine s_as ?_
 refine k_nil (k_seq (awp_ret (k_fin ?_)))
 cases hF3
 exact ends_a [] [] Tryz.results45
 refine r_no rfl (r_no rfl ?_)
 refine s_pkf ?_
 refine k_nil (k_seq (awp_false rfl (awp_exit (k_seq_exit (k_rnd_exit2 (k_blk_exit (k_seq (awp_seq (awp_region ?_)))))))))
 refine s_mv ?_
 refine s_lenT yU23 ?_
 refine s_le ?_
 refine s_as ?_
 refine k_nil (k_seq (awp_ret (k_fin ?_)))
 cases hF2
 exact ends_a [] [] Tryz.results45
def m_spec_l1Is_AC (fuel : Nat) : Prop := ∀ (x1 : Form) (x2 : Int) (r : Bool), m_spec_l1Is fuel x1 x2 = some r → AC Tryz.prog 20 [.ag [.t (.sc (.int .i64 x1.kind)), .t (.sc (.str x1.name)), .t (.sc (.int .i64 x1.n)), .t (.sl (x1.scopes.map rI)), .t (.sl (x1.kids.map Form.row))], .t (.sc (.int .i64 x2))] noOb (.t (.sc (.bool r))) noOb
theorem m_spec_l1Is_st (fu : Nat) (ih_m_spec_l1Is : ∀ k, k ≤ fu → m_spec_l1Is_AC k) : m_spec_l1Is_AC (fu + 1) := by
 intro x1 x2 r hF0
 rw [m_spec_l1Is] at hF0
 refine AC_i [.t (.sc (.bool r))] Tryz.func20 rfl Tryz.ntmps20 ?_
 intro C hC
 refine awp_seq (awp_region ?_)
 refine s_box ?_
 refine s_as ?_
 refine k_nil (k_seq (awp_seq (awp_seq (awp_region ?_))))
 refine s_mv ?_
 refine s_eq ?_
 refine k_nil (k_seq ?_)
 refine w_cond hF0 ?_ ?_ <;> intro hc1 hF1
 refine awp_seq (awp_region ?_)
 refine s_as ?_
 refine k_nil (k_seq (awp_ret (k_seq_ret (k_fin ?_))))
 cases hF1
 exact ends_a [] [] Tryz.results20
 refine awp_skip (k_seq (awp_seq (awp_seq (awp_region ?_))))
 refine s_fa yF26_0 ?_
 refine s_ld1 yA3 ?_
 refine k_nil (k_seq (awp_block (awp_seq (awp_region ?_))))
 refine s_eq ?_
 refine s_as ?_
 refine k_nil (k_seq ?_)
 refine w_cond hF1 ?_ ?_ <;> intro hc2 hF2
 refine awp_seq (awp_region ?_)
 refine s_fa yF26_1 ?_
 refine s_ld1 yA9 ?_
 obtain ⟨v3, hv3, hF3⟩ := bind_some' hF2
 refine s_pure [] (m_spec_NameValid_ok fu _ _ hv3) ?_
 refine s_mv ?_
 refine w_guard _ 15 hF3 ?_ ?_ <;> intro hc4 hF4
 refine s_fa yF26_2 ?_
 refine s_ld1 yA3 ?_
 refine s_eq ?_
 refine s_pkt ?_
 refine s_mv ?_
 refine w_guard _ 20 hF4 ?_ ?_ <;> intro hc5 hF5
 refine s_fa yF26_3 ?_
 refine s_ld1 yA23 ?_
 obtain ⟨v6, hv6, hF6⟩ := bind_some' hF5
 refine s_pure [] (m_spec_l1Scopes_ok fu _ _ hv6) ?_
 refine s_pkt ?_
 refine s_mv ?_
 refine w_guard _ 25 hF6 ?_ ?_ <;> intro hc7 hF7
 refine s_fa yF26_4 ?_
 refine s_ld1 yA24 ?_
 refine s_lenT yU24 ?_
 refine s_eq ?_
 refine s_pkt ?_
 refine s_as ?_
 refine k_nil (k_seq (awp_ret (k_blk_ret (k_seq_ret (k_fin ?_)))))
 cases hF7
 exact ends_a [] [] Tryz.results20
 iterate 4 refine r_no rfl ?_
 refine s_pkf ?_
 refine s_as ?_
 refine k_nil (k_seq (awp_ret (k_blk_ret (k_seq_ret (k_fin ?_)))))
 cases hF7
 exact ends_a [] [] Tryz.results20
 iterate 3 refine r_no rfl ?_
 refine s_pkf ?_
 refine s_mv ?_
 iterate 4 refine r_no rfl ?_
 refine s_pkf ?_
 refine s_as ?_
 refine k_nil (k_seq (awp_ret (k_blk_ret (k_seq_ret (k_fin ?_)))))
 cases hF5
 exact ends_a [] [] Tryz.results20
 iterate 3 refine r_no rfl ?_
 refine s_pkf ?_
 refine s_mv ?_
 iterate 3 refine r_no rfl ?_
 refine s_pkf ?_
 refine s_mv ?_
 iterate 4 refine r_no rfl ?_
 refine s_pkf ?_
 refine s_as ?_
 refine k_nil (k_seq (awp_ret (k_blk_ret (k_seq_ret (k_fin ?_)))))
 cases hF4
 exact ends_a [] [] Tryz.results20
 refine awp_seq (awp_region ?_)
 refine s_eq ?_
 refine s_as ?_
 refine k_nil (k_seq ?_)
 refine w_cond hF2 ?_ ?_ <;> intro hc8 hF3
 refine awp_seq (awp_region ?_)
 refine s_fa yF26_1 ?_
 refine s_ld1 yA9 ?_
 refine s_eqS ?_
 refine s_mv ?_
 refine w_guard _ 36 hF3 ?_ ?_ <;> intro hc9 hF4
 refine s_fa yF26_2 ?_
 refine s_ld1 yA3 ?_
 refine s_ge ?_
 refine s_pkt ?_
 refine s_mv ?_
 refine w_guard _ 41 hF4 ?_ ?_ <;> intro hc10 hF5
 refine s_fa yF26_2 ?_
 refine s_ld1 yA3 ?_
 refine s_le ?_
 refine s_pkt ?_
 refine s_mv ?_
 refine w_guard _ 46 hF5 ?_ ?_ <;> intro hc11 hF6
 refine s_fa yF26_3 ?_
 refine s_ld1 yA23 ?_
 refine s_lenT yU23 ?_
 refine s_eq ?_
 refine s_pkt ?_
 refine s_mv ?_
 refine w_guard _ 52 hF6 ?_ ?_ <;> intro hc12 hF7
 refine s_fa yF26_4 ?_
 refine s_ld1 yA24 ?_
 refine s_lenT yU24 ?_
 refine s_eq ?_
 refine s_pkt ?_
 refine s_as ?_
 refine k_nil (k_seq (awp_ret (k_blk_ret (k_seq_ret (k_fin ?_)))))
 cases hF7
 exact ends_a [] [] Tryz.results20
 iterate 4 refine r_no rfl ?_
 refine s_pkf ?_
 refine s_as ?_
 refine k_nil (k_seq (awp_ret (k_blk_ret (k_seq_ret (k_fin ?_)))))
 cases hF7
 exact ends_a [] [] Tryz.results20
 iterate 4 refine r_no rfl ?_
 refine s_pkf ?_
 refine s_mv ?_
 iterate 4 refine r_no rfl ?_
 refine s_pkf ?_
 refine s_as ?_
 refine k_nil (k_seq (awp_ret (k_blk_ret (k_seq_ret (k_fin ?_)))))
 cases hF6
 exact ends_a [] [] Tryz.results20
 iterate 3 refine r_no rfl ?_
 refine s_pkf ?_
 refine s_mv ?_
 iterate 4 refine r_no rfl ?_
 refine s_pkf ?_
 refine s_mv ?_
 iterate 4 refine r_no rfl ?_
 refine s_pkf ?_
 refine s_as ?_
 refine k_nil (k_seq (awp_ret (k_blk_ret (k_seq_ret (k_fin ?_)))))
 cases hF5
 exact ends_a [] [] Tryz.results20
 iterate 3 refine r_no rfl ?_
 refine s_pkf ?_
 refine s_mv ?_
 iterate 3 refine r_no rfl ?_
 refine s_pkf ?_
 refine s_mv ?_
 iterate 4 refine r_no rfl ?_
 refine s_pkf ?_
 refine s_mv ?_
 iterate 4 refine r_no rfl ?_
 refine s_pkf ?_
 refine s_as ?_
 refine k_nil (k_seq (awp_ret (k_blk_ret (k_seq_ret (k_fin ?_)))))
 cases hF4
 exact ends_a [] [] Tryz.results20
 refine awp_skip (k_blk (k_seq (awp_seq (awp_seq (awp_region ?_)))))
 refine s_fa yF26_0 ?_
 refine s_ld1 yA3 ?_
 refine s_ne ?_
 refine s_mv ?_
 refine w_guard _ 61 hF3 ?_ ?_ <;> intro hc13 hF4
 iterate 3 refine r_no rfl ?_
 refine s_pkt ?_
 refine s_mv ?_
 iterate 3 refine r_no rfl ?_
 refine s_pkt ?_
 refine s_mv ?_
 iterate 4 refine r_no rfl ?_
 refine s_pkt ?_
 refine k_nil (k_seq (awp_true rfl (awp_seq (awp_region ?_))))
 refine s_as ?_
 refine k_nil (k_seq (awp_ret (k_seq_ret (k_fin ?_))))
 cases hF4
 exact ends_a [] [] Tryz.results20
 refine s_fa yF26_1 ?_
 refine s_ld1 yA9 ?_
 refine s_neS ?_
 refine s_pkf ?_
 refine s_mv ?_
 refine w_guard _ 66 hF4 ?_ ?_ <;> intro hc14 hF5
 iterate 3 refine r_no rfl ?_
 refine s_pkt ?_
 refine s_mv ?_
 iterate 4 refine r_no rfl ?_
 refine s_pkt ?_
 refine k_nil (k_seq (awp_true rfl (awp_seq (awp_region ?_))))
 refine s_as ?_
 refine k_nil (k_seq (awp_ret (k_seq_ret (k_fin ?_))))
 cases hF5
 exact ends_a [] [] Tryz.results20
 refine s_fa yF26_2 ?_
 refine s_ld1 yA3 ?_
 refine s_ne ?_
 refine s_pkf ?_
 refine s_mv ?_
 refine w_guard _ 71 hF5 ?_ ?_ <;> intro hc15 hF6
 iterate 4 refine r_no rfl ?_
 refine s_pkt ?_
 refine k_nil (k_seq (awp_true rfl (awp_seq (awp_region ?_))))
 refine s_as ?_
 refine k_nil (k_seq (awp_ret (k_seq_ret (k_fin ?_))))
 cases hF6
 exact ends_a [] [] Tryz.results20
 refine s_fa yF26_3 ?_
 refine s_ld1 yA23 ?_
 refine s_lenT yU23 ?_
 refine s_ne ?_
 refine s_pkf ?_
 refine k_nil (k_seq ?_)
 refine w_cond hF6 ?_ ?_ <;> intro hc16 hF7
 refine awp_seq (awp_region ?_)
 refine s_as ?_
 refine k_nil (k_seq (awp_ret (k_seq_ret (k_fin ?_))))
 cases hF7
 exact ends_a [] [] Tryz.results20
 refine awp_skip (k_seq (awp_seq (awp_seq (awp_region ?_))))
 refine s_as ?_
 refine k_nil (k_seq (awp_block ?_))
 refine awp_fr (β := Int) [4, 5, 77, 78, 79, 80, 81, 82, 83, 84, 85, 86, 87, 88, 89, 90, 91, 92] [] [] (fun a => [(5, .t (.sc (.int .i64 a.2)))]) (fun a => []) (fun a => a.1 ≤ fu ∧ m_spec_l1Is_l1 a.1 x1 x2 a.2 = some r ∧ 0 ≤ a.2) (fu, 0) ⟨Nat.le_refl _, hF7, by simp⟩ ?_
 clear hF7
 rintro ⟨fu, g17⟩ ⟨hl18, hF8, hn_g17⟩
 dsimp only at hl18 hF8 hn_g17 ⊢
 obtain _ | fu := fu
 · rw [m_spec_l1Is_l1] at hF8; cases hF8
 rw [m_spec_l1Is_l1] at hF8
 refine awp_seq (awp_seq (awp_region ?_))
 refine s_mv ?_
 refine s_fa yF26_4 ?_
 refine s_ld1 yA24 ?_
 refine s_lenT yU24 ?_
 refine s_lt ?_
 refine k_nil (k_seq ?_)
 refine w_cond hF8 ?_ ?_ <;> intro hc19 hF9
 refine awp_lenT 79 (fun hb20 => ?_)
 refine awp_skip (k_seq (awp_seq (awp_block (awp_seq (awp_region ?_)))))
 refine s_fa yF26_4 ?_
 refine s_ld1 yA24 ?_
 refine s_mv ?_
 obtain ⟨v21, hv21, hF10⟩ := bind_some' hF9
 refine s_ixT Form.row hv21 (Form.row_eq _) yE24 ?_
 refine s_ldN yA26 yS26 ?_
 refine s_mv ?_
 refine s_sub rfl ?_
 obtain ⟨v22, hv22, hF11⟩ := bind_some' hF10
 refine s_pure [] (ih_m_spec_l1Is fu (by omega) _ _ _ hv22) ?_
 refine s_not ?_
 refine k_nil (k_seq ?_)
 refine w_cond hF11 ?_ ?_ <;> intro hc23 hF12
 refine awp_seq (awp_region ?_)
 refine s_as ?_
 refine k_nil (k_seq (awp_ret (k_blk_ret (k_seq_ret (k_rnd_ret2 (k_blk_ret (k_seq_ret (k_fin ?_))))))))
 cases hF12
 exact ends_a [] [] Tryz.results20
 refine awp_skip (k_blk (k_seq (awp_region ?_)))
 refine s_mv ?_
 refine s_add (winc2 hc19 hb20 hn_g17) ?_
 refine s_as ?_
 refine k_nil ?_
 exact s_rn (fu, (g17 + 1)) ⟨by first | omega | (dsimp only; omega), hF12, by first | omega | (dsimp only; omega)⟩
 refine awp_exit (k_seq_exit (k_rnd_exit2 (k_blk_exit (k_seq (awp_seq (awp_region ?_))))))
 refine s_as ?_
 refine k_nil (k_seq (awp_ret (k_fin ?_)))
 cases hF9
 exact ends_a [] [] Tryz.results20
theorem m_spec_l1Is_all (fuel : Nat) : m_spec_l1Is_AC fuel := by
 induction fuel using Nat.strongRecOn with
 | _ N ih =>
   cases N with
   | zero => exact (by intro x1 x2 r h; rw [m_spec_l1Is] at h; cases h)
   | succ fu => exact m_spec_l1Is_st fu (fun k hk => (ih k (by omega)))
theorem m_spec_l1Is_ok (fuel : Nat) : m_spec_l1Is_AC fuel := (m_spec_l1Is_all fuel)
def m_spec_l1Count_AC (fuel : Nat) : Prop := ∀ (x1 : Form) (r : Int), m_spec_l1Count fuel x1 = some r → AC Tryz.prog 21 [.ag [.t (.sc (.int .i64 x1.kind)), .t (.sc (.str x1.name)), .t (.sc (.int .i64 x1.n)), .t (.sl (x1.scopes.map rI)), .t (.sl (x1.kids.map Form.row))]] noOb (.t (.sc (.int .i64 r))) noOb
theorem m_spec_l1Count_st (fu : Nat) (ih_m_spec_l1Count : ∀ k, k ≤ fu → m_spec_l1Count_AC k) : m_spec_l1Count_AC (fu + 1) := by
 intro x1 r hF0
 rw [m_spec_l1Count] at hF0
 refine AC_i [.t (.sc (.int .i64 r))] Tryz.func21 rfl Tryz.ntmps21 ?_
 intro C hC
 refine awp_seq (awp_region ?_)
 refine s_box ?_
 refine s_as ?_
 refine k_nil (k_seq (awp_seq (awp_region ?_)))
 refine s_as ?_
 refine k_nil (k_seq (awp_seq (awp_seq (awp_region ?_))))
 refine s_as ?_
 refine k_nil (k_seq (awp_block ?_))
 refine awp_fr (β := Int × Int) [3, 4, 5, 6, 7, 8, 9, 10, 11, 12, 13, 14, 15, 16, 17, 18, 19] [] [] (fun a => [(3, .t (.sc (.int .i64 a.2.1))), (4, .t (.sc (.int .i64 a.2.2)))]) (fun a => []) (fun a => a.1 ≤ fu ∧ m_spec_l1Count_l1 a.1 x1 a.2.1 a.2.2 = some r ∧ 0 ≤ a.2.2) (fu, 1, 0) ⟨Nat.le_refl _, hF0, by simp⟩ ?_
 clear hF0
 rintro ⟨fu, g1, g2⟩ ⟨hl3, hF1, hn_g2⟩
 dsimp only at hl3 hF1 hn_g2 ⊢
 obtain _ | fu := fu
 · rw [m_spec_l1Count_l1] at hF1; cases hF1
 rw [m_spec_l1Count_l1] at hF1
 refine awp_seq (awp_seq (awp_region ?_))
 refine s_mv ?_
 refine s_fa yF26_4 ?_
 refine s_ld1 yA24 ?_
 refine s_lenT yU24 ?_
 refine s_lt ?_
 refine k_nil (k_seq ?_)
 refine w_cond hF1 ?_ ?_ <;> intro hc4 hF2
 refine awp_lenT 7 (fun hb5 => ?_)
 refine awp_skip (k_seq (awp_seq (awp_block (awp_region ?_))))
 refine s_mv ?_
 refine s_fa yF26_4 ?_
 refine s_ld1 yA24 ?_
 refine s_mv ?_
 obtain ⟨v6, hv6, hF3⟩ := bind_some' hF2
 refine s_ixT Form.row hv6 (Form.row_eq _) yE24 ?_
 refine s_ldN yA26 yS26 ?_
 obtain ⟨v7, hv7, hF4⟩ := bind_some' hF3
 refine s_pure [] (ih_m_spec_l1Count fu (by omega) _ _ hv7) ?_
 refine s_add rfl ?_
 refine s_as ?_
 refine k_nil (k_blk (k_seq (awp_region ?_)))
 refine s_mv ?_
 refine s_add (winc2 hc4 hb5 hn_g2) ?_
 refine s_as ?_
 refine k_nil ?_
 exact s_rn (fu, (w64 (g1 + v7)), (g2 + 1)) ⟨by first | omega | (dsimp only; omega), hF4, by first | omega | (dsimp only; omega)⟩
 refine awp_exit (k_seq_exit (k_rnd_exit2 (k_blk_exit (k_seq (awp_seq (awp_region ?_))))))
 refine s_mv ?_
 refine s_as ?_
 refine k_nil (k_seq (awp_ret (k_fin ?_)))
 cases hF2
 exact ends_a [] [] Tryz.results21
theorem m_spec_l1Count_all (fuel : Nat) : m_spec_l1Count_AC fuel := by
 induction fuel using Nat.strongRecOn with
 | _ N ih =>
   cases N with
   | zero => exact (by intro x1 r h; rw [m_spec_l1Count] at h; cases h)
   | succ fu => exact m_spec_l1Count_st fu (fun k hk => (ih k (by omega)))
theorem m_spec_l1Count_ok (fuel : Nat) : m_spec_l1Count_AC fuel := (m_spec_l1Count_all fuel)
def m_spec_FormValid_AC (fuel : Nat) : Prop := ∀ (x1 : Form) (r : Bool), m_spec_FormValid fuel x1 = some r → AC Tryz.prog 10 [.ag [.t (.sc (.int .i64 x1.kind)), .t (.sc (.str x1.name)), .t (.sc (.int .i64 x1.n)), .t (.sl (x1.scopes.map rI)), .t (.sl (x1.kids.map Form.row))]] noOb (.t (.sc (.bool r))) noOb
theorem m_spec_FormValid_ok (fuel : Nat) : m_spec_FormValid_AC fuel := by
 intro x1 r hF0
 unfold m_spec_FormValid at hF0
 refine AC_i [.t (.sc (.bool r))] Tryz.func10 rfl Tryz.ntmps10 ?_
 intro C hC
 refine awp_seq (awp_region ?_)
 refine s_box ?_
 refine s_as ?_
 refine k_nil (k_seq (awp_seq (awp_region ?_)))
 refine s_ldW yA26 yS26 ?_
 obtain ⟨v1, hv1, hF1⟩ := bind_some' hF0
 refine s_pure [] (m_spec_l1Is_ok fuel _ _ _ hv1) ?_
 refine s_mv ?_
 refine w_guard _ 5 hF1 ?_ ?_ <;> intro hc2 hF2
 refine s_ldW yA26 yS26 ?_
 obtain ⟨v3, hv3, hF3⟩ := bind_some' hF2
 refine s_pure [] (m_spec_l1Count_ok fuel _ _ hv3) ?_
 refine s_le ?_
 refine s_pkt ?_
 refine s_as ?_
 refine k_nil (k_seq (awp_ret (k_fin ?_)))
 cases hF3
 exact ends_a [] [] Tryz.results10
 iterate 3 refine r_no rfl ?_
 refine s_pkf ?_
 refine s_as ?_
 refine k_nil (k_seq (awp_ret (k_fin ?_)))
 cases hF2
 exact ends_a [] [] Tryz.results10
def m_spec_l15Dec_AC (fuel : Nat) : Prop := ∀ (x1 : Int) (r : ByteArray), m_spec_l15Dec fuel x1 = some r → AC Tryz.prog 43 [.t (.sc (.int .i64 x1))] noOb (.t (.sc (.str r))) noOb
theorem m_spec_l15Dec_st (fu : Nat) (ih_m_spec_l15Dec : ∀ k, k ≤ fu → m_spec_l15Dec_AC k) : m_spec_l15Dec_AC (fu + 1) := by
 intro x1 r hF0
 rw [m_spec_l15Dec] at hF0
 refine AC_i [.t (.sc (.str r))] Tryz.func43 rfl Tryz.ntmps43 ?_
 intro C hC
 refine awp_seq (awp_region ?_)
 refine s_as ?_
 refine k_nil (k_seq (awp_seq (awp_seq (awp_region ?_))))
 refine s_mv ?_
 refine s_lt ?_
 refine k_nil (k_seq ?_)
 refine w_cond hF0 ?_ ?_ <;> intro hc1 hF1
 refine awp_seq (awp_region ?_)
 refine s_as ?_
 refine k_nil (k_seq (awp_ret (k_seq_ret (k_fin ?_))))
 cases hF1
 exact ends_a [] [] Tryz.results43
 refine awp_skip (k_seq (awp_seq (awp_seq (awp_region ?_))))
 refine s_mv ?_
 refine s_lt ?_
 refine k_nil (k_seq ?_)
 refine w_cond hF1 ?_ ?_ <;> intro hc2 hF2
 refine awp_seq (awp_region ?_)
 refine s_mv ?_
 refine s_neg rfl ?_
 obtain ⟨v3, hv3, hF3⟩ := bind_some' hF2
 refine s_pure [] (ih_m_spec_l15Dec fu (by omega) _ _ hv3) ?_
 obtain ⟨v4, hv4, hF4⟩ := bind_some' hF3
 refine s_cat hv4 ?_
 refine s_as ?_
 refine k_nil (k_seq (awp_ret (k_seq_ret (k_fin ?_))))
 cases hF4
 exact ends_a [] [] Tryz.results43
 refine awp_skip (k_seq (awp_seq (awp_region ?_)))
 refine s_as ?_
 refine k_nil (k_seq (awp_seq (awp_block ?_)))
 refine awp_fr (β := Int × ByteArray) [0, 3, 12, 13, 14, 15, 16, 17, 18, 19, 20, 21, 22, 23] [] [18] (fun a => [(0, .t (.sc (.int .i64 a.2.1))), (3, .t (.sc (.str a.2.2)))]) (fun a => []) (fun a => a.1 ≤ fu ∧ m_spec_l15Dec_l1 a.1  a.2.1 a.2.2 = some r) (fu, x1, (⟨#[]⟩ : ByteArray)) ⟨Nat.le_refl _, hF2⟩ ?_
 clear hF2
 rintro ⟨fu, g5, g6⟩ ⟨hl7, hF3⟩
 dsimp only at hl7 hF3 ⊢
 obtain _ | fu := fu
 · rw [m_spec_l15Dec_l1] at hF3; cases hF3
 rw [m_spec_l15Dec_l1] at hF3
 refine awp_seq (awp_seq (awp_region ?_))
 refine s_mv ?_
 refine s_gt ?_
 refine k_nil (k_seq ?_)
 refine w_cond hF3 ?_ ?_ <;> intro hc8 hF4
 refine awp_skip (k_seq (awp_block (awp_seq (awp_region ?_))))
 refine s_mv ?_
 refine s_rem ?_
 refine s_add rfl ?_
 refine s_int yU3 yU5 rfl ?_
 refine s_bs rB [(w8 (w64 (48 + (g5.tmod 10))))] yP22 yR5 ?_
 refine s_bst (l := [(w8 (w64 (48 + (g5.tmod 10))))]) yU22 yU9 yE22 yU5 ?_
 refine s_mv ?_
 obtain ⟨v9, hv9, hF5⟩ := bind_some' hF4
 refine s_cat hv9 ?_
 refine s_as ?_
 refine k_nil (k_seq (awp_region ?_))
 refine s_mv ?_
 refine s_quo rfl ?_
 refine s_as ?_
 refine k_nil (k_blk ?_)
 exact s_rn (fu, (w64 (g5.tdiv 10)), v9) ⟨by first | omega | (dsimp only; omega), hF5⟩
 refine awp_exit (k_seq_exit (k_rnd_exit2 (k_blk_exit (k_seq (awp_seq (awp_region ?_))))))
 refine s_mv ?_
 refine s_add rfl ?_
 refine s_int yU3 yU5 rfl ?_
 refine s_bs rB [(w8 (w64 (48 + g5)))] yP22 yR5 ?_
 refine s_bst (l := [(w8 (w64 (48 + g5)))]) yU22 yU9 yE22 yU5 ?_
 refine s_mv ?_
 obtain ⟨v10, hv10, hF5⟩ := bind_some' hF4
 refine s_cat hv10 ?_
 refine s_as ?_
 refine k_nil (k_seq (awp_ret (k_fin ?_)))
 cases hF5
 exact ends_a [] [] Tryz.results43
theorem m_spec_l15Dec_all (fuel : Nat) : m_spec_l15Dec_AC fuel := by
 induction fuel using Nat.strongRecOn with
 | _ N ih =>
   cases N with
   | zero => exact (by intro x1 r h; rw [m_spec_l15Dec] at h; cases h)
   | succ fu => exact m_spec_l15Dec_st fu (fun k hk => (ih k (by omega)))
theorem m_spec_l15Dec_ok (fuel : Nat) : m_spec_l15Dec_AC fuel := (m_spec_l15Dec_all fuel)
def m_spec_l1Text_AC (fuel : Nat) : Prop := ∀ (x1 : Form) (r : ByteArray), m_spec_l1Text fuel x1 = some r → AC Tryz.prog 19 [.ag [.t (.sc (.int .i64 x1.kind)), .t (.sc (.str x1.name)), .t (.sc (.int .i64 x1.n)), .t (.sl (x1.scopes.map rI)), .t (.sl (x1.kids.map Form.row))]] noOb (.t (.sc (.str r))) noOb
theorem m_spec_l1Text_st (fu : Nat) (ih_m_spec_l1Text : ∀ k, k ≤ fu → m_spec_l1Text_AC k) : m_spec_l1Text_AC (fu + 1) := by
 intro x1 r hF0
 rw [m_spec_l1Text] at hF0
 refine AC_i [.t (.sc (.str r))] Tryz.func19 rfl Tryz.ntmps19 ?_
 intro C hC
 refine awp_seq (awp_region ?_)
 refine s_box ?_
 refine s_as ?_
 refine k_nil (k_seq (awp_seq (awp_seq (awp_region ?_))))
 refine s_fa yF26_0 ?_
 refine s_ld1 yA3 ?_
 refine s_eq ?_
 refine k_nil (k_seq ?_)
 refine w_cond hF0 ?_ ?_ <;> intro hc1 hF1
 refine awp_seq (awp_region ?_)
 refine s_fa yF26_2 ?_
 refine s_ld1 yA3 ?_
 obtain ⟨v2, hv2, hF2⟩ := bind_some' hF1
 refine s_pure [] (m_spec_l15Dec_ok fu _ _ hv2) ?_
 refine s_as ?_
 refine k_nil (k_seq (awp_ret (k_seq_ret (k_fin ?_))))
 cases hF2
 exact ends_a [] [] Tryz.results19
 refine awp_skip (k_seq (awp_seq (awp_seq (awp_region ?_))))
 refine s_fa yF26_0 ?_
 refine s_ld1 yA3 ?_
 refine s_eq ?_
 refine k_nil (k_seq ?_)
 refine w_cond hF1 ?_ ?_ <;> intro hc3 hF2
 refine awp_seq (awp_region ?_)
 refine s_fa yF26_1 ?_
 refine s_ld1 yA9 ?_
 refine s_as ?_
 refine k_nil (k_seq ?_)
 refine awp_jn (α := Nat × ByteArray) [3, 4, 5, 19, 20, 21, 22, 23, 24, 25, 26, 27, 28, 29, 30, 31, 32, 33, 34, 35, 36, 37] [] [] (fun a => [(3, .t (.sc (.str a.2)))]) (fun a => []) (fun a => a.1 ≤ fu ∧ m_spec_l1Text_j1 a.1 x1 a.2 = some r) ?_ ?_
 refine awp_seq (awp_region ?_)
 refine s_as ?_
 refine k_nil (k_seq (awp_block ?_))
 refine awp_fr (β := ByteArray × Int) [3, 4, 5, 19, 20, 21, 22, 23, 24, 25, 26, 27, 28, 29, 30, 31, 32, 33, 34, 35, 36, 37] [] [] (fun a => [(3, .t (.sc (.str a.2.1))), (4, .t (.sc (.int .i64 a.2.2)))]) (fun a => []) (fun a => a.1 ≤ fu ∧ m_spec_l1Text_l2 a.1 x1 a.2.1 a.2.2 = some r ∧ 0 ≤ a.2.2) (fu, x1.name, 0) ⟨Nat.le_refl _, hF2, by simp⟩ ?_
 clear hF2
 rintro ⟨fu, g4, g5⟩ ⟨hl6, hF3, hn_g5⟩
 dsimp only at hl6 hF3 hn_g5 ⊢
 obtain _ | fu := fu
 · rw [m_spec_l1Text_l2] at hF3; cases hF3
 rw [m_spec_l1Text_l2] at hF3
 refine awp_seq (awp_seq (awp_region ?_))
 refine s_mv ?_
 refine s_fa yF26_3 ?_
 refine s_ld1 yA23 ?_
 refine s_lenT yU23 ?_
 refine s_lt ?_
 refine k_nil (k_seq ?_)
 refine w_cond hF3 ?_ ?_ <;> intro hc7 hF4
 refine awp_lenT 21 (fun hb8 => ?_)
 refine awp_skip (k_seq (awp_seq (awp_block (awp_seq (awp_region ?_)))))
 refine s_as ?_
 refine k_nil (k_seq ?_)
 refine awp_jn (α := Nat × ByteArray) [5, 26, 27] [] [] (fun a => [(5, .t (.sc (.str a.2)))]) (fun a => []) (fun a => a.1 ≤ fu ∧ m_spec_l1Text_j3 a.1 x1 g4 g5 a.2 = some r) ?_ ?_
 refine awp_seq (awp_region ?_)
 refine s_mv ?_
 refine s_eq ?_
 refine k_nil (k_seq ?_)
 refine w_cond hF4 ?_ ?_ <;> intro hc9 hF5
 refine awp_region ?_
 refine s_as ?_
 refine k_nil ?_
 exact s_jn (fu, (⟨#[123]⟩ : ByteArray)) ⟨by first | omega | (dsimp only; omega), hF5⟩
 refine awp_skip ?_
 exact s_jn (fu, (⟨#[44]⟩ : ByteArray)) ⟨by first | omega | (dsimp only; omega), hF5⟩
 clear hF4
 rintro ⟨fu, g10⟩ ⟨hl11, hF5⟩
 dsimp only at hl11 hF5 ⊢
 obtain _ | fu := fu
 · rw [m_spec_l1Text_j3] at hF5; cases hF5
 rw [m_spec_l1Text_j3] at hF5
 refine awp_region ?_
 refine s_mv ?_
 refine s_mv ?_
 obtain ⟨v12, hv12, hF6⟩ := bind_some' hF5
 refine s_cat hv12 ?_
 refine s_fa yF26_3 ?_
 refine s_ld1 yA23 ?_
 refine s_mv ?_
 obtain ⟨v13, hv13, hF7⟩ := bind_some' hF6
 refine s_ixT rI hv13 rfl yE23 ?_
 refine s_ld1 yA3 ?_
 obtain ⟨v14, hv14, hF8⟩ := bind_some' hF7
 refine s_pure [] (m_spec_l15Dec_ok fu _ _ hv14) ?_
 obtain ⟨v15, hv15, hF9⟩ := bind_some' hF8
 refine s_cat hv15 ?_
 refine s_as ?_
 refine k_nil (k_blk (k_seq (awp_region ?_)))
 refine s_mv ?_
 refine s_add (winc2 hc7 hb8 hn_g5) ?_
 refine s_as ?_
 refine k_nil ?_
 exact s_rn (fu, v15, (g5 + 1)) ⟨by first | omega | (dsimp only; omega), hF9, by first | omega | (dsimp only; omega)⟩
 refine awp_exit (k_seq_exit (k_rnd_exit2 (k_blk_exit ?_)))
 exact s_jn (fu, g4) ⟨by first | omega | (dsimp only; omega), hF4⟩
 clear hF2
 rintro ⟨fu, g16⟩ ⟨hl17, hF3⟩
 dsimp only at hl17 hF3 ⊢
 obtain _ | fu := fu
 · rw [m_spec_l1Text_j1] at hF3; cases hF3
 rw [m_spec_l1Text_j1] at hF3
 refine awp_jn (α := Nat × ByteArray) [3, 38, 39, 40, 41, 42, 43] [] [] (fun a => [(3, .t (.sc (.str a.2)))]) (fun a => []) (fun a => a.1 ≤ fu ∧ m_spec_l1Text_j4 a.1  a.2 = some r) ?_ ?_
 refine awp_seq (awp_region ?_)
 refine s_fa yF26_3 ?_
 refine s_ld1 yA23 ?_
 refine s_lenT yU23 ?_
 refine s_gt ?_
 refine k_nil (k_seq ?_)
 refine w_cond hF3 ?_ ?_ <;> intro hc18 hF4
 refine awp_lenT 39 (fun hb19 => ?_)
 refine awp_region ?_
 refine s_mv ?_
 obtain ⟨v20, hv20, hF5⟩ := bind_some' hF4
 refine s_cat hv20 ?_
 refine s_as ?_
 refine k_nil ?_
 exact s_jn (fu, v20) ⟨by first | omega | (dsimp only; omega), hF5⟩
 refine awp_skip ?_
 exact s_jn (fu, g16) ⟨by first | omega | (dsimp only; omega), hF4⟩
 clear hF3
 rintro ⟨fu, g21⟩ ⟨hl22, hF4⟩
 dsimp only at hl22 hF4 ⊢
 obtain _ | fu := fu
 · rw [m_spec_l1Text_j4] at hF4; cases hF4
 rw [m_spec_l1Text_j4] at hF4
 refine awp_seq (awp_region ?_)
 refine s_mv ?_
 refine s_as ?_
 refine k_nil (k_seq (awp_ret (k_seq_ret (k_fin ?_))))
 cases hF4
 exact ends_a [] [] Tryz.results19
 refine awp_skip (k_seq (awp_seq (awp_region ?_)))
 refine s_as ?_
 refine k_nil (k_seq (awp_seq (awp_seq (awp_region ?_))))
 refine s_as ?_
 refine k_nil (k_seq (awp_block ?_))
 refine awp_fr (β := ByteArray × Int) [6, 7, 45, 46, 47, 48, 49, 50, 51, 52, 53, 54, 55, 56, 57, 58, 59, 60, 61, 62, 63] [] [] (fun a => [(6, .t (.sc (.str a.2.1))), (7, .t (.sc (.int .i64 a.2.2)))]) (fun a => []) (fun a => a.1 ≤ fu ∧ m_spec_l1Text_l5 a.1 x1 a.2.1 a.2.2 = some r ∧ 0 ≤ a.2.2) (fu, (⟨#[40]⟩ : ByteArray), 0) ⟨Nat.le_refl _, hF2, by simp⟩ ?_
 clear hF2
 rintro ⟨fu, g23, g24⟩ ⟨hl25, hF3, hn_g24⟩
 dsimp only at hl25 hF3 hn_g24 ⊢
 obtain _ | fu := fu
 · rw [m_spec_l1Text_l5] at hF3; cases hF3
 rw [m_spec_l1Text_l5] at hF3
 refine awp_seq (awp_seq (awp_region ?_))
 refine s_mv ?_
 refine s_fa yF26_4 ?_
 refine s_ld1 yA24 ?_
 refine s_lenT yU24 ?_
 refine s_lt ?_
 refine k_nil (k_seq ?_)
 refine w_cond hF3 ?_ ?_ <;> intro hc26 hF4
 refine awp_lenT 47 (fun hb27 => ?_)
 refine awp_skip (k_seq (awp_seq (awp_block ?_)))
 refine awp_jn (α := Nat × ByteArray) [6, 52, 53, 54, 55] [] [] (fun a => [(6, .t (.sc (.str a.2)))]) (fun a => []) (fun a => a.1 ≤ fu ∧ m_spec_l1Text_j6 a.1 x1 g24 a.2 = some r) ?_ ?_
 refine awp_seq (awp_region ?_)
 refine s_mv ?_
 refine s_gt ?_
 refine k_nil (k_seq ?_)
 refine w_cond hF4 ?_ ?_ <;> intro hc28 hF5
 refine awp_region ?_
 refine s_mv ?_
 obtain ⟨v29, hv29, hF6⟩ := bind_some' hF5
 refine s_cat hv29 ?_
 refine s_as ?_
 refine k_nil ?_
 exact s_jn (fu, v29) ⟨by first | omega | (dsimp only; omega), hF6⟩
 refine awp_skip ?_
 exact s_jn (fu, g23) ⟨by first | omega | (dsimp only; omega), hF5⟩
 clear hF4
 rintro ⟨fu, g30⟩ ⟨hl31, hF5⟩
 dsimp only at hl31 hF5 ⊢
 obtain _ | fu := fu
 · rw [m_spec_l1Text_j6] at hF5; cases hF5
 rw [m_spec_l1Text_j6] at hF5
 refine awp_region ?_
 refine s_mv ?_
 refine s_fa yF26_4 ?_
 refine s_ld1 yA24 ?_
 refine s_mv ?_
 obtain ⟨v32, hv32, hF6⟩ := bind_some' hF5
 refine s_ixT Form.row hv32 (Form.row_eq _) yE24 ?_
 refine s_ldN yA26 yS26 ?_
 obtain ⟨v33, hv33, hF7⟩ := bind_some' hF6
 refine s_pure [] (ih_m_spec_l1Text fu (by omega) _ _ hv33) ?_
 obtain ⟨v34, hv34, hF8⟩ := bind_some' hF7
 refine s_cat hv34 ?_
 refine s_as ?_
 refine k_nil (k_blk (k_seq (awp_region ?_)))
 refine s_mv ?_
 refine s_add (winc2 hc26 hb27 hn_g24) ?_
 refine s_as ?_
 refine k_nil ?_
 exact s_rn (fu, v34, (g24 + 1)) ⟨by first | omega | (dsimp only; omega), hF8, by first | omega | (dsimp only; omega)⟩
 refine awp_exit (k_seq_exit (k_rnd_exit2 (k_blk_exit (k_seq (awp_seq (awp_region ?_))))))
 refine s_mv ?_
 obtain ⟨v35, hv35, hF5⟩ := bind_some' hF4
 refine s_cat hv35 ?_
 refine s_as ?_
 refine k_nil (k_seq (awp_ret (k_fin ?_)))
 cases hF5
 exact ends_a [] [] Tryz.results19
theorem m_spec_l1Text_all (fuel : Nat) : m_spec_l1Text_AC fuel := by
 induction fuel using Nat.strongRecOn with
 | _ N ih =>
   cases N with
   | zero => exact (by intro x1 r h; rw [m_spec_l1Text] at h; cases h)
   | succ fu => exact m_spec_l1Text_st fu (fun k hk => (ih k (by omega)))
theorem m_spec_l1Text_ok (fuel : Nat) : m_spec_l1Text_AC fuel := (m_spec_l1Text_all fuel)
def m_spec_FormatForm_AC (fuel : Nat) : Prop := ∀ (x1 : Form) (r : ByteArray), m_spec_FormatForm fuel x1 = some r → AC Tryz.prog 9 [.ag [.t (.sc (.int .i64 x1.kind)), .t (.sc (.str x1.name)), .t (.sc (.int .i64 x1.n)), .t (.sl (x1.scopes.map rI)), .t (.sl (x1.kids.map Form.row))]] noOb (.t (.sc (.str r))) noOb
theorem m_spec_FormatForm_ok (fuel : Nat) : m_spec_FormatForm_AC fuel := by
 intro x1 r hF0
 unfold m_spec_FormatForm at hF0
 refine AC_i [.t (.sc (.str r))] Tryz.func9 rfl Tryz.ntmps9 ?_
 intro C hC
 refine awp_seq (awp_region ?_)
 refine s_box ?_
 refine s_as ?_
 refine k_nil (k_seq (awp_seq (awp_seq (awp_region ?_))))
 refine s_ldW yA26 yS26 ?_
 obtain ⟨v1, hv1, hF1⟩ := bind_some' hF0
 refine s_pure [] (m_spec_FormValid_ok fuel _ _ hv1) ?_
 refine s_not ?_
 refine k_nil (k_seq ?_)
 refine w_cond hF1 ?_ ?_ <;> intro hc2 hF2
 refine awp_seq (awp_region ?_)
 refine s_as ?_
 refine k_nil (k_seq (awp_ret (k_seq_ret (k_fin ?_))))
 cases hF2
 exact ends_a [] [] Tryz.results9
 refine awp_skip (k_seq (awp_seq (awp_region ?_)))
 refine s_ldW yA26 yS26 ?_
 obtain ⟨v3, hv3, hF3⟩ := bind_some' hF2
 refine s_pure [] (m_spec_l1Text_ok fuel _ _ hv3) ?_
 refine s_as ?_
 refine k_nil (k_seq (awp_ret (k_fin ?_)))
 cases hF3
 exact ends_a [] [] Tryz.results9
def m_strings_TrimLeft_AC (fuel : Nat) : Prop := ∀ (x1 : ByteArray) (x2 : ByteArray) (r : ByteArray), m_strings_TrimLeft fuel x1 x2 = some r → AC Tryz.prog 40 [.t (.sc (.str x1)), .t (.sc (.str x2))] noOb (.t (.sc (.str r))) noOb
theorem m_strings_TrimLeft_ok (fuel : Nat) : m_strings_TrimLeft_AC fuel := by
 intro x1 x2 r h
 obtain ⟨h0, h⟩ := chk_some h
 obtain rfl := Option.some.inj h
 obtain rfl := of_decide_eq_true h0
 exact ac_two (a := .str x1) (b := .str _) (r := .str _) ⟨_, Tryz.func40, by kernel_rfl, by kernel_rfl⟩ (fun w => Tryz.strings_TrimLeft_one x1 32 (by decide) w)
def m_impl_scan_blanks_AC (fuel : Nat) : Prop := ∀ (o1 : scan) (r : (Bool × scan)), m_impl_scan_blanks fuel o1 = some r → AC Tryz.prog 17 [.rf 9000 0] (objs [(9000, .box [.t (.sc (.str o1.s)), .t (.sc (.bool o1.bad))])]) (.t (.sc (.bool r.1))) (objs [(9000, .box [.t (.sc (.str r.2.s)), .t (.sc (.bool r.2.bad))])])
theorem m_impl_scan_blanks_ok (fuel : Nat) : m_impl_scan_blanks_AC fuel := by
 intro o1 r hF0
 unfold m_impl_scan_blanks at hF0
 refine AC_i [.t (.sc (.bool r.1))] Tryz.func17 rfl Tryz.ntmps17 ?_
 intro C hC
 refine awp_seq (awp_region ?_)
 refine s_as ?_
 refine k_nil (k_seq (awp_seq (awp_region ?_)))
 refine s_mv ?_
 refine s_nc ?_
 refine s_fa yF38_0 ?_
 refine s_ld1 yA9 ?_
 obtain ⟨v1, hv1, hF1⟩ := bind_some' hF0
 refine s_pure [] (m_strings_TrimLeft_ok fuel _ _ _ hv1) ?_
 refine s_as ?_
 refine k_nil (k_seq (awp_seq (awp_region ?_)))
 refine s_mv ?_
 refine s_lenS yU9 ?_
 refine s_mv ?_
 refine s_nc ?_
 refine s_fa yF38_0 ?_
 refine s_ld1 yA9 ?_
 refine s_lenS yU9 ?_
 refine s_lt ?_
 refine s_as ?_
 refine k_nil (k_seq (awp_seq (awp_region ?_)))
 refine s_mv ?_
 refine s_mv ?_
 refine s_nc ?_
 refine s_fa yF38_0 ?_
 refine s_stP yS9 ?_
 refine k_nil (k_seq (awp_seq (awp_region ?_)))
 refine s_mv ?_
 refine s_as ?_
 refine k_nil (k_seq (awp_ret (k_fin ?_)))
 cases hF1
 exact ends_a _ [] Tryz.results17
def m_strings_IndexAny_AC (fuel : Nat) : Prop := ∀ (x1 : ByteArray) (x2 : ByteArray) (r : Int), m_strings_IndexAny fuel x1 x2 = some r → AC Tryz.prog 55 [.t (.sc (.str x1)), .t (.sc (.str x2))] noOb (.t (.sc (.int .i64 r))) noOb
open Go.Proofs Go.RowKit Go.Sort Go.Lib in
theorem idx_rune_valid (r : Int) (h1 : 128 ≤ r) (h2 : r ≤ 2147483647) (w : World) :
   Calls Tryz.prog 92 #[.int .i32 r] w fun e w' => e = .returned (.bool (Utf8.valid r)) ∧ w' = w := by
 have hv : Utf8.valid r = ((decide (r < 55296)) || (decide (57343 < r) && decide (r ≤ 1114111))) := by
   unfold Utf8.valid
   rw [Bool.eq_iff_iff]; simp; omega
 rw [hv]
 go_enter Tryz.func92, Tryz.ntmps92
 go_wp2
 all_goals go_ret
 · rename_i g1 g2
   exact ⟨by rw [decide_eq_true g2]; rfl, rfl⟩
 · rename_i g1 g2 g3 g4
   exact ⟨by rw [decide_eq_true g3, decide_eq_true g4, Bool.and_true, Bool.or_true]; rfl, rfl⟩
 · rename_i g1 g2 g3 g4
   exact ⟨by rw [decide_eq_false (show ¬ r < 55296 by omega), decide_eq_false (show ¬ r ≤ 1114111 by omega), Bool.and_false]; rfl, rfl⟩
 · rename_i g1 g2 g3
   exact ⟨by rw [decide_eq_false (show ¬ r < 55296 by omega), decide_eq_false (show ¬ 57343 < r by omega)]; rfl, rfl⟩
end Go.Abs
