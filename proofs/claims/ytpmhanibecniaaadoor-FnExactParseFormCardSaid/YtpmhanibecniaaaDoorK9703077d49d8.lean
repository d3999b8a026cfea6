/- A part of the proof: what the functions that the law calls answer, as pure values. -/
import Derived.Test.YtpmhanibecniaaaDoorK65505f5ac27c
import Derived.Test.YtpmhanibecniaaaDoorKf4212e55e261
import Derived.Test.YtpmhanibecniaaaDoorKfdafa56d783a
set_option linter.unusedSimpArgs false
set_option linter.unusedVariables false
set_option maxRecDepth 100000
set_option maxHeartbeats 4000000
namespace Go.Abs
open Go.Proofs
def m_spec_l15Cut_AC (fuel : Nat) : Prop := ∀ (x1 : ByteArray) (x2 : Int) (r : (List ByteArray)), m_spec_l15Cut fuel x1 x2 = some r → AC Tryd.prog 73 [.t (.sc (.str x1)), .t (.sc (.int .u8 x2))] noOb (.t (.sl (r.map rS))) noOb
theorem m_spec_l15Cut_ok (fuel : Nat) : m_spec_l15Cut_AC fuel := by
 intro x1 x2 r hF0
 unfold m_spec_l15Cut at hF0
 refine AC_i [.t (.sl (r.map rS))] Tryd.func73 rfl Tryd.ntmps73 ?_
 intro C hC
 refine awp_seq (awp_region ?_)
 refine s_as ?_
 refine k_nil (k_seq (awp_seq (awp_region ?_)))
 refine s_bs rS ([] : List ByteArray) yP38 yR9 ?_
 refine s_as ?_
 refine k_nil (k_seq (awp_seq (awp_region ?_)))
 refine s_as ?_
 refine k_nil (k_seq (awp_seq (awp_seq (awp_region ?_))))
 refine s_as ?_
 refine k_nil (k_seq (awp_block ?_))
 refine awp_mv 5 8 5020 (by conv => lhs; whnf) (by conv => lhs; whnf) rfl ?_
 refine awp_frame2 [5, 6, 7, 9, 10, 11, 12, 13, 14, 15, 16, 17, 18, 19, 20, 21, 22, 23, 24, 25, 26, 27, 28, 29, 30, 31, 32, 33, 34] [5020] [31, 32] [5020] (fun a : Nat × (List ByteArray) × Int × Int => a.1) (fun a : Nat × (List ByteArray) × Int × Int => [(5, .ar 5020), (6, .t (.sc (.int .i64 a.2.2.1))), (7, .t (.sc (.int .i64 a.2.2.2)))]) (fun a : Nat × (List ByteArray) × Int × Int => [(5020, .arr (a.2.1.map rS) 9 true)]) (fun a : Nat × (List ByteArray) × Int × Int => a.1 ≤ fuel ∧ m_spec_l15Cut_l1 a.1 x1 x2 a.2.1 a.2.2.1 a.2.2.2 = some r) (fuel, ([] : List ByteArray), 0, 0) ⟨Nat.le_refl _, hF0⟩ (by rfl) (by rfl) (fun _ => rfl) (hasF_cons (by conv => lhs; whnf) (by rfl) (hasF_cons (by conv => lhs; whnf) (by rfl) (hasF_cons (by conv => lhs; whnf) (by rfl) hasF_nil))) (hasO_cons (by conv => lhs; whnf) (by rfl) hasO_nil) (fresh_C hC rfl) (by repeat (first | exact freshS_args rfl | refine freshS_upd rfl ?_ | refine freshS_frame rfl ?_)) (by repeat (first | exact freshM_no | exact objs_fresh rfl | refine freshM_upd rfl ?_ | refine freshM_frame rfl ?_)) ?_
 clear hF0
 rintro ⟨fu, g1, g2, g3⟩ ⟨hl4, hF1⟩
 dsimp only at hl4 hF1 ⊢
 obtain _ | fu := fu
 · rw [m_spec_l15Cut_l1] at hF1; cases hF1
 rw [m_spec_l15Cut_l1] at hF1
 refine awp_seq (awp_seq (awp_region ?_))
 refine s_mv ?_
 refine s_mv ?_
 refine s_lenS yU9 ?_
 refine s_le ?_
 refine k_nil (k_seq ?_)
 refine w_cond hF1 ?_ ?_ <;> intro hc5 hF2
 refine awp_skip (k_seq (awp_seq (awp_block ?_)))
 refine awp_jn (α := Nat × Bool) [15, 16, 17, 18, 19, 20, 21, 22, 23, 24, 25] [] [] (fun a => [(25, .t (.sc (.bool a.2)))]) (fun a => []) (fun a => a.1 ≤ fu ∧ m_spec_l15Cut_j2 a.1 x1 x2 g1 g2 g3 a.2 = some r) ?_ ?_
 refine awp_region ?_
 refine s_mv ?_
 refine s_mv ?_
 refine s_lenS yU9 ?_
 refine s_eq ?_
 refine s_mv ?_
 refine w_guard _ 19 hF2 ?_ ?_ <;> intro hc6 hF3
 iterate 5 refine r_no rfl ?_
 refine s_pkt ?_
 refine k_nil ?_
 exact s_jn (fu, true) ⟨by first | omega | (dsimp only; omega), hF3⟩
 refine s_mv ?_
 refine s_mv ?_
 obtain ⟨v7, hv7, hF4⟩ := bind_some' hF3
 refine s_ixS hv7 yU9 ?_
 refine s_mv ?_
 refine s_eq ?_
 refine s_pkf ?_
 refine k_nil ?_
 exact s_jn (fu, (decide (v7 = x2))) ⟨by first | omega | (dsimp only; omega), hF4⟩
 clear hF2
 rintro ⟨fu, g8⟩ ⟨hl9, hF3⟩
 dsimp only at hl9 hF3 ⊢
 obtain _ | fu := fu
 · rw [m_spec_l15Cut_j2] at hF3; cases hF3
 rw [m_spec_l15Cut_j2] at hF3
 refine w_cond hF3 ?_ ?_ <;> intro hc10 hF4
 refine awp_seq (awp_region ?_)
 iterate 4 refine s_mv ?_
 obtain ⟨v11, hv11, hF5⟩ := bind_some' hF4
 refine s_ss11 hv11 yU9 ?_
 refine s_bs rS [v11] yP38 yR9 ?_
 obtain ⟨hk12, hF6⟩ := chk_some hF5
 refine s_apT rS (fun _ => rfl) hk12 yP38 ?_
 refine s_as ?_
 refine k_nil (k_seq (awp_region ?_))
 refine s_mv ?_
 refine s_add rfl ?_
 refine s_as ?_
 refine k_nil (k_blk (k_seq (awp_region ?_)))
 refine s_mv ?_
 refine s_add rfl ?_
 refine s_as ?_
 refine k_nil ?_
 exact s_rn (fu, (g1 ++ [v11]), (w64 (g3 + 1)), (w64 (g3 + 1))) ⟨by first | omega | (dsimp only; omega), hF6⟩ [(5020, 32)]
 refine awp_skip (k_blk (k_seq (awp_region ?_)))
 refine s_mv ?_
 refine s_add rfl ?_
 refine s_as ?_
 refine k_nil ?_
 exact s_rn (fu, g1, g2, (w64 (g3 + 1))) ⟨by first | omega | (dsimp only; omega), hF4⟩
 refine awp_exit (k_seq_exit (k_rnd_exit2 (k_blk_exit (k_seq (awp_seq (awp_region ?_))))))
 refine s_mv ?_
 refine s_as ?_
 refine k_nil (k_seq (awp_ret (k_fin ?_)))
 cases hF2
 exact ends_a [] [5020] Tryd.results73
def m_spec_l1Sets_AC (fuel : Nat) : Prop := ∀ (x1 : ByteArray) (x2 : Int) (r : ((List Int) × Int)), m_spec_l1Sets fuel x1 x2 = some r → AC Tryd.prog 58 [.t (.sc (.str x1)), .t (.sc (.int .i64 x2))] noOb (.tp [.t (.sl (r.1.map rI)), .t (.sc (.int .i64 r.2))]) noOb
theorem m_spec_l1Sets_ok (fuel : Nat) : m_spec_l1Sets_AC fuel := by
 intro x1 x2 r hF0
 unfold m_spec_l1Sets at hF0
 refine AC_i [.t (.sl (r.1.map rI)), .t (.sc (.int .i64 r.2))] Tryd.func58 rfl Tryd.ntmps58 ?_
 intro C hC
 refine awp_seq (awp_region ?_)
 refine s_as ?_
 refine s_as ?_
 refine k_nil (k_seq (awp_seq (awp_region ?_)))
 refine s_bs rI ([] : List Int) yP25 yR3 ?_
 refine s_as ?_
 refine k_nil (k_seq (awp_seq ?_))
 refine awp_jn (α := Nat × Bool) [13, 14, 15, 16, 17, 18, 19, 20, 21, 22] [] [] (fun a => [(22, .t (.sc (.bool a.2)))]) (fun a => []) (fun a => a.1 ≤ fuel ∧ m_spec_l1Sets_j1 a.1 x1 x2 a.2 = some r) ?_ ?_
 refine awp_region ?_
 refine s_mv ?_
 refine s_mv ?_
 refine s_lenS yU9 ?_
 refine s_ge ?_
 refine s_mv ?_
 refine w_guard _ 17 hF0 ?_ ?_ <;> intro hc1 hF1
 iterate 4 refine r_no rfl ?_
 refine s_pkt ?_
 refine k_nil ?_
 exact s_jn (fuel, true) ⟨by first | omega | (dsimp only; omega), hF1⟩
 refine s_mv ?_
 refine s_mv ?_
 obtain ⟨v2, hv2, hF2⟩ := bind_some' hF1
 refine s_ixS hv2 yU9 ?_
 refine s_ne ?_
 refine s_pkf ?_
 refine k_nil ?_
 exact s_jn (fuel, (decide (v2 ≠ 123))) ⟨by first | omega | (dsimp only; omega), hF2⟩
 clear hF0
 rintro ⟨fu, g3⟩ ⟨hl4, hF1⟩
 dsimp only at hl4 hF1 ⊢
 obtain _ | fu := fu
 · rw [m_spec_l1Sets_j1] at hF1; cases hF1
 rw [m_spec_l1Sets_j1] at hF1
 refine w_cond hF1 ?_ ?_ <;> intro hc5 hF2
 refine awp_seq (awp_region ?_)
 refine s_mv ?_
 refine s_mv ?_
 refine s_as ?_
 refine s_as ?_
 refine k_nil (k_seq (awp_ret (k_seq_ret (k_fin ?_))))
 cases hF2
 exact ends_a [] [12] Tryd.results58
 refine awp_skip (k_seq (awp_seq (awp_region ?_)))
 refine s_mv ?_
 refine s_as ?_
 refine k_nil (k_seq ?_)
 refine awp_jn (α := Nat × Int) [7, 26, 27, 28, 29, 30, 31, 32, 33, 34, 35, 36, 37] [] [] (fun a => [(7, .t (.sc (.int .i64 a.2)))]) (fun a => []) (fun a => a.1 ≤ fu ∧ m_spec_l1Sets_j2 a.1 x1 x2 a.2 = some r) ?_ ?_
 refine awp_block ?_
 refine awp_fr (β := Int) [7, 26, 27, 28, 29, 30, 31, 32, 33, 34, 35, 36, 37] [] [] (fun a => [(7, .t (.sc (.int .i64 a.2)))]) (fun a => []) (fun a => a.1 ≤ fu ∧ m_spec_l1Sets_l3 a.1 x1 x2 a.2 = some r) (fu, x2) ⟨Nat.le_refl _, hF2⟩ ?_
 clear hF2
 rintro ⟨fu, g6⟩ ⟨hl7, hF3⟩
 dsimp only at hl7 hF3 ⊢
 obtain _ | fu := fu
 · rw [m_spec_l1Sets_l3] at hF3; cases hF3
 rw [m_spec_l1Sets_l3] at hF3
 refine awp_seq (awp_seq (awp_region ?_))
 refine s_mv ?_
 refine s_mv ?_
 refine s_lenS yU9 ?_
 refine s_lt ?_
 refine s_mv ?_
 refine w_guard _ 30 hF3 ?_ ?_ <;> intro hc8 hF4
 refine s_mv ?_
 refine s_mv ?_
 obtain ⟨v9, hv9, hF5⟩ := bind_some' hF4
 refine s_ixS hv9 yU9 ?_
 refine s_ne ?_
 refine s_pkt ?_
 refine k_nil (k_seq ?_)
 refine w_cond hF5 ?_ ?_ <;> intro hc10 hF6
 refine awp_skip (k_seq (awp_block (awp_region ?_)))
 refine s_mv ?_
 refine s_add rfl ?_
 refine s_as ?_
 refine k_nil (k_blk ?_)
 exact s_rn (fu, (w64 (g6 + 1))) ⟨by first | omega | (dsimp only; omega), hF6⟩
 refine awp_exit (k_seq_exit (k_rnd_exit2 (k_blk_exit ?_)))
 exact s_jn (fu, g6) ⟨by first | omega | (dsimp only; omega), hF6⟩
 iterate 4 refine r_no rfl ?_
 refine s_pkf ?_
 refine k_nil (k_seq (awp_false rfl (awp_exit (k_seq_exit (k_rnd_exit2 (k_blk_exit ?_))))))
 exact s_jn (fu, g6) ⟨by first | omega | (dsimp only; omega), hF4⟩
 clear hF2
 rintro ⟨fu, g11⟩ ⟨hl12, hF3⟩
 dsimp only at hl12 hF3 ⊢
 obtain _ | fu := fu
 · rw [m_spec_l1Sets_j2] at hF3; cases hF3
 rw [m_spec_l1Sets_j2] at hF3
 refine awp_seq (awp_seq (awp_region ?_))
 refine s_mv ?_
 refine s_mv ?_
 refine s_lenS yU9 ?_
 refine s_eq ?_
 refine k_nil (k_seq ?_)
 refine w_cond hF3 ?_ ?_ <;> intro hc13 hF4
 refine awp_seq (awp_region ?_)
 refine s_mv ?_
 refine s_as ?_
 refine s_as ?_
 refine k_nil (k_seq (awp_ret (k_seq_ret (k_fin ?_))))
 cases hF4
 exact ends_a [] [12] Tryd.results58
 refine awp_skip (k_seq (awp_seq (awp_region ?_)))
 refine s_mv ?_
 refine s_mv ?_
 refine s_add rfl ?_
 refine s_mv ?_
 obtain ⟨v14, hv14, hF5⟩ := bind_some' hF4
 refine s_ss11 hv14 yU9 ?_
 obtain ⟨v15, hv15, hF6⟩ := bind_some' hF5
 refine s_pure [] (m_spec_l15Cut_ok fu _ _ _ hv15) ?_
 refine s_as ?_
 refine k_nil (k_seq (awp_seq (awp_seq (awp_region ?_))))
 refine s_as ?_
 refine k_nil (k_seq (awp_block ?_))
 refine awp_mv 6 12 5080 (by conv => lhs; whnf) (by conv => lhs; whnf) rfl ?_
 refine awp_frame2 [4, 5, 6, 9, 10, 11, 49, 50, 51, 52, 53, 54, 55, 56, 57, 58, 59, 60, 61, 62, 63, 64, 65, 66, 67, 68, 69, 70, 71, 72, 73] [5080] [72, 73] [5080] (fun a : Nat × (List Int) × Int => a.1) (fun a : Nat × (List Int) × Int => [(6, .ar 5080), (9, .t (.sc (.int .i64 a.2.2)))]) (fun a : Nat × (List Int) × Int => [(5080, .arr (a.2.1.map rI) 3 true)]) (fun a : Nat × (List Int) × Int => a.1 ≤ fu ∧ m_spec_l1Sets_l4 a.1 g11 v15 a.2.1 a.2.2 = some r) (fu, ([] : List Int), 0) ⟨Nat.le_refl _, hF6⟩ (by rfl) (by rfl) (fun _ => rfl) (hasF_cons (by conv => lhs; whnf) (by rfl) (hasF_cons (by conv => lhs; whnf) (by rfl) hasF_nil)) (hasO_cons (by conv => lhs; whnf) (by rfl) hasO_nil) (fresh_C hC rfl) (by repeat (first | exact freshS_args rfl | refine freshS_upd rfl ?_ | refine freshS_frame rfl ?_)) (by repeat (first | exact freshM_no | exact objs_fresh rfl | refine freshM_upd rfl ?_ | refine freshM_frame rfl ?_)) ?_
 clear hF6
 rintro ⟨fu, g16, g17⟩ ⟨hl18, hF7⟩
 dsimp only at hl18 hF7 ⊢
 obtain _ | fu := fu
 · rw [m_spec_l1Sets_l4] at hF7; cases hF7
 rw [m_spec_l1Sets_l4] at hF7
 refine awp_seq ?_
 refine awp_jn (α := Nat × Bool) [49, 50, 51, 52, 53, 54, 55, 56] [] [] (fun a => [(56, .t (.sc (.bool a.2)))]) (fun a => []) (fun a => a.1 ≤ fu ∧ m_spec_l1Sets_j5 a.1 g11 v15 g16 g17 a.2 = some r) ?_ ?_
 refine awp_region ?_
 refine s_mv ?_
 refine s_mv ?_
 refine s_lenT yU38 ?_
 refine s_lt ?_
 refine s_mv ?_
 refine w_guard _ 53 hF7 ?_ ?_ <;> intro hc19 hF8
 refine s_mv ?_
 refine s_le ?_
 refine s_pkt ?_
 refine k_nil ?_
 exact s_jn (fu, (decide (g17 ≤ 24))) ⟨by first | omega | (dsimp only; omega), hF8⟩
 refine r_no rfl (r_no rfl ?_)
 refine s_pkf ?_
 refine k_nil ?_
 exact s_jn (fu, false) ⟨by first | omega | (dsimp only; omega), hF8⟩
 clear hF7
 rintro ⟨fu, g20⟩ ⟨hl21, hF8⟩
 dsimp only at hl21 hF8 ⊢
 obtain _ | fu := fu
 · rw [m_spec_l1Sets_j5] at hF8; cases hF8
 rw [m_spec_l1Sets_j5] at hF8
 refine w_cond hF8 ?_ ?_ <;> intro hc22 hF9
 refine awp_skip (k_seq (awp_seq (awp_block (awp_seq (awp_region ?_)))))
 refine s_mv ?_
 refine s_mv ?_
 obtain ⟨v23, hv23, hF10⟩ := bind_some' hF9
 refine s_ixT rS hv23 rfl yE38 ?_
 refine s_ld1 yA9 ?_
 obtain ⟨v24, hv24, hF11⟩ := bind_some' hF10
 refine s_pure [] (m_spec_l15Num_ok fu _ _ hv24) ?_
 refine s_mv ?_
 refine s_ext ?_
 refine s_ext ?_
 refine s_as ?_
 refine s_as ?_
 refine k_nil (k_seq (awp_seq (awp_seq (awp_region ?_))))
 refine s_mv ?_
 refine s_not ?_
 refine k_nil (k_seq ?_)
 refine w_cond hF11 ?_ ?_ <;> intro hc25 hF12
 refine awp_seq (awp_region ?_)
 refine s_mv ?_
 refine s_as ?_
 refine s_as ?_
 refine k_nil (k_seq (awp_ret (k_seq_ret (k_blk_ret (k_seq_ret (k_rnd_ret2 (k_blk_ret (k_seq_ret (k_fin ?_)))))))))
 cases hF12
 exact ends_a [] [5080] Tryd.results58
 refine awp_skip (k_seq (awp_region ?_))
 refine s_mv ?_
 refine s_mv ?_
 refine s_bs rI [v24.1] yP25 yR3 ?_
 obtain ⟨hk26, hF13⟩ := chk_some hF12
 refine s_apT rI (fun _ => rfl) hk26 yP25 ?_
 refine s_as ?_
 refine k_nil (k_blk (k_seq (awp_region ?_)))
 refine s_mv ?_
 refine s_add rfl ?_
 refine s_as ?_
 refine k_nil ?_
 exact s_rn (fu, (g16 ++ [v24.1]), (w64 (g17 + 1))) ⟨by first | omega | (dsimp only; omega), hF13⟩ [(5080, 73)]
 refine awp_exit (k_seq_exit (k_rnd_exit2 (k_blk_exit (k_seq (awp_seq (awp_region ?_))))))
 refine s_mv ?_
 refine s_mv ?_
 refine s_add rfl ?_
 refine s_as ?_
 refine s_as ?_
 refine k_nil (k_seq (awp_ret (k_fin ?_)))
 cases hF9
 exact ends_a [] [5080] Tryd.results58
def m_spec_l1Atom_AC (fuel : Nat) : Prop := ∀ (x1 : ByteArray) (x2 : Int) (r : (Form × Int)), m_spec_l1Atom fuel x1 x2 = some r → AC Tryd.prog 40 [.t (.sc (.str x1)), .t (.sc (.int .i64 x2))] noOb (.tp [.ag [.t (.sc (.int .i64 r.1.kind)), .t (.sc (.str r.1.name)), .t (.sc (.int .i64 r.1.n)), .t (.sl (r.1.scopes.map rI)), .t (.sl (r.1.kids.map Form.row))], .t (.sc (.int .i64 r.2))]) noOb
theorem m_spec_l1Atom_ok (fuel : Nat) : m_spec_l1Atom_AC fuel := by
 intro x1 x2 r hF0
 unfold m_spec_l1Atom at hF0
 refine AC_i [.ag [.t (.sc (.int .i64 r.1.kind)), .t (.sc (.str r.1.name)), .t (.sc (.int .i64 r.1.n)), .t (.sl (r.1.scopes.map rI)), .t (.sl (r.1.kids.map Form.row))], .t (.sc (.int .i64 r.2))] Tryd.func40 rfl Tryd.ntmps40 ?_
 intro C hC
 refine awp_seq (awp_region ?_)
 refine s_alloc yZ28 ?_
 refine s_as ?_
 refine k_nil (k_seq (awp_seq (awp_region ?_)))
 refine s_mv ?_
 refine s_mv ?_
 obtain ⟨v1, hv1, hF1⟩ := bind_some' hF0
 refine s_pure [] (m_spec_l1Word_ok fuel _ _ _ hv1) ?_
 refine s_as ?_
 refine k_nil (k_seq (awp_seq (awp_region ?_)))
 iterate 3 refine s_mv ?_
 obtain ⟨v2, hv2, hF2⟩ := bind_some' hF1
 refine s_ss11 hv2 yU9 ?_
 refine s_as ?_
 refine k_nil (k_seq (awp_seq (awp_region ?_)))
 refine s_mv ?_
 obtain ⟨v3, hv3, hF3⟩ := bind_some' hF2
 refine s_pure [] (m_spec_l15Num_ok fuel _ _ hv3) ?_
 refine s_mv ?_
 refine s_ext ?_
 refine s_ext ?_
 refine s_as ?_
 refine s_as ?_
 refine k_nil (k_seq (awp_seq (awp_seq (awp_region ?_))))
 refine s_mv ?_
 refine k_nil (k_seq ?_)
 refine w_cond hF3 ?_ ?_ <;> intro hc4 hF4
 refine awp_seq (awp_region ?_)
 refine s_mv ?_
 refine s_bld yZ28 yL28 ?_
 refine s_mv ?_
 refine s_stW yS28 ?_
 refine s_as ?_
 refine k_nil (k_seq (awp_ret (k_seq_ret (k_fin ?_))))
 cases hF4
 exact ends_gen [] [] (by rw [Tryd.results40]; exact (res_agg (by conv => lhs; whnf) (by conv => lhs; whnf) yA28 yS28 rfl (res_tmp (by conv => lhs; whnf) res_nil)))
 refine awp_skip (k_seq (awp_seq (awp_seq (awp_region ?_))))
 refine s_mv ?_
 refine s_eqS ?_
 refine k_nil (k_seq ?_)
 refine w_cond hF4 ?_ ?_ <;> intro hc5 hF5
 refine awp_seq (awp_region ?_)
 refine s_bld yZ28 yL28 ?_
 refine s_stW yS28 ?_
 refine s_as ?_
 refine k_nil (k_seq (awp_ret (k_seq_ret (k_fin ?_))))
 cases hF5
 exact ends_gen [] [] (by rw [Tryd.results40]; exact (res_agg (by conv => lhs; whnf) (by conv => lhs; whnf) yA28 yS28 rfl (res_tmp (by conv => lhs; whnf) res_nil)))
 refine awp_skip (k_seq (awp_seq (awp_region ?_)))
 refine s_mv ?_
 refine s_mv ?_
 obtain ⟨v6, hv6, hF6⟩ := bind_some' hF5
 refine s_pure [] (m_spec_l1Sets_ok fuel _ _ _ hv6) ?_
 refine s_mv ?_
 refine s_ext ?_
 refine s_ext ?_
 refine s_as ?_
 refine s_as ?_
 refine k_nil (k_seq (awp_seq (awp_region ?_)))
 refine s_mv ?_
 refine s_mv ?_
 refine s_bld yZ28 yL28 ?_
 refine s_mv ?_
 refine s_stW yS28 ?_
 refine s_as ?_
 refine k_nil (k_seq (awp_ret (k_fin ?_)))
 cases hF6
 exact ends_gen [] [] (by rw [Tryd.results40]; exact (res_agg (by conv => lhs; whnf) (by conv => lhs; whnf) yA28 yS28 rfl (res_tmp (by conv => lhs; whnf) res_nil)))
def m_spec_l1Read_AC (fuel : Nat) : Prop := ∀ (x1 : ByteArray) (x2 : Int) (x3 : Int) (r : (Form × Int)), m_spec_l1Read fuel x1 x2 x3 = some r → AC Tryd.prog 22 [.t (.sc (.str x1)), .t (.sc (.int .i64 x2)), .t (.sc (.int .i64 x3))] noOb (.tp [.ag [.t (.sc (.int .i64 r.1.kind)), .t (.sc (.str r.1.name)), .t (.sc (.int .i64 r.1.n)), .t (.sl (r.1.scopes.map rI)), .t (.sl (r.1.kids.map Form.row))], .t (.sc (.int .i64 r.2))]) noOb
theorem m_spec_l1Read_st (fu : Nat) (ih_m_spec_l1Read : ∀ k, k ≤ fu → m_spec_l1Read_AC k) : m_spec_l1Read_AC (fu + 1) := by
 intro x1 x2 x3 r hF0
 rw [m_spec_l1Read] at hF0
 refine AC_i [.ag [.t (.sc (.int .i64 r.1.kind)), .t (.sc (.str r.1.name)), .t (.sc (.int .i64 r.1.n)), .t (.sl (r.1.scopes.map rI)), .t (.sl (r.1.kids.map Form.row))], .t (.sc (.int .i64 r.2))] Tryd.func22 rfl Tryd.ntmps22 ?_
 intro C hC
 refine awp_seq (awp_region ?_)
 refine s_alloc yZ28 ?_
 refine s_as ?_
 refine k_nil (k_seq (awp_seq (awp_region ?_)))
 refine s_mv ?_
 refine s_mv ?_
 obtain ⟨v1, hv1, hF1⟩ := bind_some' hF0
 refine s_pure [] (m_spec_l1Skip_ok fu _ _ _ hv1) ?_
 refine s_as ?_
 refine k_nil (k_seq (awp_seq ?_))
 refine awp_jn (α := Nat × Bool) [14, 15, 16, 17, 18, 19, 20, 21] [] [] (fun a => [(21, .t (.sc (.bool a.2)))]) (fun a => []) (fun a => a.1 ≤ fu ∧ m_spec_l1Read_j1 a.1 x1 x3 v1 a.2 = some r) ?_ ?_
 refine awp_region ?_
 refine s_mv ?_
 refine s_mv ?_
 refine s_lenS yU9 ?_
 refine s_ge ?_
 refine s_mv ?_
 refine w_guard _ 18 hF1 ?_ ?_ <;> intro hc2 hF2
 refine r_no rfl (r_no rfl ?_)
 refine s_pkt ?_
 refine k_nil ?_
 exact s_jn (fu, true) ⟨by first | omega | (dsimp only; omega), hF2⟩
 refine s_mv ?_
 refine s_eq ?_
 refine s_pkf ?_
 refine k_nil ?_
 exact s_jn (fu, (decide (x3 = 0))) ⟨by first | omega | (dsimp only; omega), hF2⟩
 clear hF1
 rintro ⟨fu, g3⟩ ⟨hl4, hF2⟩
 dsimp only at hl4 hF2 ⊢
 obtain _ | fu := fu
 · rw [m_spec_l1Read_j1] at hF2; cases hF2
 rw [m_spec_l1Read_j1] at hF2
 refine w_cond hF2 ?_ ?_ <;> intro hc5 hF3
 refine awp_seq (awp_region ?_)
 refine s_bld yZ28 yL28 ?_
 refine s_stW yS28 ?_
 refine s_as ?_
 refine k_nil (k_seq (awp_ret (k_seq_ret (k_fin ?_))))
 cases hF3
 exact ends_gen [] [] (by rw [Tryd.results22]; exact (res_agg (by conv => lhs; whnf) (by conv => lhs; whnf) yA28 yS28 rfl (res_tmp (by conv => lhs; whnf) res_nil)))
 refine awp_skip (k_seq (awp_seq (awp_seq (awp_region ?_))))
 refine s_mv ?_
 refine s_mv ?_
 obtain ⟨v6, hv6, hF4⟩ := bind_some' hF3
 refine s_ixS hv6 yU9 ?_
 refine s_ne ?_
 refine k_nil (k_seq ?_)
 refine w_cond hF4 ?_ ?_ <;> intro hc7 hF5
 refine awp_seq (awp_region ?_)
 refine s_mv ?_
 refine s_mv ?_
 obtain ⟨v8, hv8, hF6⟩ := bind_some' hF5
 refine s_pure [] (m_spec_l1Atom_ok fu _ _ _ hv8) ?_
 refine s_ext ?_
 refine s_ext ?_
 refine s_stW yS28 ?_
 refine s_as ?_
 refine k_nil (k_seq (awp_ret (k_seq_ret (k_fin ?_))))
 cases hF6
 exact ends_gen [] [] (by rw [Tryd.results22]; exact (res_agg (by conv => lhs; whnf) (by conv => lhs; whnf) yA28 yS28 rfl (res_tmp (by conv => lhs; whnf) res_nil)))
 refine awp_skip (k_seq (awp_seq (awp_region ?_)))
 refine s_bld yZ28 yL28 ?_
 refine s_alloc yZ28 ?_
 refine s_stW yS28 ?_
 refine k_nil (k_seq (awp_seq (awp_region ?_)))
 refine s_mv ?_
 refine s_mv ?_
 refine s_add rfl ?_
 obtain ⟨v9, hv9, hF6⟩ := bind_some' hF5
 refine s_pure [] (m_spec_l1Skip_ok fu _ _ _ hv9) ?_
 refine s_as ?_
 refine k_nil (k_seq ?_)
 refine awp_jn (α := Nat × Int × (List Form)) [1, 7, 9, 10, 37, 38, 39, 40, 41, 42, 43, 44, 45, 46, 47, 48, 49, 50, 51, 52, 53, 54, 55, 56, 57, 58, 59, 60, 61, 62, 63, 64, 65, 66, 67, 68, 69, 70, 71, 72] [8, 5060] [] (fun a => [(1, .t (.sc (.int .i64 a.2.1)))]) (fun a => [(8, .box [.t (.sc (.int .i64 3)), .t (.sc (.str (⟨#[]⟩ : ByteArray))), .t (.sc (.int .i64 0)), .nl, .ar 5060]), (5060, .arr (a.2.2.map Form.row) 28 true)]) (fun a => a.1 ≤ fu ∧ m_spec_l1Read_j2 a.1 x1 a.2.1 a.2.2 = some r) ?_ ?_
 refine awp_block ?_
 refine awp_ownB 8 5060 28 [.t (.sc (.int .i64 3)), .t (.sc (.str (⟨#[]⟩ : ByteArray))), .t (.sc (.int .i64 0)), .nl, .ar 5060] yI28.choose_spec ?_
 refine awp_frame2 [1, 7, 9, 10, 37, 38, 39, 40, 41, 42, 43, 44, 45, 46, 47, 48, 49, 50, 51, 52, 53, 54, 55, 56, 57, 58, 59, 60, 61, 62, 63, 64, 65, 66, 67, 68, 69, 70, 71, 72] [8, 5060] [9, 67, 68] [5060] (fun a : Nat × Int × (List Form) => a.1) (fun a : Nat × Int × (List Form) => [(1, .t (.sc (.int .i64 a.2.1)))]) (fun a : Nat × Int × (List Form) => [(8, .box [.t (.sc (.int .i64 3)), .t (.sc (.str (⟨#[]⟩ : ByteArray))), .t (.sc (.int .i64 0)), .nl, .ar 5060]), (5060, .arr (a.2.2.map Form.row) 28 true)]) (fun a : Nat × Int × (List Form) => a.1 ≤ fu ∧ m_spec_l1Read_l3 a.1 x1 x3 a.2.1 a.2.2 = some r) (fu, v9, ([] : List Form)) ⟨Nat.le_refl _, hF6⟩ (by rfl) (by rfl) (fun _ => rfl) (hasF_cons (by conv => lhs; whnf) (by rfl) hasF_nil) (hasO_cons (by conv => lhs; whnf) (by rfl) (hasO_cons (by conv => lhs; whnf) (by rfl) hasO_nil)) (fresh_C hC rfl) (by repeat (first | exact freshS_args rfl | refine freshS_upd rfl ?_ | refine freshS_frame rfl ?_)) (by repeat (first | exact freshM_no | exact objs_fresh rfl | refine freshM_upd rfl ?_ | refine freshM_frame rfl ?_)) ?_
 clear hF6
 rintro ⟨fu, g10, g11⟩ ⟨hl12, hF7⟩
 dsimp only at hl12 hF7 ⊢
 obtain _ | fu := fu
 · rw [m_spec_l1Read_l3] at hF7; cases hF7
 rw [m_spec_l1Read_l3] at hF7
 refine awp_seq ?_
 refine awp_jn (α := Nat × Bool) [37, 38, 39, 40, 41, 42, 43, 44, 45, 46, 47, 48, 49, 50, 51, 52] [] [] (fun a => [(52, .t (.sc (.bool a.2)))]) (fun a => []) (fun a => a.1 ≤ fu ∧ m_spec_l1Read_j4 a.1 x1 x3 g10 g11 a.2 = some r) ?_ ?_
 refine awp_region ?_
 refine s_mv ?_
 refine s_mv ?_
 refine s_lenS yU9 ?_
 refine s_lt ?_
 refine s_mv ?_
 refine w_guard _ 41 hF7 ?_ ?_ <;> intro hc13 hF8
 refine s_mv ?_
 refine s_mv ?_
 obtain ⟨v14, hv14, hF9⟩ := bind_some' hF8
 refine s_ixS hv14 yU9 ?_
 refine s_ne ?_
 refine s_pkt ?_
 refine s_mv ?_
 refine w_guard _ 47 hF9 ?_ ?_ <;> intro hc15 hF10
 refine s_fa yF28_4 ?_
 refine s_ld1 yA26 ?_
 refine s_lenA yU26 ?_
 refine s_lt ?_
 refine s_pkt ?_
 refine k_nil ?_
 exact s_jn (fu, (decide ((g11.length : Int) < 400))) ⟨by first | omega | (dsimp only; omega), hF10⟩
 iterate 4 refine r_no rfl ?_
 refine s_pkf ?_
 refine k_nil ?_
 exact s_jn (fu, false) ⟨by first | omega | (dsimp only; omega), hF10⟩
 iterate 4 refine r_no rfl ?_
 refine s_pkf ?_
 refine s_mv ?_
 iterate 4 refine r_no rfl ?_
 refine s_pkf ?_
 refine k_nil ?_
 exact s_jn (fu, false) ⟨by first | omega | (dsimp only; omega), hF8⟩
 clear hF7
 rintro ⟨fu, g16⟩ ⟨hl17, hF8⟩
 dsimp only at hl17 hF8 ⊢
 obtain _ | fu := fu
 · rw [m_spec_l1Read_j4] at hF8; cases hF8
 rw [m_spec_l1Read_j4] at hF8
 refine w_cond hF8 ?_ ?_ <;> intro hc18 hF9
 refine awp_skip (k_seq (awp_block (awp_seq (awp_region ?_))))
 iterate 3 refine s_mv ?_
 refine s_sub rfl ?_
 obtain ⟨v19, hv19, hF10⟩ := bind_some' hF9
 refine s_pure [] (ih_m_spec_l1Read fu (by omega) _ _ _ _ hv19) ?_
 refine s_mv ?_
 refine s_ext ?_
 refine s_ext ?_
 refine s_alloc yZ28 ?_
 refine s_stW yS28 ?_
 refine s_as ?_
 refine k_nil (k_seq (awp_seq (awp_seq (awp_region ?_))))
 refine s_mv ?_
 refine s_lt ?_
 refine k_nil (k_seq ?_)
 refine w_cond hF10 ?_ ?_ <;> intro hc20 hF11
 refine awp_seq (awp_region ?_)
 refine s_ldW yA28 yS28 ?_
 refine s_stW yS28 ?_
 refine s_as ?_
 refine k_nil (k_seq (awp_ret (k_seq_ret (k_blk_ret (k_rnd_ret2 (k_blk_ret (k_jn_ret (k_fin ?_))))))))
 cases hF11
 exact ends_gen [] [5060] (by rw [Tryd.results22]; exact (res_agg (by conv => lhs; whnf) (by conv => lhs; whnf) yA28 yS28 rfl (res_tmp (by conv => lhs; whnf) res_nil)))
 refine awp_skip (k_seq (awp_seq (awp_region ?_)))
 refine s_fa yF28_4 ?_
 refine s_ld1 yA26 ?_
 refine s_ldW yA28 yS28 ?_
 refine s_bs Form.row [v19.1] yP26 yR28 ?_
 obtain ⟨hk21, hF12⟩ := chk_some hF11
 refine s_apT Form.row (fun y => Form.row_len y) hk21 yP26 ?_
 refine s_fa yF28_4 ?_
 refine s_stP yS26 ?_
 refine k_nil (k_seq (awp_region ?_))
 refine s_mv ?_
 refine s_mv ?_
 obtain ⟨v22, hv22, hF13⟩ := bind_some' hF12
 refine s_pure [] (m_spec_l1Skip_ok fu _ _ _ hv22) ?_
 refine s_as ?_
 refine k_nil (k_blk ?_)
 exact s_rn (fu, v22, (g11 ++ [v19.1])) ⟨by first | omega | (dsimp only; omega), hF13⟩ [(5060, 68)]
 refine awp_exit (k_seq_exit (k_rnd_exit2 (k_blk_exit ?_)))
 exact s_jn (fu, g10, g11) ⟨by first | omega | (dsimp only; omega), hF9⟩
 clear hF6
 rintro ⟨fu, g23, g24⟩ ⟨hl25, hF7⟩
 dsimp only at hl25 hF7 ⊢
 obtain _ | fu := fu
 · rw [m_spec_l1Read_j2] at hF7; cases hF7
 rw [m_spec_l1Read_j2] at hF7
 refine awp_seq ?_
 refine awp_jn (α := Nat × Bool) [73, 74, 75, 76, 77, 78, 79, 80, 81, 82] [] [] (fun a => [(82, .t (.sc (.bool a.2)))]) (fun a => []) (fun a => a.1 ≤ fu ∧ m_spec_l1Read_j5 a.1 g23 g24 a.2 = some r) ?_ ?_
 refine awp_region ?_
 refine s_mv ?_
 refine s_mv ?_
 refine s_lenS yU9 ?_
 refine s_ge ?_
 refine s_mv ?_
 refine w_guard _ 77 hF7 ?_ ?_ <;> intro hc26 hF8
 iterate 4 refine r_no rfl ?_
 refine s_pkt ?_
 refine k_nil ?_
 exact s_jn (fu, true) ⟨by first | omega | (dsimp only; omega), hF8⟩
 refine s_mv ?_
 refine s_mv ?_
 obtain ⟨v27, hv27, hF9⟩ := bind_some' hF8
 refine s_ixS hv27 yU9 ?_
 refine s_ne ?_
 refine s_pkf ?_
 refine k_nil ?_
 exact s_jn (fu, (decide (v27 ≠ 41))) ⟨by first | omega | (dsimp only; omega), hF9⟩
 clear hF7
 rintro ⟨fu, g28⟩ ⟨hl29, hF8⟩
 dsimp only at hl29 hF8 ⊢
 obtain _ | fu := fu
 · rw [m_spec_l1Read_j5] at hF8; cases hF8
 rw [m_spec_l1Read_j5] at hF8
 refine w_cond hF8 ?_ ?_ <;> intro hc30 hF9
 refine awp_seq (awp_region ?_)
 refine s_ldW yA28 yS28 ?_
 refine s_stW yS28 ?_
 refine s_as ?_
 refine k_nil (k_seq (awp_ret (k_seq_ret (k_fin ?_))))
 cases hF9
 exact ends_gen [] [5060] (by rw [Tryd.results22]; exact (res_agg (by conv => lhs; whnf) (by conv => lhs; whnf) yA28 yS28 rfl (res_tmp (by conv => lhs; whnf) res_nil)))
 refine awp_skip (k_seq (awp_seq (awp_region ?_)))
 refine s_ldW yA28 yS28 ?_
 refine s_mv ?_
 refine s_add rfl ?_
 refine s_stW yS28 ?_
 refine s_as ?_
 refine k_nil (k_seq (awp_ret (k_fin ?_)))
 cases hF9
 exact ends_gen [] [5060] (by rw [Tryd.results22]; exact (res_agg (by conv => lhs; whnf) (by conv => lhs; whnf) yA28 yS28 rfl (res_tmp (by conv => lhs; whnf) res_nil)))
theorem m_spec_l1Read_all (fuel : Nat) : m_spec_l1Read_AC fuel := by
 induction fuel using Nat.strongRecOn with
 | _ N ih =>
   cases N with
   | zero => exact (by intro x1 x2 x3 r h; rw [m_spec_l1Read] at h; cases h)
   | succ fu => exact m_spec_l1Read_st fu (fun k hk => (ih k (by omega)))
theorem m_spec_l1Read_ok (fuel : Nat) : m_spec_l1Read_AC fuel := (m_spec_l1Read_all fuel)
def m_spec_l1Scopes_AC (fuel : Nat) : Prop := ∀ (x1 : (List Int)) (r : Bool), m_spec_l1Scopes fuel x1 = some r → AC Tryd.prog 59 [.t (.sl (x1.map rI))] noOb (.t (.sc (.bool r))) noOb
theorem m_spec_l1Scopes_ok (fuel : Nat) : m_spec_l1Scopes_AC fuel := by
 intro x1 r hF0
 unfold m_spec_l1Scopes at hF0
 refine AC_i [.t (.sc (.bool r))] Tryd.func59 rfl Tryd.ntmps59 ?_
 intro C hC
 refine awp_seq (awp_region ?_)
 refine s_as ?_
 refine k_nil (k_seq (awp_seq (awp_seq (awp_region ?_))))
 refine s_as ?_
 refine k_nil (k_seq (awp_block ?_))
 refine awp_fr (β := Int) [2, 3, 4, 5, 6, 7, 8, 9, 10, 11, 12, 13, 14, 15, 16, 17, 18, 19, 20, 21, 22, 23, 24, 25, 26, 27, 28, 29, 30, 31, 32, 33, 34, 35, 36, 37, 38, 39, 40, 41] [] [] (fun a => [(3, .t (.sc (.int .i64 a.2)))]) (fun a => []) (fun a => a.1 ≤ fuel ∧ m_spec_l1Scopes_l1 a.1 x1 a.2 = some r) (fuel, 0) ⟨Nat.le_refl _, hF0⟩ ?_
 clear hF0
 rintro ⟨fu, g1⟩ ⟨hl2, hF1⟩
 dsimp only at hl2 hF1 ⊢
 obtain _ | fu := fu
 · rw [m_spec_l1Scopes_l1] at hF1; cases hF1
 rw [m_spec_l1Scopes_l1] at hF1
 refine awp_seq (awp_seq (awp_region ?_))
 refine s_mv ?_
 refine s_mv ?_
 refine s_lenT yU25 ?_
 refine s_lt ?_
 refine s_mv ?_
 refine w_guard _ 8 hF1 ?_ ?_ <;> intro hc3 hF2
 refine s_mv ?_
 refine s_le ?_
 refine s_pkt ?_
 refine k_nil (k_seq ?_)
 refine w_cond hF2 ?_ ?_ <;> intro hc4 hF3
 refine awp_skip (k_seq (awp_seq (awp_block (awp_seq ?_))))
 refine awp_draw yMix (by kernel_rfl) ?_
 refine s_mv ?_
 refine s_mv ?_
 obtain ⟨v5, hv5, hF4⟩ := bind_some' hF3
 refine s_ixT rI hv5 rfl yE25 ?_
 refine s_ld1 yA3 ?_
 refine s_lt ?_
 refine s_mv ?_
 refine w_guard _ 19 hF4 ?_ ?_ <;> intro hc6 hF5
 iterate 5 refine r_no rfl ?_
 refine s_pkt ?_
 refine s_mv ?_
 iterate 14 refine r_no rfl ?_
 refine s_pkt ?_
 refine k_nilD (by kernel_rfl) ?_
 refine k_seq (awp_true rfl (awp_seq (awp_region ?_)))
 refine s_as ?_
 refine k_nil (k_seq (awp_ret (k_blk_ret (k_seq_ret (k_rnd_ret2 (k_blk_ret (k_seq_ret (k_fin ?_))))))))
 cases hF5
 exact ends_a [] [] Tryd.results59
 refine s_mv ?_
 refine s_mv ?_
 obtain ⟨v7, hv7, hF6⟩ := bind_some' hF5
 refine s_ixT rI hv7 rfl yE25 ?_
 refine s_ld1 yA3 ?_
 refine s_gt ?_
 refine s_pkf ?_
 refine s_mv ?_
 refine w_guard _ 26 hF6 ?_ ?_ <;> intro hc8 hF7
 iterate 14 refine r_no rfl ?_
 refine s_pkt ?_
 refine k_nilD (by kernel_rfl) ?_
 refine k_seq (awp_true rfl (awp_seq (awp_region ?_)))
 refine s_as ?_
 refine k_nil (k_seq (awp_ret (k_blk_ret (k_seq_ret (k_rnd_ret2 (k_blk_ret (k_seq_ret (k_fin ?_))))))))
 cases hF7
 exact ends_a [] [] Tryd.results59
 refine s_mv ?_
 refine s_gt ?_
 refine s_mv ?_
 refine w_guard _ 29 hF7 ?_ ?_ <;> intro hc9 hF8
 refine s_mv ?_
 refine s_mv ?_
 obtain ⟨v10, hv10, hF9⟩ := bind_some' hF8
 refine s_ixT rI hv10 rfl yE25 ?_
 refine s_ld1 yA3 ?_
 refine s_mv ?_
 refine s_mv ?_
 refine s_sub rfl ?_
 obtain ⟨v11, hv11, hF10⟩ := bind_some' hF9
 refine s_ixT rI hv11 rfl yE25 ?_
 refine s_ld1 yA3 ?_
 refine s_le ?_
 refine s_pkt ?_
 refine s_pkf ?_
 refine k_nilD (by kernel_rfl) ?_
 refine k_seq ?_
 refine w_cond hF10 ?_ ?_ <;> intro hc12 hF11
 refine awp_seq (awp_region ?_)
 refine s_as ?_
 refine k_nil (k_seq (awp_ret (k_blk_ret (k_seq_ret (k_rnd_ret2 (k_blk_ret (k_seq_ret (k_fin ?_))))))))
 cases hF11
 exact ends_a [] [] Tryd.results59
 refine awp_skip (k_blk (k_seq (awp_region ?_)))
 refine s_mv ?_
 refine s_add rfl ?_
 refine s_as ?_
 refine k_nil ?_
 exact s_rn (fu, (w64 (g1 + 1))) ⟨by first | omega | (dsimp only; omega), hF11⟩
 iterate 10 refine r_no rfl ?_
 refine s_pkf ?_
 refine s_pkf ?_
 refine k_nilD (by kernel_rfl) ?_
 refine k_seq (awp_false rfl (awp_skip (k_blk (k_seq (awp_region ?_)))))
 refine s_mv ?_
 refine s_add rfl ?_
 refine s_as ?_
 refine k_nil ?_
 exact s_rn (fu, (w64 (g1 + 1))) ⟨by first | omega | (dsimp only; omega), hF8⟩
 refine awp_exit (k_seq_exit (k_rnd_exit2 (k_blk_exit (k_seq (awp_seq (awp_region ?_))))))
 refine s_mv ?_
 refine s_lenT yU25 ?_
 refine s_le ?_
 refine s_as ?_
 refine k_nil (k_seq (awp_ret (k_fin ?_)))
 cases hF3
 exact ends_a [] [] Tryd.results59
 refine r_no rfl (r_no rfl ?_)
 refine s_pkf ?_
 refine k_nil (k_seq (awp_false rfl (awp_exit (k_seq_exit (k_rnd_exit2 (k_blk_exit (k_seq (awp_seq (awp_region ?_)))))))))
 refine s_mv ?_
 refine s_lenT yU25 ?_
 refine s_le ?_
 refine s_as ?_
 refine k_nil (k_seq (awp_ret (k_fin ?_)))
 cases hF2
 exact ends_a [] [] Tryd.results59
def m_spec_l1Is_AC (fuel : Nat) : Prop := ∀ (x1 : Form) (x2 : Int) (r : Bool), m_spec_l1Is fuel x1 x2 = some r → AC Tryd.prog 41 [.ag [.t (.sc (.int .i64 x1.kind)), .t (.sc (.str x1.name)), .t (.sc (.int .i64 x1.n)), .t (.sl (x1.scopes.map rI)), .t (.sl (x1.kids.map Form.row))], .t (.sc (.int .i64 x2))] noOb (.t (.sc (.bool r))) noOb
theorem m_spec_l1Is_st (fu : Nat) (ih_m_spec_l1Is : ∀ k, k ≤ fu → m_spec_l1Is_AC k) : m_spec_l1Is_AC (fu + 1) := by
 intro x1 x2 r hF0
 rw [m_spec_l1Is] at hF0
 refine AC_i [.t (.sc (.bool r))] Tryd.func41 rfl Tryd.ntmps41 ?_
 intro C hC
 refine awp_seq (awp_region ?_)
 refine s_box ?_
 refine s_as ?_
 refine k_nil (k_seq (awp_seq (awp_seq (awp_region ?_))))
 refine s_mv ?_
 refine s_eq ?_
 refine k_nil (k_seq ?_)
 refine w_cond hF0 ?_ ?_ <;> intro hc1 hF1
 refine awp_seq (awp_region ?_)
 refine s_as ?_
 refine k_nil (k_seq (awp_ret (k_seq_ret (k_fin ?_))))
 cases hF1
 exact ends_a [] [] Tryd.results41
 refine awp_skip (k_seq (awp_seq (awp_seq (awp_region ?_))))
 refine s_fa yF28_0 ?_
 refine s_ld1 yA3 ?_
 refine k_nil (k_seq (awp_block (awp_seq (awp_region ?_))))
 refine s_eq ?_
 refine s_as ?_
 refine k_nil (k_seq ?_)
 refine w_cond hF1 ?_ ?_ <;> intro hc2 hF2
 refine awp_seq (awp_region ?_)
 refine s_fa yF28_1 ?_
 refine s_ld1 yA9 ?_
 obtain ⟨v3, hv3, hF3⟩ := bind_some' hF2
 refine s_pure [] (m_spec_NameValid_ok fu _ _ hv3) ?_
 refine s_mv ?_
 refine w_guard _ 15 hF3 ?_ ?_ <;> intro hc4 hF4
 refine s_fa yF28_2 ?_
 refine s_ld1 yA3 ?_
 refine s_eq ?_
 refine s_pkt ?_
 refine s_mv ?_
 refine w_guard _ 20 hF4 ?_ ?_ <;> intro hc5 hF5
 refine s_fa yF28_3 ?_
 refine s_ld1 yA25 ?_
 obtain ⟨v6, hv6, hF6⟩ := bind_some' hF5
 refine s_pure [] (m_spec_l1Scopes_ok fu _ _ hv6) ?_
 refine s_pkt ?_
 refine s_mv ?_
 refine w_guard _ 25 hF6 ?_ ?_ <;> intro hc7 hF7
 refine s_fa yF28_4 ?_
 refine s_ld1 yA26 ?_
 refine s_lenT yU26 ?_
 refine s_eq ?_
 refine s_pkt ?_
 refine s_as ?_
 refine k_nil (k_seq (awp_ret (k_blk_ret (k_seq_ret (k_fin ?_)))))
 cases hF7
 exact ends_a [] [] Tryd.results41
 iterate 4 refine r_no rfl ?_
 refine s_pkf ?_
 refine s_as ?_
 refine k_nil (k_seq (awp_ret (k_blk_ret (k_seq_ret (k_fin ?_)))))
 cases hF7
 exact ends_a [] [] Tryd.results41
 iterate 3 refine r_no rfl ?_
 refine s_pkf ?_
 refine s_mv ?_
 iterate 4 refine r_no rfl ?_
 refine s_pkf ?_
 refine s_as ?_
 refine k_nil (k_seq (awp_ret (k_blk_ret (k_seq_ret (k_fin ?_)))))
 cases hF5
 exact ends_a [] [] Tryd.results41
 iterate 3 refine r_no rfl ?_
 refine s_pkf ?_
 refine s_mv ?_
 iterate 3 refine r_no rfl ?_
 refine s_pkf ?_
 refine s_mv ?_
 iterate 4 refine r_no rfl ?_
 refine s_pkf ?_
 refine s_as ?_
 refine k_nil (k_seq (awp_ret (k_blk_ret (k_seq_ret (k_fin ?_)))))
 cases hF4
 exact ends_a [] [] Tryd.results41
 refine awp_seq (awp_region ?_)
 refine s_eq ?_
 refine s_as ?_
 refine k_nil (k_seq ?_)
 refine w_cond hF2 ?_ ?_ <;> intro hc8 hF3
 refine awp_seq (awp_region ?_)
 refine s_fa yF28_1 ?_
 refine s_ld1 yA9 ?_
 refine s_eqS ?_
 refine s_mv ?_
 refine w_guard _ 36 hF3 ?_ ?_ <;> intro hc9 hF4
 refine s_fa yF28_2 ?_
 refine s_ld1 yA3 ?_
 refine s_ge ?_
 refine s_pkt ?_
 refine s_mv ?_
 refine w_guard _ 41 hF4 ?_ ?_ <;> intro hc10 hF5
 refine s_fa yF28_2 ?_
 refine s_ld1 yA3 ?_
 refine s_le ?_
 refine s_pkt ?_
 refine s_mv ?_
 refine w_guard _ 46 hF5 ?_ ?_ <;> intro hc11 hF6
 refine s_fa yF28_3 ?_
 refine s_ld1 yA25 ?_
 refine s_lenT yU25 ?_
 refine s_eq ?_
 refine s_pkt ?_
 refine s_mv ?_
 refine w_guard _ 52 hF6 ?_ ?_ <;> intro hc12 hF7
 refine s_fa yF28_4 ?_
 refine s_ld1 yA26 ?_
 refine s_lenT yU26 ?_
 refine s_eq ?_
 refine s_pkt ?_
 refine s_as ?_
 refine k_nil (k_seq (awp_ret (k_blk_ret (k_seq_ret (k_fin ?_)))))
 cases hF7
 exact ends_a [] [] Tryd.results41
 iterate 4 refine r_no rfl ?_
 refine s_pkf ?_
 refine s_as ?_
 refine k_nil (k_seq (awp_ret (k_blk_ret (k_seq_ret (k_fin ?_)))))
 cases hF7
 exact ends_a [] [] Tryd.results41
 iterate 4 refine r_no rfl ?_
 refine s_pkf ?_
 refine s_mv ?_
 iterate 4 refine r_no rfl ?_
 refine s_pkf ?_
 refine s_as ?_
 refine k_nil (k_seq (awp_ret (k_blk_ret (k_seq_ret (k_fin ?_)))))
 cases hF6
 exact ends_a [] [] Tryd.results41
 iterate 3 refine r_no rfl ?_
 refine s_pkf ?_
 refine s_mv ?_
 iterate 4 refine r_no rfl ?_
 refine s_pkf ?_
 refine s_mv ?_
 iterate 4 refine r_no rfl ?_
 refine s_pkf ?_
 refine s_as ?_
 refine k_nil (k_seq (awp_ret (k_blk_ret (k_seq_ret (k_fin ?_)))))
 cases hF5
 exact ends_a [] [] Tryd.results41
 iterate 3 refine r_no rfl ?_
 refine s_pkf ?_
 refine s_mv ?_
 iterate 3 refine r_no rfl ?_
 refine s_pkf ?_
 refine s_mv ?_
 iterate 4 refine r_no rfl ?_
 refine s_pkf ?_
 refine s_mv ?_
 iterate 4 refine r_no rfl ?_
 refine s_pkf ?_
 refine s_as ?_
 refine k_nil (k_seq (awp_ret (k_blk_ret (k_seq_ret (k_fin ?_)))))
 cases hF4
 exact ends_a [] [] Tryd.results41
 refine awp_skip (k_blk (k_seq (awp_seq (awp_seq (awp_region ?_)))))
 refine s_fa yF28_0 ?_
 refine s_ld1 yA3 ?_
 refine s_ne ?_
 refine s_mv ?_
 refine w_guard _ 61 hF3 ?_ ?_ <;> intro hc13 hF4
 iterate 3 refine r_no rfl ?_
 refine s_pkt ?_
 refine s_mv ?_
 iterate 3 refine r_no rfl ?_
 refine s_pkt ?_
 refine s_mv ?_
 iterate 4 refine r_no rfl ?_
 refine s_pkt ?_
 refine k_nil (k_seq (awp_true rfl (awp_seq (awp_region ?_))))
 refine s_as ?_
 refine k_nil (k_seq (awp_ret (k_seq_ret (k_fin ?_))))
 cases hF4
 exact ends_a [] [] Tryd.results41
 refine s_fa yF28_1 ?_
 refine s_ld1 yA9 ?_
 refine s_neS ?_
 refine s_pkf ?_
 refine s_mv ?_
 refine w_guard _ 66 hF4 ?_ ?_ <;> intro hc14 hF5
 iterate 3 refine r_no rfl ?_
 refine s_pkt ?_
 refine s_mv ?_
 iterate 4 refine r_no rfl ?_
 refine s_pkt ?_
 refine k_nil (k_seq (awp_true rfl (awp_seq (awp_region ?_))))
 refine s_as ?_
 refine k_nil (k_seq (awp_ret (k_seq_ret (k_fin ?_))))
 cases hF5
 exact ends_a [] [] Tryd.results41
 refine s_fa yF28_2 ?_
 refine s_ld1 yA3 ?_
 refine s_ne ?_
 refine s_pkf ?_
 refine s_mv ?_
 refine w_guard _ 71 hF5 ?_ ?_ <;> intro hc15 hF6
 iterate 4 refine r_no rfl ?_
 refine s_pkt ?_
 refine k_nil (k_seq (awp_true rfl (awp_seq (awp_region ?_))))
 refine s_as ?_
 refine k_nil (k_seq (awp_ret (k_seq_ret (k_fin ?_))))
 cases hF6
 exact ends_a [] [] Tryd.results41
 refine s_fa yF28_3 ?_
 refine s_ld1 yA25 ?_
 refine s_lenT yU25 ?_
 refine s_ne ?_
 refine s_pkf ?_
 refine k_nil (k_seq ?_)
 refine w_cond hF6 ?_ ?_ <;> intro hc16 hF7
 refine awp_seq (awp_region ?_)
 refine s_as ?_
 refine k_nil (k_seq (awp_ret (k_seq_ret (k_fin ?_))))
 cases hF7
 exact ends_a [] [] Tryd.results41
 refine awp_skip (k_seq (awp_seq (awp_seq (awp_region ?_))))
 refine s_as ?_
 refine k_nil (k_seq (awp_block ?_))
 refine awp_fr (β := Int) [4, 5, 77, 78, 79, 80, 81, 82, 83, 84, 85, 86, 87, 88, 89, 90, 91, 92] [] [] (fun a => [(5, .t (.sc (.int .i64 a.2)))]) (fun a => []) (fun a => a.1 ≤ fu ∧ m_spec_l1Is_l1 a.1 x1 x2 a.2 = some r ∧ 0 ≤ a.2) (fu, 0) ⟨Nat.le_refl _, hF7, by simp⟩ ?_
 clear hF7
 rintro ⟨fu, g17⟩ ⟨hl18, hF8, hn_g17⟩
 dsimp only at hl18 hF8 hn_g17 ⊢
 obtain _ | fu := fu
 · rw [m_spec_l1Is_l1] at hF8; cases hF8
 rw [m_spec_l1Is_l1] at hF8
 refine awp_seq (awp_seq (awp_region ?_))
 refine s_mv ?_
 refine s_fa yF28_4 ?_
 refine s_ld1 yA26 ?_
 refine s_lenT yU26 ?_
 refine s_lt ?_
 refine k_nil (k_seq ?_)
 refine w_cond hF8 ?_ ?_ <;> intro hc19 hF9
 refine awp_lenT 79 (fun hb20 => ?_)
 refine awp_skip (k_seq (awp_seq (awp_block (awp_seq (awp_region ?_)))))
 refine s_fa yF28_4 ?_
 refine s_ld1 yA26 ?_
 refine s_mv ?_
 obtain ⟨v21, hv21, hF10⟩ := bind_some' hF9
 refine s_ixT Form.row hv21 (Form.row_eq _) yE26 ?_
 refine s_ldN yA28 yS28 ?_
 refine s_mv ?_
 refine s_sub rfl ?_
 obtain ⟨v22, hv22, hF11⟩ := bind_some' hF10
 refine s_pure [] (ih_m_spec_l1Is fu (by omega) _ _ _ hv22) ?_
 refine s_not ?_
 refine k_nil (k_seq ?_)
 refine w_cond hF11 ?_ ?_ <;> intro hc23 hF12
 refine awp_seq (awp_region ?_)
 refine s_as ?_
 refine k_nil (k_seq (awp_ret (k_blk_ret (k_seq_ret (k_rnd_ret2 (k_blk_ret (k_seq_ret (k_fin ?_))))))))
 cases hF12
 exact ends_a [] [] Tryd.results41
 refine awp_skip (k_blk (k_seq (awp_region ?_)))
 refine s_mv ?_
 refine s_add (winc2 hc19 hb20 hn_g17) ?_
 refine s_as ?_
 refine k_nil ?_
 exact s_rn (fu, (g17 + 1)) ⟨by first | omega | (dsimp only; omega), hF12, by first | omega | (dsimp only; omega)⟩
 refine awp_exit (k_seq_exit (k_rnd_exit2 (k_blk_exit (k_seq (awp_seq (awp_region ?_))))))
 refine s_as ?_
 refine k_nil (k_seq (awp_ret (k_fin ?_)))
 cases hF9
 exact ends_a [] [] Tryd.results41
theorem m_spec_l1Is_all (fuel : Nat) : m_spec_l1Is_AC fuel := by
 induction fuel using Nat.strongRecOn with
 | _ N ih =>
   cases N with
   | zero => exact (by intro x1 x2 r h; rw [m_spec_l1Is] at h; cases h)
   | succ fu => exact m_spec_l1Is_st fu (fun k hk => (ih k (by omega)))
theorem m_spec_l1Is_ok (fuel : Nat) : m_spec_l1Is_AC fuel := (m_spec_l1Is_all fuel)
def m_spec_l1Count_AC (fuel : Nat) : Prop := ∀ (x1 : Form) (r : Int), m_spec_l1Count fuel x1 = some r → AC Tryd.prog 42 [.ag [.t (.sc (.int .i64 x1.kind)), .t (.sc (.str x1.name)), .t (.sc (.int .i64 x1.n)), .t (.sl (x1.scopes.map rI)), .t (.sl (x1.kids.map Form.row))]] noOb (.t (.sc (.int .i64 r))) noOb
theorem m_spec_l1Count_st (fu : Nat) (ih_m_spec_l1Count : ∀ k, k ≤ fu → m_spec_l1Count_AC k) : m_spec_l1Count_AC (fu + 1) := by
 intro x1 r hF0
 rw [m_spec_l1Count] at hF0
 refine AC_i [.t (.sc (.int .i64 r))] Tryd.func42 rfl Tryd.ntmps42 ?_
 intro C hC
 refine awp_seq (awp_region ?_)
 refine s_box ?_
 refine s_as ?_
 refine k_nil (k_seq (awp_seq (awp_region ?_)))
 refine s_as ?_
 refine k_nil (k_seq (awp_seq (awp_seq (awp_region ?_))))
 refine s_as ?_
 refine k_nil (k_seq (awp_block ?_))
 refine awp_fr (β := Int × Int) [3, 4, 5, 6, 7, 8, 9, 10, 11, 12, 13, 14, 15, 16, 17, 18, 19] [] [] (fun a => [(3, .t (.sc (.int .i64 a.2.1))), (4, .t (.sc (.int .i64 a.2.2)))]) (fun a => []) (fun a => a.1 ≤ fu ∧ m_spec_l1Count_l1 a.1 x1 a.2.1 a.2.2 = some r ∧ 0 ≤ a.2.2) (fu, 1, 0) ⟨Nat.le_refl _, hF0, by simp⟩ ?_
 clear hF0
 rintro ⟨fu, g1, g2⟩ ⟨hl3, hF1, hn_g2⟩
 dsimp only at hl3 hF1 hn_g2 ⊢
 obtain _ | fu := fu
 · rw [m_spec_l1Count_l1] at hF1; cases hF1
 rw [m_spec_l1Count_l1] at hF1
 refine awp_seq (awp_seq (awp_region ?_))
 refine s_mv ?_
 refine s_fa yF28_4 ?_
 refine s_ld1 yA26 ?_
 refine s_lenT yU26 ?_
 refine s_lt ?_
 refine k_nil (k_seq ?_)
 refine w_cond hF1 ?_ ?_ <;> intro hc4 hF2
 refine awp_lenT 7 (fun hb5 => ?_)
 refine awp_skip (k_seq (awp_seq (awp_block (awp_region ?_))))
 refine s_mv ?_
 refine s_fa yF28_4 ?_
 refine s_ld1 yA26 ?_
 refine s_mv ?_
 obtain ⟨v6, hv6, hF3⟩ := bind_some' hF2
 refine s_ixT Form.row hv6 (Form.row_eq _) yE26 ?_
 refine s_ldN yA28 yS28 ?_
 obtain ⟨v7, hv7, hF4⟩ := bind_some' hF3
 refine s_pure [] (ih_m_spec_l1Count fu (by omega) _ _ hv7) ?_
 refine s_add rfl ?_
 refine s_as ?_
 refine k_nil (k_blk (k_seq (awp_region ?_)))
 refine s_mv ?_
 refine s_add (winc2 hc4 hb5 hn_g2) ?_
 refine s_as ?_
 refine k_nil ?_
 exact s_rn (fu, (w64 (g1 + v7)), (g2 + 1)) ⟨by first | omega | (dsimp only; omega), hF4, by first | omega | (dsimp only; omega)⟩
 refine awp_exit (k_seq_exit (k_rnd_exit2 (k_blk_exit (k_seq (awp_seq (awp_region ?_))))))
 refine s_mv ?_
 refine s_as ?_
 refine k_nil (k_seq (awp_ret (k_fin ?_)))
 cases hF2
 exact ends_a [] [] Tryd.results42
end Go.Abs
