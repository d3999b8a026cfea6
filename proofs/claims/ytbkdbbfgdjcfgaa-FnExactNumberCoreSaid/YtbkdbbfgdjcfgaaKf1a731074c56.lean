/- A part of the proof: what the functions that the law calls answer, as pure values. -/
import Derived.Test.YtbkdbbfgdjcfgaaK095c9cd77914
import Derived.Test.YtbkdbbfgdjcfgaaK59f2f0d3f59e
import Derived.Test.YtbkdbbfgdjcfgaaK71f3fdb1c4f3
import Derived.Test.YtbkdbbfgdjcfgaaK9526398f249b
import Derived.Test.YtbkdbbfgdjcfgaaKa66c5c62e785
set_option linter.unusedSimpArgs false
set_option linter.unusedVariables false
set_option maxRecDepth 100000
set_option maxHeartbeats 4000000
namespace Go.Abs
open Go.Proofs
def m_spec_l2Has_AC (fuel : Nat) : Prop := ∀ (x1 : (List Int)) (x2 : Int) (r : Bool), m_spec_l2Has fuel x1 x2 = some r → AC Try.prog 166 [.t (.sl (x1.map rI)), .t (.sc (.int .i64 x2))] noOb (.t (.sc (.bool r))) noOb
theorem m_spec_l2Has_ok (fuel : Nat) : m_spec_l2Has_AC fuel := by
 intro x1 x2 r hF0
 unfold m_spec_l2Has at hF0
 refine AC_i [.t (.sc (.bool r))] Try.func166 rfl Try.ntmps166 ?_
 intro C hC
 refine awp_seq (awp_region ?_)
 refine s_as ?_
 refine k_nil (k_seq (awp_seq (awp_seq (awp_region ?_))))
 refine s_as ?_
 refine k_nil (k_seq (awp_block ?_))
 refine awp_fr (β := Int) [4, 5, 6, 7, 8, 9, 10, 11, 12, 13, 14, 15, 16, 17] [] [] (fun a => [(5, .t (.sc (.int .i64 a.2)))]) (fun a => []) (fun a => a.1 ≤ fuel ∧ m_spec_l2Has_l1 a.1 x1 x2 a.2 = some r ∧ 0 ≤ a.2) (fuel, 0) ⟨Nat.le_refl _, hF0, by simp⟩ ?_
 clear hF0
 rintro ⟨fu, g1⟩ ⟨hl2, hF1, hn_g1⟩
 dsimp only at hl2 hF1 hn_g1 ⊢
 obtain _ | fu := fu
 · rw [m_spec_l2Has_l1] at hF1; cases hF1
 rw [m_spec_l2Has_l1] at hF1
 refine awp_seq (awp_seq (awp_region ?_))
 refine s_mv ?_
 refine s_mv ?_
 refine s_lenT yU22 ?_
 refine s_lt ?_
 refine k_nil (k_seq ?_)
 refine w_cond hF1 ?_ ?_ <;> intro hc3 hF2
 refine awp_lenT 0 (fun hb4 => ?_)
 refine awp_skip (k_seq (awp_seq (awp_block (awp_seq (awp_region ?_)))))
 refine s_mv ?_
 refine s_mv ?_
 obtain ⟨v5, hv5, hF3⟩ := bind_some' hF2
 refine s_ixT rI hv5 rfl yE22 ?_
 refine s_ld1 yA3 ?_
 refine s_mv ?_
 refine s_eq ?_
 refine k_nil (k_seq ?_)
 refine w_cond hF3 ?_ ?_ <;> intro hc6 hF4
 refine awp_seq (awp_region ?_)
 refine s_as ?_
 refine k_nil (k_seq (awp_ret (k_blk_ret (k_seq_ret (k_rnd_ret2 (k_blk_ret (k_seq_ret (k_fin ?_))))))))
 cases hF4
 exact ends_a [] [] Try.results166
 refine awp_skip (k_blk (k_seq (awp_region ?_)))
 refine s_mv ?_
 refine s_add (winc2 hc3 hb4 hn_g1) ?_
 refine s_as ?_
 refine k_nil ?_
 exact s_rn (fu, (g1 + 1)) ⟨by first | omega | (dsimp only; omega), hF4, by first | omega | (dsimp only; omega)⟩
 refine awp_exit (k_seq_exit (k_rnd_exit2 (k_blk_exit (k_seq (awp_seq (awp_region ?_))))))
 refine s_as ?_
 refine k_nil (k_seq (awp_ret (k_fin ?_)))
 cases hF2
 exact ends_a [] [] Try.results166
def m_spec_l6Is_AC (fuel : Nat) : Prop := ∀ (x1 : Core) (x2 : (List Int)) (x3 : Int) (r : Bool), m_spec_l6Is fuel x1 x2 x3 = some r → AC Try.prog 139 [.ag [.t (.sc (.int .i64 x1.kind)), .t (.sc (.int .i64 x1.id)), .t (.sc (.str x1.name)), .t (.sc (.int .i64 x1.n)), .t (.sl (x1.ids.map rI)), .t (.sc (.int .i64 x1.data.kind)), .t (.sc (.str x1.data.name)), .t (.sc (.int .i64 x1.data.n)), .t (.sl (x1.data.scopes.map rI)), .t (.sl (x1.data.kids.map Form.row)), .t (.sl (x1.kids.map Core.row))], .t (.sl (x2.map rI)), .t (.sc (.int .i64 x3))] noOb (.t (.sc (.bool r))) noOb
theorem m_spec_l6Is_st (fu : Nat) (ih_m_spec_l6Is : ∀ k, k ≤ fu → m_spec_l6Is_AC k) : m_spec_l6Is_AC (fu + 1) := by
 intro x1 x2 x3 r hF0
 rw [m_spec_l6Is] at hF0
 refine AC_i [.t (.sc (.bool r))] Try.func139 rfl Try.ntmps139 ?_
 intro C hC
 refine awp_seq (awp_region ?_)
 refine s_box ?_
 refine s_as ?_
 refine k_nil (k_seq ?_)
 refine awp_jn (α := Nat) [6, 10, 11, 12, 13, 14, 15, 16, 17, 18, 19, 20, 21, 22, 23, 24, 25, 26, 27, 28, 29, 30, 31, 32, 33, 34, 35, 36, 37] [] [] (fun a => []) (fun a => []) (fun a => a ≤ fu ∧ m_spec_l6Is_j1 a x1 x2 x3  = some r) ?_ ?_
 refine awp_seq (awp_region ?_)
 refine s_mv ?_
 refine s_eq ?_
 refine s_mv ?_
 refine w_guard _ 12 hF0 ?_ ?_ <;> intro hc1 hF1
 iterate 7 refine r_no rfl ?_
 refine s_pkt ?_
 refine s_mv ?_
 iterate 3 refine r_no rfl ?_
 refine s_pkt ?_
 refine s_mv ?_
 iterate 10 refine r_no rfl ?_
 refine s_pkt ?_
 refine k_nil (k_seq (awp_true rfl (awp_seq (awp_region ?_))))
 refine s_as ?_
 refine k_nil (k_seq (awp_ret (k_jn_ret (k_fin ?_))))
 cases hF1
 exact ends_a [] [] Try.results139
 refine s_fa yF37_0 ?_
 refine s_ld1 yA3 ?_
 refine s_fa yF37_6 ?_
 refine s_ld1 yA35 ?_
 refine s_lenT yU35 ?_
 obtain ⟨v2, hv2, hF2⟩ := bind_some' hF1
 refine s_pure [] (m_spec_l6Kids_ok fu _ _ _ hv2) ?_
 refine s_not ?_
 refine s_pkf ?_
 refine s_mv ?_
 refine w_guard _ 21 hF2 ?_ ?_ <;> intro hc3 hF3
 iterate 3 refine r_no rfl ?_
 refine s_pkt ?_
 refine s_mv ?_
 iterate 10 refine r_no rfl ?_
 refine s_pkt ?_
 refine k_nil (k_seq (awp_true rfl (awp_seq (awp_region ?_))))
 refine s_as ?_
 refine k_nil (k_seq (awp_ret (k_jn_ret (k_fin ?_))))
 cases hF3
 exact ends_a [] [] Try.results139
 refine s_ldW yA37 yS37 ?_
 obtain ⟨v4, hv4, hF4⟩ := bind_some' hF3
 refine s_pure [] (m_spec_l6Fields_ok fu _ _ hv4) ?_
 refine s_not ?_
 refine s_pkf ?_
 refine s_mv ?_
 refine w_guard _ 26 hF4 ?_ ?_ <;> intro hc5 hF5
 iterate 10 refine r_no rfl ?_
 refine s_pkt ?_
 refine k_nil (k_seq (awp_true rfl (awp_seq (awp_region ?_))))
 refine s_as ?_
 refine k_nil (k_seq (awp_ret (k_jn_ret (k_fin ?_))))
 cases hF5
 exact ends_a [] [] Try.results139
 refine s_fa yF37_0 ?_
 refine s_ld1 yA3 ?_
 refine s_eq ?_
 refine s_mv ?_
 refine w_guard _ 30 hF5 ?_ ?_ <;> intro hc6 hF6
 refine s_mv ?_
 refine s_fa yF37_1 ?_
 refine s_ld1 yA3 ?_
 obtain ⟨v7, hv7, hF7⟩ := bind_some' hF6
 refine s_pure [] (m_spec_l2Has_ok fu _ _ _ hv7) ?_
 refine s_not ?_
 refine s_pkt ?_
 refine s_pkf ?_
 refine k_nil (k_seq ?_)
 refine w_cond hF7 ?_ ?_ <;> intro hc8 hF8
 refine awp_seq (awp_region ?_)
 refine s_as ?_
 refine k_nil (k_seq (awp_ret (k_jn_ret (k_fin ?_))))
 cases hF8
 exact ends_a [] [] Try.results139
 refine awp_skip ?_
 exact s_jn (fu) ⟨by first | omega | (dsimp only; omega), hF8⟩
 iterate 5 refine r_no rfl ?_
 refine s_pkf ?_
 refine s_pkf ?_
 refine k_nil (k_seq (awp_false rfl (awp_skip ?_)))
 exact s_jn (fu) ⟨by first | omega | (dsimp only; omega), hF6⟩
 clear hF0
 rintro fu ⟨hl9, hF1⟩
 obtain _ | fu := fu
 · rw [m_spec_l6Is_j1] at hF1; cases hF1
 rw [m_spec_l6Is_j1] at hF1
 refine awp_seq (awp_region ?_)
 refine s_mv ?_
 refine s_as ?_
 refine k_nil (k_seq ?_)
 refine awp_jn (α := Nat × (List Int)) [6, 7, 8, 39, 40, 41, 42, 43, 44, 45, 46, 47, 48, 49, 50, 51, 52, 53, 54, 55, 56, 57, 58, 59, 60, 61, 62, 63, 64, 65, 66, 67, 68, 69, 70, 71, 72, 73, 74, 75, 76, 77, 78] [] [] (fun a => [(7, .t (.sl (a.2.map rI)))]) (fun a => []) (fun a => a.1 ≤ fu ∧ m_spec_l6Is_j2 a.1 x1 x3 a.2 = some r) ?_ ?_
 refine awp_seq (awp_region ?_)
 refine s_as ?_
 refine k_nil (k_seq (awp_block ?_))
 refine awp_fr (β := (List Int) × Int) [6, 7, 8, 39, 40, 41, 42, 43, 44, 45, 46, 47, 48, 49, 50, 51, 52, 53, 54, 55, 56, 57, 58, 59, 60, 61, 62, 63, 64, 65, 66, 67, 68, 69, 70, 71, 72, 73, 74, 75, 76, 77, 78] [] [69, 71, 77, 78] (fun a => [(7, .t (.sl (a.2.1.map rI))), (8, .t (.sc (.int .i64 a.2.2)))]) (fun a => []) (fun a => a.1 ≤ fu ∧ m_spec_l6Is_l3 a.1 x1 x3 a.2.1 a.2.2 = some r ∧ 0 ≤ a.2.2) (fu, x2, 0) ⟨Nat.le_refl _, hF1, by simp⟩ ?_
 clear hF1
 rintro ⟨fu, g10, g11⟩ ⟨hl12, hF2, hn_g11⟩
 dsimp only at hl12 hF2 hn_g11 ⊢
 obtain _ | fu := fu
 · rw [m_spec_l6Is_l3] at hF2; cases hF2
 rw [m_spec_l6Is_l3] at hF2
 refine awp_seq (awp_seq (awp_region ?_))
 refine s_mv ?_
 refine s_fa yF37_4 ?_
 refine s_ld1 yA22 ?_
 refine s_lenT yU22 ?_
 refine s_lt ?_
 refine k_nil (k_seq ?_)
 refine w_cond hF2 ?_ ?_ <;> intro hc13 hF3
 refine awp_lenT 41 (fun hb14 => ?_)
 refine awp_skip (k_seq (awp_seq (awp_block (awp_seq ?_))))
 refine awp_jn (α := Nat × Bool) [46, 47, 48, 49, 50, 51, 52, 53, 54, 55, 56, 57, 58, 59, 60, 61, 62, 63, 64, 65, 66, 67, 68] [] [] (fun a => [(68, .t (.sc (.bool a.2)))]) (fun a => []) (fun a => a.1 ≤ fu ∧ m_spec_l6Is_j4 a.1 x1 x3 g10 g11 a.2 = some r) ?_ ?_
 refine awp_region ?_
 refine s_fa yF37_4 ?_
 refine s_ld1 yA22 ?_
 refine s_mv ?_
 obtain ⟨v15, hv15, hF4⟩ := bind_some' hF3
 refine s_ixT rI hv15 rfl yE22 ?_
 refine s_ld1 yA3 ?_
 refine s_lt ?_
 refine s_mv ?_
 refine w_guard _ 52 hF4 ?_ ?_ <;> intro hc16 hF5
 iterate 6 refine r_no rfl ?_
 refine s_pkt ?_
 refine s_mv ?_
 iterate 7 refine r_no rfl ?_
 refine s_pkt ?_
 refine k_nil ?_
 exact s_jn (fu, true) ⟨by first | omega | (dsimp only; omega), hF5⟩
 refine s_fa yF37_4 ?_
 refine s_ld1 yA22 ?_
 refine s_mv ?_
 obtain ⟨v17, hv17, hF6⟩ := bind_some' hF5
 refine s_ixT rI hv17 rfl yE22 ?_
 refine s_ld1 yA3 ?_
 refine s_gt ?_
 refine s_pkf ?_
 refine s_mv ?_
 refine w_guard _ 60 hF6 ?_ ?_ <;> intro hc18 hF7
 iterate 7 refine r_no rfl ?_
 refine s_pkt ?_
 refine k_nil ?_
 exact s_jn (fu, true) ⟨by first | omega | (dsimp only; omega), hF7⟩
 refine s_mv ?_
 refine s_fa yF37_4 ?_
 refine s_ld1 yA22 ?_
 refine s_mv ?_
 obtain ⟨v19, hv19, hF8⟩ := bind_some' hF7
 refine s_ixT rI hv19 rfl yE22 ?_
 refine s_ld1 yA3 ?_
 obtain ⟨v20, hv20, hF9⟩ := bind_some' hF8
 refine s_pure [] (m_spec_l2Has_ok fu _ _ _ hv20) ?_
 refine s_pkf ?_
 refine k_nil ?_
 exact s_jn (fu, v20) ⟨by first | omega | (dsimp only; omega), hF9⟩
 clear hF3
 rintro ⟨fu, g21⟩ ⟨hl22, hF4⟩
 dsimp only at hl22 hF4 ⊢
 obtain _ | fu := fu
 · rw [m_spec_l6Is_j4] at hF4; cases hF4
 rw [m_spec_l6Is_j4] at hF4
 refine w_cond hF4 ?_ ?_ <;> intro hc23 hF5
 refine awp_seq (awp_region ?_)
 refine s_as ?_
 refine k_nil (k_seq (awp_ret (k_seq_ret (k_blk_ret (k_seq_ret (k_rnd_ret2 (k_blk_ret (k_jn_ret (k_fin ?_)))))))))
 cases hF5
 exact ends_a [] [] Try.results139
 refine awp_skip (k_seq ?_)
 refine awp_draw yMix (by kernel_rfl) ?_
 refine s_bs rI ([] : List Int) yP22 yR3 ?_
 refine s_mv ?_
 obtain ⟨hk24, hF6⟩ := chk_some hF5
 refine s_apT rI (fun _ => rfl) hk24 yP22 ?_
 refine s_fa yF37_4 ?_
 refine s_ld1 yA22 ?_
 refine s_mv ?_
 obtain ⟨v25, hv25, hF7⟩ := bind_some' hF6
 refine s_ixT rI hv25 rfl yE22 ?_
 refine s_ld1 yA3 ?_
 refine s_bs rI [v25] yP22 yR3 ?_
 obtain ⟨hk26, hF8⟩ := chk_some hF7
 refine s_apT rI (fun _ => rfl) hk26 yP22 ?_
 refine s_as ?_
 refine k_nilD (by kernel_rfl) ?_
 refine k_blk (k_seq ?_)
 refine awp_pz 7 ?_
 refine awp_region ?_
 refine s_mv ?_
 refine s_add (winc2 hc13 hb14 hn_g11) ?_
 refine s_as ?_
 refine k_nil ?_
 exact s_rn (fu, ((([] : List Int) ++ g10) ++ [v25]), (g11 + 1)) ⟨by first | omega | (dsimp only; omega), hF8, by first | omega | (dsimp only; omega)⟩
 refine awp_exit (k_seq_exit (k_rnd_exit2 (k_blk_exit ?_)))
 exact s_jn (fu, g10) ⟨by first | omega | (dsimp only; omega), hF3⟩
 clear hF1
 rintro ⟨fu, g27⟩ ⟨hl28, hF2⟩
 dsimp only at hl28 hF2 ⊢
 obtain _ | fu := fu
 · rw [m_spec_l6Is_j2] at hF2; cases hF2
 rw [m_spec_l6Is_j2] at hF2
 refine awp_seq (awp_seq (awp_region ?_))
 refine s_as ?_
 refine k_nil (k_seq (awp_block ?_))
 refine awp_fr (β := Int) [6, 9, 79, 80, 81, 82, 83, 84, 85, 86, 87, 88, 89, 90, 91, 92, 93, 94, 95] [] [] (fun a => [(9, .t (.sc (.int .i64 a.2)))]) (fun a => []) (fun a => a.1 ≤ fu ∧ m_spec_l6Is_l5 a.1 x1 x3 g27 a.2 = some r ∧ 0 ≤ a.2) (fu, 0) ⟨Nat.le_refl _, hF2, by simp⟩ ?_
 clear hF2
 rintro ⟨fu, g29⟩ ⟨hl30, hF3, hn_g29⟩
 dsimp only at hl30 hF3 hn_g29 ⊢
 obtain _ | fu := fu
 · rw [m_spec_l6Is_l5] at hF3; cases hF3
 rw [m_spec_l6Is_l5] at hF3
 refine awp_seq (awp_seq (awp_region ?_))
 refine s_mv ?_
 refine s_fa yF37_6 ?_
 refine s_ld1 yA35 ?_
 refine s_lenT yU35 ?_
 refine s_lt ?_
 refine k_nil (k_seq ?_)
 refine w_cond hF3 ?_ ?_ <;> intro hc31 hF4
 refine awp_lenT 81 (fun hb32 => ?_)
 refine awp_skip (k_seq (awp_seq (awp_block (awp_seq (awp_region ?_)))))
 refine s_fa yF37_6 ?_
 refine s_ld1 yA35 ?_
 refine s_mv ?_
 obtain ⟨v33, hv33, hF5⟩ := bind_some' hF4
 refine s_ixT Core.row hv33 (Core.row_eq _) yE35 ?_
 refine s_ldN yA37 yS37 ?_
 refine s_mv ?_
 refine s_mv ?_
 refine s_sub rfl ?_
 obtain ⟨v34, hv34, hF6⟩ := bind_some' hF5
 refine s_pure [] (ih_m_spec_l6Is fu (by omega) _ _ _ _ hv34) ?_
 refine s_not ?_
 refine k_nil (k_seq ?_)
 refine w_cond hF6 ?_ ?_ <;> intro hc35 hF7
 refine awp_seq (awp_region ?_)
 refine s_as ?_
 refine k_nil (k_seq (awp_ret (k_blk_ret (k_seq_ret (k_rnd_ret2 (k_blk_ret (k_seq_ret (k_fin ?_))))))))
 cases hF7
 exact ends_a [] [] Try.results139
 refine awp_skip (k_blk (k_seq (awp_region ?_)))
 refine s_mv ?_
 refine s_add (winc2 hc31 hb32 hn_g29) ?_
 refine s_as ?_
 refine k_nil ?_
 exact s_rn (fu, (g29 + 1)) ⟨by first | omega | (dsimp only; omega), hF7, by first | omega | (dsimp only; omega)⟩
 refine awp_exit (k_seq_exit (k_rnd_exit2 (k_blk_exit (k_seq (awp_seq (awp_region ?_))))))
 refine s_as ?_
 refine k_nil (k_seq (awp_ret (k_fin ?_)))
 cases hF4
 exact ends_a [] [] Try.results139
theorem m_spec_l6Is_all (fuel : Nat) : m_spec_l6Is_AC fuel := by
 induction fuel using Nat.strongRecOn with
 | _ N ih =>
   cases N with
   | zero => exact (by intro x1 x2 x3 r h; rw [m_spec_l6Is] at h; cases h)
   | succ fu => exact m_spec_l6Is_st fu (fun k hk => (ih k (by omega)))
theorem m_spec_l6Is_ok (fuel : Nat) : m_spec_l6Is_AC fuel := (m_spec_l6Is_all fuel)
def m_spec_l6Count_AC (fuel : Nat) : Prop := ∀ (x1 : Core) (r : Int), m_spec_l6Count fuel x1 = some r → AC Try.prog 140 [.ag [.t (.sc (.int .i64 x1.kind)), .t (.sc (.int .i64 x1.id)), .t (.sc (.str x1.name)), .t (.sc (.int .i64 x1.n)), .t (.sl (x1.ids.map rI)), .t (.sc (.int .i64 x1.data.kind)), .t (.sc (.str x1.data.name)), .t (.sc (.int .i64 x1.data.n)), .t (.sl (x1.data.scopes.map rI)), .t (.sl (x1.data.kids.map Form.row)), .t (.sl (x1.kids.map Core.row))]] noOb (.t (.sc (.int .i64 r))) noOb
theorem m_spec_l6Count_st (fu : Nat) (ih_m_spec_l6Count : ∀ k, k ≤ fu → m_spec_l6Count_AC k) : m_spec_l6Count_AC (fu + 1) := by
 intro x1 r hF0
 rw [m_spec_l6Count] at hF0
 refine AC_i [.t (.sc (.int .i64 r))] Try.func140 rfl Try.ntmps140 ?_
 intro C hC
 refine awp_seq (awp_region ?_)
 refine s_box ?_
 refine s_as ?_
 refine k_nil (k_seq (awp_seq (awp_region ?_)))
 refine s_as ?_
 refine k_nil (k_seq (awp_seq (awp_seq (awp_region ?_))))
 refine s_as ?_
 refine k_nil (k_seq (awp_block ?_))
 refine awp_fr (β := Int × Int) [3, 4, 5, 6, 7, 8, 9, 10, 11, 12, 13, 14, 15, 16, 17, 18, 19] [] [] (fun a => [(3, .t (.sc (.int .i64 a.2.1))), (4, .t (.sc (.int .i64 a.2.2)))]) (fun a => []) (fun a => a.1 ≤ fu ∧ m_spec_l6Count_l1 a.1 x1 a.2.1 a.2.2 = some r ∧ 0 ≤ a.2.2) (fu, 1, 0) ⟨Nat.le_refl _, hF0, by simp⟩ ?_
 clear hF0
 rintro ⟨fu, g1, g2⟩ ⟨hl3, hF1, hn_g2⟩
 dsimp only at hl3 hF1 hn_g2 ⊢
 obtain _ | fu := fu
 · rw [m_spec_l6Count_l1] at hF1; cases hF1
 rw [m_spec_l6Count_l1] at hF1
 refine awp_seq (awp_seq (awp_region ?_))
 refine s_mv ?_
 refine s_fa yF37_6 ?_
 refine s_ld1 yA35 ?_
 refine s_lenT yU35 ?_
 refine s_lt ?_
 refine k_nil (k_seq ?_)
 refine w_cond hF1 ?_ ?_ <;> intro hc4 hF2
 refine awp_lenT 7 (fun hb5 => ?_)
 refine awp_skip (k_seq (awp_seq (awp_block (awp_region ?_))))
 refine s_mv ?_
 refine s_fa yF37_6 ?_
 refine s_ld1 yA35 ?_
 refine s_mv ?_
 obtain ⟨v6, hv6, hF3⟩ := bind_some' hF2
 refine s_ixT Core.row hv6 (Core.row_eq _) yE35 ?_
 refine s_ldN yA37 yS37 ?_
 obtain ⟨v7, hv7, hF4⟩ := bind_some' hF3
 refine s_pure [] (ih_m_spec_l6Count fu (by omega) _ _ hv7) ?_
 refine s_add rfl ?_
 refine s_as ?_
 refine k_nil (k_blk (k_seq (awp_region ?_)))
 refine s_mv ?_
 refine s_add (winc2 hc4 hb5 hn_g2) ?_
 refine s_as ?_
 refine k_nil ?_
 exact s_rn (fu, (w64 (g1 + v7)), (g2 + 1)) ⟨by first | omega | (dsimp only; omega), hF4, by first | omega | (dsimp only; omega)⟩
 refine awp_exit (k_seq_exit (k_rnd_exit2 (k_blk_exit (k_seq (awp_seq (awp_region ?_))))))
 refine s_mv ?_
 refine s_as ?_
 refine k_nil (k_seq (awp_ret (k_fin ?_)))
 cases hF2
 exact ends_a [] [] Try.results140
theorem m_spec_l6Count_all (fuel : Nat) : m_spec_l6Count_AC fuel := by
 induction fuel using Nat.strongRecOn with
 | _ N ih =>
   cases N with
   | zero => exact (by intro x1 r h; rw [m_spec_l6Count] at h; cases h)
   | succ fu => exact m_spec_l6Count_st fu (fun k hk => (ih k (by omega)))
theorem m_spec_l6Count_ok (fuel : Nat) : m_spec_l6Count_AC fuel := (m_spec_l6Count_all fuel)
def m_spec_CoreValid_AC (fuel : Nat) : Prop := ∀ (x1 : Core) (r : Bool), m_spec_CoreValid fuel x1 = some r → AC Try.prog 97 [.ag [.t (.sc (.int .i64 x1.kind)), .t (.sc (.int .i64 x1.id)), .t (.sc (.str x1.name)), .t (.sc (.int .i64 x1.n)), .t (.sl (x1.ids.map rI)), .t (.sc (.int .i64 x1.data.kind)), .t (.sc (.str x1.data.name)), .t (.sc (.int .i64 x1.data.n)), .t (.sl (x1.data.scopes.map rI)), .t (.sl (x1.data.kids.map Form.row)), .t (.sl (x1.kids.map Core.row))]] noOb (.t (.sc (.bool r))) noOb
theorem m_spec_CoreValid_ok (fuel : Nat) : m_spec_CoreValid_AC fuel := by
 intro x1 r hF0
 unfold m_spec_CoreValid at hF0
 refine AC_i [.t (.sc (.bool r))] Try.func97 rfl Try.ntmps97 ?_
 intro C hC
 refine awp_seq (awp_region ?_)
 refine s_box ?_
 refine s_as ?_
 refine k_nil (k_seq (awp_seq (awp_region ?_)))
 refine s_ldW yA37 yS37 ?_
 refine s_bs rI ([] : List Int) yP22 yR3 ?_
 obtain ⟨v1, hv1, hF1⟩ := bind_some' hF0
 refine s_pure [4] (m_spec_l6Is_ok fuel _ _ _ _ hv1) ?_
 refine s_mv ?_
 refine w_guard _ 6 hF1 ?_ ?_ <;> intro hc2 hF2
 refine s_ldW yA37 yS37 ?_
 obtain ⟨v3, hv3, hF3⟩ := bind_some' hF2
 refine s_pure [] (m_spec_l6Count_ok fuel _ _ hv3) ?_
 refine s_le ?_
 refine s_pkt ?_
 refine s_as ?_
 refine k_nil (k_seq (awp_ret (k_fin ?_)))
 cases hF3
 exact ends_a [] [] Try.results97
 iterate 3 refine r_no rfl ?_
 refine s_pkf ?_
 refine s_as ?_
 refine k_nil (k_seq (awp_ret (k_fin ?_)))
 cases hF2
 exact ends_a [] [] Try.results97
def m_spec_l6Last_AC (fuel : Nat) : Prop := ∀ (x1 : (List Int)) (x2 : Int) (r : Int), m_spec_l6Last fuel x1 x2 = some r → AC Try.prog 141 [.t (.sl (x1.map rI)), .t (.sc (.int .i64 x2))] noOb (.t (.sc (.int .i64 r))) noOb
theorem m_spec_l6Last_ok (fuel : Nat) : m_spec_l6Last_AC fuel := by
 intro x1 x2 r hF0
 unfold m_spec_l6Last at hF0
 refine AC_i [.t (.sc (.int .i64 r))] Try.func141 rfl Try.ntmps141 ?_
 intro C hC
 refine awp_seq (awp_region ?_)
 refine s_as ?_
 refine k_nil (k_seq (awp_seq (awp_seq (awp_region ?_))))
 refine s_mv ?_
 refine s_lenT yU22 ?_
 refine s_sub rfl ?_
 refine s_as ?_
 refine k_nil (k_seq (awp_block ?_))
 refine awp_fr (β := Int) [4, 5, 9, 10, 11, 12, 13, 14, 15, 16, 17, 18, 19, 20, 21, 22, 23] [] [] (fun a => [(5, .t (.sc (.int .i64 a.2)))]) (fun a => []) (fun a => a.1 ≤ fuel ∧ m_spec_l6Last_l1 a.1 x1 x2 a.2 = some r) (fuel, (w64 ((x1.length : Int) - 1))) ⟨Nat.le_refl _, hF0⟩ ?_
 clear hF0
 rintro ⟨fu, g1⟩ ⟨hl2, hF1⟩
 dsimp only at hl2 hF1 ⊢
 obtain _ | fu := fu
 · rw [m_spec_l6Last_l1] at hF1; cases hF1
 rw [m_spec_l6Last_l1] at hF1
 refine awp_seq (awp_seq (awp_region ?_))
 refine s_mv ?_
 refine s_ge ?_
 refine k_nil (k_seq ?_)
 refine w_cond hF1 ?_ ?_ <;> intro hc3 hF2
 refine awp_skip (k_seq (awp_seq (awp_block (awp_seq (awp_region ?_)))))
 refine s_mv ?_
 refine s_mv ?_
 obtain ⟨v4, hv4, hF3⟩ := bind_some' hF2
 refine s_ixT rI hv4 rfl yE22 ?_
 refine s_ld1 yA3 ?_
 refine s_mv ?_
 refine s_eq ?_
 refine k_nil (k_seq ?_)
 refine w_cond hF3 ?_ ?_ <;> intro hc5 hF4
 refine awp_seq (awp_region ?_)
 refine s_mv ?_
 refine s_lenT yU22 ?_
 refine s_sub rfl ?_
 refine s_mv ?_
 refine s_sub rfl ?_
 refine s_as ?_
 refine k_nil (k_seq (awp_ret (k_blk_ret (k_seq_ret (k_rnd_ret2 (k_blk_ret (k_seq_ret (k_fin ?_))))))))
 cases hF4
 exact ends_a [] [] Try.results141
 refine awp_skip (k_blk (k_seq (awp_region ?_)))
 refine s_mv ?_
 refine s_sub rfl ?_
 refine s_as ?_
 refine k_nil ?_
 exact s_rn (fu, (w64 (g1 - 1))) ⟨by first | omega | (dsimp only; omega), hF4⟩
 refine awp_exit (k_seq_exit (k_rnd_exit2 (k_blk_exit (k_seq (awp_seq (awp_region ?_))))))
 refine s_as ?_
 refine k_nil (k_seq (awp_ret (k_fin ?_)))
 cases hF2
 exact ends_a [] [] Try.results141
def m_spec_l6Number_AC (fuel : Nat) : Prop := ∀ (x1 : Core) (x2 : (List Int)) (x3 : (List Int)) (x4 : Int) (r : (Core × Int)), m_spec_l6Number fuel x1 x2 x3 x4 = some r → AC Try.prog 98 [.ag [.t (.sc (.int .i64 x1.kind)), .t (.sc (.int .i64 x1.id)), .t (.sc (.str x1.name)), .t (.sc (.int .i64 x1.n)), .t (.sl (x1.ids.map rI)), .t (.sc (.int .i64 x1.data.kind)), .t (.sc (.str x1.data.name)), .t (.sc (.int .i64 x1.data.n)), .t (.sl (x1.data.scopes.map rI)), .t (.sl (x1.data.kids.map Form.row)), .t (.sl (x1.kids.map Core.row))], .t (.sl (x2.map rI)), .t (.sl (x3.map rI)), .t (.sc (.int .i64 x4))] noOb (.tp [.ag [.t (.sc (.int .i64 r.1.kind)), .t (.sc (.int .i64 r.1.id)), .t (.sc (.str r.1.name)), .t (.sc (.int .i64 r.1.n)), .t (.sl (r.1.ids.map rI)), .t (.sc (.int .i64 r.1.data.kind)), .t (.sc (.str r.1.data.name)), .t (.sc (.int .i64 r.1.data.n)), .t (.sl (r.1.data.scopes.map rI)), .t (.sl (r.1.data.kids.map Form.row)), .t (.sl (r.1.kids.map Core.row))], .t (.sc (.int .i64 r.2))]) noOb
theorem m_spec_l6Number_st (fu : Nat) (ih_m_spec_l6Number : ∀ k, k ≤ fu → m_spec_l6Number_AC k) : m_spec_l6Number_AC (fu + 1) := by
 intro x1 x2 x3 x4 r hF0
 rw [m_spec_l6Number] at hF0
 refine AC_i [.ag [.t (.sc (.int .i64 r.1.kind)), .t (.sc (.int .i64 r.1.id)), .t (.sc (.str r.1.name)), .t (.sc (.int .i64 r.1.n)), .t (.sl (r.1.ids.map rI)), .t (.sc (.int .i64 r.1.data.kind)), .t (.sc (.str r.1.data.name)), .t (.sc (.int .i64 r.1.data.n)), .t (.sl (r.1.data.scopes.map rI)), .t (.sl (r.1.data.kids.map Form.row)), .t (.sl (r.1.kids.map Core.row))], .t (.sc (.int .i64 r.2))] Try.func98 rfl Try.ntmps98 ?_
 intro C hC
 refine awp_seq (awp_region ?_)
 refine s_box ?_
 refine s_alloc yZ37 ?_
 refine s_as ?_
 refine k_nil (k_seq (awp_seq ?_))
 refine awp_draw yMix (by kernel_rfl) ?_
 refine s_fa yF37_0 ?_
 refine s_ld1 yA3 ?_
 refine s_fa yF37_2 ?_
 refine s_ld1 yA9 ?_
 refine s_fa yF37_3 ?_
 refine s_ld1 yA3 ?_
 refine s_fa yF37_5 ?_
 refine s_ldN yA34 yS34 ?_
 obtain ⟨v1, hv1, hF1⟩ := bind_some' hF0
 refine s_call [(9203, 2023), (9204, 12023)] [] _ _ (m_spec_l1Copy_ok fu _ _ hv1) ?_
 refine s_bld yZ37 yL37 ?_
 refine s_alloc yZ37 ?_
 refine s_stW yS37 ?_
 refine k_nilD (by kernel_rfl) ?_
 refine k_seq ?_
 refine awp_jn (α := Nat × Int) [25, 26, 27, 28, 29, 30, 31, 32, 33, 34, 35, 36, 37, 38, 39] [10] [] (fun a => []) (fun a => [(10, .box [.t (.sc (.int .i64 x1.kind)), .t (.sc (.int .i64 a.2)), .t (.sc (.str x1.name)), .t (.sc (.int .i64 x1.n)), .nl, .t (.sc (.int .i64 v1.kind)), .t (.sc (.str v1.name)), .t (.sc (.int .i64 v1.n)), .ar 2023, .ar 12023, .nl])]) (fun a => a.1 ≤ fu ∧ m_spec_l6Number_j1 a.1 x1 x2 x3 x4 v1 a.2 = some r) ?_ ?_
 refine awp_seq (awp_region ?_)
 refine s_fa yF37_0 ?_
 refine s_ld1 yA3 ?_
 refine s_eq ?_
 refine k_nil (k_seq ?_)
 refine w_cond hF1 ?_ ?_ <;> intro hc2 hF2
 refine awp_region ?_
 refine s_mv ?_
 refine s_mv ?_
 refine s_lenT yU22 ?_
 refine s_sub rfl ?_
 refine s_mv ?_
 refine s_fa yF37_1 ?_
 refine s_ld1 yA3 ?_
 obtain ⟨v3, hv3, hF3⟩ := bind_some' hF2
 refine s_pure [] (m_spec_l6Last_ok fu _ _ _ hv3) ?_
 refine s_sub rfl ?_
 obtain ⟨v4, hv4, hF4⟩ := bind_some' hF3
 refine s_ixT rI hv4 rfl yE22 ?_
 refine s_ld1 yA3 ?_
 refine s_fa yF37_1 ?_
 refine s_stP yS3 ?_
 refine k_nil ?_
 exact s_jn (fu, v4) ⟨by first | omega | (dsimp only; omega), hF4⟩
 refine awp_skip ?_
 exact s_jn (fu, 0) ⟨by first | omega | (dsimp only; omega), hF2⟩
 clear hF1
 rintro ⟨fu, g5⟩ ⟨hl6, hF2⟩
 dsimp only at hl6 hF2 ⊢
 obtain _ | fu := fu
 · rw [m_spec_l6Number_j1] at hF2; cases hF2
 rw [m_spec_l6Number_j1] at hF2
 refine awp_jn (α := Nat × (List Int) × (List Int) × Int × (List Int)) [1, 2, 3, 11, 40, 41, 42, 43, 44, 45, 46, 47, 48, 49, 50, 51, 52, 53, 54, 55, 56, 57, 58, 59, 60, 61, 62, 63, 64, 65, 66, 67, 68, 69, 70] [10, 5060] [] (fun a => [(1, .t (.sl (a.2.1.map rI))), (2, .t (.sl (a.2.2.1.map rI))), (3, .t (.sc (.int .i64 a.2.2.2.1)))]) (fun a => [(10, .box [.t (.sc (.int .i64 x1.kind)), .t (.sc (.int .i64 g5)), .t (.sc (.str x1.name)), .t (.sc (.int .i64 x1.n)), .ar 5060, .t (.sc (.int .i64 v1.kind)), .t (.sc (.str v1.name)), .t (.sc (.int .i64 v1.n)), .ar 2023, .ar 12023, .nl]), (5060, .arr (a.2.2.2.2.map rI) 3 true)]) (fun a => a.1 ≤ fu ∧ m_spec_l6Number_j2 a.1 x1 v1 g5 a.2.1 a.2.2.1 a.2.2.2.1 a.2.2.2.2 = some r) ?_ ?_
 refine awp_seq (awp_region ?_)
 refine s_as ?_
 refine k_nil (k_seq (awp_block ?_))
 refine awp_ownB 10 5060 3 [.t (.sc (.int .i64 x1.kind)), .t (.sc (.int .i64 g5)), .t (.sc (.str x1.name)), .t (.sc (.int .i64 x1.n)), .ar 5060, .t (.sc (.int .i64 v1.kind)), .t (.sc (.str v1.name)), .t (.sc (.int .i64 v1.n)), .ar 2023, .ar 12023, .nl] yI3.choose_spec ?_
 refine awp_frame2 [1, 2, 3, 11, 40, 41, 42, 43, 44, 45, 46, 47, 48, 49, 50, 51, 52, 53, 54, 55, 56, 57, 58, 59, 60, 61, 62, 63, 64, 65, 66, 67, 68, 69, 70] [10, 5060] [52, 53, 55, 57, 63, 64, 65, 67, 69, 70] [5060] (fun a : Nat × (List Int) × (List Int) × Int × Int × (List Int) => a.1) (fun a : Nat × (List Int) × (List Int) × Int × Int × (List Int) => [(1, .t (.sl (a.2.1.map rI))), (2, .t (.sl (a.2.2.1.map rI))), (3, .t (.sc (.int .i64 a.2.2.2.1))), (11, .t (.sc (.int .i64 a.2.2.2.2.1)))]) (fun a : Nat × (List Int) × (List Int) × Int × Int × (List Int) => [(10, .box [.t (.sc (.int .i64 x1.kind)), .t (.sc (.int .i64 g5)), .t (.sc (.str x1.name)), .t (.sc (.int .i64 x1.n)), .ar 5060, .t (.sc (.int .i64 v1.kind)), .t (.sc (.str v1.name)), .t (.sc (.int .i64 v1.n)), .ar 2023, .ar 12023, .nl]), (5060, .arr (a.2.2.2.2.2.map rI) 3 true)]) (fun a : Nat × (List Int) × (List Int) × Int × Int × (List Int) => a.1 ≤ fu ∧ m_spec_l6Number_l3 a.1 x1 v1 g5 a.2.1 a.2.2.1 a.2.2.2.1 a.2.2.2.2.1 a.2.2.2.2.2 = some r ∧ 0 ≤ a.2.2.2.2.1) (fu, x2, x3, x4, 0, ([] : List Int)) ⟨Nat.le_refl _, hF2, by simp⟩ (by rfl) (by rfl) (fun _ => rfl) (hasF_cons (by conv => lhs; whnf) (by rfl) (hasF_cons (by conv => lhs; whnf) (by rfl) (hasF_cons (by conv => lhs; whnf) (by rfl) (hasF_cons (by conv => lhs; whnf) (by rfl) hasF_nil)))) (hasO_cons (by conv => lhs; whnf) (by rfl) (hasO_cons (by conv => lhs; whnf) (by rfl) hasO_nil)) (fresh_C hC rfl) (by repeat (first | exact freshS_args rfl | refine freshS_upd rfl ?_ | refine freshS_frame rfl ?_)) (by repeat (first | exact freshM_no | exact objs_fresh rfl | refine freshM_upd rfl ?_ | refine freshM_frame rfl ?_)) ?_
 clear hF2
 rintro ⟨fu, g7, g8, g9, g10, g11⟩ ⟨hl12, hF3, hn_g10⟩
 dsimp only at hl12 hF3 hn_g10 ⊢
 obtain _ | fu := fu
 · rw [m_spec_l6Number_l3] at hF3; cases hF3
 rw [m_spec_l6Number_l3] at hF3
 refine awp_seq (awp_seq (awp_region ?_))
 refine s_mv ?_
 refine s_fa yF37_4 ?_
 refine s_ld1 yA22 ?_
 refine s_lenT yU22 ?_
 refine s_lt ?_
 refine k_nil (k_seq ?_)
 refine w_cond hF3 ?_ ?_ <;> intro hc13 hF4
 refine awp_lenT 42 (fun hb14 => ?_)
 refine awp_skip (k_seq (awp_seq (awp_block (awp_seq (awp_region ?_)))))
 refine s_mv ?_
 refine s_add rfl ?_
 refine s_as ?_
 refine k_nil (k_seq (awp_seq (awp_region ?_)))
 refine s_fa yF37_4 ?_
 refine s_ld1 yA22 ?_
 refine s_mv ?_
 refine s_bs rI [(w64 (g9 + 1))] yP22 yR3 ?_
 obtain ⟨hk15, hF5⟩ := chk_some hF4
 refine s_apT rI (fun _ => rfl) hk15 yP22 ?_
 refine s_fa yF37_4 ?_
 refine s_stP yS22 ?_
 refine k_nil (k_seq (awp_seq ?_))
 refine awp_draw yMix (by kernel_rfl) ?_
 refine s_bs rI ([] : List Int) yP22 yR3 ?_
 refine s_mv ?_
 obtain ⟨hk16, hF6⟩ := chk_some hF5
 refine s_apT rI (fun _ => rfl) hk16 yP22 ?_
 refine s_fa yF37_4 ?_
 refine s_ld1 yA22 ?_
 refine s_mv ?_
 obtain ⟨v17, hv17, hF7⟩ := bind_some' hF6
 refine s_ixT rI hv17 rfl yE22 ?_
 refine s_ld1 yA3 ?_
 refine s_bs rI [v17] yP22 yR3 ?_
 obtain ⟨hk18, hF8⟩ := chk_some hF7
 refine s_apT rI (fun _ => rfl) hk18 yP22 ?_
 refine s_as ?_
 refine k_nilD (by kernel_rfl) ?_
 refine k_seq ?_
 refine awp_pz 1 ?_
 refine awp_region ?_
 refine s_bs rI ([] : List Int) yP22 yR3 ?_
 refine s_mv ?_
 obtain ⟨hk19, hF9⟩ := chk_some hF8
 refine s_apT rI (fun _ => rfl) hk19 yP22 ?_
 refine s_mv ?_
 refine s_bs rI [(w64 (g9 + 1))] yP22 yR3 ?_
 obtain ⟨hk20, hF10⟩ := chk_some hF9
 refine s_apT rI (fun _ => rfl) hk20 yP22 ?_
 refine s_as ?_
 refine k_nil (k_blk (k_seq ?_))
 refine awp_pz 2 ?_
 refine awp_region ?_
 refine s_mv ?_
 refine s_add (winc2 hc13 hb14 hn_g10) ?_
 refine s_as ?_
 refine k_nil ?_
 exact s_rn (fu, ((([] : List Int) ++ g7) ++ [v17]), ((([] : List Int) ++ g8) ++ [(w64 (g9 + 1))]), (w64 (g9 + 1)), (g10 + 1), (g11 ++ [(w64 (g9 + 1))])) ⟨by first | omega | (dsimp only; omega), hF10, by first | omega | (dsimp only; omega)⟩ [(5060, 53)]
 refine awp_exit (k_seq_exit (k_rnd_exit2 (k_blk_exit ?_)))
 exact s_jn (fu, g7, g8, g9, g11) ⟨by first | omega | (dsimp only; omega), hF4⟩
 clear hF2
 rintro ⟨fu, g21, g22, g23, g24⟩ ⟨hl25, hF3⟩
 dsimp only at hl25 hF3 ⊢
 obtain _ | fu := fu
 · rw [m_spec_l6Number_j2] at hF3; cases hF3
 rw [m_spec_l6Number_j2] at hF3
 refine awp_seq (awp_seq (awp_region ?_))
 refine s_as ?_
 refine k_nil (k_seq (awp_block ?_))
 refine awp_ownB 10 5080 37 [.t (.sc (.int .i64 x1.kind)), .t (.sc (.int .i64 g5)), .t (.sc (.str x1.name)), .t (.sc (.int .i64 x1.n)), .ar 5060, .t (.sc (.int .i64 v1.kind)), .t (.sc (.str v1.name)), .t (.sc (.int .i64 v1.n)), .ar 2023, .ar 12023, .ar 5080] yI37.choose_spec ?_
 refine awp_frame2 [3, 12, 13, 14, 71, 72, 73, 74, 75, 76, 77, 78, 79, 80, 81, 82, 83, 84, 85, 86, 87, 88, 89, 90, 91, 92, 93, 94, 95, 96] [10, 5080] [13, 94, 95] [5080] (fun a : Nat × Int × Int × (List Core) => a.1) (fun a : Nat × Int × Int × (List Core) => [(3, .t (.sc (.int .i64 a.2.1))), (12, .t (.sc (.int .i64 a.2.2.1)))]) (fun a : Nat × Int × Int × (List Core) => [(10, .box [.t (.sc (.int .i64 x1.kind)), .t (.sc (.int .i64 g5)), .t (.sc (.str x1.name)), .t (.sc (.int .i64 x1.n)), .ar 5060, .t (.sc (.int .i64 v1.kind)), .t (.sc (.str v1.name)), .t (.sc (.int .i64 v1.n)), .ar 2023, .ar 12023, .ar 5080]), (5080, .arr (a.2.2.2.map Core.row) 37 true)]) (fun a : Nat × Int × Int × (List Core) => a.1 ≤ fu ∧ m_spec_l6Number_l4 a.1 x1 v1 g5 g21 g22 g24 a.2.1 a.2.2.1 a.2.2.2 = some r ∧ 0 ≤ a.2.2.1) (fu, g23, 0, ([] : List Core)) ⟨Nat.le_refl _, hF3, by simp⟩ (by rfl) (by rfl) (fun _ => rfl) (hasF_cons (by conv => lhs; whnf) (by rfl) (hasF_cons (by conv => lhs; whnf) (by rfl) hasF_nil)) (hasO_cons (by conv => lhs; whnf) (by rfl) (hasO_cons (by conv => lhs; whnf) (by rfl) hasO_nil)) (fresh_C hC rfl) (by repeat (first | exact freshS_args rfl | refine freshS_upd rfl ?_ | refine freshS_frame rfl ?_)) (by repeat (first | exact freshM_no | exact objs_fresh rfl | refine freshM_upd rfl ?_ | refine freshM_frame rfl ?_)) ?_
 clear hF3
 rintro ⟨fu, g26, g27, g28⟩ ⟨hl29, hF4, hn_g27⟩
 dsimp only at hl29 hF4 hn_g27 ⊢
 obtain _ | fu := fu
 · rw [m_spec_l6Number_l4] at hF4; cases hF4
 rw [m_spec_l6Number_l4] at hF4
 refine awp_seq (awp_seq (awp_region ?_))
 refine s_mv ?_
 refine s_fa yF37_6 ?_
 refine s_ld1 yA35 ?_
 refine s_lenT yU35 ?_
 refine s_lt ?_
 refine k_nil (k_seq ?_)
 refine w_cond hF4 ?_ ?_ <;> intro hc30 hF5
 refine awp_lenT 73 (fun hb31 => ?_)
 refine awp_skip (k_seq (awp_seq (awp_block (awp_seq (awp_region ?_)))))
 refine s_fa yF37_6 ?_
 refine s_ld1 yA35 ?_
 refine s_mv ?_
 obtain ⟨v32, hv32, hF6⟩ := bind_some' hF5
 refine s_ixT Core.row hv32 (Core.row_eq _) yE35 ?_
 refine s_ldN yA37 yS37 ?_
 iterate 3 refine s_mv ?_
 obtain ⟨v33, hv33, hF7⟩ := bind_some' hF6
 refine s_pure [] (ih_m_spec_l6Number fu (by omega) _ _ _ _ _ hv33) ?_
 refine s_mv ?_
 refine s_ext ?_
 refine s_ext ?_
 refine s_alloc yZ37 ?_
 refine s_stW yS37 ?_
 refine s_as ?_
 refine k_nil (k_seq (awp_seq (awp_region ?_)))
 refine s_mv ?_
 refine s_as ?_
 refine k_nil (k_seq (awp_region ?_))
 refine s_fa yF37_6 ?_
 refine s_ld1 yA35 ?_
 refine s_ldW yA37 yS37 ?_
 refine s_bs Core.row [v33.1] yP35 yR37 ?_
 obtain ⟨hk34, hF8⟩ := chk_some hF7
 refine s_apT Core.row (fun y => Core.row_len y) hk34 yP35 ?_
 refine s_fa yF37_6 ?_
 refine s_stP yS35 ?_
 refine k_nil (k_blk (k_seq (awp_region ?_)))
 refine s_mv ?_
 refine s_add (winc2 hc30 hb31 hn_g27) ?_
 refine s_as ?_
 refine k_nil ?_
 exact s_rn (fu, v33.2, (g27 + 1), (g28 ++ [v33.1])) ⟨by first | omega | (dsimp only; omega), hF8, by first | omega | (dsimp only; omega)⟩ [(5080, 95)]
 refine awp_exit (k_seq_exit (k_rnd_exit2 (k_blk_exit (k_seq (awp_seq (awp_region ?_))))))
 refine s_ldW yA37 yS37 ?_
 refine s_mv ?_
 refine s_stW yS37 ?_
 refine s_as ?_
 refine k_nil (k_seq (awp_ret (k_fin ?_)))
 cases hF5
 exact ends_gen [] [5060, 2023, 12023, 5080] (by rw [Try.results98]; exact (res_agg (by conv => lhs; whnf) (by conv => lhs; whnf) yA37 yS37 rfl (res_tmp (by conv => lhs; whnf) res_nil)))
theorem m_spec_l6Number_all (fuel : Nat) : m_spec_l6Number_AC fuel := by
 induction fuel using Nat.strongRecOn with
 | _ N ih =>
   cases N with
   | zero => exact (by intro x1 x2 x3 x4 r h; rw [m_spec_l6Number] at h; cases h)
   | succ fu => exact m_spec_l6Number_st fu (fun k hk => (ih k (by omega)))
theorem m_spec_l6Number_ok (fuel : Nat) : m_spec_l6Number_AC fuel := (m_spec_l6Number_all fuel)
def m_spec_NumberCore_AC (fuel : Nat) : Prop := ∀ (x1 : Core) (r : (Core × Bool)), m_spec_NumberCore fuel x1 = some r → AC Try.prog 53 [.ag [.t (.sc (.int .i64 x1.kind)), .t (.sc (.int .i64 x1.id)), .t (.sc (.str x1.name)), .t (.sc (.int .i64 x1.n)), .t (.sl (x1.ids.map rI)), .t (.sc (.int .i64 x1.data.kind)), .t (.sc (.str x1.data.name)), .t (.sc (.int .i64 x1.data.n)), .t (.sl (x1.data.scopes.map rI)), .t (.sl (x1.data.kids.map Form.row)), .t (.sl (x1.kids.map Core.row))]] noOb (.tp [.ag [.t (.sc (.int .i64 r.1.kind)), .t (.sc (.int .i64 r.1.id)), .t (.sc (.str r.1.name)), .t (.sc (.int .i64 r.1.n)), .t (.sl (r.1.ids.map rI)), .t (.sc (.int .i64 r.1.data.kind)), .t (.sc (.str r.1.data.name)), .t (.sc (.int .i64 r.1.data.n)), .t (.sl (r.1.data.scopes.map rI)), .t (.sl (r.1.data.kids.map Form.row)), .t (.sl (r.1.kids.map Core.row))], .t (.sc (.bool r.2))]) noOb
theorem m_spec_NumberCore_ok (fuel : Nat) : m_spec_NumberCore_AC fuel := by
 intro x1 r hF0
 unfold m_spec_NumberCore at hF0
 refine AC_i [.ag [.t (.sc (.int .i64 r.1.kind)), .t (.sc (.int .i64 r.1.id)), .t (.sc (.str r.1.name)), .t (.sc (.int .i64 r.1.n)), .t (.sl (r.1.ids.map rI)), .t (.sc (.int .i64 r.1.data.kind)), .t (.sc (.str r.1.data.name)), .t (.sc (.int .i64 r.1.data.n)), .t (.sl (r.1.data.scopes.map rI)), .t (.sl (r.1.data.kids.map Form.row)), .t (.sl (r.1.kids.map Core.row))], .t (.sc (.bool r.2))] Try.func53 rfl Try.ntmps53 ?_
 intro C hC
 refine awp_seq (awp_region ?_)
 refine s_box ?_
 refine s_alloc yZ37 ?_
 refine s_as ?_
 refine k_nil (k_seq (awp_seq (awp_seq (awp_region ?_))))
 refine s_ldW yA37 yS37 ?_
 obtain ⟨v1, hv1, hF1⟩ := bind_some' hF0
 refine s_pure [] (m_spec_CoreValid_ok fuel _ _ hv1) ?_
 refine s_not ?_
 refine k_nil (k_seq ?_)
 refine w_cond hF1 ?_ ?_ <;> intro hc2 hF2
 refine awp_seq (awp_region ?_)
 refine s_bld yZ37 yL37 ?_
 refine s_stW yS37 ?_
 refine s_as ?_
 refine k_nil (k_seq (awp_ret (k_seq_ret (k_fin ?_))))
 cases hF2
 exact ends_gen [] [] (by rw [Try.results53]; exact (res_agg (by conv => lhs; whnf) (by conv => lhs; whnf) yA37 yS37 rfl (res_tmp (by conv => lhs; whnf) res_nil)))
 refine awp_skip (k_seq (awp_seq (awp_region ?_)))
 refine s_ldW yA37 yS37 ?_
 refine s_bs rI ([] : List Int) yP22 yR3 ?_
 refine s_bs rI ([] : List Int) yP22 yR3 ?_
 obtain ⟨v3, hv3, hF3⟩ := bind_some' hF2
 refine s_pure [12, 13] (m_spec_l6Number_ok fuel _ _ _ _ _ hv3) ?_
 refine s_mv ?_
 refine s_ext ?_
 refine s_ext ?_
 refine s_alloc yZ37 ?_
 refine s_stW yS37 ?_
 refine s_as ?_
 refine k_nil (k_seq (awp_seq (awp_seq (awp_region ?_))))
 refine s_mv ?_
 refine s_gt ?_
 refine k_nil (k_seq ?_)
 refine w_cond hF3 ?_ ?_ <;> intro hc4 hF4
 refine awp_seq (awp_region ?_)
 refine s_bld yZ37 yL37 ?_
 refine s_stW yS37 ?_
 refine s_as ?_
 refine k_nil (k_seq (awp_ret (k_seq_ret (k_fin ?_))))
 cases hF4
 exact ends_gen [] [] (by rw [Try.results53]; exact (res_agg (by conv => lhs; whnf) (by conv => lhs; whnf) yA37 yS37 rfl (res_tmp (by conv => lhs; whnf) res_nil)))
 refine awp_skip (k_seq (awp_seq (awp_region ?_)))
 refine s_ldW yA37 yS37 ?_
 refine s_stW yS37 ?_
 refine s_as ?_
 refine k_nil (k_seq (awp_ret (k_fin ?_)))
 cases hF4
 exact ends_gen [] [] (by rw [Try.results53]; exact (res_agg (by conv => lhs; whnf) (by conv => lhs; whnf) yA37 yS37 rfl (res_tmp (by conv => lhs; whnf) res_nil)))
def m_laws_toCoreS_D_AC (fuel : Nat) : Prop := ∀ (x1 : (List Core)) (r : (List Core)), m_laws_toCoreS fuel x1 = some r → AC Try.prog 66 [.t (.sl (x1.map Core.row))] (objs []) (.ar 9200) (objs [(9200, .dar (r.map (Core.rowD 3 34 37)) 37)])
def m_laws_toCore_D_AC (fuel : Nat) : Prop := ∀ (x1 : Core) (r : Core), m_laws_toCore fuel x1 = some r → AC Try.prog 13 [.ag [.t (.sc (.int .i64 x1.kind)), .t (.sc (.int .i64 x1.id)), .t (.sc (.str x1.name)), .t (.sc (.int .i64 x1.n)), .t (.sl (x1.ids.map rI)), .t (.sc (.int .i64 x1.data.kind)), .t (.sc (.str x1.data.name)), .t (.sc (.int .i64 x1.data.n)), .t (.sl (x1.data.scopes.map rI)), .t (.sl (x1.data.kids.map Form.row)), .t (.sl (x1.kids.map Core.row))]] (objs []) (.ag [.t (.sc (.int .i64 r.kind)), .t (.sc (.int .i64 r.id)), .t (.sc (.str r.name)), .t (.sc (.int .i64 r.n)), .ar 9204, .t (.sc (.int .i64 r.data.kind)), .t (.sc (.str r.data.name)), .t (.sc (.int .i64 r.data.n)), .ar 9208, .ar 9209, .ar 9210]) (objs [(9204, .arr (r.ids.map rI) 3 true), (9208, .arr (r.data.scopes.map rI) 3 true), (9209, .dar (r.data.kids.map (Form.rowD 3 34)) 34), (9210, .dar (r.kids.map (Core.rowD 3 34 37)) 37)])
theorem m_laws_toCoreS_D_st (fu : Nat) (ih_m_laws_toCoreS_D : ∀ k, k ≤ fu → m_laws_toCoreS_D_AC k) (ih_m_laws_toCore_D : ∀ k, k ≤ fu → m_laws_toCore_D_AC k) : m_laws_toCoreS_D_AC (fu + 1) := by
 intro x1 r hF0
 rw [m_laws_toCoreS] at hF0
 refine AC_i [.ar 9200] Try.func66 rfl Try.ntmps66 ?_
 intro C hC
 refine awp_seq (awp_region ?_)
 refine s_as ?_
 refine k_nil (k_seq (awp_seq (awp_region ?_)))
 refine s_mv ?_
 refine s_lenT yU26 ?_
 obtain ⟨hk1, hF1⟩ := chk_some hF0
 refine s_mkD (Core.rowD 3 34 37) (Core.mk 0 0 (⟨#[]⟩ : ByteArray) 0 ([] : List Int) (Form.mk 0 (⟨#[]⟩ : ByteArray) 0 ([] : List Int) ([] : List Form)) ([] : List Core)) [.sc (.int .i64 0), .sc (.int .i64 0), .sc (.str (⟨#[]⟩ : ByteArray)), .sc (.int .i64 0), .sc (.nis 3), .sc (.int .i64 0), .sc (.str (⟨#[]⟩ : ByteArray)), .sc (.int .i64 0), .sc (.nis 3), .sc (.nis 34), .sc (.nis 37)] (by rw [(Core.rowDE _ _ _ _)]; rfl) hk1 yP35 yZ37 yN37 ?_
 refine s_as ?_
 refine k_nil (k_seq (awp_seq (awp_seq (awp_region ?_))))
 refine s_as ?_
 refine k_nil (k_seq (awp_block ?_))
 refine awp_fr (β := Int × (List Core)) [4, 8, 9, 10, 11, 12, 13, 14, 15, 16, 17, 18, 19, 20, 21] [7] [2020, 12020, 22020, 32020] (fun a => [(4, .t (.sc (.int .i64 a.2.1)))]) (fun a => [(7, .dar (a.2.2.map (Core.rowD 3 34 37)) 37)]) (fun a => a.1 ≤ fu ∧ m_laws_toCoreS_l1 a.1 x1 a.2.1 a.2.2 = some r ∧ 0 ≤ a.2.1) (fu, 0, (List.replicate (x1.length : Int).toNat (Core.mk 0 0 (⟨#[]⟩ : ByteArray) 0 ([] : List Int) (Form.mk 0 (⟨#[]⟩ : ByteArray) 0 ([] : List Int) ([] : List Form)) ([] : List Core)))) ⟨Nat.le_refl _, hF1, by simp⟩ ?_
 clear hF1
 rintro ⟨fu, g2, g3⟩ ⟨hl4, hF2, hn_g2⟩
 dsimp only at hl4 hF2 hn_g2 ⊢
 obtain _ | fu := fu
 · rw [m_laws_toCoreS_l1] at hF2; cases hF2
 rw [m_laws_toCoreS_l1] at hF2
 refine awp_seq (awp_seq (awp_region ?_))
 refine s_mv ?_
 refine s_mv ?_
 refine s_lenT yU26 ?_
 refine s_lt ?_
 refine k_nil (k_seq ?_)
 refine w_cond hF2 ?_ ?_ <;> intro hc5 hF3
 refine awp_lenT 0 (fun hb6 => ?_)
 refine awp_skip (k_seq (awp_seq (awp_block (awp_region ?_))))
 iterate 4 refine s_mv ?_
 obtain ⟨v7, hv7, hF4⟩ := bind_some' hF3
 refine s_ixT Core.row hv7 (Core.row_eq _) yE26 ?_
 refine s_ldN yA28 yS28 ?_
 obtain ⟨v8, hv8, hF5⟩ := bind_some' hF4
 refine s_call [(9204, 2020), (9208, 12020), (9209, 22020), (9210, 32020)] [] _ _ (ih_m_laws_toCore_D fu (by omega) _ _ hv8) ?_
 obtain ⟨v9, hv9, hF6⟩ := bind_some' hF5
 refine s_ixD (Core.rowD 3 34 37) hv9 yE35 ?_
 refine s_stS (Core.rowD 3 34 37) [.sc (.int .i64 v8.kind), .sc (.int .i64 v8.id), .sc (.str v8.name), .sc (.int .i64 v8.n), .any, .sc (.int .i64 v8.data.kind), .sc (.str v8.data.name), .sc (.int .i64 v8.data.n), .any, .any, .any] [(g2.toNat, 4, 2020), (g2.toNat, 8, 12020), (g2.toNat, 9, 22020), (g2.toNat, 10, 32020)] hv9 yS37 yS37 ?_
 refine k_nil (k_blk (k_seq ?_))
 refine awp_jsA 7 2020 [.sc (.int .i64 v8.kind), .sc (.int .i64 v8.id), .sc (.str v8.name), .sc (.int .i64 v8.n), .ow 3 (v8.ids.map rI), .sc (.int .i64 v8.data.kind), .sc (.str v8.data.name), .sc (.int .i64 v8.data.n), .any, .any, .any] hv9 ?_
 refine awp_jsA 7 12020 [.sc (.int .i64 v8.kind), .sc (.int .i64 v8.id), .sc (.str v8.name), .sc (.int .i64 v8.n), .ow 3 (v8.ids.map rI), .sc (.int .i64 v8.data.kind), .sc (.str v8.data.name), .sc (.int .i64 v8.data.n), .ow 3 (v8.data.scopes.map rI), .any, .any] hv9 ?_
 refine awp_jsD 7 22020 [.sc (.int .i64 v8.kind), .sc (.int .i64 v8.id), .sc (.str v8.name), .sc (.int .i64 v8.n), .ow 3 (v8.ids.map rI), .sc (.int .i64 v8.data.kind), .sc (.str v8.data.name), .sc (.int .i64 v8.data.n), .ow 3 (v8.data.scopes.map rI), .ow 34 (v8.data.kids.map (Form.rowD 3 34)), .any] hv9 ?_
 refine awp_jsD 7 32020 [.sc (.int .i64 v8.kind), .sc (.int .i64 v8.id), .sc (.str v8.name), .sc (.int .i64 v8.n), .ow 3 (v8.ids.map rI), .sc (.int .i64 v8.data.kind), .sc (.str v8.data.name), .sc (.int .i64 v8.data.n), .ow 3 (v8.data.scopes.map rI), .ow 34 (v8.data.kids.map (Form.rowD 3 34)), .ow 37 (v8.kids.map (Core.rowD 3 34 37))] hv9 ?_
 refine awp_nsH 7 (row := (Core.rowD 3 34 37)) (fs := [.sc (.int .i64 v8.kind), .sc (.int .i64 v8.id), .sc (.str v8.name), .sc (.int .i64 v8.n), .ow 3 (v8.ids.map rI), .sc (.int .i64 v8.data.kind), .sc (.str v8.data.name), .sc (.int .i64 v8.data.n), .ow 3 (v8.data.scopes.map rI), .ow 34 (v8.data.kids.map (Form.rowD 3 34)), .ow 37 (v8.kids.map (Core.rowD 3 34 37))]) v8 (Core.rowDE _ _ _ _) ?_
 refine awp_region ?_
 refine s_mv ?_
 refine s_add (winc2 hc5 hb6 hn_g2) ?_
 refine s_as ?_
 refine k_nil ?_
 exact s_rn (fu, (g2 + 1), (g3.set g2.toNat v8)) ⟨by first | omega | (dsimp only; omega), hF6, by first | omega | (dsimp only; omega)⟩
 refine awp_exit (k_seq_exit (k_rnd_exit2 (k_blk_exit (k_seq (awp_seq (awp_region ?_))))))
 refine s_mv ?_
 refine s_as ?_
 refine k_nil (k_seq ?_)
 refine awp_mvD 2 7 9200 (by conv => lhs; whnf) (by conv => lhs; whnf) rfl ?_
 refine awp_ret (k_fin ?_)
 cases hF3
 exact ends_a _ [] Try.results66
end Go.Abs
