/- A part of the proof: what the functions that the law calls answer, as pure values. -/
import Derived.Test.YtehdhaaopmihaaaGreatDoorK0ad147131039
import Derived.Test.YtehdhaaopmihaaaGreatDoorK0fde71595f57
import Derived.Test.YtehdhaaopmihaaaGreatDoorK7050e3b5e00e
import Derived.Test.YtehdhaaopmihaaaGreatDoorKdaf94b7ba384
import Derived.Test.YtehdhaaopmihaaaGreatDoorKe77cd95414c3
set_option linter.unusedSimpArgs false
set_option linter.unusedVariables false
set_option maxRecDepth 100000
set_option maxHeartbeats 4000000
namespace Go.Abs
open Go.Proofs
def m_spec_l2Has_AC (fuel : Nat) : Prop := ∀ (x1 : (List Int)) (x2 : Int) (r : Bool), m_spec_l2Has fuel x1 x2 = some r → AC Tryz.prog 111 [.t (.sl (x1.map rI)), .t (.sc (.int .i64 x2))] noOb (.t (.sc (.bool r))) noOb
theorem m_spec_l2Has_ok (fuel : Nat) : m_spec_l2Has_AC fuel := by
 intro x1 x2 r hF0
 unfold m_spec_l2Has at hF0
 refine AC_i [.t (.sc (.bool r))] Tryz.func111 rfl Tryz.ntmps111 ?_
 intro C hC
 refine awp_seq (awp_region ?_)
 refine s_as ?_
 refine k_nil (k_seq (awp_seq (awp_seq (awp_region ?_))))
 refine s_as ?_
 refine k_nil (k_seq (awp_block ?_))
 refine awp_fr (β := Int) [4, 5, 6, 7, 8, 9, 10, 11, 12, 13, 14, 15, 16, 17] [] [] (fun a => [(5, .t (.sc (.int .i64 a.2)))]) (fun a => []) (fun a => a.1 ≤ fuel ∧ m_spec_l2Has_l1 a.1 x1 x2 a.2 = some r ∧ 0 ≤ a.2) (fuel, 0) ⟨Nat.le_refl _, hF0, by simp⟩ ?_
 clear hF0
 rintro ⟨fu, g1⟩ ⟨hl2, hF1, hn_g1⟩
 dsimp only at hl2 hF1 hn_g1 ⊢
 obtain _ | fu := fu
 · rw [m_spec_l2Has_l1] at hF1; cases hF1
 rw [m_spec_l2Has_l1] at hF1
 refine awp_seq (awp_seq (awp_region ?_))
 refine s_mv ?_
 refine s_mv ?_
 refine s_lenT yU22 ?_
 refine s_lt ?_
 refine k_nil (k_seq ?_)
 refine w_cond hF1 ?_ ?_ <;> intro hc3 hF2
 refine awp_lenT 0 (fun hb4 => ?_)
 refine awp_skip (k_seq (awp_seq (awp_block (awp_seq (awp_region ?_)))))
 refine s_mv ?_
 refine s_mv ?_
 obtain ⟨v5, hv5, hF3⟩ := bind_some' hF2
 refine s_ixT rI hv5 rfl yE22 ?_
 refine s_ld1 yA3 ?_
 refine s_mv ?_
 refine s_eq ?_
 refine k_nil (k_seq ?_)
 refine w_cond hF3 ?_ ?_ <;> intro hc6 hF4
 refine awp_seq (awp_region ?_)
 refine s_as ?_
 refine k_nil (k_seq (awp_ret (k_blk_ret (k_seq_ret (k_rnd_ret2 (k_blk_ret (k_seq_ret (k_fin ?_))))))))
 cases hF4
 exact ends_a [] [] Tryz.results111
 refine awp_skip (k_blk (k_seq (awp_region ?_)))
 refine s_mv ?_
 refine s_add (winc2 hc3 hb4 hn_g1) ?_
 refine s_as ?_
 refine k_nil ?_
 exact s_rn (fu, (g1 + 1)) ⟨by first | omega | (dsimp only; omega), hF4, by first | omega | (dsimp only; omega)⟩
 refine awp_exit (k_seq_exit (k_rnd_exit2 (k_blk_exit (k_seq (awp_seq (awp_region ?_))))))
 refine s_as ?_
 refine k_nil (k_seq (awp_ret (k_fin ?_)))
 cases hF2
 exact ends_a [] [] Tryz.results111
def m_spec_l6Is_AC (fuel : Nat) : Prop := ∀ (x1 : Core) (x2 : (List Int)) (x3 : Int) (r : Bool), m_spec_l6Is fuel x1 x2 x3 = some r → AC Tryz.prog 74 [.ag [.t (.sc (.int .i64 x1.kind)), .t (.sc (.int .i64 x1.id)), .t (.sc (.str x1.name)), .t (.sc (.int .i64 x1.n)), .t (.sl (x1.ids.map rI)), .t (.sc (.int .i64 x1.data.kind)), .t (.sc (.str x1.data.name)), .t (.sc (.int .i64 x1.data.n)), .t (.sl (x1.data.scopes.map rI)), .t (.sl (x1.data.kids.map Form.row)), .t (.sl (x1.kids.map Core.row))], .t (.sl (x2.map rI)), .t (.sc (.int .i64 x3))] noOb (.t (.sc (.bool r))) noOb
theorem m_spec_l6Is_st (fu : Nat) (ih_m_spec_l6Is : ∀ k, k ≤ fu → m_spec_l6Is_AC k) : m_spec_l6Is_AC (fu + 1) := by
 intro x1 x2 x3 r hF0
 rw [m_spec_l6Is] at hF0
 refine AC_i [.t (.sc (.bool r))] Tryz.func74 rfl Tryz.ntmps74 ?_
 intro C hC
 refine awp_seq (awp_region ?_)
 refine s_box ?_
 refine s_as ?_
 refine k_nil (k_seq ?_)
 refine awp_jn (α := Nat) [6, 10, 11, 12, 13, 14, 15, 16, 17, 18, 19, 20, 21, 22, 23, 24, 25, 26, 27, 28, 29, 30, 31, 32, 33, 34, 35, 36, 37] [] [] (fun a => []) (fun a => []) (fun a => a ≤ fu ∧ m_spec_l6Is_j1 a x1 x2 x3  = some r) ?_ ?_
 refine awp_seq (awp_region ?_)
 refine s_mv ?_
 refine s_eq ?_
 refine s_mv ?_
 refine w_guard _ 12 hF0 ?_ ?_ <;> intro hc1 hF1
 iterate 7 refine r_no rfl ?_
 refine s_pkt ?_
 refine s_mv ?_
 iterate 3 refine r_no rfl ?_
 refine s_pkt ?_
 refine s_mv ?_
 iterate 10 refine r_no rfl ?_
 refine s_pkt ?_
 refine k_nil (k_seq (awp_true rfl (awp_seq (awp_region ?_))))
 refine s_as ?_
 refine k_nil (k_seq (awp_ret (k_jn_ret (k_fin ?_))))
 cases hF1
 exact ends_a [] [] Tryz.results74
 refine s_fa yF36_0 ?_
 refine s_ld1 yA3 ?_
 refine s_fa yF36_6 ?_
 refine s_ld1 yA34 ?_
 refine s_lenT yU34 ?_
 obtain ⟨v2, hv2, hF2⟩ := bind_some' hF1
 refine s_pure [] (m_spec_l6Kids_ok fu _ _ _ hv2) ?_
 refine s_not ?_
 refine s_pkf ?_
 refine s_mv ?_
 refine w_guard _ 21 hF2 ?_ ?_ <;> intro hc3 hF3
 iterate 3 refine r_no rfl ?_
 refine s_pkt ?_
 refine s_mv ?_
 iterate 10 refine r_no rfl ?_
 refine s_pkt ?_
 refine k_nil (k_seq (awp_true rfl (awp_seq (awp_region ?_))))
 refine s_as ?_
 refine k_nil (k_seq (awp_ret (k_jn_ret (k_fin ?_))))
 cases hF3
 exact ends_a [] [] Tryz.results74
 refine s_ldW yA36 yS36 ?_
 obtain ⟨v4, hv4, hF4⟩ := bind_some' hF3
 refine s_pure [] (m_spec_l6Fields_ok fu _ _ hv4) ?_
 refine s_not ?_
 refine s_pkf ?_
 refine s_mv ?_
 refine w_guard _ 26 hF4 ?_ ?_ <;> intro hc5 hF5
 iterate 10 refine r_no rfl ?_
 refine s_pkt ?_
 refine k_nil (k_seq (awp_true rfl (awp_seq (awp_region ?_))))
 refine s_as ?_
 refine k_nil (k_seq (awp_ret (k_jn_ret (k_fin ?_))))
 cases hF5
 exact ends_a [] [] Tryz.results74
 refine s_fa yF36_0 ?_
 refine s_ld1 yA3 ?_
 refine s_eq ?_
 refine s_mv ?_
 refine w_guard _ 30 hF5 ?_ ?_ <;> intro hc6 hF6
 refine s_mv ?_
 refine s_fa yF36_1 ?_
 refine s_ld1 yA3 ?_
 obtain ⟨v7, hv7, hF7⟩ := bind_some' hF6
 refine s_pure [] (m_spec_l2Has_ok fu _ _ _ hv7) ?_
 refine s_not ?_
 refine s_pkt ?_
 refine s_pkf ?_
 refine k_nil (k_seq ?_)
 refine w_cond hF7 ?_ ?_ <;> intro hc8 hF8
 refine awp_seq (awp_region ?_)
 refine s_as ?_
 refine k_nil (k_seq (awp_ret (k_jn_ret (k_fin ?_))))
 cases hF8
 exact ends_a [] [] Tryz.results74
 refine awp_skip ?_
 exact s_jn (fu) ⟨by first | omega | (dsimp only; omega), hF8⟩
 iterate 5 refine r_no rfl ?_
 refine s_pkf ?_
 refine s_pkf ?_
 refine k_nil (k_seq (awp_false rfl (awp_skip ?_)))
 exact s_jn (fu) ⟨by first | omega | (dsimp only; omega), hF6⟩
 clear hF0
 rintro fu ⟨hl9, hF1⟩
 obtain _ | fu := fu
 · rw [m_spec_l6Is_j1] at hF1; cases hF1
 rw [m_spec_l6Is_j1] at hF1
 refine awp_seq (awp_region ?_)
 refine s_mv ?_
 refine s_as ?_
 refine k_nil (k_seq ?_)
 refine awp_jn (α := Nat × (List Int)) [6, 7, 8, 39, 40, 41, 42, 43, 44, 45, 46, 47, 48, 49, 50, 51, 52, 53, 54, 55, 56, 57, 58, 59, 60, 61, 62, 63, 64, 65, 66, 67, 68, 69, 70, 71, 72, 73, 74, 75, 76, 77, 78] [] [] (fun a => [(7, .t (.sl (a.2.map rI)))]) (fun a => []) (fun a => a.1 ≤ fu ∧ m_spec_l6Is_j2 a.1 x1 x3 a.2 = some r) ?_ ?_
 refine awp_seq (awp_region ?_)
 refine s_as ?_
 refine k_nil (k_seq (awp_block ?_))
 refine awp_fr (β := (List Int) × Int) [6, 7, 8, 39, 40, 41, 42, 43, 44, 45, 46, 47, 48, 49, 50, 51, 52, 53, 54, 55, 56, 57, 58, 59, 60, 61, 62, 63, 64, 65, 66, 67, 68, 69, 70, 71, 72, 73, 74, 75, 76, 77, 78] [] [69, 71, 77, 78] (fun a => [(7, .t (.sl (a.2.1.map rI))), (8, .t (.sc (.int .i64 a.2.2)))]) (fun a => []) (fun a => a.1 ≤ fu ∧ m_spec_l6Is_l3 a.1 x1 x3 a.2.1 a.2.2 = some r ∧ 0 ≤ a.2.2) (fu, x2, 0) ⟨Nat.le_refl _, hF1, by simp⟩ ?_
 clear hF1
 rintro ⟨fu, g10, g11⟩ ⟨hl12, hF2, hn_g11⟩
 dsimp only at hl12 hF2 hn_g11 ⊢
 obtain _ | fu := fu
 · rw [m_spec_l6Is_l3] at hF2; cases hF2
 rw [m_spec_l6Is_l3] at hF2
 refine awp_seq (awp_seq (awp_region ?_))
 refine s_mv ?_
 refine s_fa yF36_4 ?_
 refine s_ld1 yA22 ?_
 refine s_lenT yU22 ?_
 refine s_lt ?_
 refine k_nil (k_seq ?_)
 refine w_cond hF2 ?_ ?_ <;> intro hc13 hF3
 refine awp_lenT 41 (fun hb14 => ?_)
 refine awp_skip (k_seq (awp_seq (awp_block (awp_seq ?_))))
 refine awp_jn (α := Nat × Bool) [46, 47, 48, 49, 50, 51, 52, 53, 54, 55, 56, 57, 58, 59, 60, 61, 62, 63, 64, 65, 66, 67, 68] [] [] (fun a => [(68, .t (.sc (.bool a.2)))]) (fun a => []) (fun a => a.1 ≤ fu ∧ m_spec_l6Is_j4 a.1 x1 x3 g10 g11 a.2 = some r) ?_ ?_
 refine awp_region ?_
 refine s_fa yF36_4 ?_
 refine s_ld1 yA22 ?_
 refine s_mv ?_
 obtain ⟨v15, hv15, hF4⟩ := bind_some' hF3
 refine s_ixT rI hv15 rfl yE22 ?_
 refine s_ld1 yA3 ?_
 refine s_lt ?_
 refine s_mv ?_
 refine w_guard _ 52 hF4 ?_ ?_ <;> intro hc16 hF5
 iterate 6 refine r_no rfl ?_
 refine s_pkt ?_
 refine s_mv ?_
 iterate 7 refine r_no rfl ?_
 refine s_pkt ?_
 refine k_nil ?_
 exact s_jn (fu, true) ⟨by first | omega | (dsimp only; omega), hF5⟩
 refine s_fa yF36_4 ?_
 refine s_ld1 yA22 ?_
 refine s_mv ?_
 obtain ⟨v17, hv17, hF6⟩ := bind_some' hF5
 refine s_ixT rI hv17 rfl yE22 ?_
 refine s_ld1 yA3 ?_
 refine s_gt ?_
 refine s_pkf ?_
 refine s_mv ?_
 refine w_guard _ 60 hF6 ?_ ?_ <;> intro hc18 hF7
 iterate 7 refine r_no rfl ?_
 refine s_pkt ?_
 refine k_nil ?_
 exact s_jn (fu, true) ⟨by first | omega | (dsimp only; omega), hF7⟩
 refine s_mv ?_
 refine s_fa yF36_4 ?_
 refine s_ld1 yA22 ?_
 refine s_mv ?_
 obtain ⟨v19, hv19, hF8⟩ := bind_some' hF7
 refine s_ixT rI hv19 rfl yE22 ?_
 refine s_ld1 yA3 ?_
 obtain ⟨v20, hv20, hF9⟩ := bind_some' hF8
 refine s_pure [] (m_spec_l2Has_ok fu _ _ _ hv20) ?_
 refine s_pkf ?_
 refine k_nil ?_
 exact s_jn (fu, v20) ⟨by first | omega | (dsimp only; omega), hF9⟩
 clear hF3
 rintro ⟨fu, g21⟩ ⟨hl22, hF4⟩
 dsimp only at hl22 hF4 ⊢
 obtain _ | fu := fu
 · rw [m_spec_l6Is_j4] at hF4; cases hF4
 rw [m_spec_l6Is_j4] at hF4
 refine w_cond hF4 ?_ ?_ <;> intro hc23 hF5
 refine awp_seq (awp_region ?_)
 refine s_as ?_
 refine k_nil (k_seq (awp_ret (k_seq_ret (k_blk_ret (k_seq_ret (k_rnd_ret2 (k_blk_ret (k_jn_ret (k_fin ?_)))))))))
 cases hF5
 exact ends_a [] [] Tryz.results74
 refine awp_skip (k_seq ?_)
 refine awp_draw yMix (by kernel_rfl) ?_
 refine s_bs rI ([] : List Int) yP22 yR3 ?_
 refine s_mv ?_
 obtain ⟨hk24, hF6⟩ := chk_some hF5
 refine s_apT rI (fun _ => rfl) hk24 yP22 ?_
 refine s_fa yF36_4 ?_
 refine s_ld1 yA22 ?_
 refine s_mv ?_
 obtain ⟨v25, hv25, hF7⟩ := bind_some' hF6
 refine s_ixT rI hv25 rfl yE22 ?_
 refine s_ld1 yA3 ?_
 refine s_bs rI [v25] yP22 yR3 ?_
 obtain ⟨hk26, hF8⟩ := chk_some hF7
 refine s_apT rI (fun _ => rfl) hk26 yP22 ?_
 refine s_as ?_
 refine k_nilD (by kernel_rfl) ?_
 refine k_blk (k_seq ?_)
 refine awp_pz 7 ?_
 refine awp_region ?_
 refine s_mv ?_
 refine s_add (winc2 hc13 hb14 hn_g11) ?_
 refine s_as ?_
 refine k_nil ?_
 exact s_rn (fu, ((([] : List Int) ++ g10) ++ [v25]), (g11 + 1)) ⟨by first | omega | (dsimp only; omega), hF8, by first | omega | (dsimp only; omega)⟩
 refine awp_exit (k_seq_exit (k_rnd_exit2 (k_blk_exit ?_)))
 exact s_jn (fu, g10) ⟨by first | omega | (dsimp only; omega), hF3⟩
 clear hF1
 rintro ⟨fu, g27⟩ ⟨hl28, hF2⟩
 dsimp only at hl28 hF2 ⊢
 obtain _ | fu := fu
 · rw [m_spec_l6Is_j2] at hF2; cases hF2
 rw [m_spec_l6Is_j2] at hF2
 refine awp_seq (awp_seq (awp_region ?_))
 refine s_as ?_
 refine k_nil (k_seq (awp_block ?_))
 refine awp_fr (β := Int) [6, 9, 79, 80, 81, 82, 83, 84, 85, 86, 87, 88, 89, 90, 91, 92, 93, 94, 95] [] [] (fun a => [(9, .t (.sc (.int .i64 a.2)))]) (fun a => []) (fun a => a.1 ≤ fu ∧ m_spec_l6Is_l5 a.1 x1 x3 g27 a.2 = some r ∧ 0 ≤ a.2) (fu, 0) ⟨Nat.le_refl _, hF2, by simp⟩ ?_
 clear hF2
 rintro ⟨fu, g29⟩ ⟨hl30, hF3, hn_g29⟩
 dsimp only at hl30 hF3 hn_g29 ⊢
 obtain _ | fu := fu
 · rw [m_spec_l6Is_l5] at hF3; cases hF3
 rw [m_spec_l6Is_l5] at hF3
 refine awp_seq (awp_seq (awp_region ?_))
 refine s_mv ?_
 refine s_fa yF36_6 ?_
 refine s_ld1 yA34 ?_
 refine s_lenT yU34 ?_
 refine s_lt ?_
 refine k_nil (k_seq ?_)
 refine w_cond hF3 ?_ ?_ <;> intro hc31 hF4
 refine awp_lenT 81 (fun hb32 => ?_)
 refine awp_skip (k_seq (awp_seq (awp_block (awp_seq (awp_region ?_)))))
 refine s_fa yF36_6 ?_
 refine s_ld1 yA34 ?_
 refine s_mv ?_
 obtain ⟨v33, hv33, hF5⟩ := bind_some' hF4
 refine s_ixT Core.row hv33 (Core.row_eq _) yE34 ?_
 refine s_ldN yA36 yS36 ?_
 refine s_mv ?_
 refine s_mv ?_
 refine s_sub rfl ?_
 obtain ⟨v34, hv34, hF6⟩ := bind_some' hF5
 refine s_pure [] (ih_m_spec_l6Is fu (by omega) _ _ _ _ hv34) ?_
 refine s_not ?_
 refine k_nil (k_seq ?_)
 refine w_cond hF6 ?_ ?_ <;> intro hc35 hF7
 refine awp_seq (awp_region ?_)
 refine s_as ?_
 refine k_nil (k_seq (awp_ret (k_blk_ret (k_seq_ret (k_rnd_ret2 (k_blk_ret (k_seq_ret (k_fin ?_))))))))
 cases hF7
 exact ends_a [] [] Tryz.results74
 refine awp_skip (k_blk (k_seq (awp_region ?_)))
 refine s_mv ?_
 refine s_add (winc2 hc31 hb32 hn_g29) ?_
 refine s_as ?_
 refine k_nil ?_
 exact s_rn (fu, (g29 + 1)) ⟨by first | omega | (dsimp only; omega), hF7, by first | omega | (dsimp only; omega)⟩
 refine awp_exit (k_seq_exit (k_rnd_exit2 (k_blk_exit (k_seq (awp_seq (awp_region ?_))))))
 refine s_as ?_
 refine k_nil (k_seq (awp_ret (k_fin ?_)))
 cases hF4
 exact ends_a [] [] Tryz.results74
theorem m_spec_l6Is_all (fuel : Nat) : m_spec_l6Is_AC fuel := by
 induction fuel using Nat.strongRecOn with
 | _ N ih =>
   cases N with
   | zero => exact (by intro x1 x2 x3 r h; rw [m_spec_l6Is] at h; cases h)
   | succ fu => exact m_spec_l6Is_st fu (fun k hk => (ih k (by omega)))
theorem m_spec_l6Is_ok (fuel : Nat) : m_spec_l6Is_AC fuel := (m_spec_l6Is_all fuel)
def m_spec_l6Count_AC (fuel : Nat) : Prop := ∀ (x1 : Core) (r : Int), m_spec_l6Count fuel x1 = some r → AC Tryz.prog 75 [.ag [.t (.sc (.int .i64 x1.kind)), .t (.sc (.int .i64 x1.id)), .t (.sc (.str x1.name)), .t (.sc (.int .i64 x1.n)), .t (.sl (x1.ids.map rI)), .t (.sc (.int .i64 x1.data.kind)), .t (.sc (.str x1.data.name)), .t (.sc (.int .i64 x1.data.n)), .t (.sl (x1.data.scopes.map rI)), .t (.sl (x1.data.kids.map Form.row)), .t (.sl (x1.kids.map Core.row))]] noOb (.t (.sc (.int .i64 r))) noOb
theorem m_spec_l6Count_st (fu : Nat) (ih_m_spec_l6Count : ∀ k, k ≤ fu → m_spec_l6Count_AC k) : m_spec_l6Count_AC (fu + 1) := by
 intro x1 r hF0
 rw [m_spec_l6Count] at hF0
 refine AC_i [.t (.sc (.int .i64 r))] Tryz.func75 rfl Tryz.ntmps75 ?_
 intro C hC
 refine awp_seq (awp_region ?_)
 refine s_box ?_
 refine s_as ?_
 refine k_nil (k_seq (awp_seq (awp_region ?_)))
 refine s_as ?_
 refine k_nil (k_seq (awp_seq (awp_seq (awp_region ?_))))
 refine s_as ?_
 refine k_nil (k_seq (awp_block ?_))
 refine awp_fr (β := Int × Int) [3, 4, 5, 6, 7, 8, 9, 10, 11, 12, 13, 14, 15, 16, 17, 18, 19] [] [] (fun a => [(3, .t (.sc (.int .i64 a.2.1))), (4, .t (.sc (.int .i64 a.2.2)))]) (fun a => []) (fun a => a.1 ≤ fu ∧ m_spec_l6Count_l1 a.1 x1 a.2.1 a.2.2 = some r ∧ 0 ≤ a.2.2) (fu, 1, 0) ⟨Nat.le_refl _, hF0, by simp⟩ ?_
 clear hF0
 rintro ⟨fu, g1, g2⟩ ⟨hl3, hF1, hn_g2⟩
 dsimp only at hl3 hF1 hn_g2 ⊢
 obtain _ | fu := fu
 · rw [m_spec_l6Count_l1] at hF1; cases hF1
 rw [m_spec_l6Count_l1] at hF1
 refine awp_seq (awp_seq (awp_region ?_))
 refine s_mv ?_
 refine s_fa yF36_6 ?_
 refine s_ld1 yA34 ?_
 refine s_lenT yU34 ?_
 refine s_lt ?_
 refine k_nil (k_seq ?_)
 refine w_cond hF1 ?_ ?_ <;> intro hc4 hF2
 refine awp_lenT 7 (fun hb5 => ?_)
 refine awp_skip (k_seq (awp_seq (awp_block (awp_region ?_))))
 refine s_mv ?_
 refine s_fa yF36_6 ?_
 refine s_ld1 yA34 ?_
 refine s_mv ?_
 obtain ⟨v6, hv6, hF3⟩ := bind_some' hF2
 refine s_ixT Core.row hv6 (Core.row_eq _) yE34 ?_
 refine s_ldN yA36 yS36 ?_
 obtain ⟨v7, hv7, hF4⟩ := bind_some' hF3
 refine s_pure [] (ih_m_spec_l6Count fu (by omega) _ _ hv7) ?_
 refine s_add rfl ?_
 refine s_as ?_
 refine k_nil (k_blk (k_seq (awp_region ?_)))
 refine s_mv ?_
 refine s_add (winc2 hc4 hb5 hn_g2) ?_
 refine s_as ?_
 refine k_nil ?_
 exact s_rn (fu, (w64 (g1 + v7)), (g2 + 1)) ⟨by first | omega | (dsimp only; omega), hF4, by first | omega | (dsimp only; omega)⟩
 refine awp_exit (k_seq_exit (k_rnd_exit2 (k_blk_exit (k_seq (awp_seq (awp_region ?_))))))
 refine s_mv ?_
 refine s_as ?_
 refine k_nil (k_seq (awp_ret (k_fin ?_)))
 cases hF2
 exact ends_a [] [] Tryz.results75
theorem m_spec_l6Count_all (fuel : Nat) : m_spec_l6Count_AC fuel := by
 induction fuel using Nat.strongRecOn with
 | _ N ih =>
   cases N with
   | zero => exact (by intro x1 r h; rw [m_spec_l6Count] at h; cases h)
   | succ fu => exact m_spec_l6Count_st fu (fun k hk => (ih k (by omega)))
theorem m_spec_l6Count_ok (fuel : Nat) : m_spec_l6Count_AC fuel := (m_spec_l6Count_all fuel)
def m_spec_CoreValid_AC (fuel : Nat) : Prop := ∀ (x1 : Core) (r : Bool), m_spec_CoreValid fuel x1 = some r → AC Tryz.prog 38 [.ag [.t (.sc (.int .i64 x1.kind)), .t (.sc (.int .i64 x1.id)), .t (.sc (.str x1.name)), .t (.sc (.int .i64 x1.n)), .t (.sl (x1.ids.map rI)), .t (.sc (.int .i64 x1.data.kind)), .t (.sc (.str x1.data.name)), .t (.sc (.int .i64 x1.data.n)), .t (.sl (x1.data.scopes.map rI)), .t (.sl (x1.data.kids.map Form.row)), .t (.sl (x1.kids.map Core.row))]] noOb (.t (.sc (.bool r))) noOb
theorem m_spec_CoreValid_ok (fuel : Nat) : m_spec_CoreValid_AC fuel := by
 intro x1 r hF0
 unfold m_spec_CoreValid at hF0
 refine AC_i [.t (.sc (.bool r))] Tryz.func38 rfl Tryz.ntmps38 ?_
 intro C hC
 refine awp_seq (awp_region ?_)
 refine s_box ?_
 refine s_as ?_
 refine k_nil (k_seq (awp_seq (awp_region ?_)))
 refine s_ldW yA36 yS36 ?_
 refine s_bs rI ([] : List Int) yP22 yR3 ?_
 obtain ⟨v1, hv1, hF1⟩ := bind_some' hF0
 refine s_pure [4] (m_spec_l6Is_ok fuel _ _ _ _ hv1) ?_
 refine s_mv ?_
 refine w_guard _ 6 hF1 ?_ ?_ <;> intro hc2 hF2
 refine s_ldW yA36 yS36 ?_
 obtain ⟨v3, hv3, hF3⟩ := bind_some' hF2
 refine s_pure [] (m_spec_l6Count_ok fuel _ _ hv3) ?_
 refine s_le ?_
 refine s_pkt ?_
 refine s_as ?_
 refine k_nil (k_seq (awp_ret (k_fin ?_)))
 cases hF3
 exact ends_a [] [] Tryz.results38
 iterate 3 refine r_no rfl ?_
 refine s_pkf ?_
 refine s_as ?_
 refine k_nil (k_seq (awp_ret (k_fin ?_)))
 cases hF2
 exact ends_a [] [] Tryz.results38
def m_spec_l15Dec_AC (fuel : Nat) : Prop := ∀ (x1 : Int) (r : ByteArray), m_spec_l15Dec fuel x1 = some r → AC Tryz.prog 76 [.t (.sc (.int .i64 x1))] noOb (.t (.sc (.str r))) noOb
theorem m_spec_l15Dec_st (fu : Nat) (ih_m_spec_l15Dec : ∀ k, k ≤ fu → m_spec_l15Dec_AC k) : m_spec_l15Dec_AC (fu + 1) := by
 intro x1 r hF0
 rw [m_spec_l15Dec] at hF0
 refine AC_i [.t (.sc (.str r))] Tryz.func76 rfl Tryz.ntmps76 ?_
 intro C hC
 refine awp_seq (awp_region ?_)
 refine s_as ?_
 refine k_nil (k_seq (awp_seq (awp_seq (awp_region ?_))))
 refine s_mv ?_
 refine s_lt ?_
 refine k_nil (k_seq ?_)
 refine w_cond hF0 ?_ ?_ <;> intro hc1 hF1
 refine awp_seq (awp_region ?_)
 refine s_as ?_
 refine k_nil (k_seq (awp_ret (k_seq_ret (k_fin ?_))))
 cases hF1
 exact ends_a [] [] Tryz.results76
 refine awp_skip (k_seq (awp_seq (awp_seq (awp_region ?_))))
 refine s_mv ?_
 refine s_lt ?_
 refine k_nil (k_seq ?_)
 refine w_cond hF1 ?_ ?_ <;> intro hc2 hF2
 refine awp_seq (awp_region ?_)
 refine s_mv ?_
 refine s_neg rfl ?_
 obtain ⟨v3, hv3, hF3⟩ := bind_some' hF2
 refine s_pure [] (ih_m_spec_l15Dec fu (by omega) _ _ hv3) ?_
 obtain ⟨v4, hv4, hF4⟩ := bind_some' hF3
 refine s_cat hv4 ?_
 refine s_as ?_
 refine k_nil (k_seq (awp_ret (k_seq_ret (k_fin ?_))))
 cases hF4
 exact ends_a [] [] Tryz.results76
 refine awp_skip (k_seq (awp_seq (awp_region ?_)))
 refine s_as ?_
 refine k_nil (k_seq (awp_seq (awp_block ?_)))
 refine awp_fr (β := Int × ByteArray) [0, 3, 12, 13, 14, 15, 16, 17, 18, 19, 20, 21, 22, 23] [] [18] (fun a => [(0, .t (.sc (.int .i64 a.2.1))), (3, .t (.sc (.str a.2.2)))]) (fun a => []) (fun a => a.1 ≤ fu ∧ m_spec_l15Dec_l1 a.1  a.2.1 a.2.2 = some r) (fu, x1, (⟨#[]⟩ : ByteArray)) ⟨Nat.le_refl _, hF2⟩ ?_
 clear hF2
 rintro ⟨fu, g5, g6⟩ ⟨hl7, hF3⟩
 dsimp only at hl7 hF3 ⊢
 obtain _ | fu := fu
 · rw [m_spec_l15Dec_l1] at hF3; cases hF3
 rw [m_spec_l15Dec_l1] at hF3
 refine awp_seq (awp_seq (awp_region ?_))
 refine s_mv ?_
 refine s_gt ?_
 refine k_nil (k_seq ?_)
 refine w_cond hF3 ?_ ?_ <;> intro hc8 hF4
 refine awp_skip (k_seq (awp_block (awp_seq (awp_region ?_))))
 refine s_mv ?_
 refine s_rem ?_
 refine s_add rfl ?_
 refine s_int yU3 yU5 rfl ?_
 refine s_bs rB [(w8 (w64 (48 + (g5.tmod 10))))] yP40 yR5 ?_
 refine s_bst (l := [(w8 (w64 (48 + (g5.tmod 10))))]) yU40 yU9 yE40 yU5 ?_
 refine s_mv ?_
 obtain ⟨v9, hv9, hF5⟩ := bind_some' hF4
 refine s_cat hv9 ?_
 refine s_as ?_
 refine k_nil (k_seq (awp_region ?_))
 refine s_mv ?_
 refine s_quo rfl ?_
 refine s_as ?_
 refine k_nil (k_blk ?_)
 exact s_rn (fu, (w64 (g5.tdiv 10)), v9) ⟨by first | omega | (dsimp only; omega), hF5⟩
 refine awp_exit (k_seq_exit (k_rnd_exit2 (k_blk_exit (k_seq (awp_seq (awp_region ?_))))))
 refine s_mv ?_
 refine s_add rfl ?_
 refine s_int yU3 yU5 rfl ?_
 refine s_bs rB [(w8 (w64 (48 + g5)))] yP40 yR5 ?_
 refine s_bst (l := [(w8 (w64 (48 + g5)))]) yU40 yU9 yE40 yU5 ?_
 refine s_mv ?_
 obtain ⟨v10, hv10, hF5⟩ := bind_some' hF4
 refine s_cat hv10 ?_
 refine s_as ?_
 refine k_nil (k_seq (awp_ret (k_fin ?_)))
 cases hF5
 exact ends_a [] [] Tryz.results76
theorem m_spec_l15Dec_all (fuel : Nat) : m_spec_l15Dec_AC fuel := by
 induction fuel using Nat.strongRecOn with
 | _ N ih =>
   cases N with
   | zero => exact (by intro x1 r h; rw [m_spec_l15Dec] at h; cases h)
   | succ fu => exact m_spec_l15Dec_st fu (fun k hk => (ih k (by omega)))
theorem m_spec_l15Dec_ok (fuel : Nat) : m_spec_l15Dec_AC fuel := (m_spec_l15Dec_all fuel)
def m_spec_l1Text_AC (fuel : Nat) : Prop := ∀ (x1 : Form) (r : ByteArray), m_spec_l1Text fuel x1 = some r → AC Tryz.prog 62 [.ag [.t (.sc (.int .i64 x1.kind)), .t (.sc (.str x1.name)), .t (.sc (.int .i64 x1.n)), .t (.sl (x1.scopes.map rI)), .t (.sl (x1.kids.map Form.row))]] noOb (.t (.sc (.str r))) noOb
theorem m_spec_l1Text_st (fu : Nat) (ih_m_spec_l1Text : ∀ k, k ≤ fu → m_spec_l1Text_AC k) : m_spec_l1Text_AC (fu + 1) := by
 intro x1 r hF0
 rw [m_spec_l1Text] at hF0
 refine AC_i [.t (.sc (.str r))] Tryz.func62 rfl Tryz.ntmps62 ?_
 intro C hC
 refine awp_seq (awp_region ?_)
 refine s_box ?_
 refine s_as ?_
 refine k_nil (k_seq (awp_seq (awp_seq (awp_region ?_))))
 refine s_fa yF33_0 ?_
 refine s_ld1 yA3 ?_
 refine s_eq ?_
 refine k_nil (k_seq ?_)
 refine w_cond hF0 ?_ ?_ <;> intro hc1 hF1
 refine awp_seq (awp_region ?_)
 refine s_fa yF33_2 ?_
 refine s_ld1 yA3 ?_
 obtain ⟨v2, hv2, hF2⟩ := bind_some' hF1
 refine s_pure [] (m_spec_l15Dec_ok fu _ _ hv2) ?_
 refine s_as ?_
 refine k_nil (k_seq (awp_ret (k_seq_ret (k_fin ?_))))
 cases hF2
 exact ends_a [] [] Tryz.results62
 refine awp_skip (k_seq (awp_seq (awp_seq (awp_region ?_))))
 refine s_fa yF33_0 ?_
 refine s_ld1 yA3 ?_
 refine s_eq ?_
 refine k_nil (k_seq ?_)
 refine w_cond hF1 ?_ ?_ <;> intro hc3 hF2
 refine awp_seq (awp_region ?_)
 refine s_fa yF33_1 ?_
 refine s_ld1 yA9 ?_
 refine s_as ?_
 refine k_nil (k_seq ?_)
 refine awp_jn (α := Nat × ByteArray) [3, 4, 5, 19, 20, 21, 22, 23, 24, 25, 26, 27, 28, 29, 30, 31, 32, 33, 34, 35, 36, 37] [] [] (fun a => [(3, .t (.sc (.str a.2)))]) (fun a => []) (fun a => a.1 ≤ fu ∧ m_spec_l1Text_j1 a.1 x1 a.2 = some r) ?_ ?_
 refine awp_seq (awp_region ?_)
 refine s_as ?_
 refine k_nil (k_seq (awp_block ?_))
 refine awp_fr (β := ByteArray × Int) [3, 4, 5, 19, 20, 21, 22, 23, 24, 25, 26, 27, 28, 29, 30, 31, 32, 33, 34, 35, 36, 37] [] [] (fun a => [(3, .t (.sc (.str a.2.1))), (4, .t (.sc (.int .i64 a.2.2)))]) (fun a => []) (fun a => a.1 ≤ fu ∧ m_spec_l1Text_l2 a.1 x1 a.2.1 a.2.2 = some r ∧ 0 ≤ a.2.2) (fu, x1.name, 0) ⟨Nat.le_refl _, hF2, by simp⟩ ?_
 clear hF2
 rintro ⟨fu, g4, g5⟩ ⟨hl6, hF3, hn_g5⟩
 dsimp only at hl6 hF3 hn_g5 ⊢
 obtain _ | fu := fu
 · rw [m_spec_l1Text_l2] at hF3; cases hF3
 rw [m_spec_l1Text_l2] at hF3
 refine awp_seq (awp_seq (awp_region ?_))
 refine s_mv ?_
 refine s_fa yF33_3 ?_
 refine s_ld1 yA22 ?_
 refine s_lenT yU22 ?_
 refine s_lt ?_
 refine k_nil (k_seq ?_)
 refine w_cond hF3 ?_ ?_ <;> intro hc7 hF4
 refine awp_lenT 21 (fun hb8 => ?_)
 refine awp_skip (k_seq (awp_seq (awp_block (awp_seq (awp_region ?_)))))
 refine s_as ?_
 refine k_nil (k_seq ?_)
 refine awp_jn (α := Nat × ByteArray) [5, 26, 27] [] [] (fun a => [(5, .t (.sc (.str a.2)))]) (fun a => []) (fun a => a.1 ≤ fu ∧ m_spec_l1Text_j3 a.1 x1 g4 g5 a.2 = some r) ?_ ?_
 refine awp_seq (awp_region ?_)
 refine s_mv ?_
 refine s_eq ?_
 refine k_nil (k_seq ?_)
 refine w_cond hF4 ?_ ?_ <;> intro hc9 hF5
 refine awp_region ?_
 refine s_as ?_
 refine k_nil ?_
 exact s_jn (fu, (⟨#[123]⟩ : ByteArray)) ⟨by first | omega | (dsimp only; omega), hF5⟩
 refine awp_skip ?_
 exact s_jn (fu, (⟨#[44]⟩ : ByteArray)) ⟨by first | omega | (dsimp only; omega), hF5⟩
 clear hF4
 rintro ⟨fu, g10⟩ ⟨hl11, hF5⟩
 dsimp only at hl11 hF5 ⊢
 obtain _ | fu := fu
 · rw [m_spec_l1Text_j3] at hF5; cases hF5
 rw [m_spec_l1Text_j3] at hF5
 refine awp_region ?_
 refine s_mv ?_
 refine s_mv ?_
 obtain ⟨v12, hv12, hF6⟩ := bind_some' hF5
 refine s_cat hv12 ?_
 refine s_fa yF33_3 ?_
 refine s_ld1 yA22 ?_
 refine s_mv ?_
 obtain ⟨v13, hv13, hF7⟩ := bind_some' hF6
 refine s_ixT rI hv13 rfl yE22 ?_
 refine s_ld1 yA3 ?_
 obtain ⟨v14, hv14, hF8⟩ := bind_some' hF7
 refine s_pure [] (m_spec_l15Dec_ok fu _ _ hv14) ?_
 obtain ⟨v15, hv15, hF9⟩ := bind_some' hF8
 refine s_cat hv15 ?_
 refine s_as ?_
 refine k_nil (k_blk (k_seq (awp_region ?_)))
 refine s_mv ?_
 refine s_add (winc2 hc7 hb8 hn_g5) ?_
 refine s_as ?_
 refine k_nil ?_
 exact s_rn (fu, v15, (g5 + 1)) ⟨by first | omega | (dsimp only; omega), hF9, by first | omega | (dsimp only; omega)⟩
 refine awp_exit (k_seq_exit (k_rnd_exit2 (k_blk_exit ?_)))
 exact s_jn (fu, g4) ⟨by first | omega | (dsimp only; omega), hF4⟩
 clear hF2
 rintro ⟨fu, g16⟩ ⟨hl17, hF3⟩
 dsimp only at hl17 hF3 ⊢
 obtain _ | fu := fu
 · rw [m_spec_l1Text_j1] at hF3; cases hF3
 rw [m_spec_l1Text_j1] at hF3
 refine awp_jn (α := Nat × ByteArray) [3, 38, 39, 40, 41, 42, 43] [] [] (fun a => [(3, .t (.sc (.str a.2)))]) (fun a => []) (fun a => a.1 ≤ fu ∧ m_spec_l1Text_j4 a.1  a.2 = some r) ?_ ?_
 refine awp_seq (awp_region ?_)
 refine s_fa yF33_3 ?_
 refine s_ld1 yA22 ?_
 refine s_lenT yU22 ?_
 refine s_gt ?_
 refine k_nil (k_seq ?_)
 refine w_cond hF3 ?_ ?_ <;> intro hc18 hF4
 refine awp_lenT 39 (fun hb19 => ?_)
 refine awp_region ?_
 refine s_mv ?_
 obtain ⟨v20, hv20, hF5⟩ := bind_some' hF4
 refine s_cat hv20 ?_
 refine s_as ?_
 refine k_nil ?_
 exact s_jn (fu, v20) ⟨by first | omega | (dsimp only; omega), hF5⟩
 refine awp_skip ?_
 exact s_jn (fu, g16) ⟨by first | omega | (dsimp only; omega), hF4⟩
 clear hF3
 rintro ⟨fu, g21⟩ ⟨hl22, hF4⟩
 dsimp only at hl22 hF4 ⊢
 obtain _ | fu := fu
 · rw [m_spec_l1Text_j4] at hF4; cases hF4
 rw [m_spec_l1Text_j4] at hF4
 refine awp_seq (awp_region ?_)
 refine s_mv ?_
 refine s_as ?_
 refine k_nil (k_seq (awp_ret (k_seq_ret (k_fin ?_))))
 cases hF4
 exact ends_a [] [] Tryz.results62
 refine awp_skip (k_seq (awp_seq (awp_region ?_)))
 refine s_as ?_
 refine k_nil (k_seq (awp_seq (awp_seq (awp_region ?_))))
 refine s_as ?_
 refine k_nil (k_seq (awp_block ?_))
 refine awp_fr (β := ByteArray × Int) [6, 7, 45, 46, 47, 48, 49, 50, 51, 52, 53, 54, 55, 56, 57, 58, 59, 60, 61, 62, 63] [] [] (fun a => [(6, .t (.sc (.str a.2.1))), (7, .t (.sc (.int .i64 a.2.2)))]) (fun a => []) (fun a => a.1 ≤ fu ∧ m_spec_l1Text_l5 a.1 x1 a.2.1 a.2.2 = some r ∧ 0 ≤ a.2.2) (fu, (⟨#[40]⟩ : ByteArray), 0) ⟨Nat.le_refl _, hF2, by simp⟩ ?_
 clear hF2
 rintro ⟨fu, g23, g24⟩ ⟨hl25, hF3, hn_g24⟩
 dsimp only at hl25 hF3 hn_g24 ⊢
 obtain _ | fu := fu
 · rw [m_spec_l1Text_l5] at hF3; cases hF3
 rw [m_spec_l1Text_l5] at hF3
 refine awp_seq (awp_seq (awp_region ?_))
 refine s_mv ?_
 refine s_fa yF33_4 ?_
 refine s_ld1 yA31 ?_
 refine s_lenT yU31 ?_
 refine s_lt ?_
 refine k_nil (k_seq ?_)
 refine w_cond hF3 ?_ ?_ <;> intro hc26 hF4
 refine awp_lenT 47 (fun hb27 => ?_)
 refine awp_skip (k_seq (awp_seq (awp_block ?_)))
 refine awp_jn (α := Nat × ByteArray) [6, 52, 53, 54, 55] [] [] (fun a => [(6, .t (.sc (.str a.2)))]) (fun a => []) (fun a => a.1 ≤ fu ∧ m_spec_l1Text_j6 a.1 x1 g24 a.2 = some r) ?_ ?_
 refine awp_seq (awp_region ?_)
 refine s_mv ?_
 refine s_gt ?_
 refine k_nil (k_seq ?_)
 refine w_cond hF4 ?_ ?_ <;> intro hc28 hF5
 refine awp_region ?_
 refine s_mv ?_
 obtain ⟨v29, hv29, hF6⟩ := bind_some' hF5
 refine s_cat hv29 ?_
 refine s_as ?_
 refine k_nil ?_
 exact s_jn (fu, v29) ⟨by first | omega | (dsimp only; omega), hF6⟩
 refine awp_skip ?_
 exact s_jn (fu, g23) ⟨by first | omega | (dsimp only; omega), hF5⟩
 clear hF4
 rintro ⟨fu, g30⟩ ⟨hl31, hF5⟩
 dsimp only at hl31 hF5 ⊢
 obtain _ | fu := fu
 · rw [m_spec_l1Text_j6] at hF5; cases hF5
 rw [m_spec_l1Text_j6] at hF5
 refine awp_region ?_
 refine s_mv ?_
 refine s_fa yF33_4 ?_
 refine s_ld1 yA31 ?_
 refine s_mv ?_
 obtain ⟨v32, hv32, hF6⟩ := bind_some' hF5
 refine s_ixT Form.row hv32 (Form.row_eq _) yE31 ?_
 refine s_ldN yA33 yS33 ?_
 obtain ⟨v33, hv33, hF7⟩ := bind_some' hF6
 refine s_pure [] (ih_m_spec_l1Text fu (by omega) _ _ hv33) ?_
 obtain ⟨v34, hv34, hF8⟩ := bind_some' hF7
 refine s_cat hv34 ?_
 refine s_as ?_
 refine k_nil (k_blk (k_seq (awp_region ?_)))
 refine s_mv ?_
 refine s_add (winc2 hc26 hb27 hn_g24) ?_
 refine s_as ?_
 refine k_nil ?_
 exact s_rn (fu, v34, (g24 + 1)) ⟨by first | omega | (dsimp only; omega), hF8, by first | omega | (dsimp only; omega)⟩
 refine awp_exit (k_seq_exit (k_rnd_exit2 (k_blk_exit (k_seq (awp_seq (awp_region ?_))))))
 refine s_mv ?_
 obtain ⟨v35, hv35, hF5⟩ := bind_some' hF4
 refine s_cat hv35 ?_
 refine s_as ?_
 refine k_nil (k_seq (awp_ret (k_fin ?_)))
 cases hF5
 exact ends_a [] [] Tryz.results62
theorem m_spec_l1Text_all (fuel : Nat) : m_spec_l1Text_AC fuel := by
 induction fuel using Nat.strongRecOn with
 | _ N ih =>
   cases N with
   | zero => exact (by intro x1 r h; rw [m_spec_l1Text] at h; cases h)
   | succ fu => exact m_spec_l1Text_st fu (fun k hk => (ih k (by omega)))
theorem m_spec_l1Text_ok (fuel : Nat) : m_spec_l1Text_AC fuel := (m_spec_l1Text_all fuel)
def m_spec_l6Text_AC (fuel : Nat) : Prop := ∀ (x1 : Core) (r : ByteArray), m_spec_l6Text fuel x1 = some r → AC Tryz.prog 39 [.ag [.t (.sc (.int .i64 x1.kind)), .t (.sc (.int .i64 x1.id)), .t (.sc (.str x1.name)), .t (.sc (.int .i64 x1.n)), .t (.sl (x1.ids.map rI)), .t (.sc (.int .i64 x1.data.kind)), .t (.sc (.str x1.data.name)), .t (.sc (.int .i64 x1.data.n)), .t (.sl (x1.data.scopes.map rI)), .t (.sl (x1.data.kids.map Form.row)), .t (.sl (x1.kids.map Core.row))]] noOb (.t (.sc (.str r))) noOb
theorem m_spec_l6Text_st (fu : Nat) (ih_m_spec_l6Text : ∀ k, k ≤ fu → m_spec_l6Text_AC k) : m_spec_l6Text_AC (fu + 1) := by
 intro x1 r hF0
 rw [m_spec_l6Text] at hF0
 refine AC_i [.t (.sc (.str r))] Tryz.func39 rfl Tryz.ntmps39 ?_
 intro C hC
 refine awp_seq (awp_region ?_)
 refine s_box ?_
 refine s_as ?_
 refine k_nil (k_seq (awp_seq (awp_seq (awp_region ?_))))
 refine s_fa yF36_0 ?_
 refine s_ld1 yA3 ?_
 refine k_nil (k_seq (awp_block (awp_seq (awp_region ?_))))
 refine s_eq ?_
 refine s_as ?_
 refine k_nil (k_seq ?_)
 refine w_cond hF0 ?_ ?_ <;> intro hc1 hF1
 refine awp_seq (awp_region ?_)
 refine s_fa yF36_1 ?_
 refine s_ld1 yA3 ?_
 obtain ⟨v2, hv2, hF2⟩ := bind_some' hF1
 refine s_pure [] (m_spec_l15Dec_ok fu _ _ hv2) ?_
 obtain ⟨v3, hv3, hF3⟩ := bind_some' hF2
 refine s_cat hv3 ?_
 refine s_as ?_
 refine k_nil (k_seq (awp_ret (k_blk_ret (k_seq_ret (k_fin ?_)))))
 cases hF3
 exact ends_a [] [] Tryz.results39
 refine awp_seq (awp_region ?_)
 refine s_eq ?_
 refine s_as ?_
 refine k_nil (k_seq ?_)
 refine w_cond hF1 ?_ ?_ <;> intro hc4 hF2
 refine awp_seq (awp_region ?_)
 refine s_fa yF36_2 ?_
 refine s_ld1 yA9 ?_
 refine s_as ?_
 refine k_nil (k_seq (awp_ret (k_blk_ret (k_seq_ret (k_fin ?_)))))
 cases hF2
 exact ends_a [] [] Tryz.results39
 refine awp_seq (awp_region ?_)
 refine s_eq ?_
 refine s_as ?_
 refine k_nil (k_seq ?_)
 refine w_cond hF2 ?_ ?_ <;> intro hc5 hF3
 refine awp_seq (awp_region ?_)
 refine s_fa yF36_3 ?_
 refine s_ld1 yA3 ?_
 obtain ⟨v6, hv6, hF4⟩ := bind_some' hF3
 refine s_pure [] (m_spec_l15Dec_ok fu _ _ hv6) ?_
 refine s_as ?_
 refine k_nil (k_seq (awp_ret (k_blk_ret (k_seq_ret (k_fin ?_)))))
 cases hF4
 exact ends_a [] [] Tryz.results39
 refine awp_seq (awp_region ?_)
 refine s_eq ?_
 refine s_as ?_
 refine k_nil (k_seq ?_)
 refine w_cond hF3 ?_ ?_ <;> intro hc7 hF4
 refine awp_seq (awp_region ?_)
 refine s_fa yF36_5 ?_
 refine s_ldN yA33 yS33 ?_
 obtain ⟨v8, hv8, hF5⟩ := bind_some' hF4
 refine s_pure [] (m_spec_l1Text_ok fu _ _ hv8) ?_
 obtain ⟨v9, hv9, hF6⟩ := bind_some' hF5
 refine s_cat hv9 ?_
 refine s_as ?_
 refine k_nil (k_seq (awp_ret (k_blk_ret (k_seq_ret (k_fin ?_)))))
 cases hF6
 exact ends_a [] [] Tryz.results39
 refine awp_skip (k_blk (k_seq (awp_seq (awp_region ?_))))
 refine s_as ?_
 refine k_nil (k_seq ?_)
 refine awp_jn (α := Nat × ByteArray) [3, 29, 30, 31] [] [] (fun a => [(3, .t (.sc (.str a.2)))]) (fun a => []) (fun a => a.1 ≤ fu ∧ m_spec_l6Text_j1 a.1 x1 a.2 = some r) ?_ ?_
 refine awp_seq (awp_region ?_)
 refine s_fa yF36_0 ?_
 refine s_ld1 yA3 ?_
 refine s_eq ?_
 refine k_nil (k_seq ?_)
 refine w_cond hF4 ?_ ?_ <;> intro hc10 hF5
 refine awp_region ?_
 refine s_as ?_
 refine k_nil ?_
 exact s_jn (fu, (⟨#[40, 105, 102, 32]⟩ : ByteArray)) ⟨by first | omega | (dsimp only; omega), hF5⟩
 refine awp_skip ?_
 exact s_jn (fu, (⟨#[40]⟩ : ByteArray)) ⟨by first | omega | (dsimp only; omega), hF5⟩
 clear hF4
 rintro ⟨fu, g11⟩ ⟨hl12, hF5⟩
 dsimp only at hl12 hF5 ⊢
 obtain _ | fu := fu
 · rw [m_spec_l6Text_j1] at hF5; cases hF5
 rw [m_spec_l6Text_j1] at hF5
 refine awp_jn (α := Nat × ByteArray) [3, 4, 32, 33, 34, 35, 36, 37, 38, 39, 40, 41, 42, 43, 44, 45, 46, 47, 48, 49, 50, 51, 52, 53, 54, 55, 56] [] [] (fun a => [(3, .t (.sc (.str a.2)))]) (fun a => []) (fun a => a.1 ≤ fu ∧ m_spec_l6Text_j2 a.1 x1 a.2 = some r) ?_ ?_
 refine awp_seq (awp_region ?_)
 refine s_fa yF36_0 ?_
 refine s_ld1 yA3 ?_
 refine s_eq ?_
 refine k_nil (k_seq ?_)
 refine w_cond hF5 ?_ ?_ <;> intro hc13 hF6
 refine awp_seq (awp_region ?_)
 refine s_as ?_
 refine k_nil (k_seq (awp_seq (awp_seq (awp_region ?_))))
 refine s_as ?_
 refine k_nil (k_seq (awp_block ?_))
 refine awp_fr (β := ByteArray × Int) [3, 4, 35, 36, 37, 38, 39, 40, 41, 42, 43, 44, 45, 46, 47, 48, 49, 50, 51, 52, 53, 54] [] [] (fun a => [(3, .t (.sc (.str a.2.1))), (4, .t (.sc (.int .i64 a.2.2)))]) (fun a => []) (fun a => a.1 ≤ fu ∧ m_spec_l6Text_l3 a.1 x1 a.2.1 a.2.2 = some r ∧ 0 ≤ a.2.2) (fu, (⟨#[40, 102, 117, 110, 32, 40]⟩ : ByteArray), 0) ⟨Nat.le_refl _, hF6, by simp⟩ ?_
 clear hF6
 rintro ⟨fu, g14, g15⟩ ⟨hl16, hF7, hn_g15⟩
 dsimp only at hl16 hF7 hn_g15 ⊢
 obtain _ | fu := fu
 · rw [m_spec_l6Text_l3] at hF7; cases hF7
 rw [m_spec_l6Text_l3] at hF7
 refine awp_seq (awp_seq (awp_region ?_))
 refine s_mv ?_
 refine s_fa yF36_4 ?_
 refine s_ld1 yA22 ?_
 refine s_lenT yU22 ?_
 refine s_lt ?_
 refine k_nil (k_seq ?_)
 refine w_cond hF7 ?_ ?_ <;> intro hc17 hF8
 refine awp_lenT 37 (fun hb18 => ?_)
 refine awp_skip (k_seq (awp_seq (awp_block ?_)))
 refine awp_jn (α := Nat × ByteArray) [3, 42, 43, 44, 45] [] [] (fun a => [(3, .t (.sc (.str a.2)))]) (fun a => []) (fun a => a.1 ≤ fu ∧ m_spec_l6Text_j4 a.1 x1 g15 a.2 = some r) ?_ ?_
 refine awp_seq (awp_region ?_)
 refine s_mv ?_
 refine s_gt ?_
 refine k_nil (k_seq ?_)
 refine w_cond hF8 ?_ ?_ <;> intro hc19 hF9
 refine awp_region ?_
 refine s_mv ?_
 obtain ⟨v20, hv20, hF10⟩ := bind_some' hF9
 refine s_cat hv20 ?_
 refine s_as ?_
 refine k_nil ?_
 exact s_jn (fu, v20) ⟨by first | omega | (dsimp only; omega), hF10⟩
 refine awp_skip ?_
 exact s_jn (fu, g14) ⟨by first | omega | (dsimp only; omega), hF9⟩
 clear hF8
 rintro ⟨fu, g21⟩ ⟨hl22, hF9⟩
 dsimp only at hl22 hF9 ⊢
 obtain _ | fu := fu
 · rw [m_spec_l6Text_j4] at hF9; cases hF9
 rw [m_spec_l6Text_j4] at hF9
 refine awp_region ?_
 refine s_mv ?_
 obtain ⟨v23, hv23, hF10⟩ := bind_some' hF9
 refine s_cat hv23 ?_
 refine s_fa yF36_4 ?_
 refine s_ld1 yA22 ?_
 refine s_mv ?_
 obtain ⟨v24, hv24, hF11⟩ := bind_some' hF10
 refine s_ixT rI hv24 rfl yE22 ?_
 refine s_ld1 yA3 ?_
 obtain ⟨v25, hv25, hF12⟩ := bind_some' hF11
 refine s_pure [] (m_spec_l15Dec_ok fu _ _ hv25) ?_
 obtain ⟨v26, hv26, hF13⟩ := bind_some' hF12
 refine s_cat hv26 ?_
 refine s_as ?_
 refine k_nil (k_blk (k_seq (awp_region ?_)))
 refine s_mv ?_
 refine s_add (winc2 hc17 hb18 hn_g15) ?_
 refine s_as ?_
 refine k_nil ?_
 exact s_rn (fu, v26, (g15 + 1)) ⟨by first | omega | (dsimp only; omega), hF13, by first | omega | (dsimp only; omega)⟩
 refine awp_exit (k_seq_exit (k_rnd_exit2 (k_blk_exit (k_seq (awp_region ?_)))))
 refine s_mv ?_
 obtain ⟨v27, hv27, hF9⟩ := bind_some' hF8
 refine s_cat hv27 ?_
 refine s_as ?_
 refine k_nil ?_
 exact s_jn (fu, v27) ⟨by first | omega | (dsimp only; omega), hF9⟩
 refine awp_skip ?_
 exact s_jn (fu, g11) ⟨by first | omega | (dsimp only; omega), hF6⟩
 clear hF5
 rintro ⟨fu, g28⟩ ⟨hl29, hF6⟩
 dsimp only at hl29 hF6 ⊢
 obtain _ | fu := fu
 · rw [m_spec_l6Text_j2] at hF6; cases hF6
 rw [m_spec_l6Text_j2] at hF6
 refine awp_seq (awp_seq (awp_region ?_))
 refine s_as ?_
 refine k_nil (k_seq (awp_block ?_))
 refine awp_fr (β := ByteArray × Int) [3, 5, 57, 58, 59, 60, 61, 62, 63, 64, 65, 66, 67, 68, 69, 70, 71, 72, 73, 74, 75] [] [] (fun a => [(3, .t (.sc (.str a.2.1))), (5, .t (.sc (.int .i64 a.2.2)))]) (fun a => []) (fun a => a.1 ≤ fu ∧ m_spec_l6Text_l5 a.1 x1 a.2.1 a.2.2 = some r ∧ 0 ≤ a.2.2) (fu, g28, 0) ⟨Nat.le_refl _, hF6, by simp⟩ ?_
 clear hF6
 rintro ⟨fu, g30, g31⟩ ⟨hl32, hF7, hn_g31⟩
 dsimp only at hl32 hF7 hn_g31 ⊢
 obtain _ | fu := fu
 · rw [m_spec_l6Text_l5] at hF7; cases hF7
 rw [m_spec_l6Text_l5] at hF7
 refine awp_seq (awp_seq (awp_region ?_))
 refine s_mv ?_
 refine s_fa yF36_6 ?_
 refine s_ld1 yA34 ?_
 refine s_lenT yU34 ?_
 refine s_lt ?_
 refine k_nil (k_seq ?_)
 refine w_cond hF7 ?_ ?_ <;> intro hc33 hF8
 refine awp_lenT 59 (fun hb34 => ?_)
 refine awp_skip (k_seq (awp_seq (awp_block ?_)))
 refine awp_jn (α := Nat × ByteArray) [3, 64, 65, 66, 67] [] [] (fun a => [(3, .t (.sc (.str a.2)))]) (fun a => []) (fun a => a.1 ≤ fu ∧ m_spec_l6Text_j6 a.1 x1 g31 a.2 = some r) ?_ ?_
 refine awp_seq (awp_region ?_)
 refine s_mv ?_
 refine s_gt ?_
 refine k_nil (k_seq ?_)
 refine w_cond hF8 ?_ ?_ <;> intro hc35 hF9
 refine awp_region ?_
 refine s_mv ?_
 obtain ⟨v36, hv36, hF10⟩ := bind_some' hF9
 refine s_cat hv36 ?_
 refine s_as ?_
 refine k_nil ?_
 exact s_jn (fu, v36) ⟨by first | omega | (dsimp only; omega), hF10⟩
 refine awp_skip ?_
 exact s_jn (fu, g30) ⟨by first | omega | (dsimp only; omega), hF9⟩
 clear hF8
 rintro ⟨fu, g37⟩ ⟨hl38, hF9⟩
 dsimp only at hl38 hF9 ⊢
 obtain _ | fu := fu
 · rw [m_spec_l6Text_j6] at hF9; cases hF9
 rw [m_spec_l6Text_j6] at hF9
 refine awp_region ?_
 refine s_mv ?_
 refine s_fa yF36_6 ?_
 refine s_ld1 yA34 ?_
 refine s_mv ?_
 obtain ⟨v39, hv39, hF10⟩ := bind_some' hF9
 refine s_ixT Core.row hv39 (Core.row_eq _) yE34 ?_
 refine s_ldN yA36 yS36 ?_
 obtain ⟨v40, hv40, hF11⟩ := bind_some' hF10
 refine s_pure [] (ih_m_spec_l6Text fu (by omega) _ _ hv40) ?_
 obtain ⟨v41, hv41, hF12⟩ := bind_some' hF11
 refine s_cat hv41 ?_
 refine s_as ?_
 refine k_nil (k_blk (k_seq (awp_region ?_)))
 refine s_mv ?_
 refine s_add (winc2 hc33 hb34 hn_g31) ?_
 refine s_as ?_
 refine k_nil ?_
 exact s_rn (fu, v41, (g31 + 1)) ⟨by first | omega | (dsimp only; omega), hF12, by first | omega | (dsimp only; omega)⟩
 refine awp_exit (k_seq_exit (k_rnd_exit2 (k_blk_exit (k_seq (awp_seq (awp_region ?_))))))
 refine s_mv ?_
 obtain ⟨v42, hv42, hF9⟩ := bind_some' hF8
 refine s_cat hv42 ?_
 refine s_as ?_
 refine k_nil (k_seq (awp_ret (k_fin ?_)))
 cases hF9
 exact ends_a [] [] Tryz.results39
theorem m_spec_l6Text_all (fuel : Nat) : m_spec_l6Text_AC fuel := by
 induction fuel using Nat.strongRecOn with
 | _ N ih =>
   cases N with
   | zero => exact (by intro x1 r h; rw [m_spec_l6Text] at h; cases h)
   | succ fu => exact m_spec_l6Text_st fu (fun k hk => (ih k (by omega)))
theorem m_spec_l6Text_ok (fuel : Nat) : m_spec_l6Text_AC fuel := (m_spec_l6Text_all fuel)
def m_spec_FormatCore_AC (fuel : Nat) : Prop := ∀ (x1 : Core) (r : ByteArray), m_spec_FormatCore fuel x1 = some r → AC Tryz.prog 10 [.ag [.t (.sc (.int .i64 x1.kind)), .t (.sc (.int .i64 x1.id)), .t (.sc (.str x1.name)), .t (.sc (.int .i64 x1.n)), .t (.sl (x1.ids.map rI)), .t (.sc (.int .i64 x1.data.kind)), .t (.sc (.str x1.data.name)), .t (.sc (.int .i64 x1.data.n)), .t (.sl (x1.data.scopes.map rI)), .t (.sl (x1.data.kids.map Form.row)), .t (.sl (x1.kids.map Core.row))]] noOb (.t (.sc (.str r))) noOb
theorem m_spec_FormatCore_ok (fuel : Nat) : m_spec_FormatCore_AC fuel := by
 intro x1 r hF0
 unfold m_spec_FormatCore at hF0
 refine AC_i [.t (.sc (.str r))] Tryz.func10 rfl Tryz.ntmps10 ?_
 intro C hC
 refine awp_seq (awp_region ?_)
 refine s_box ?_
 refine s_as ?_
 refine k_nil (k_seq (awp_seq (awp_seq (awp_region ?_))))
 refine s_ldW yA36 yS36 ?_
 obtain ⟨v1, hv1, hF1⟩ := bind_some' hF0
 refine s_pure [] (m_spec_CoreValid_ok fuel _ _ hv1) ?_
 refine s_not ?_
 refine k_nil (k_seq ?_)
 refine w_cond hF1 ?_ ?_ <;> intro hc2 hF2
 refine awp_seq (awp_region ?_)
 refine s_as ?_
 refine k_nil (k_seq (awp_ret (k_seq_ret (k_fin ?_))))
 cases hF2
 exact ends_a [] [] Tryz.results10
 refine awp_skip (k_seq (awp_seq (awp_region ?_)))
 refine s_ldW yA36 yS36 ?_
 obtain ⟨v3, hv3, hF3⟩ := bind_some' hF2
 refine s_pure [] (m_spec_l6Text_ok fuel _ _ hv3) ?_
 refine s_as ?_
 refine k_nil (k_seq (awp_ret (k_fin ?_)))
 cases hF3
 exact ends_a [] [] Tryz.results10
end Go.Abs
