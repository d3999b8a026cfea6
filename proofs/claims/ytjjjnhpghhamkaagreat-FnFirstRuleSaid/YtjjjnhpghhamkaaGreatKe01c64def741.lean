/- A part of the proof: what the functions that the law calls answer, as pure values. -/
import Derived.Test.YtjjjnhpghhamkaaGreatK0781cfe2fccc
import Derived.Test.YtjjjnhpghhamkaaGreatK35a552f26911
import Derived.Test.YtjjjnhpghhamkaaGreatK7db75e138112
import Derived.Test.YtjjjnhpghhamkaaGreatKc011f3581fd7
import Derived.Test.YtjjjnhpghhamkaaGreatKff06b70fb889
set_option linter.unusedSimpArgs false
set_option linter.unusedVariables false
set_option maxRecDepth 100000
set_option maxHeartbeats 4000000
namespace Go.Abs
open Go.Proofs
def m_spec_l4List_AC (fuel : Nat) : Prop := ∀ (x1 : (List Bind)) (x2 : (List Form)) (x3 : (List Form)) (x4 : (List Form)) (r : ((List Hit) × Bool)), m_spec_l4List fuel x1 x2 x3 x4 = some r → AC Tryz.prog 137 [.t (.sl (x1.map Bind.row)), .t (.sl (x2.map Form.row)), .t (.sl (x3.map Form.row)), .t (.sl (x4.map Form.row))] noOb (.tp [.t (.sl (r.1.map Hit.row)), .t (.sc (.bool r.2))]) noOb
def m_spec_l4Match_AC (fuel : Nat) : Prop := ∀ (x1 : (List Bind)) (x2 : Form) (x3 : (List Form)) (x4 : Form) (r : ((List Hit) × Bool)), m_spec_l4Match fuel x1 x2 x3 x4 = some r → AC Tryz.prog 65 [.t (.sl (x1.map Bind.row)), .ag [.t (.sc (.int .i64 x2.kind)), .t (.sc (.str x2.name)), .t (.sc (.int .i64 x2.n)), .t (.sl (x2.scopes.map rI)), .t (.sl (x2.kids.map Form.row))], .t (.sl (x3.map Form.row)), .ag [.t (.sc (.int .i64 x4.kind)), .t (.sc (.str x4.name)), .t (.sc (.int .i64 x4.n)), .t (.sl (x4.scopes.map rI)), .t (.sl (x4.kids.map Form.row))]] noOb (.tp [.t (.sl (r.1.map Hit.row)), .t (.sc (.bool r.2))]) noOb
theorem m_spec_l4List_st (fu : Nat) (ih_m_spec_l4List : ∀ k, k ≤ fu → m_spec_l4List_AC k) (ih_m_spec_l4Match : ∀ k, k ≤ fu → m_spec_l4Match_AC k) : m_spec_l4List_AC (fu + 1) := by
 intro x1 x2 x3 x4 r hF0
 rw [m_spec_l4List] at hF0
 refine AC_i [.t (.sl (r.1.map Hit.row)), .t (.sc (.bool r.2))] Tryz.func137 rfl Tryz.ntmps137 ?_
 intro C hC
 refine awp_seq (awp_region ?_)
 refine s_as ?_
 refine s_as ?_
 refine k_nil (k_seq (awp_seq (awp_region ?_)))
 refine s_bs Hit.row ([] : List Hit) yP30 yR40 ?_
 refine s_as ?_
 refine k_nil (k_seq (awp_seq (awp_region ?_)))
 refine s_as ?_
 refine k_nil (k_seq ?_)
 refine awp_jn (α := Nat × Int) [11, 12, 22, 23, 24, 25, 26, 27, 28, 29, 30, 31, 32, 33, 34, 35] [] [] (fun a => [(11, .t (.sc (.int .i64 a.2)))]) (fun a => []) (fun a => a.1 ≤ fu ∧ m_spec_l4List_j1 a.1 x1 x2 x3 x4 a.2 = some r) ?_ ?_
 refine awp_seq (awp_region ?_)
 refine s_as ?_
 refine k_nil (k_seq (awp_block ?_))
 refine awp_fr (β := Int × Int) [11, 12, 22, 23, 24, 25, 26, 27, 28, 29, 30, 31, 32, 33, 34, 35] [] [] (fun a => [(11, .t (.sc (.int .i64 a.2.1))), (12, .t (.sc (.int .i64 a.2.2)))]) (fun a => []) (fun a => a.1 ≤ fu ∧ m_spec_l4List_l2 a.1 x1 x2 x3 x4 a.2.1 a.2.2 = some r) (fu, (-1), 0) ⟨Nat.le_refl _, hF0⟩ ?_
 clear hF0
 rintro ⟨fu, g1, g2⟩ ⟨hl3, hF1⟩
 dsimp only at hl3 hF1 ⊢
 obtain _ | fu := fu
 · rw [m_spec_l4List_l2] at hF1; cases hF1
 rw [m_spec_l4List_l2] at hF1
 refine awp_seq (awp_seq (awp_region ?_))
 refine s_mv ?_
 refine s_add rfl ?_
 refine s_mv ?_
 refine s_lenT yU25 ?_
 refine s_lt ?_
 refine k_nil (k_seq ?_)
 refine w_cond hF1 ?_ ?_ <;> intro hc4 hF2
 refine awp_skip (k_seq (awp_seq (awp_block (awp_seq (awp_region ?_)))))
 refine s_mv ?_
 refine s_mv ?_
 refine s_add rfl ?_
 obtain ⟨v5, hv5, hF3⟩ := bind_some' hF2
 refine s_ixT Form.row hv5 (Form.row_eq _) yE25 ?_
 refine s_ldN yA27 yS27 ?_
 obtain ⟨v6, hv6, hF4⟩ := bind_some' hF3
 refine s_pure [] (m_spec_l4Dots_ok fu _ _ hv6) ?_
 refine k_nil (k_seq ?_)
 refine w_cond hF4 ?_ ?_ <;> intro hc7 hF5
 refine awp_region ?_
 refine s_mv ?_
 refine s_as ?_
 refine k_nil (k_blk (k_seq (awp_region ?_)))
 refine s_mv ?_
 refine s_add rfl ?_
 refine s_as ?_
 refine k_nil ?_
 exact s_rn (fu, g2, (w64 (g2 + 1))) ⟨by first | omega | (dsimp only; omega), hF5⟩
 refine awp_skip (k_blk (k_seq (awp_region ?_)))
 refine s_mv ?_
 refine s_add rfl ?_
 refine s_as ?_
 refine k_nil ?_
 exact s_rn (fu, g1, (w64 (g2 + 1))) ⟨by first | omega | (dsimp only; omega), hF5⟩
 refine awp_exit (k_seq_exit (k_rnd_exit2 (k_blk_exit ?_)))
 exact s_jn (fu, g1) ⟨by first | omega | (dsimp only; omega), hF2⟩
 clear hF0
 rintro ⟨fu, g8⟩ ⟨hl9, hF1⟩
 dsimp only at hl9 hF1 ⊢
 obtain _ | fu := fu
 · rw [m_spec_l4List_j1] at hF1; cases hF1
 rw [m_spec_l4List_j1] at hF1
 refine awp_jn (α := Nat) [8, 9, 36, 37, 38, 39, 40, 41, 42, 43, 44, 45, 46, 47, 48, 49, 50, 51, 52, 53, 54, 55, 56, 57] [] [] (fun a => []) (fun a => []) (fun a => a ≤ fu ∧ m_spec_l4List_j3 a x1 x2 x3 x4 g8  = some r) ?_ ?_
 refine awp_seq (awp_region ?_)
 refine s_mv ?_
 refine s_lt ?_
 refine s_mv ?_
 refine w_guard _ 38 hF1 ?_ ?_ <;> intro hc10 hF2
 refine s_mv ?_
 refine s_lenT yU25 ?_
 refine s_mv ?_
 refine s_lenT yU25 ?_
 refine s_ne ?_
 refine s_pkt ?_
 refine s_mv ?_
 refine w_guard _ 45 hF2 ?_ ?_ <;> intro hc11 hF3
 iterate 10 refine r_no rfl ?_
 refine s_pkt ?_
 refine k_nil (k_seq (awp_true rfl (awp_seq (awp_region ?_))))
 refine s_mv ?_
 refine s_as ?_
 refine s_as ?_
 refine k_nil (k_seq (awp_ret (k_jn_ret (k_fin ?_))))
 cases hF3
 exact ends_a [] [21] Tryz.results137
 refine s_mv ?_
 refine s_ge ?_
 refine s_mv ?_
 refine w_guard _ 48 hF3 ?_ ?_ <;> intro hc12 hF4
 refine s_mv ?_
 refine s_lenT yU25 ?_
 refine s_mv ?_
 refine s_lenT yU25 ?_
 refine s_sub rfl ?_
 refine s_lt ?_
 refine s_pkt ?_
 refine s_pkf ?_
 refine k_nil (k_seq ?_)
 refine w_cond hF4 ?_ ?_ <;> intro hc13 hF5
 refine awp_seq (awp_region ?_)
 refine s_mv ?_
 refine s_as ?_
 refine s_as ?_
 refine k_nil (k_seq (awp_ret (k_jn_ret (k_fin ?_))))
 cases hF5
 exact ends_a [] [21] Tryz.results137
 refine awp_skip ?_
 exact s_jn (fu) ⟨by first | omega | (dsimp only; omega), hF5⟩
 iterate 6 refine r_no rfl ?_
 refine s_pkf ?_
 refine s_pkf ?_
 refine k_nil (k_seq (awp_false rfl (awp_skip ?_)))
 exact s_jn (fu) ⟨by first | omega | (dsimp only; omega), hF4⟩
 iterate 5 refine r_no rfl ?_
 refine s_pkf ?_
 refine s_mv ?_
 refine s_mv ?_
 refine s_ge ?_
 refine s_mv ?_
 refine w_guard _ 48 hF2 ?_ ?_ <;> intro hc14 hF3
 refine s_mv ?_
 refine s_lenT yU25 ?_
 refine s_mv ?_
 refine s_lenT yU25 ?_
 refine s_sub rfl ?_
 refine s_lt ?_
 refine s_pkt ?_
 refine s_pkf ?_
 refine k_nil (k_seq ?_)
 refine w_cond hF3 ?_ ?_ <;> intro hc15 hF4
 refine awp_seq (awp_region ?_)
 refine s_mv ?_
 refine s_as ?_
 refine s_as ?_
 refine k_nil (k_seq (awp_ret (k_jn_ret (k_fin ?_))))
 cases hF4
 exact ends_a [] [21] Tryz.results137
 refine awp_skip ?_
 exact s_jn (fu) ⟨by first | omega | (dsimp only; omega), hF4⟩
 iterate 6 refine r_no rfl ?_
 refine s_pkf ?_
 refine s_pkf ?_
 refine k_nil (k_seq (awp_false rfl (awp_skip ?_)))
 exact s_jn (fu) ⟨by first | omega | (dsimp only; omega), hF3⟩
 clear hF1
 rintro fu ⟨hl16, hF2⟩
 obtain _ | fu := fu
 · rw [m_spec_l4List_j3] at hF2; cases hF2
 rw [m_spec_l4List_j3] at hF2
 refine awp_seq (awp_region ?_)
 refine s_as ?_
 refine k_nil (k_seq (awp_seq (awp_seq (awp_region ?_))))
 refine s_as ?_
 refine k_nil (k_seq (awp_block ?_))
 refine awp_mv 10 21 5080 (by conv => lhs; whnf) (by conv => lhs; whnf) rfl ?_
 refine awp_frame2 [8, 9, 10, 13, 14, 15, 16, 17, 18, 19, 20, 58, 59, 60, 61, 62, 63, 64, 65, 66, 67, 68, 69, 70, 71, 72, 73, 74, 75, 76, 77, 78, 79, 80, 81, 82, 83, 84, 85, 86, 87, 88, 89, 90, 91, 92, 93, 94, 95, 96, 97, 98, 99, 100, 101, 102, 103, 104, 105, 106, 107, 108, 109, 110, 111, 112, 113, 114, 115, 116, 117, 118, 119, 120, 121, 122, 123, 124, 125, 126, 127, 128, 129, 130, 131, 132, 133, 134, 135, 136] [5080] [91, 94, 136, 5120] [5080] (fun a : Nat × Int × (List Hit) × Int => a.1) (fun a : Nat × Int × (List Hit) × Int => [(10, .ar 5080), (13, .t (.sc (.int .i64 a.2.2.2))), (14, .t (.sc (.int .i64 a.2.1)))]) (fun a : Nat × Int × (List Hit) × Int => [(5080, .arr (a.2.2.1.map Hit.row) 40 true)]) (fun a : Nat × Int × (List Hit) × Int => a.1 ≤ fu ∧ m_spec_l4List_l4 a.1 x1 x2 x3 x4 g8 a.2.1 a.2.2.1 a.2.2.2 = some r ∧ 0 ≤ a.2.1) (fu, 0, ([] : List Hit), 0) ⟨Nat.le_refl _, hF2, by simp⟩ (by rfl) (by rfl) (fun _ => rfl) (hasF_cons (by conv => lhs; whnf) (by rfl) (hasF_cons (by conv => lhs; whnf) (by rfl) (hasF_cons (by conv => lhs; whnf) (by rfl) hasF_nil))) (hasO_cons (by conv => lhs; whnf) (by rfl) hasO_nil) (fresh_C hC rfl) (by repeat (first | exact freshS_args rfl | refine freshS_upd rfl ?_ | refine freshS_frame rfl ?_)) (by repeat (first | exact freshM_no | exact objs_fresh rfl | refine freshM_upd rfl ?_ | refine freshM_frame rfl ?_)) ?_
 clear hF2
 rintro ⟨fu, g17, g18, g19⟩ ⟨hl20, hF3, hn_g17⟩
 dsimp only at hl20 hF3 hn_g17 ⊢
 obtain _ | fu := fu
 · rw [m_spec_l4List_l4] at hF3; cases hF3
 rw [m_spec_l4List_l4] at hF3
 refine awp_seq (awp_seq (awp_region ?_))
 refine s_mv ?_
 refine s_mv ?_
 refine s_lenT yU25 ?_
 refine s_lt ?_
 refine k_nil (k_seq ?_)
 refine w_cond hF3 ?_ ?_ <;> intro hc21 hF4
 refine awp_lenT 1 (fun hb22 => ?_)
 refine awp_skip (k_seq (awp_seq (awp_block (awp_seq (awp_seq (awp_region ?_))))))
 refine s_mv ?_
 refine s_mv ?_
 obtain ⟨v23, hv23, hF5⟩ := bind_some' hF4
 refine s_ixT Form.row hv23 (Form.row_eq _) yE25 ?_
 refine s_ldN yA27 yS27 ?_
 obtain ⟨v24, hv24, hF6⟩ := bind_some' hF5
 refine s_pure [] (m_spec_l4Dots_ok fu _ _ hv24) ?_
 refine k_nil (k_seq ?_)
 refine w_cond hF6 ?_ ?_ <;> intro hc25 hF7
 refine awp_exit (k_seq_exit (k_blk_exit (k_seq (awp_region ?_))))
 refine s_mv ?_
 refine s_add (winc2 hc21 hb22 hn_g17) ?_
 refine s_as ?_
 refine k_nil ?_
 exact s_rn (fu, (g17 + 1), g18, g19) ⟨by first | omega | (dsimp only; omega), hF7, by first | omega | (dsimp only; omega)⟩
 refine awp_skip (k_seq (awp_seq (awp_seq (awp_region ?_))))
 refine s_mv ?_
 refine s_mv ?_
 refine s_ne ?_
 refine k_nil (k_seq ?_)
 refine w_cond hF7 ?_ ?_ <;> intro hc26 hF8
 refine awp_seq ?_
 refine awp_draw yMix (by kernel_rfl) ?_
 iterate 3 refine s_mv ?_
 obtain ⟨v27, hv27, hF9⟩ := bind_some' hF8
 refine s_ixT Form.row hv27 (Form.row_eq _) yE25 ?_
 refine s_ldN yA27 yS27 ?_
 iterate 3 refine s_mv ?_
 obtain ⟨v28, hv28, hF10⟩ := bind_some' hF9
 refine s_ixT Form.row hv28 (Form.row_eq _) yE25 ?_
 refine s_ldN yA27 yS27 ?_
 obtain ⟨v29, hv29, hF11⟩ := bind_some' hF10
 refine s_pure [] (ih_m_spec_l4Match fu (by omega) _ _ _ _ _ hv29) ?_
 refine s_mv ?_
 refine s_ext ?_
 refine s_ext ?_
 refine s_as ?_
 refine s_as ?_
 refine k_nilD (by kernel_rfl) ?_
 refine k_seq (awp_seq (awp_seq (awp_region ?_)))
 refine s_mv ?_
 refine s_not ?_
 refine k_nil (k_seq ?_)
 refine w_cond hF11 ?_ ?_ <;> intro hc30 hF12
 refine awp_seq (awp_region ?_)
 refine s_mv ?_
 refine s_as ?_
 refine s_as ?_
 refine k_nil (k_seq (awp_ret (k_seq_ret (k_seq_ret (k_blk_ret (k_seq_ret (k_rnd_ret2 (k_blk_ret (k_seq_ret (k_fin ?_))))))))))
 cases hF12
 exact ends_a [] [5080] Tryz.results137
 refine awp_skip (k_seq (awp_seq (awp_region ?_)))
 refine s_mv ?_
 refine s_mv ?_
 obtain ⟨hk31, hF13⟩ := chk_some hF12
 refine s_apT Hit.row (fun y => Hit.row_len y) hk31 yP30 ?_
 refine s_as ?_
 refine k_nil (k_seq (awp_seq (awp_region ?_)))
 refine s_mv ?_
 refine s_add rfl ?_
 refine s_as ?_
 refine k_nil (k_seq (awp_exit (k_seq_exit (k_blk_exit (k_seq (awp_region ?_))))))
 refine s_mv ?_
 refine s_add (winc2 hc21 hb22 hn_g17) ?_
 refine s_as ?_
 refine k_nil ?_
 exact s_rn (fu, (g17 + 1), (g18 ++ v29.1), (w64 (g19 + 1))) ⟨by first | omega | (dsimp only; omega), hF13, by first | omega | (dsimp only; omega)⟩ [(5080, 91)]
 refine awp_skip (k_seq (awp_seq (awp_region ?_)))
 refine s_bs (rL Hit.row) ([] : List (List Hit)) yP182 yR30 ?_
 refine s_as ?_
 refine k_nil (k_seq ?_)
 refine awp_jn (α := Nat × Int × (List (List Hit))) [8, 9, 13, 17, 18, 19, 20, 95, 96, 97, 98, 99, 100, 101, 102, 103, 104, 105, 106, 107, 108, 109, 110, 111, 112, 113, 114, 115, 116, 117, 118, 119, 120, 121, 122, 123, 124, 125, 126, 127] [94, 5120] [] (fun a => [(13, .t (.sc (.int .i64 a.2.1))), (17, .ar 5120)]) (fun a => [(94, .dead), (5120, .arr (a.2.2.map (rL Hit.row)) 30 true)]) (fun a => a.1 ≤ fu ∧ m_spec_l4List_j5 a.1 x1 x2 x3 x4 g8 g17 g18 a.2.1 a.2.2 = some r) ?_ ?_
 refine awp_seq (awp_region ?_)
 refine s_mv ?_
 refine s_lenT yU25 ?_
 refine s_mv ?_
 refine s_lenT yU25 ?_
 refine s_sub rfl ?_
 refine s_sub rfl ?_
 refine s_as ?_
 refine k_nil (k_seq (awp_block ?_))
 refine awp_mv 17 94 5120 (by conv => lhs; whnf) (by conv => lhs; whnf) rfl ?_
 refine awp_frame2 [8, 9, 13, 17, 18, 19, 20, 101, 102, 103, 104, 105, 106, 107, 108, 109, 110, 111, 112, 113, 114, 115, 116, 117, 118, 119, 120, 121, 122, 123, 124, 125, 126, 127] [5120] [124, 125] [5120] (fun a : Nat × Int × (List (List Hit)) × Int => a.1) (fun a : Nat × Int × (List (List Hit)) × Int => [(13, .t (.sc (.int .i64 a.2.1))), (17, .ar 5120), (18, .t (.sc (.int .i64 a.2.2.2)))]) (fun a : Nat × Int × (List (List Hit)) × Int => [(5120, .arr (a.2.2.1.map (rL Hit.row)) 30 true)]) (fun a : Nat × Int × (List (List Hit)) × Int => a.1 ≤ fu ∧ m_spec_l4List_l6 a.1 x1 x2 x3 x4 g8 g17 g18 a.2.1 a.2.2.1 a.2.2.2 = some r) (fu, g19, ([] : List (List Hit)), (w64 ((x4.length : Int) - (w64 ((x2.length : Int) - 2))))) ⟨Nat.le_refl _, hF8⟩ (by rfl) (by rfl) (fun _ => rfl) (hasF_cons (by conv => lhs; whnf) (by rfl) (hasF_cons (by conv => lhs; whnf) (by rfl) (hasF_cons (by conv => lhs; whnf) (by rfl) hasF_nil))) (hasO_cons (by conv => lhs; whnf) (by rfl) hasO_nil) (fresh_C hC rfl) (by repeat (first | exact freshS_args rfl | refine freshS_upd rfl ?_ | refine freshS_frame rfl ?_)) (by repeat (first | exact freshM_no | exact objs_fresh rfl | refine freshM_upd rfl ?_ | refine freshM_frame rfl ?_)) ?_
 clear hF8
 rintro ⟨fu, g32, g33, g34⟩ ⟨hl35, hF9⟩
 dsimp only at hl35 hF9 ⊢
 obtain _ | fu := fu
 · rw [m_spec_l4List_l6] at hF9; cases hF9
 rw [m_spec_l4List_l6] at hF9
 refine awp_seq (awp_seq (awp_region ?_))
 refine s_mv ?_
 refine s_gt ?_
 refine k_nil (k_seq ?_)
 refine w_cond hF9 ?_ ?_ <;> intro hc36 hF10
 refine awp_skip (k_seq (awp_seq (awp_block (awp_seq ?_))))
 refine awp_draw yMix (by kernel_rfl) ?_
 iterate 3 refine s_mv ?_
 obtain ⟨v37, hv37, hF11⟩ := bind_some' hF10
 refine s_ixT Form.row hv37 (Form.row_eq _) yE25 ?_
 refine s_ldN yA27 yS27 ?_
 iterate 3 refine s_mv ?_
 obtain ⟨v38, hv38, hF12⟩ := bind_some' hF11
 refine s_ixT Form.row hv38 (Form.row_eq _) yE25 ?_
 refine s_ldN yA27 yS27 ?_
 obtain ⟨v39, hv39, hF13⟩ := bind_some' hF12
 refine s_pure [] (ih_m_spec_l4Match fu (by omega) _ _ _ _ _ hv39) ?_
 refine s_mv ?_
 refine s_ext ?_
 refine s_ext ?_
 refine s_as ?_
 refine s_as ?_
 refine k_nilD (by kernel_rfl) ?_
 refine k_seq (awp_seq (awp_seq (awp_region ?_)))
 refine s_mv ?_
 refine s_not ?_
 refine k_nil (k_seq ?_)
 refine w_cond hF13 ?_ ?_ <;> intro hc40 hF14
 refine awp_seq (awp_region ?_)
 refine s_mv ?_
 refine s_as ?_
 refine s_as ?_
 refine k_nil (k_seq (awp_ret (k_seq_ret (k_blk_ret (k_seq_ret (k_rnd_ret2 (k_blk_ret (k_jn_ret (k_blk_ret (k_seq_ret (k_rnd_ret2 (k_blk_ret (k_seq_ret (k_fin ?_))))))))))))))
 cases hF14
 exact ends_a [] [5080] Tryz.results137
 refine awp_skip (k_seq (awp_seq (awp_region ?_)))
 refine s_mv ?_
 refine s_mv ?_
 refine s_bs (rL Hit.row) [v39.1] yP182 yR30 ?_
 obtain ⟨hk41, hF15⟩ := chk_some hF14
 refine s_apT (rL Hit.row) (fun _ => rfl) hk41 yP182 ?_
 refine s_as ?_
 refine k_nil (k_seq (awp_region ?_))
 refine s_mv ?_
 refine s_add rfl ?_
 refine s_as ?_
 refine k_nil (k_blk (k_seq (awp_region ?_)))
 refine s_mv ?_
 refine s_sub rfl ?_
 refine s_as ?_
 refine k_nil ?_
 exact s_rn (fu, (w64 (g32 + 1)), (g33 ++ [v39.1]), (w64 (g34 - 1))) ⟨by first | omega | (dsimp only; omega), hF15⟩ [(5120, 125)]
 refine awp_exit (k_seq_exit (k_rnd_exit2 (k_blk_exit ?_)))
 exact s_jn (fu, g32, g33) ⟨by first | omega | (dsimp only; omega), hF10⟩
 clear hF8
 rintro ⟨fu, g42, g43⟩ ⟨hl44, hF9⟩
 dsimp only at hl44 hF9 ⊢
 obtain _ | fu := fu
 · rw [m_spec_l4List_j5] at hF9; cases hF9
 rw [m_spec_l4List_j5] at hF9
 refine awp_region ?_
 iterate 3 refine s_mv ?_
 obtain ⟨v45, hv45, hF10⟩ := bind_some' hF9
 refine s_ixT Form.row hv45 (Form.row_eq _) yE25 ?_
 refine s_ldN yA27 yS27 ?_
 refine s_mv ?_
 refine s_mv ?_
 obtain ⟨v46, hv46, hF11⟩ := bind_some' hF10
 refine s_pure [5120] (m_spec_l4Row_ok fu _ _ _ _ hv46) ?_
 obtain ⟨hk47, hF12⟩ := chk_some hF11
 refine s_apT Hit.row (fun y => Hit.row_len y) hk47 yP30 ?_
 refine s_as ?_
 refine k_nil (k_blk (k_seq (awp_region ?_)))
 refine s_mv ?_
 refine s_add (winc2 hc21 hb22 hn_g17) ?_
 refine s_as ?_
 refine k_nil ?_
 exact s_rn (fu, (g17 + 1), (g18 ++ v46), g42) ⟨by first | omega | (dsimp only; omega), hF12, by first | omega | (dsimp only; omega)⟩ [(5080, 136)]
 refine awp_exit (k_seq_exit (k_rnd_exit2 (k_blk_exit (k_seq (awp_seq (awp_region ?_))))))
 refine s_mv ?_
 refine s_as ?_
 refine s_as ?_
 refine k_nil (k_seq (awp_ret (k_fin ?_)))
 cases hF4
 exact ends_a [] [5080] Tryz.results137
theorem m_spec_l4Match_st (fu : Nat) (ih_m_spec_l4List : ∀ k, k ≤ fu → m_spec_l4List_AC k) (ih_m_spec_l4Match : ∀ k, k ≤ fu → m_spec_l4Match_AC k) : m_spec_l4Match_AC (fu + 1) := by
 intro x1 x2 x3 x4 r hF0
 rw [m_spec_l4Match] at hF0
 refine AC_i [.t (.sl (r.1.map Hit.row)), .t (.sc (.bool r.2))] Tryz.func65 rfl Tryz.ntmps65 ?_
 intro C hC
 refine awp_seq (awp_region ?_)
 refine s_box ?_
 refine s_box ?_
 refine s_as ?_
 refine s_as ?_
 refine k_nil (k_seq (awp_seq (awp_region ?_)))
 refine s_bs Hit.row ([] : List Hit) yP30 yR40 ?_
 refine s_as ?_
 refine k_nil (k_seq (awp_seq (awp_seq (awp_region ?_))))
 refine s_fa yF27_0 ?_
 refine s_ld1 yA3 ?_
 refine s_eq ?_
 refine k_nil (k_seq ?_)
 refine w_cond hF0 ?_ ?_ <;> intro hc1 hF1
 refine awp_seq (awp_seq (awp_region ?_))
 refine s_fa yF27_1 ?_
 refine s_ld1 yA9 ?_
 refine s_eqS ?_
 refine k_nil (k_seq ?_)
 refine w_cond hF1 ?_ ?_ <;> intro hc2 hF2
 refine awp_seq (awp_region ?_)
 refine s_mv ?_
 refine s_as ?_
 refine s_as ?_
 refine k_nil (k_seq (awp_ret (k_seq_ret (k_seq_ret (k_fin ?_)))))
 cases hF2
 exact ends_a [] [11] Tryz.results65
 refine awp_skip (k_seq (awp_seq (awp_seq (awp_region ?_))))
 refine s_mv ?_
 refine s_ldW yA27 yS27 ?_
 obtain ⟨v3, hv3, hF3⟩ := bind_some' hF2
 refine s_pure [] (m_spec_l4In_ok fu _ _ _ hv3) ?_
 refine k_nil (k_seq ?_)
 refine w_cond hF3 ?_ ?_ <;> intro hc4 hF4
 refine awp_jn (α := Nat × Bool) [8, 9, 22, 23, 24, 25, 26, 27, 28, 29, 30, 31] [] [] (fun a => [(8, .ar 11), (9, .t (.sc (.bool a.2)))]) (fun a => []) (fun a => a.1 ≤ fu ∧ m_spec_l4Match_j1 a.1  a.2 = some r) ?_ ?_
 refine awp_region ?_
 refine s_mv ?_
 refine s_fa yF27_0 ?_
 refine s_ld1 yA3 ?_
 refine s_eq ?_
 refine s_mv ?_
 refine w_guard _ 26 hF4 ?_ ?_ <;> intro hc5 hF5
 refine s_mv ?_
 refine s_ldW yA27 yS27 ?_
 refine s_ldW yA27 yS27 ?_
 obtain ⟨v6, hv6, hF6⟩ := bind_some' hF5
 refine s_pure [] (m_spec_l3Same_ok fu _ _ _ _ hv6) ?_
 refine s_pkt ?_
 refine s_as ?_
 refine s_as ?_
 refine k_nil ?_
 exact s_jn (fu, v6) ⟨by first | omega | (dsimp only; omega), hF6⟩
 iterate 4 refine r_no rfl ?_
 refine s_pkf ?_
 refine s_as ?_
 refine s_as ?_
 refine k_nil ?_
 exact s_jn (fu, false) ⟨by first | omega | (dsimp only; omega), hF5⟩
 clear hF4
 rintro ⟨fu, g7⟩ ⟨hl8, hF5⟩
 dsimp only at hl8 hF5 ⊢
 obtain _ | fu := fu
 · rw [m_spec_l4Match_j1] at hF5; cases hF5
 rw [m_spec_l4Match_j1] at hF5
 refine awp_ret (k_seq_ret (k_seq_ret (k_fin ?_)))
 cases hF5
 exact ends_a [] [11] Tryz.results65
 refine awp_skip (k_seq (awp_seq (awp_region ?_)))
 refine s_mv ?_
 refine s_ldW yA27 yS27 ?_
 refine s_ldW yA27 yS27 ?_
 refine s_bld yZ40 yL40 ?_
 refine s_bs Hit.row [(Hit.mk x2 0 x4 ([] : List Hit))] yP30 yR40 ?_
 obtain ⟨hk9, hF5⟩ := chk_some hF4
 refine s_apT Hit.row (fun y => Hit.row_len y) hk9 yP30 ?_
 refine s_as ?_
 refine s_as ?_
 refine k_nil (k_seq (awp_ret (k_seq_ret (k_fin ?_))))
 cases hF5
 exact ends_a [] [37] Tryz.results65
 refine awp_skip (k_seq (awp_seq (awp_seq (awp_region ?_))))
 refine s_fa yF27_0 ?_
 refine s_ld1 yA3 ?_
 refine s_eq ?_
 refine k_nil (k_seq ?_)
 refine w_cond hF1 ?_ ?_ <;> intro hc10 hF2
 refine awp_seq (awp_region ?_)
 refine s_mv ?_
 refine s_ldW yA27 yS27 ?_
 refine s_ldW yA27 yS27 ?_
 obtain ⟨v11, hv11, hF3⟩ := bind_some' hF2
 refine s_pure [] (m_spec_FormSame_ok fu _ _ _ hv11) ?_
 refine s_as ?_
 refine s_as ?_
 refine k_nil (k_seq (awp_ret (k_seq_ret (k_fin ?_))))
 cases hF3
 exact ends_a [] [11] Tryz.results65
 refine awp_skip (k_seq (awp_seq (awp_seq (awp_region ?_))))
 refine s_fa yF27_0 ?_
 refine s_ld1 yA3 ?_
 refine s_ne ?_
 refine k_nil (k_seq ?_)
 refine w_cond hF2 ?_ ?_ <;> intro hc12 hF3
 refine awp_seq (awp_region ?_)
 refine s_mv ?_
 refine s_as ?_
 refine s_as ?_
 refine k_nil (k_seq (awp_ret (k_seq_ret (k_fin ?_))))
 cases hF3
 exact ends_a [] [11] Tryz.results65
 refine awp_skip (k_seq (awp_seq (awp_region ?_)))
 refine s_mv ?_
 refine s_fa yF27_4 ?_
 refine s_ld1 yA25 ?_
 refine s_mv ?_
 refine s_fa yF27_4 ?_
 refine s_ld1 yA25 ?_
 obtain ⟨v13, hv13, hF4⟩ := bind_some' hF3
 refine s_pure [] (ih_m_spec_l4List fu (by omega) _ _ _ _ _ hv13) ?_
 refine s_ext ?_
 refine s_ext ?_
 refine s_as ?_
 refine s_as ?_
 refine k_nil (k_seq (awp_ret (k_fin ?_)))
 cases hF4
 exact ends_a [] [] Tryz.results65
theorem m_spec_l4List_all (fuel : Nat) : m_spec_l4List_AC fuel ∧ m_spec_l4Match_AC fuel := by
 induction fuel using Nat.strongRecOn with
 | _ N ih =>
   cases N with
   | zero => exact ⟨(by intro x1 x2 x3 x4 r h; rw [m_spec_l4List] at h; cases h), (by intro x1 x2 x3 x4 r h; rw [m_spec_l4Match] at h; cases h)⟩
   | succ fu => exact ⟨m_spec_l4List_st fu (fun k hk => (ih k (by omega)).1) (fun k hk => (ih k (by omega)).2), m_spec_l4Match_st fu (fun k hk => (ih k (by omega)).1) (fun k hk => (ih k (by omega)).2)⟩
theorem m_spec_l4Match_ok (fuel : Nat) : m_spec_l4Match_AC fuel := (m_spec_l4List_all fuel).2
def m_spec_l5Shape_AC (fuel : Nat) : Prop := ∀ (x1 : Form) (x2 : (List Form)) (r : (List Hit)), m_spec_l5Shape fuel x1 x2 = some r → AC Tryz.prog 190 [.ag [.t (.sc (.int .i64 x1.kind)), .t (.sc (.str x1.name)), .t (.sc (.int .i64 x1.n)), .t (.sl (x1.scopes.map rI)), .t (.sl (x1.kids.map Form.row))], .t (.sl (x2.map Form.row))] noOb (.t (.sl (r.map Hit.row))) noOb
theorem m_spec_l5Shape_ok (fuel : Nat) : m_spec_l5Shape_AC fuel := by
 intro x1 x2 r hF0
 unfold m_spec_l5Shape at hF0
 refine AC_i [.t (.sl (r.map Hit.row))] Tryz.func190 rfl Tryz.ntmps190 ?_
 intro C hC
 refine awp_seq (awp_region ?_)
 refine s_box ?_
 refine s_as ?_
 refine k_nil (k_seq (awp_seq (awp_region ?_)))
 refine s_bs Hit.row ([] : List Hit) yP30 yR40 ?_
 refine s_as ?_
 refine k_nil (k_seq (awp_seq (awp_region ?_)))
 refine s_bs Form.row ([] : List Form) yP25 yR27 ?_
 refine s_ldW yA27 yS27 ?_
 refine s_mv ?_
 obtain ⟨v1, hv1, hF1⟩ := bind_some' hF0
 refine s_call [(9300, 11), (9200, 12014)] [] _ _ (m_spec_l4Vars_ok fuel _ _ _ _ hv1) ?_
 refine s_as ?_
 refine k_nil (k_seq (awp_seq (awp_region ?_)))
 refine s_bs rI ([] : List Int) yP24 yR3 ?_
 refine s_ldW yA27 yS27 ?_
 refine s_mv ?_
 obtain ⟨v2, hv2, hF2⟩ := bind_some' hF1
 refine s_call [(9300, 15), (9200, 12018)] [] _ _ (m_spec_l4Depths_ok fuel _ _ _ _ _ hv2) ?_
 refine s_as ?_
 refine k_nil (k_seq (awp_seq (awp_seq (awp_region ?_))))
 refine s_as ?_
 refine k_nil (k_seq (awp_block ?_))
 refine awp_mv 5 10 5020 (by conv => lhs; whnf) (by conv => lhs; whnf) rfl ?_
 refine awp_frame2 [5, 8, 9, 19, 20, 21, 22, 23, 24, 25, 26, 27, 28, 29, 30, 31, 32, 33, 34, 35, 36, 37, 38, 39, 40, 41, 42, 43, 44, 45] [5020] [9, 44, 45] [5020] (fun a : Nat × (List Hit) × Int => a.1) (fun a : Nat × (List Hit) × Int => [(5, .ar 5020), (8, .t (.sc (.int .i64 a.2.2)))]) (fun a : Nat × (List Hit) × Int => [(5020, .arr (a.2.1.map Hit.row) 40 true)]) (fun a : Nat × (List Hit) × Int => a.1 ≤ fuel ∧ m_spec_l5Shape_l1 a.1 v1 v2 a.2.1 a.2.2 = some r ∧ 0 ≤ a.2.2) (fuel, ([] : List Hit), 0) ⟨Nat.le_refl _, hF2, by simp⟩ (by rfl) (by rfl) (fun _ => rfl) (hasF_cons (by conv => lhs; whnf) (by rfl) (hasF_cons (by conv => lhs; whnf) (by rfl) hasF_nil)) (hasO_cons (by conv => lhs; whnf) (by rfl) hasO_nil) (fresh_C hC rfl) (by repeat (first | exact freshS_args rfl | refine freshS_upd rfl ?_ | refine freshS_frame rfl ?_)) (by repeat (first | exact freshM_no | exact objs_fresh rfl | refine freshM_upd rfl ?_ | refine freshM_frame rfl ?_)) ?_
 clear hF2
 rintro ⟨fu, g3, g4⟩ ⟨hl5, hF3, hn_g4⟩
 dsimp only at hl5 hF3 hn_g4 ⊢
 obtain _ | fu := fu
 · rw [m_spec_l5Shape_l1] at hF3; cases hF3
 rw [m_spec_l5Shape_l1] at hF3
 refine awp_seq (awp_seq (awp_region ?_))
 refine s_mv ?_
 refine s_mv ?_
 refine s_lenA yU25 ?_
 refine s_lt ?_
 refine k_nil (k_seq ?_)
 refine w_cond hF3 ?_ ?_ <;> intro hc6 hF4
 refine awp_lenA 6 12014 (fun hb7 => ?_)
 refine awp_skip (k_seq (awp_seq (awp_block (awp_seq ?_))))
 refine awp_draw yMix (by kernel_rfl) ?_
 refine s_mv ?_
 refine s_mv ?_
 obtain ⟨v8, hv8, hF5⟩ := bind_some' hF4
 refine s_ixA Form.row hv8 yE25 ?_
 refine s_lAN Form.row hv8 (Form.row_eq _) yA27 yS27 ?_
 refine s_mv ?_
 refine s_mv ?_
 obtain ⟨v9, hv9, hF6⟩ := bind_some' hF5
 refine s_ixA rI hv9 yE24 ?_
 refine s_lA1 rI hv9 rfl yA3 ?_
 refine s_bld yZ40 yL40 ?_
 refine s_alloc yZ40 ?_
 refine s_stW yS40 ?_
 refine k_nilD (by kernel_rfl) ?_
 refine k_seq (awp_seq (awp_seq (awp_region ?_)))
 refine s_fa yF40_1 ?_
 refine s_ld1 yA3 ?_
 refine s_eq ?_
 refine k_nil (k_seq ?_)
 refine w_cond hF6 ?_ ?_ <;> intro hc10 hF7
 refine awp_region ?_
 refine s_mv ?_
 refine s_mv ?_
 obtain ⟨v11, hv11, hF8⟩ := bind_some' hF7
 refine s_ixA Form.row hv11 yE25 ?_
 refine s_lAN Form.row hv11 (Form.row_eq _) yA27 yS27 ?_
 refine s_fa yF40_2 ?_
 refine s_stP yS27 ?_
 refine k_nil (k_seq (awp_region ?_))
 refine s_mv ?_
 refine s_ldW yA40 yS40 ?_
 refine s_bs Hit.row [(Hit.mk v8 v9 v11 ([] : List Hit))] yP30 yR40 ?_
 obtain ⟨hk12, hF9⟩ := chk_some hF8
 refine s_apT Hit.row (fun y => Hit.row_len y) hk12 yP30 ?_
 refine s_as ?_
 refine k_nil (k_blk (k_seq (awp_region ?_)))
 refine s_mv ?_
 refine s_add (winc2 hc6 hb7 hn_g4) ?_
 refine s_as ?_
 refine k_nil ?_
 exact s_rn (fu, (g3 ++ [(Hit.mk v8 v9 v11 ([] : List Hit))]), (g4 + 1)) ⟨by first | omega | (dsimp only; omega), hF9, by first | omega | (dsimp only; omega)⟩ [(5020, 45)]
 refine awp_skip (k_seq (awp_region ?_))
 refine s_mv ?_
 refine s_ldW yA40 yS40 ?_
 refine s_bs Hit.row [(Hit.mk v8 v9 (Form.mk 0 (⟨#[]⟩ : ByteArray) 0 ([] : List Int) ([] : List Form)) ([] : List Hit))] yP30 yR40 ?_
 obtain ⟨hk13, hF8⟩ := chk_some hF7
 refine s_apT Hit.row (fun y => Hit.row_len y) hk13 yP30 ?_
 refine s_as ?_
 refine k_nil (k_blk (k_seq (awp_region ?_)))
 refine s_mv ?_
 refine s_add (winc2 hc6 hb7 hn_g4) ?_
 refine s_as ?_
 refine k_nil ?_
 exact s_rn (fu, (g3 ++ [(Hit.mk v8 v9 (Form.mk 0 (⟨#[]⟩ : ByteArray) 0 ([] : List Int) ([] : List Form)) ([] : List Hit))]), (g4 + 1)) ⟨by first | omega | (dsimp only; omega), hF8, by first | omega | (dsimp only; omega)⟩ [(5020, 45)]
 refine awp_exit (k_seq_exit (k_rnd_exit2 (k_blk_exit (k_seq (awp_seq (awp_region ?_))))))
 refine s_mv ?_
 refine s_as ?_
 refine k_nil (k_seq (awp_ret (k_fin ?_)))
 cases hF4
 exact ends_a [] [5020] Tryz.results190
def m_spec_l4Find_AC (fuel : Nat) : Prop := ∀ (x1 : (List Hit)) (x2 : Form) (r : Int), m_spec_l4Find fuel x1 x2 = some r → AC Tryz.prog 171 [.t (.sl (x1.map Hit.row)), .ag [.t (.sc (.int .i64 x2.kind)), .t (.sc (.str x2.name)), .t (.sc (.int .i64 x2.n)), .t (.sl (x2.scopes.map rI)), .t (.sl (x2.kids.map Form.row))]] noOb (.t (.sc (.int .i64 r))) noOb
theorem m_spec_l4Find_ok (fuel : Nat) : m_spec_l4Find_AC fuel := by
 intro x1 x2 r hF0
 unfold m_spec_l4Find at hF0
 refine AC_i [.t (.sc (.int .i64 r))] Tryz.func171 rfl Tryz.ntmps171 ?_
 intro C hC
 refine awp_seq (awp_region ?_)
 refine s_box ?_
 refine s_as ?_
 refine k_nil (k_seq (awp_seq (awp_seq (awp_region ?_))))
 refine s_as ?_
 refine k_nil (k_seq (awp_block ?_))
 refine awp_fr (β := Int) [4, 5, 6, 7, 8, 9, 10, 11, 12, 13, 14, 15, 16, 17, 18, 19] [] [] (fun a => [(5, .t (.sc (.int .i64 a.2)))]) (fun a => []) (fun a => a.1 ≤ fuel ∧ m_spec_l4Find_l1 a.1 x1 x2 a.2 = some r ∧ 0 ≤ a.2) (fuel, 0) ⟨Nat.le_refl _, hF0, by simp⟩ ?_
 clear hF0
 rintro ⟨fu, g1⟩ ⟨hl2, hF1, hn_g1⟩
 dsimp only at hl2 hF1 hn_g1 ⊢
 obtain _ | fu := fu
 · rw [m_spec_l4Find_l1] at hF1; cases hF1
 rw [m_spec_l4Find_l1] at hF1
 refine awp_seq (awp_seq (awp_region ?_))
 refine s_mv ?_
 refine s_mv ?_
 refine s_lenT yU30 ?_
 refine s_lt ?_
 refine k_nil (k_seq ?_)
 refine w_cond hF1 ?_ ?_ <;> intro hc3 hF2
 refine awp_lenT 0 (fun hb4 => ?_)
 refine awp_skip (k_seq (awp_seq (awp_block (awp_seq ?_))))
 refine awp_draw yMix (by kernel_rfl) ?_
 refine s_mv ?_
 refine s_mv ?_
 obtain ⟨v5, hv5, hF3⟩ := bind_some' hF2
 refine s_ixT Hit.row hv5 (Hit.row_eq _) yE30 ?_
 refine s_fa yF40_0 ?_
 refine s_ldN yA27 yS27 ?_
 refine s_ldW yA27 yS27 ?_
 obtain ⟨v6, hv6, hF4⟩ := bind_some' hF3
 refine s_pure [] (m_spec_FormSame_ok fu _ _ _ hv6) ?_
 refine k_nilD (by kernel_rfl) ?_
 refine k_seq ?_
 refine w_cond hF4 ?_ ?_ <;> intro hc7 hF5
 refine awp_seq (awp_region ?_)
 refine s_mv ?_
 refine s_as ?_
 refine k_nil (k_seq (awp_ret (k_blk_ret (k_seq_ret (k_rnd_ret2 (k_blk_ret (k_seq_ret (k_fin ?_))))))))
 cases hF5
 exact ends_a [] [] Tryz.results171
 refine awp_skip (k_blk (k_seq (awp_region ?_)))
 refine s_mv ?_
 refine s_add (winc2 hc3 hb4 hn_g1) ?_
 refine s_as ?_
 refine k_nil ?_
 exact s_rn (fu, (g1 + 1)) ⟨by first | omega | (dsimp only; omega), hF5, by first | omega | (dsimp only; omega)⟩
 refine awp_exit (k_seq_exit (k_rnd_exit2 (k_blk_exit (k_seq (awp_seq (awp_region ?_))))))
 refine s_as ?_
 refine k_nil (k_seq (awp_ret (k_fin ?_)))
 cases hF2
 exact ends_a [] [] Tryz.results171
def m_spec_l5Depth_AC (fuel : Nat) : Prop := ∀ (x1 : (List Hit)) (x2 : Form) (r : Int), m_spec_l5Depth fuel x1 x2 = some r → AC Tryz.prog 194 [.t (.sl (x1.map Hit.row)), .ag [.t (.sc (.int .i64 x2.kind)), .t (.sc (.str x2.name)), .t (.sc (.int .i64 x2.n)), .t (.sl (x2.scopes.map rI)), .t (.sl (x2.kids.map Form.row))]] noOb (.t (.sc (.int .i64 r))) noOb
theorem m_spec_l5Depth_ok (fuel : Nat) : m_spec_l5Depth_AC fuel := by
 intro x1 x2 r hF0
 unfold m_spec_l5Depth at hF0
 refine AC_i [.t (.sc (.int .i64 r))] Tryz.func194 rfl Tryz.ntmps194 ?_
 intro C hC
 refine awp_seq (awp_region ?_)
 refine s_box ?_
 refine s_as ?_
 refine k_nil (k_seq (awp_seq (awp_seq (awp_region ?_))))
 refine s_fa yF27_0 ?_
 refine s_ld1 yA3 ?_
 refine s_ne ?_
 refine k_nil (k_seq ?_)
 refine w_cond hF0 ?_ ?_ <;> intro hc1 hF1
 refine awp_seq (awp_region ?_)
 refine s_as ?_
 refine k_nil (k_seq (awp_ret (k_seq_ret (k_fin ?_))))
 cases hF1
 exact ends_a [] [] Tryz.results194
 refine awp_skip (k_seq (awp_seq (awp_region ?_)))
 refine s_mv ?_
 refine s_ldW yA27 yS27 ?_
 obtain ⟨v2, hv2, hF2⟩ := bind_some' hF1
 refine s_pure [] (m_spec_l4Find_ok fuel _ _ _ hv2) ?_
 refine s_as ?_
 refine k_nil (k_seq (awp_seq (awp_seq (awp_region ?_))))
 refine s_mv ?_
 refine s_lt ?_
 refine k_nil (k_seq ?_)
 refine w_cond hF2 ?_ ?_ <;> intro hc3 hF3
 refine awp_seq (awp_region ?_)
 refine s_as ?_
 refine k_nil (k_seq (awp_ret (k_seq_ret (k_fin ?_))))
 cases hF3
 exact ends_a [] [] Tryz.results194
 refine awp_skip (k_seq (awp_seq (awp_region ?_)))
 refine s_mv ?_
 refine s_mv ?_
 obtain ⟨v4, hv4, hF4⟩ := bind_some' hF3
 refine s_ixT Hit.row hv4 (Hit.row_eq _) yE30 ?_
 refine s_fa yF40_1 ?_
 refine s_ld1 yA3 ?_
 refine s_as ?_
 refine k_nil (k_seq (awp_ret (k_fin ?_)))
 cases hF4
 exact ends_a [] [] Tryz.results194
def m_spec_l5Rows_AC (fuel : Nat) : Prop := ∀ (x1 : (List Hit)) (x2 : Form) (r : Bool), m_spec_l5Rows fuel x1 x2 = some r → AC Tryz.prog 195 [.t (.sl (x1.map Hit.row)), .ag [.t (.sc (.int .i64 x2.kind)), .t (.sc (.str x2.name)), .t (.sc (.int .i64 x2.n)), .t (.sl (x2.scopes.map rI)), .t (.sl (x2.kids.map Form.row))]] noOb (.t (.sc (.bool r))) noOb
theorem m_spec_l5Rows_st (fu : Nat) (ih_m_spec_l5Rows : ∀ k, k ≤ fu → m_spec_l5Rows_AC k) : m_spec_l5Rows_AC (fu + 1) := by
 intro x1 x2 r hF0
 rw [m_spec_l5Rows] at hF0
 refine AC_i [.t (.sc (.bool r))] Tryz.func195 rfl Tryz.ntmps195 ?_
 intro C hC
 refine awp_seq (awp_region ?_)
 refine s_box ?_
 refine s_as ?_
 refine k_nil (k_seq (awp_seq (awp_seq (awp_region ?_))))
 refine s_mv ?_
 refine s_ldW yA27 yS27 ?_
 obtain ⟨v1, hv1, hF1⟩ := bind_some' hF0
 refine s_pure [] (m_spec_l5Depth_ok fu _ _ _ hv1) ?_
 refine s_gt ?_
 refine k_nil (k_seq ?_)
 refine w_cond hF1 ?_ ?_ <;> intro hc2 hF2
 refine awp_seq (awp_region ?_)
 refine s_as ?_
 refine k_nil (k_seq (awp_ret (k_seq_ret (k_fin ?_))))
 cases hF2
 exact ends_a [] [] Tryz.results195
 refine awp_skip (k_seq (awp_seq (awp_seq (awp_region ?_))))
 refine s_as ?_
 refine k_nil (k_seq (awp_block ?_))
 refine awp_fr (β := Int) [4, 5, 10, 11, 12, 13, 14, 15, 16, 17, 18, 19, 20, 21, 22, 23] [] [] (fun a => [(5, .t (.sc (.int .i64 a.2)))]) (fun a => []) (fun a => a.1 ≤ fu ∧ m_spec_l5Rows_l1 a.1 x1 x2 a.2 = some r ∧ 0 ≤ a.2) (fu, 0) ⟨Nat.le_refl _, hF2, by simp⟩ ?_
 clear hF2
 rintro ⟨fu, g3⟩ ⟨hl4, hF3, hn_g3⟩
 dsimp only at hl4 hF3 hn_g3 ⊢
 obtain _ | fu := fu
 · rw [m_spec_l5Rows_l1] at hF3; cases hF3
 rw [m_spec_l5Rows_l1] at hF3
 refine awp_seq (awp_seq (awp_region ?_))
 refine s_mv ?_
 refine s_fa yF27_4 ?_
 refine s_ld1 yA25 ?_
 refine s_lenT yU25 ?_
 refine s_lt ?_
 refine k_nil (k_seq ?_)
 refine w_cond hF3 ?_ ?_ <;> intro hc5 hF4
 refine awp_lenT 12 (fun hb6 => ?_)
 refine awp_skip (k_seq (awp_seq (awp_block (awp_seq (awp_region ?_)))))
 refine s_mv ?_
 refine s_fa yF27_4 ?_
 refine s_ld1 yA25 ?_
 refine s_mv ?_
 obtain ⟨v7, hv7, hF5⟩ := bind_some' hF4
 refine s_ixT Form.row hv7 (Form.row_eq _) yE25 ?_
 refine s_ldN yA27 yS27 ?_
 obtain ⟨v8, hv8, hF6⟩ := bind_some' hF5
 refine s_pure [] (ih_m_spec_l5Rows fu (by omega) _ _ _ hv8) ?_
 refine k_nil (k_seq ?_)
 refine w_cond hF6 ?_ ?_ <;> intro hc9 hF7
 refine awp_seq (awp_region ?_)
 refine s_as ?_
 refine k_nil (k_seq (awp_ret (k_blk_ret (k_seq_ret (k_rnd_ret2 (k_blk_ret (k_seq_ret (k_fin ?_))))))))
 cases hF7
 exact ends_a [] [] Tryz.results195
 refine awp_skip (k_blk (k_seq (awp_region ?_)))
 refine s_mv ?_
 refine s_add (winc2 hc5 hb6 hn_g3) ?_
 refine s_as ?_
 refine k_nil ?_
 exact s_rn (fu, (g3 + 1)) ⟨by first | omega | (dsimp only; omega), hF7, by first | omega | (dsimp only; omega)⟩
 refine awp_exit (k_seq_exit (k_rnd_exit2 (k_blk_exit (k_seq (awp_seq (awp_region ?_))))))
 refine s_as ?_
 refine k_nil (k_seq (awp_ret (k_fin ?_)))
 cases hF4
 exact ends_a [] [] Tryz.results195
theorem m_spec_l5Rows_all (fuel : Nat) : m_spec_l5Rows_AC fuel := by
 induction fuel using Nat.strongRecOn with
 | _ N ih =>
   cases N with
   | zero => exact (by intro x1 x2 r h; rw [m_spec_l5Rows] at h; cases h)
   | succ fu => exact m_spec_l5Rows_st fu (fun k hk => (ih k (by omega)))
theorem m_spec_l5Rows_ok (fuel : Nat) : m_spec_l5Rows_AC fuel := (m_spec_l5Rows_all fuel)
def m_spec_l5Less_AC (fuel : Nat) : Prop := ∀ (x1 : (List Hit)) (r : (List Hit)), m_spec_l5Less fuel x1 = some r → AC Tryz.prog 196 [.t (.sl (x1.map Hit.row))] noOb (.t (.sl (r.map Hit.row))) noOb
theorem m_spec_l5Less_ok (fuel : Nat) : m_spec_l5Less_AC fuel := by
 intro x1 r hF0
 unfold m_spec_l5Less at hF0
 refine AC_i [.t (.sl (r.map Hit.row))] Tryz.func196 rfl Tryz.ntmps196 ?_
 intro C hC
 refine awp_seq (awp_region ?_)
 refine s_as ?_
 refine k_nil (k_seq (awp_seq (awp_region ?_)))
 refine s_bs Hit.row ([] : List Hit) yP30 yR40 ?_
 refine s_as ?_
 refine k_nil (k_seq (awp_seq (awp_seq (awp_region ?_))))
 refine s_as ?_
 refine k_nil (k_seq (awp_block ?_))
 refine awp_mv 3 6 5020 (by conv => lhs; whnf) (by conv => lhs; whnf) rfl ?_
 refine awp_frame2 [3, 4, 5, 7, 8, 9, 10, 11, 12, 13, 14, 15, 16, 17, 18, 19, 20, 21, 22, 23, 24, 25, 26, 27, 28, 29, 30, 31, 32, 33, 34, 35, 36, 37, 38, 39] [5020] [5, 38, 39] [5020] (fun a : Nat × (List Hit) × Int => a.1) (fun a : Nat × (List Hit) × Int => [(3, .ar 5020), (4, .t (.sc (.int .i64 a.2.2)))]) (fun a : Nat × (List Hit) × Int => [(5020, .arr (a.2.1.map Hit.row) 40 true)]) (fun a : Nat × (List Hit) × Int => a.1 ≤ fuel ∧ m_spec_l5Less_l1 a.1 x1 a.2.1 a.2.2 = some r ∧ 0 ≤ a.2.2) (fuel, ([] : List Hit), 0) ⟨Nat.le_refl _, hF0, by simp⟩ (by rfl) (by rfl) (fun _ => rfl) (hasF_cons (by conv => lhs; whnf) (by rfl) (hasF_cons (by conv => lhs; whnf) (by rfl) hasF_nil)) (hasO_cons (by conv => lhs; whnf) (by rfl) hasO_nil) (fresh_C hC rfl) (by repeat (first | exact freshS_args rfl | refine freshS_upd rfl ?_ | refine freshS_frame rfl ?_)) (by repeat (first | exact freshM_no | exact objs_fresh rfl | refine freshM_upd rfl ?_ | refine freshM_frame rfl ?_)) ?_
 clear hF0
 rintro ⟨fu, g1, g2⟩ ⟨hl3, hF1, hn_g2⟩
 dsimp only at hl3 hF1 hn_g2 ⊢
 obtain _ | fu := fu
 · rw [m_spec_l5Less_l1] at hF1; cases hF1
 rw [m_spec_l5Less_l1] at hF1
 refine awp_seq (awp_seq (awp_region ?_))
 refine s_mv ?_
 refine s_mv ?_
 refine s_lenT yU30 ?_
 refine s_lt ?_
 refine k_nil (k_seq ?_)
 refine w_cond hF1 ?_ ?_ <;> intro hc4 hF2
 refine awp_lenT 0 (fun hb5 => ?_)
 refine awp_skip (k_seq (awp_seq (awp_block (awp_seq ?_))))
 refine awp_draw yMix (by kernel_rfl) ?_
 refine s_mv ?_
 refine s_mv ?_
 obtain ⟨v6, hv6, hF3⟩ := bind_some' hF2
 refine s_ixT Hit.row hv6 (Hit.row_eq _) yE30 ?_
 refine s_fa yF40_0 ?_
 refine s_ldN yA27 yS27 ?_
 refine s_mv ?_
 refine s_mv ?_
 obtain ⟨v7, hv7, hF4⟩ := bind_some' hF3
 refine s_ixT Hit.row hv7 (Hit.row_eq _) yE30 ?_
 refine s_fa yF40_1 ?_
 refine s_ld1 yA3 ?_
 refine s_mv ?_
 refine s_mv ?_
 obtain ⟨v8, hv8, hF5⟩ := bind_some' hF4
 refine s_ixT Hit.row hv8 (Hit.row_eq _) yE30 ?_
 refine s_fa yF40_2 ?_
 refine s_ldN yA27 yS27 ?_
 refine s_bld yZ40 yL40 ?_
 refine s_alloc yZ40 ?_
 refine s_stW yS40 ?_
 refine k_nilD (by kernel_rfl) ?_
 refine k_seq (awp_seq (awp_seq (awp_region ?_)))
 refine s_fa yF40_1 ?_
 refine s_ld1 yA3 ?_
 refine s_gt ?_
 refine k_nil (k_seq ?_)
 refine w_cond hF5 ?_ ?_ <;> intro hc9 hF6
 refine awp_region ?_
 refine s_fa yF40_1 ?_
 refine s_ld1 yA3 ?_
 refine s_sub rfl ?_
 refine s_fa yF40_1 ?_
 refine s_stP yS3 ?_
 refine k_nil (k_seq (awp_region ?_))
 refine s_mv ?_
 refine s_ldW yA40 yS40 ?_
 refine s_bs Hit.row [(Hit.mk v6.name (w64 (v7.depth - 1)) v8.one ([] : List Hit))] yP30 yR40 ?_
 obtain ⟨hk10, hF7⟩ := chk_some hF6
 refine s_apT Hit.row (fun y => Hit.row_len y) hk10 yP30 ?_
 refine s_as ?_
 refine k_nil (k_blk (k_seq (awp_region ?_)))
 refine s_mv ?_
 refine s_add (winc2 hc4 hb5 hn_g2) ?_
 refine s_as ?_
 refine k_nil ?_
 exact s_rn (fu, (g1 ++ [(Hit.mk v6.name (w64 (v7.depth - 1)) v8.one ([] : List Hit))]), (g2 + 1)) ⟨by first | omega | (dsimp only; omega), hF7, by first | omega | (dsimp only; omega)⟩ [(5020, 39)]
 refine awp_skip (k_seq (awp_region ?_))
 refine s_mv ?_
 refine s_ldW yA40 yS40 ?_
 refine s_bs Hit.row [(Hit.mk v6.name v7.depth v8.one ([] : List Hit))] yP30 yR40 ?_
 obtain ⟨hk11, hF7⟩ := chk_some hF6
 refine s_apT Hit.row (fun y => Hit.row_len y) hk11 yP30 ?_
 refine s_as ?_
 refine k_nil (k_blk (k_seq (awp_region ?_)))
 refine s_mv ?_
 refine s_add (winc2 hc4 hb5 hn_g2) ?_
 refine s_as ?_
 refine k_nil ?_
 exact s_rn (fu, (g1 ++ [(Hit.mk v6.name v7.depth v8.one ([] : List Hit))]), (g2 + 1)) ⟨by first | omega | (dsimp only; omega), hF7, by first | omega | (dsimp only; omega)⟩ [(5020, 39)]
 refine awp_exit (k_seq_exit (k_rnd_exit2 (k_blk_exit (k_seq (awp_seq (awp_region ?_))))))
 refine s_mv ?_
 refine s_as ?_
 refine k_nil (k_seq (awp_ret (k_fin ?_)))
 cases hF2
 exact ends_a [] [5020] Tryz.results196
def m_spec_l5Is_AC (fuel : Nat) : Prop := ∀ (x1 : Form) (x2 : (List Hit)) (r : Bool), m_spec_l5Is fuel x1 x2 = some r → AC Tryz.prog 170 [.ag [.t (.sc (.int .i64 x1.kind)), .t (.sc (.str x1.name)), .t (.sc (.int .i64 x1.n)), .t (.sl (x1.scopes.map rI)), .t (.sl (x1.kids.map Form.row))], .t (.sl (x2.map Hit.row))] noOb (.t (.sc (.bool r))) noOb
theorem m_spec_l5Is_st (fu : Nat) (ih_m_spec_l5Is : ∀ k, k ≤ fu → m_spec_l5Is_AC k) : m_spec_l5Is_AC (fu + 1) := by
 intro x1 x2 r hF0
 rw [m_spec_l5Is] at hF0
 refine AC_i [.t (.sc (.bool r))] Tryz.func170 rfl Tryz.ntmps170 ?_
 intro C hC
 refine awp_seq (awp_region ?_)
 refine s_box ?_
 refine s_as ?_
 refine k_nil (k_seq (awp_seq (awp_seq (awp_region ?_))))
 refine s_ldW yA27 yS27 ?_
 obtain ⟨v1, hv1, hF1⟩ := bind_some' hF0
 refine s_pure [] (m_spec_l4Dots_ok fu _ _ hv1) ?_
 refine s_mv ?_
 refine w_guard _ 8 hF1 ?_ ?_ <;> intro hc2 hF2
 iterate 4 refine r_no rfl ?_
 refine s_pkt ?_
 refine k_nil (k_seq (awp_true rfl (awp_seq (awp_region ?_))))
 refine s_as ?_
 refine k_nil (k_seq (awp_ret (k_seq_ret (k_fin ?_))))
 cases hF2
 exact ends_a [] [] Tryz.results170
 refine s_mv ?_
 refine s_ldW yA27 yS27 ?_
 obtain ⟨v3, hv3, hF3⟩ := bind_some' hF2
 refine s_pure [] (m_spec_l5Depth_ok fu _ _ _ hv3) ?_
 refine s_gt ?_
 refine s_pkf ?_
 refine k_nil (k_seq ?_)
 refine w_cond hF3 ?_ ?_ <;> intro hc4 hF4
 refine awp_seq (awp_region ?_)
 refine s_as ?_
 refine k_nil (k_seq (awp_ret (k_seq_ret (k_fin ?_))))
 cases hF4
 exact ends_a [] [] Tryz.results170
 refine awp_skip (k_seq (awp_seq (awp_seq (awp_region ?_))))
 refine s_as ?_
 refine k_nil (k_seq (awp_block ?_))
 refine awp_fr (β := Int) [4, 5, 14, 15, 16, 17, 18, 19, 20, 21, 22, 23, 24, 25, 26, 27, 28, 29, 30, 31, 32, 33, 34, 35, 36, 37, 38, 39, 40, 41, 42, 43, 44, 45, 46, 47, 48, 49, 50, 51, 52, 53, 54, 55, 56, 57, 58, 59, 60, 61, 62, 63, 64, 65, 66, 67, 68, 69, 70, 71, 72, 73, 74, 75, 76, 77, 78, 79] [] [] (fun a => [(5, .t (.sc (.int .i64 a.2)))]) (fun a => []) (fun a => a.1 ≤ fu ∧ m_spec_l5Is_l1 a.1 x1 x2 a.2 = some r ∧ 0 ≤ a.2) (fu, 0) ⟨Nat.le_refl _, hF4, by simp⟩ ?_
 clear hF4
 rintro ⟨fu, g5⟩ ⟨hl6, hF5, hn_g5⟩
 dsimp only at hl6 hF5 hn_g5 ⊢
 obtain _ | fu := fu
 · rw [m_spec_l5Is_l1] at hF5; cases hF5
 rw [m_spec_l5Is_l1] at hF5
 refine awp_seq (awp_seq (awp_region ?_))
 refine s_mv ?_
 refine s_fa yF27_4 ?_
 refine s_ld1 yA25 ?_
 refine s_lenT yU25 ?_
 refine s_lt ?_
 refine k_nil (k_seq ?_)
 refine w_cond hF5 ?_ ?_ <;> intro hc7 hF6
 refine awp_lenT 16 (fun hb8 => ?_)
 refine awp_skip (k_seq (awp_seq (awp_block (awp_seq (awp_seq (awp_region ?_))))))
 refine s_fa yF27_4 ?_
 refine s_ld1 yA25 ?_
 refine s_mv ?_
 obtain ⟨v9, hv9, hF7⟩ := bind_some' hF6
 refine s_ixT Form.row hv9 (Form.row_eq _) yE25 ?_
 refine s_ldN yA27 yS27 ?_
 obtain ⟨v10, hv10, hF8⟩ := bind_some' hF7
 refine s_pure [] (m_spec_l4Dots_ok fu _ _ hv10) ?_
 refine k_nil (k_seq ?_)
 refine w_cond hF8 ?_ ?_ <;> intro hc11 hF9
 refine awp_seq (awp_seq (awp_region ?_))
 refine s_mv ?_
 refine s_eq ?_
 refine s_mv ?_
 refine w_guard _ 29 hF9 ?_ ?_ <;> intro hc12 hF10
 iterate 7 refine r_no rfl ?_
 refine s_pkt ?_
 refine k_nil (k_seq (awp_true rfl (awp_seq (awp_region ?_))))
 refine s_as ?_
 refine k_nil (k_seq (awp_ret (k_seq_ret (k_seq_ret (k_blk_ret (k_seq_ret (k_rnd_ret2 (k_blk_ret (k_seq_ret (k_fin ?_))))))))))
 cases hF10
 exact ends_a [] [] Tryz.results170
 refine s_fa yF27_4 ?_
 refine s_ld1 yA25 ?_
 refine s_mv ?_
 refine s_sub rfl ?_
 obtain ⟨v13, hv13, hF11⟩ := bind_some' hF10
 refine s_ixT Form.row hv13 (Form.row_eq _) yE25 ?_
 refine s_ldN yA27 yS27 ?_
 obtain ⟨v14, hv14, hF12⟩ := bind_some' hF11
 refine s_pure [] (m_spec_l4Dots_ok fu _ _ hv14) ?_
 refine s_pkf ?_
 refine k_nil (k_seq ?_)
 refine w_cond hF12 ?_ ?_ <;> intro hc15 hF13
 refine awp_seq (awp_region ?_)
 refine s_as ?_
 refine k_nil (k_seq (awp_ret (k_seq_ret (k_seq_ret (k_blk_ret (k_seq_ret (k_rnd_ret2 (k_blk_ret (k_seq_ret (k_fin ?_))))))))))
 cases hF13
 exact ends_a [] [] Tryz.results170
 refine awp_skip (k_seq (awp_exit (k_seq_exit (k_blk_exit (k_seq (awp_region ?_))))))
 refine s_mv ?_
 refine s_add (winc2 hc7 hb8 hn_g5) ?_
 refine s_as ?_
 refine k_nil ?_
 exact s_rn (fu, (g5 + 1)) ⟨by first | omega | (dsimp only; omega), hF13, by first | omega | (dsimp only; omega)⟩
 refine awp_skip (k_seq (awp_seq (awp_seq (awp_region ?_))))
 refine s_mv ?_
 refine s_add (winc2 hc7 hb8 hn_g5) ?_
 refine s_fa yF27_4 ?_
 refine s_ld1 yA25 ?_
 refine s_lenT yU25 ?_
 refine s_lt ?_
 refine s_mv ?_
 refine w_guard _ 44 hF9 ?_ ?_ <;> intro hc16 hF10
 refine s_fa yF27_4 ?_
 refine s_ld1 yA25 ?_
 refine s_mv ?_
 refine s_add (winc2 hc7 hb8 hn_g5) ?_
 obtain ⟨v17, hv17, hF11⟩ := bind_some' hF10
 refine s_ixT Form.row hv17 (Form.row_eq _) yE25 ?_
 refine s_ldN yA27 yS27 ?_
 obtain ⟨v18, hv18, hF12⟩ := bind_some' hF11
 refine s_pure [] (m_spec_l4Dots_ok fu _ _ hv18) ?_
 refine s_pkt ?_
 refine k_nil (k_seq ?_)
 refine w_cond hF12 ?_ ?_ <;> intro hc19 hF13
 refine awp_seq (awp_seq ?_)
 refine awp_draw yMix (by kernel_rfl) ?_
 refine s_mv ?_
 refine s_fa yF27_4 ?_
 refine s_ld1 yA25 ?_
 refine s_mv ?_
 obtain ⟨v20, hv20, hF14⟩ := bind_some' hF13
 refine s_ixT Form.row hv20 (Form.row_eq _) yE25 ?_
 refine s_ldN yA27 yS27 ?_
 obtain ⟨v21, hv21, hF15⟩ := bind_some' hF14
 refine s_pure [] (m_spec_l5Rows_ok fu _ _ _ hv21) ?_
 refine s_not ?_
 refine s_mv ?_
 refine w_guard _ 61 hF15 ?_ ?_ <;> intro hc22 hF16
 iterate 9 refine r_no rfl ?_
 refine s_pkt ?_
 refine k_nilD (by kernel_rfl) ?_
 refine k_seq (awp_true rfl (awp_seq (awp_region ?_)))
 refine s_as ?_
 refine k_nil (k_seq (awp_ret (k_seq_ret (k_seq_ret (k_blk_ret (k_seq_ret (k_rnd_ret2 (k_blk_ret (k_seq_ret (k_fin ?_))))))))))
 cases hF16
 exact ends_a [] [] Tryz.results170
 refine s_fa yF27_4 ?_
 refine s_ld1 yA25 ?_
 refine s_mv ?_
 obtain ⟨v23, hv23, hF17⟩ := bind_some' hF16
 refine s_ixT Form.row hv23 (Form.row_eq _) yE25 ?_
 refine s_ldN yA27 yS27 ?_
 refine s_mv ?_
 obtain ⟨v24, hv24, hF18⟩ := bind_some' hF17
 refine s_pure [] (m_spec_l5Less_ok fu _ _ hv24) ?_
 obtain ⟨v25, hv25, hF19⟩ := bind_some' hF18
 refine s_pure [] (ih_m_spec_l5Is fu (by omega) _ _ _ hv25) ?_
 refine s_not ?_
 refine s_pkf ?_
 refine k_nilD (by kernel_rfl) ?_
 refine k_seq ?_
 refine w_cond hF19 ?_ ?_ <;> intro hc26 hF20
 refine awp_seq (awp_region ?_)
 refine s_as ?_
 refine k_nil (k_seq (awp_ret (k_seq_ret (k_seq_ret (k_blk_ret (k_seq_ret (k_rnd_ret2 (k_blk_ret (k_seq_ret (k_fin ?_))))))))))
 cases hF20
 exact ends_a [] [] Tryz.results170
 refine awp_skip (k_seq (awp_exit (k_seq_exit (k_blk_exit (k_seq (awp_region ?_))))))
 refine s_mv ?_
 refine s_add (winc2 hc7 hb8 hn_g5) ?_
 refine s_as ?_
 refine k_nil ?_
 exact s_rn (fu, (g5 + 1)) ⟨by first | omega | (dsimp only; omega), hF20, by first | omega | (dsimp only; omega)⟩
 refine awp_skip (k_seq (awp_seq (awp_region ?_)))
 refine s_fa yF27_4 ?_
 refine s_ld1 yA25 ?_
 refine s_mv ?_
 obtain ⟨v27, hv27, hF14⟩ := bind_some' hF13
 refine s_ixT Form.row hv27 (Form.row_eq _) yE25 ?_
 refine s_ldN yA27 yS27 ?_
 refine s_mv ?_
 obtain ⟨v28, hv28, hF15⟩ := bind_some' hF14
 refine s_pure [] (ih_m_spec_l5Is fu (by omega) _ _ _ hv28) ?_
 refine s_not ?_
 refine k_nil (k_seq ?_)
 refine w_cond hF15 ?_ ?_ <;> intro hc29 hF16
 refine awp_seq (awp_region ?_)
 refine s_as ?_
 refine k_nil (k_seq (awp_ret (k_blk_ret (k_seq_ret (k_rnd_ret2 (k_blk_ret (k_seq_ret (k_fin ?_))))))))
 cases hF16
 exact ends_a [] [] Tryz.results170
 refine awp_skip (k_blk (k_seq (awp_region ?_)))
 refine s_mv ?_
 refine s_add (winc2 hc7 hb8 hn_g5) ?_
 refine s_as ?_
 refine k_nil ?_
 exact s_rn (fu, (g5 + 1)) ⟨by first | omega | (dsimp only; omega), hF16, by first | omega | (dsimp only; omega)⟩
 iterate 7 refine r_no rfl ?_
 refine s_pkf ?_
 refine k_nil (k_seq (awp_false rfl (awp_skip (k_seq (awp_seq (awp_region ?_))))))
 refine s_fa yF27_4 ?_
 refine s_ld1 yA25 ?_
 refine s_mv ?_
 obtain ⟨v30, hv30, hF11⟩ := bind_some' hF10
 refine s_ixT Form.row hv30 (Form.row_eq _) yE25 ?_
 refine s_ldN yA27 yS27 ?_
 refine s_mv ?_
 obtain ⟨v31, hv31, hF12⟩ := bind_some' hF11
 refine s_pure [] (ih_m_spec_l5Is fu (by omega) _ _ _ hv31) ?_
 refine s_not ?_
 refine k_nil (k_seq ?_)
 refine w_cond hF12 ?_ ?_ <;> intro hc32 hF13
 refine awp_seq (awp_region ?_)
 refine s_as ?_
 refine k_nil (k_seq (awp_ret (k_blk_ret (k_seq_ret (k_rnd_ret2 (k_blk_ret (k_seq_ret (k_fin ?_))))))))
 cases hF13
 exact ends_a [] [] Tryz.results170
 refine awp_skip (k_blk (k_seq (awp_region ?_)))
 refine s_mv ?_
 refine s_add (winc2 hc7 hb8 hn_g5) ?_
 refine s_as ?_
 refine k_nil ?_
 exact s_rn (fu, (g5 + 1)) ⟨by first | omega | (dsimp only; omega), hF13, by first | omega | (dsimp only; omega)⟩
 refine awp_exit (k_seq_exit (k_rnd_exit2 (k_blk_exit (k_seq (awp_seq (awp_region ?_))))))
 refine s_as ?_
 refine k_nil (k_seq (awp_ret (k_fin ?_)))
 cases hF6
 exact ends_a [] [] Tryz.results170
end Go.Abs
