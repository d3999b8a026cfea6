/- A part of the proof: what the functions that the law calls answer, as pure values. -/
import Derived.Test.YtjjjnhpghhamkaaGreatK1aaba621fabf
import Derived.Test.YtjjjnhpghhamkaaGreatK58e73cef7f21
import Derived.Test.YtjjjnhpghhamkaaGreatK5a9d111b70d7
import Derived.Test.YtjjjnhpghhamkaaGreatKcbfe00d1dfad
import Derived.Test.YtjjjnhpghhamkaaGreatKd36f21389c4b
set_option linter.unusedSimpArgs false
set_option linter.unusedVariables false
set_option maxRecDepth 100000
set_option maxHeartbeats 4000000
namespace Go.Abs
open Go.Proofs
def m_spec_l4List_AC (fuel : Nat) : Prop := ∀ (x1 : (List Bind)) (x2 : (List Form)) (x3 : (List Form)) (x4 : (List Form)) (r : ((List Hit) × Bool)), m_spec_l4List fuel x1 x2 x3 x4 = some r → AC Tryz.prog 137 [.t (.sl (x1.map Bind.row)), .t (.sl (x2.map Form.row)), .t (.sl (x3.map Form.row)), .t (.sl (x4.map Form.row))] noOb (.tp [.t (.sl (r.1.map Hit.row)), .t (.sc (.bool r.2))]) noOb
def m_spec_l4Match_AC (fuel : Nat) : Prop := ∀ (x1 : (List Bind)) (x2 : Form) (x3 : (List Form)) (x4 : Form) (r : ((List Hit) × Bool)), m_spec_l4Match fuel x1 x2 x3 x4 = some r → AC Tryz.prog 65 [.t (.sl (x1.map Bind.row)), .ag [.t (.sc (.int .i64 x2.kind)), .t (.sc (.str x2.name)), .t (.sc (.int .i64 x2.n)), .t (.sl (x2.scopes.map rI)), .t (.sl (x2.kids.map Form.row))], .t (.sl (x3.map Form.row)), .ag [.t (.sc (.int .i64 x4.kind)), .t (.sc (.str x4.name)), .t (.sc (.int .i64 x4.n)), .t (.sl (x4.scopes.map rI)), .t (.sl (x4.kids.map Form.row))]] noOb (.tp [.t (.sl (r.1.map Hit.row)), .t (.sc (.bool r.2))]) noOb
theorem m_spec_l4List_st (fu : Nat) (ih_m_spec_l4List : ∀ k, k ≤ fu → m_spec_l4List_AC k) (ih_m_spec_l4Match : ∀ k, k ≤ fu → m_spec_l4Match_AC k) : m_spec_l4List_AC (fu + 1) := by
 intro x1 x2 x3 x4 r hF0
 rw [m_spec_l4List] at hF0
 refine AC_i [.t (.sl (r.1.map Hit.row)), .t (.sc (.bool r.2))] Tryz.func137 rfl Tryz.ntmps137 ?_
 intro C hC
 refine awp_seq (awp_region ?_)
 refine s_as ?_
 refine s_as ?_
 refine k_nil (k_seq (awp_seq (awp_region ?_)))
 refine s_bs Hit.row ([] : List Hit) yP30 yR40 ?_
 refine s_as ?_
 refine k_nil (k_seq (awp_seq (awp_region ?_)))
 refine s_as ?_
 refine k_nil (k_seq ?_)
 refine awp_jn (α := Nat × Int) [11, 12, 22, 23, 24, 25, 26, 27, 28, 29, 30, 31, 32, 33, 34, 35] [] [] (fun a => [(11, .t (.sc (.int .i64 a.2)))]) (fun a => []) (fun a => a.1 ≤ fu ∧ m_spec_l4List_j1 a.1 x1 x2 x3 x4 a.2 = some r) ?_ ?_
 refine awp_seq (awp_region ?_)
 refine s_as ?_
 refine k_nil (k_seq (awp_block ?_))
 refine awp_fr (β := Int × Int) [11, 12, 22, 23, 24, 25, 26, 27, 28, 29, 30, 31, 32, 33, 34, 35] [] [] (fun a => [(11, .t (.sc (.int .i64 a.2.1))), (12, .t (.sc (.int .i64 a.2.2)))]) (fun a => []) (fun a => a.1 ≤ fu ∧ m_spec_l4List_l2 a.1 x1 x2 x3 x4 a.2.1 a.2.2 = some r) (fu, (-1), 0) ⟨Nat.le_refl _, hF0⟩ ?_
 clear hF0
 rintro ⟨fu, g1, g2⟩ ⟨hl3, hF1⟩
 dsimp only at hl3 hF1 ⊢
 obtain _ | fu := fu
 · rw [m_spec_l4List_l2] at hF1; cases hF1
 rw [m_spec_l4List_l2] at hF1
 refine awp_seq (awp_seq (awp_region ?_))
 refine s_mv ?_
 refine s_add rfl ?_
 refine s_mv ?_
 refine s_lenT yU25 ?_
 refine s_lt ?_
 refine k_nil (k_seq ?_)
 refine w_cond hF1 ?_ ?_ <;> intro hc4 hF2
 refine awp_skip (k_seq (awp_seq (awp_block (awp_seq (awp_region ?_)))))
 refine s_mv ?_
 refine s_mv ?_
 refine s_add rfl ?_
 obtain ⟨v5, hv5, hF3⟩ := bind_some' hF2
 refine s_ixT Form.row hv5 (Form.row_eq _) yE25 ?_
 refine s_ldN yA27 yS27 ?_
 obtain ⟨v6, hv6, hF4⟩ := bind_some' hF3
 refine s_pure [] (m_spec_l4Dots_ok fu _ _ hv6) ?_
 refine k_nil (k_seq ?_)
 refine w_cond hF4 ?_ ?_ <;> intro hc7 hF5
 refine awp_region ?_
 refine s_mv ?_
 refine s_as ?_
 refine k_nil (k_blk (k_seq (awp_region ?_)))
 refine s_mv ?_
 refine s_add rfl ?_
 refine s_as ?_
 refine k_nil ?_
 exact s_rn (fu, g2, (w64 (g2 + 1))) ⟨by first | omega | (dsimp only; omega), hF5⟩
 refine awp_skip (k_blk (k_seq (awp_region ?_)))
 refine s_mv ?_
 refine s_add rfl ?_
 refine s_as ?_
 refine k_nil ?_
 exact s_rn (fu, g1, (w64 (g2 + 1))) ⟨by first | omega | (dsimp only; omega), hF5⟩
 refine awp_exit (k_seq_exit (k_rnd_exit2 (k_blk_exit ?_)))
 exact s_jn (fu, g1) ⟨by first | omega | (dsimp only; omega), hF2⟩
 clear hF0
 rintro ⟨fu, g8⟩ ⟨hl9, hF1⟩
 dsimp only at hl9 hF1 ⊢
 obtain _ | fu := fu
 · rw [m_spec_l4List_j1] at hF1; cases hF1
 rw [m_spec_l4List_j1] at hF1
 refine awp_jn (α := Nat) [8, 9, 36, 37, 38, 39, 40, 41, 42, 43, 44, 45, 46, 47, 48, 49, 50, 51, 52, 53, 54, 55, 56, 57] [] [] (fun a => []) (fun a => []) (fun a => a ≤ fu ∧ m_spec_l4List_j3 a x1 x2 x3 x4 g8  = some r) ?_ ?_
 refine awp_seq (awp_region ?_)
 refine s_mv ?_
 refine s_lt ?_
 refine s_mv ?_
 refine w_guard _ 38 hF1 ?_ ?_ <;> intro hc10 hF2
 refine s_mv ?_
 refine s_lenT yU25 ?_
 refine s_mv ?_
 refine s_lenT yU25 ?_
 refine s_ne ?_
 refine s_pkt ?_
 refine s_mv ?_
 refine w_guard _ 45 hF2 ?_ ?_ <;> intro hc11 hF3
 iterate 10 refine r_no rfl ?_
 refine s_pkt ?_
 refine k_nil (k_seq (awp_true rfl (awp_seq (awp_region ?_))))
 refine s_mv ?_
 refine s_as ?_
 refine s_as ?_
 refine k_nil (k_seq (awp_ret (k_jn_ret (k_fin ?_))))
 cases hF3
 exact ends_a [] [21] Tryz.results137
 refine s_mv ?_
 refine s_ge ?_
 refine s_mv ?_
 refine w_guard _ 48 hF3 ?_ ?_ <;> intro hc12 hF4
 refine s_mv ?_
 refine s_lenT yU25 ?_
 refine s_mv ?_
 refine s_lenT yU25 ?_
 refine s_sub rfl ?_
 refine s_lt ?_
 refine s_pkt ?_
 refine s_pkf ?_
 refine k_nil (k_seq ?_)
 refine w_cond hF4 ?_ ?_ <;> intro hc13 hF5
 refine awp_seq (awp_region ?_)
 refine s_mv ?_
 refine s_as ?_
 refine s_as ?_
 refine k_nil (k_seq (awp_ret (k_jn_ret (k_fin ?_))))
 cases hF5
 exact ends_a [] [21] Tryz.results137
 refine awp_skip ?_
 exact s_jn (fu) ⟨by first | omega | (dsimp only; omega), hF5⟩
 iterate 6 refine r_no rfl ?_
 refine s_pkf ?_
 refine s_pkf ?_
 refine k_nil (k_seq (awp_false rfl (awp_skip ?_)))
 exact s_jn (fu) ⟨by first | omega | (dsimp only; omega), hF4⟩
 iterate 5 refine r_no rfl ?_
 refine s_pkf ?_
 refine s_mv ?_
 refine s_mv ?_
 refine s_ge ?_
 refine s_mv ?_
 refine w_guard _ 48 hF2 ?_ ?_ <;> intro hc14 hF3
 refine s_mv ?_
 refine s_lenT yU25 ?_
 refine s_mv ?_
 refine s_lenT yU25 ?_
 refine s_sub rfl ?_
 refine s_lt ?_
 refine s_pkt ?_
 refine s_pkf ?_
 refine k_nil (k_seq ?_)
 refine w_cond hF3 ?_ ?_ <;> intro hc15 hF4
 refine awp_seq (awp_region ?_)
 refine s_mv ?_
 refine s_as ?_
 refine s_as ?_
 refine k_nil (k_seq (awp_ret (k_jn_ret (k_fin ?_))))
 cases hF4
 exact ends_a [] [21] Tryz.results137
 refine awp_skip ?_
 exact s_jn (fu) ⟨by first | omega | (dsimp only; omega), hF4⟩
 iterate 6 refine r_no rfl ?_
 refine s_pkf ?_
 refine s_pkf ?_
 refine k_nil (k_seq (awp_false rfl (awp_skip ?_)))
 exact s_jn (fu) ⟨by first | omega | (dsimp only; omega), hF3⟩
 clear hF1
 rintro fu ⟨hl16, hF2⟩
 obtain _ | fu := fu
 · rw [m_spec_l4List_j3] at hF2; cases hF2
 rw [m_spec_l4List_j3] at hF2
 refine awp_seq (awp_region ?_)
 refine s_as ?_
 refine k_nil (k_seq (awp_seq (awp_seq (awp_region ?_))))
 refine s_as ?_
 refine k_nil (k_seq (awp_block ?_))
 refine awp_mv 10 21 5080 (by conv => lhs; whnf) (by conv => lhs; whnf) rfl ?_
 refine awp_frame2 [8, 9, 10, 13, 14, 15, 16, 17, 18, 19, 20, 58, 59, 60, 61, 62, 63, 64, 65, 66, 67, 68, 69, 70, 71, 72, 73, 74, 75, 76, 77, 78, 79, 80, 81, 82, 83, 84, 85, 86, 87, 88, 89, 90, 91, 92, 93, 94, 95, 96, 97, 98, 99, 100, 101, 102, 103, 104, 105, 106, 107, 108, 109, 110, 111, 112, 113, 114, 115, 116, 117, 118, 119, 120, 121, 122, 123, 124, 125, 126, 127, 128, 129, 130, 131, 132, 133, 134, 135, 136] [5080] [91, 94, 136, 5120] [5080] (fun a : Nat × Int × (List Hit) × Int => a.1) (fun a : Nat × Int × (List Hit) × Int => [(10, .ar 5080), (13, .t (.sc (.int .i64 a.2.2.2))), (14, .t (.sc (.int .i64 a.2.1)))]) (fun a : Nat × Int × (List Hit) × Int => [(5080, .arr (a.2.2.1.map Hit.row) 40 true)]) (fun a : Nat × Int × (List Hit) × Int => a.1 ≤ fu ∧ m_spec_l4List_l4 a.1 x1 x2 x3 x4 g8 a.2.1 a.2.2.1 a.2.2.2 = some r ∧ 0 ≤ a.2.1) (fu, 0, ([] : List Hit), 0) ⟨Nat.le_refl _, hF2, by simp⟩ (by rfl) (by rfl) (fun _ => rfl) (hasF_cons (by conv => lhs; whnf) (by rfl) (hasF_cons (by conv => lhs; whnf) (by rfl) (hasF_cons (by conv => lhs; whnf) (by rfl) hasF_nil))) (hasO_cons (by conv => lhs; whnf) (by rfl) hasO_nil) (fresh_C hC rfl) (by repeat (first | exact freshS_args rfl | refine freshS_upd rfl ?_ | refine freshS_frame rfl ?_)) (by repeat (first | exact freshM_no | exact objs_fresh rfl | refine freshM_upd rfl ?_ | refine freshM_frame rfl ?_)) ?_
 clear hF2
 rintro ⟨fu, g17, g18, g19⟩ ⟨hl20, hF3, hn_g17⟩
 dsimp only at hl20 hF3 hn_g17 ⊢
 obtain _ | fu := fu
 · rw [m_spec_l4List_l4] at hF3; cases hF3
 rw [m_spec_l4List_l4] at hF3
 refine awp_seq (awp_seq (awp_region ?_))
 refine s_mv ?_
 refine s_mv ?_
 refine s_lenT yU25 ?_
 refine s_lt ?_
 refine k_nil (k_seq ?_)
 refine w_cond hF3 ?_ ?_ <;> intro hc21 hF4
 refine awp_lenT 1 (fun hb22 => ?_)
 refine awp_skip (k_seq (awp_seq (awp_block (awp_seq (awp_seq (awp_region ?_))))))
 refine s_mv ?_
 refine s_mv ?_
 obtain ⟨v23, hv23, hF5⟩ := bind_some' hF4
 refine s_ixT Form.row hv23 (Form.row_eq _) yE25 ?_
 refine s_ldN yA27 yS27 ?_
 obtain ⟨v24, hv24, hF6⟩ := bind_some' hF5
 refine s_pure [] (m_spec_l4Dots_ok fu _ _ hv24) ?_
 refine k_nil (k_seq ?_)
 refine w_cond hF6 ?_ ?_ <;> intro hc25 hF7
 refine awp_exit (k_seq_exit (k_blk_exit (k_seq (awp_region ?_))))
 refine s_mv ?_
 refine s_add (winc2 hc21 hb22 hn_g17) ?_
 refine s_as ?_
 refine k_nil ?_
 exact s_rn (fu, (g17 + 1), g18, g19) ⟨by first | omega | (dsimp only; omega), hF7, by first | omega | (dsimp only; omega)⟩
 refine awp_skip (k_seq (awp_seq (awp_seq (awp_region ?_))))
 refine s_mv ?_
 refine s_mv ?_
 refine s_ne ?_
 refine k_nil (k_seq ?_)
 refine w_cond hF7 ?_ ?_ <;> intro hc26 hF8
 refine awp_seq ?_
 refine awp_draw yMix (by kernel_rfl) ?_
 iterate 3 refine s_mv ?_
 obtain ⟨v27, hv27, hF9⟩ := bind_some' hF8
 refine s_ixT Form.row hv27 (Form.row_eq _) yE25 ?_
 refine s_ldN yA27 yS27 ?_
 iterate 3 refine s_mv ?_
 obtain ⟨v28, hv28, hF10⟩ := bind_some' hF9
 refine s_ixT Form.row hv28 (Form.row_eq _) yE25 ?_
 refine s_ldN yA27 yS27 ?_
 obtain ⟨v29, hv29, hF11⟩ := bind_some' hF10
 refine s_pure [] (ih_m_spec_l4Match fu (by omega) _ _ _ _ _ hv29) ?_
 refine s_mv ?_
 refine s_ext ?_
 refine s_ext ?_
 refine s_as ?_
 refine s_as ?_
 refine k_nilD (by kernel_rfl) ?_
 refine k_seq (awp_seq (awp_seq (awp_region ?_)))
 refine s_mv ?_
 refine s_not ?_
 refine k_nil (k_seq ?_)
 refine w_cond hF11 ?_ ?_ <;> intro hc30 hF12
 refine awp_seq (awp_region ?_)
 refine s_mv ?_
 refine s_as ?_
 refine s_as ?_
 refine k_nil (k_seq (awp_ret (k_seq_ret (k_seq_ret (k_blk_ret (k_seq_ret (k_rnd_ret2 (k_blk_ret (k_seq_ret (k_fin ?_))))))))))
 cases hF12
 exact ends_a [] [5080] Tryz.results137
 refine awp_skip (k_seq (awp_seq (awp_region ?_)))
 refine s_mv ?_
 refine s_mv ?_
 obtain ⟨hk31, hF13⟩ := chk_some hF12
 refine s_apT Hit.row (fun y => Hit.row_len y) hk31 yP30 ?_
 refine s_as ?_
 refine k_nil (k_seq (awp_seq (awp_region ?_)))
 refine s_mv ?_
 refine s_add rfl ?_
 refine s_as ?_
 refine k_nil (k_seq (awp_exit (k_seq_exit (k_blk_exit (k_seq (awp_region ?_))))))
 refine s_mv ?_
 refine s_add (winc2 hc21 hb22 hn_g17) ?_
 refine s_as ?_
 refine k_nil ?_
 exact s_rn (fu, (g17 + 1), (g18 ++ v29.1), (w64 (g19 + 1))) ⟨by first | omega | (dsimp only; omega), hF13, by first | omega | (dsimp only; omega)⟩ [(5080, 91)]
 refine awp_skip (k_seq (awp_seq (awp_region ?_)))
 refine s_bs (rL Hit.row) ([] : List (List Hit)) yP182 yR30 ?_
 refine s_as ?_
 refine k_nil (k_seq ?_)
 refine awp_jn (α := Nat × Int × (List (List Hit))) [8, 9, 13, 17, 18, 19, 20, 95, 96, 97, 98, 99, 100, 101, 102, 103, 104, 105, 106, 107, 108, 109, 110, 111, 112, 113, 114, 115, 116, 117, 118, 119, 120, 121, 122, 123, 124, 125, 126, 127] [94, 5120] [] (fun a => [(13, .t (.sc (.int .i64 a.2.1))), (17, .ar 5120)]) (fun a => [(94, .dead), (5120, .arr (a.2.2.map (rL Hit.row)) 30 true)]) (fun a => a.1 ≤ fu ∧ m_spec_l4List_j5 a.1 x1 x2 x3 x4 g8 g17 g18 a.2.1 a.2.2 = some r) ?_ ?_
 refine awp_seq (awp_region ?_)
 refine s_mv ?_
 refine s_lenT yU25 ?_
 refine s_mv ?_
 refine s_lenT yU25 ?_
 refine s_sub rfl ?_
 refine s_sub rfl ?_
 refine s_as ?_
 refine k_nil (k_seq (awp_block ?_))
 refine awp_mv 17 94 5120 (by conv => lhs; whnf) (by conv => lhs; whnf) rfl ?_
 refine awp_frame2 [8, 9, 13, 17, 18, 19, 20, 101, 102, 103, 104, 105, 106, 107, 108, 109, 110, 111, 112, 113, 114, 115, 116, 117, 118, 119, 120, 121, 122, 123, 124, 125, 126, 127] [5120] [124, 125] [5120] (fun a : Nat × Int × (List (List Hit)) × Int => a.1) (fun a : Nat × Int × (List (List Hit)) × Int => [(13, .t (.sc (.int .i64 a.2.1))), (17, .ar 5120), (18, .t (.sc (.int .i64 a.2.2.2)))]) (fun a : Nat × Int × (List (List Hit)) × Int => [(5120, .arr (a.2.2.1.map (rL Hit.row)) 30 true)]) (fun a : Nat × Int × (List (List Hit)) × Int => a.1 ≤ fu ∧ m_spec_l4List_l6 a.1 x1 x2 x3 x4 g8 g17 g18 a.2.1 a.2.2.1 a.2.2.2 = some r) (fu, g19, ([] : List (List Hit)), (w64 ((x4.length : Int) - (w64 ((x2.length : Int) - 2))))) ⟨Nat.le_refl _, hF8⟩ (by rfl) (by rfl) (fun _ => rfl) (hasF_cons (by conv => lhs; whnf) (by rfl) (hasF_cons (by conv => lhs; whnf) (by rfl) (hasF_cons (by conv => lhs; whnf) (by rfl) hasF_nil))) (hasO_cons (by conv => lhs; whnf) (by rfl) hasO_nil) (fresh_C hC rfl) (by repeat (first | exact freshS_args rfl | refine freshS_upd rfl ?_ | refine freshS_frame rfl ?_)) (by repeat (first | exact freshM_no | exact objs_fresh rfl | refine freshM_upd rfl ?_ | refine freshM_frame rfl ?_)) ?_
 clear hF8
 rintro ⟨fu, g32, g33, g34⟩ ⟨hl35, hF9⟩
 dsimp only at hl35 hF9 ⊢
 obtain _ | fu := fu
 · rw [m_spec_l4List_l6] at hF9; cases hF9
 rw [m_spec_l4List_l6] at hF9
 refine awp_seq (awp_seq (awp_region ?_))
 refine s_mv ?_
 refine s_gt ?_
 refine k_nil (k_seq ?_)
 refine w_cond hF9 ?_ ?_ <;> intro hc36 hF10
 refine awp_skip (k_seq (awp_seq (awp_block (awp_seq ?_))))
 refine awp_draw yMix (by kernel_rfl) ?_
 iterate 3 refine s_mv ?_
 obtain ⟨v37, hv37, hF11⟩ := bind_some' hF10
 refine s_ixT Form.row hv37 (Form.row_eq _) yE25 ?_
 refine s_ldN yA27 yS27 ?_
 iterate 3 refine s_mv ?_
 obtain ⟨v38, hv38, hF12⟩ := bind_some' hF11
 refine s_ixT Form.row hv38 (Form.row_eq _) yE25 ?_
 refine s_ldN yA27 yS27 ?_
 obtain ⟨v39, hv39, hF13⟩ := bind_some' hF12
 refine s_pure [] (ih_m_spec_l4Match fu (by omega) _ _ _ _ _ hv39) ?_
 refine s_mv ?_
 refine s_ext ?_
 refine s_ext ?_
 refine s_as ?_
 refine s_as ?_
 refine k_nilD (by kernel_rfl) ?_
 refine k_seq (awp_seq (awp_seq (awp_region ?_)))
 refine s_mv ?_
 refine s_not ?_
 refine k_nil (k_seq ?_)
 refine w_cond hF13 ?_ ?_ <;> intro hc40 hF14
 refine awp_seq (awp_region ?_)
 refine s_mv ?_
 refine s_as ?_
 refine s_as ?_
 refine k_nil (k_seq (awp_ret (k_seq_ret (k_blk_ret (k_seq_ret (k_rnd_ret2 (k_blk_ret (k_jn_ret (k_blk_ret (k_seq_ret (k_rnd_ret2 (k_blk_ret (k_seq_ret (k_fin ?_))))))))))))))
 cases hF14
 exact ends_a [] [5080] Tryz.results137
 refine awp_skip (k_seq (awp_seq (awp_region ?_)))
 refine s_mv ?_
 refine s_mv ?_
 refine s_bs (rL Hit.row) [v39.1] yP182 yR30 ?_
 obtain ⟨hk41, hF15⟩ := chk_some hF14
 refine s_apT (rL Hit.row) (fun _ => rfl) hk41 yP182 ?_
 refine s_as ?_
 refine k_nil (k_seq (awp_region ?_))
 refine s_mv ?_
 refine s_add rfl ?_
 refine s_as ?_
 refine k_nil (k_blk (k_seq (awp_region ?_)))
 refine s_mv ?_
 refine s_sub rfl ?_
 refine s_as ?_
 refine k_nil ?_
 exact s_rn (fu, (w64 (g32 + 1)), (g33 ++ [v39.1]), (w64 (g34 - 1))) ⟨by first | omega | (dsimp only; omega), hF15⟩ [(5120, 125)]
 refine awp_exit (k_seq_exit (k_rnd_exit2 (k_blk_exit ?_)))
 exact s_jn (fu, g32, g33) ⟨by first | omega | (dsimp only; omega), hF10⟩
 clear hF8
 rintro ⟨fu, g42, g43⟩ ⟨hl44, hF9⟩
 dsimp only at hl44 hF9 ⊢
 obtain _ | fu := fu
 · rw [m_spec_l4List_j5] at hF9; cases hF9
 rw [m_spec_l4List_j5] at hF9
 refine awp_region ?_
 iterate 3 refine s_mv ?_
 obtain ⟨v45, hv45, hF10⟩ := bind_some' hF9
 refine s_ixT Form.row hv45 (Form.row_eq _) yE25 ?_
 refine s_ldN yA27 yS27 ?_
 refine s_mv ?_
 refine s_mv ?_
 obtain ⟨v46, hv46, hF11⟩ := bind_some' hF10
 refine s_pure [5120] (m_spec_l4Row_ok fu _ _ _ _ hv46) ?_
 obtain ⟨hk47, hF12⟩ := chk_some hF11
 refine s_apT Hit.row (fun y => Hit.row_len y) hk47 yP30 ?_
 refine s_as ?_
 refine k_nil (k_blk (k_seq (awp_region ?_)))
 refine s_mv ?_
 refine s_add (winc2 hc21 hb22 hn_g17) ?_
 refine s_as ?_
 refine k_nil ?_
 exact s_rn (fu, (g17 + 1), (g18 ++ v46), g42) ⟨by first | omega | (dsimp only; omega), hF12, by first | omega | (dsimp only; omega)⟩ [(5080, 136)]
 refine awp_exit (k_seq_exit (k_rnd_exit2 (k_blk_exit (k_seq (awp_seq (awp_region ?_))))))
 refine s_mv ?_
 refine s_as ?_
 refine s_as ?_
 refine k_nil (k_seq (awp_ret (k_fin ?_)))
 cases hF4
 exact ends_a [] [5080] Tryz.results137
theorem m_spec_l4Match_st (fu : Nat) (ih_m_spec_l4List : ∀ k, k ≤ fu → m_spec_l4List_AC k) (ih_m_spec_l4Match : ∀ k, k ≤ fu → m_spec_l4Match_AC k) : m_spec_l4Match_AC (fu + 1) := by
 intro x1 x2 x3 x4 r hF0
 rw [m_spec_l4Match] at hF0
 refine AC_i [.t (.sl (r.1.map Hit.row)), .t (.sc (.bool r.2))] Tryz.func65 rfl Tryz.ntmps65 ?_
 intro C hC
 refine awp_seq (awp_region ?_)
 refine s_box ?_
 refine s_box ?_
 refine s_as ?_
 refine s_as ?_
 refine k_nil (k_seq (awp_seq (awp_region ?_)))
 refine s_bs Hit.row ([] : List Hit) yP30 yR40 ?_
 refine s_as ?_
 refine k_nil (k_seq (awp_seq (awp_seq (awp_region ?_))))
 refine s_fa yF27_0 ?_
 refine s_ld1 yA3 ?_
 refine s_eq ?_
 refine k_nil (k_seq ?_)
 refine w_cond hF0 ?_ ?_ <;> intro hc1 hF1
 refine awp_seq (awp_seq (awp_region ?_))
 refine s_fa yF27_1 ?_
 refine s_ld1 yA9 ?_
 refine s_eqS ?_
 refine k_nil (k_seq ?_)
 refine w_cond hF1 ?_ ?_ <;> intro hc2 hF2
 refine awp_seq (awp_region ?_)
 refine s_mv ?_
 refine s_as ?_
 refine s_as ?_
 refine k_nil (k_seq (awp_ret (k_seq_ret (k_seq_ret (k_fin ?_)))))
 cases hF2
 exact ends_a [] [11] Tryz.results65
 refine awp_skip (k_seq (awp_seq (awp_seq (awp_region ?_))))
 refine s_mv ?_
 refine s_ldW yA27 yS27 ?_
 obtain ⟨v3, hv3, hF3⟩ := bind_some' hF2
 refine s_pure [] (m_spec_l4In_ok fu _ _ _ hv3) ?_
 refine k_nil (k_seq ?_)
 refine w_cond hF3 ?_ ?_ <;> intro hc4 hF4
 refine awp_jn (α := Nat × Bool) [8, 9, 22, 23, 24, 25, 26, 27, 28, 29, 30, 31] [] [] (fun a => [(8, .ar 11), (9, .t (.sc (.bool a.2)))]) (fun a => []) (fun a => a.1 ≤ fu ∧ m_spec_l4Match_j1 a.1  a.2 = some r) ?_ ?_
 refine awp_region ?_
 refine s_mv ?_
 refine s_fa yF27_0 ?_
 refine s_ld1 yA3 ?_
 refine s_eq ?_
 refine s_mv ?_
 refine w_guard _ 26 hF4 ?_ ?_ <;> intro hc5 hF5
 refine s_mv ?_
 refine s_ldW yA27 yS27 ?_
 refine s_ldW yA27 yS27 ?_
 obtain ⟨v6, hv6, hF6⟩ := bind_some' hF5
 refine s_pure [] (m_spec_l3Same_ok fu _ _ _ _ hv6) ?_
 refine s_pkt ?_
 refine s_as ?_
 refine s_as ?_
 refine k_nil ?_
 exact s_jn (fu, v6) ⟨by first | omega | (dsimp only; omega), hF6⟩
 iterate 4 refine r_no rfl ?_
 refine s_pkf ?_
 refine s_as ?_
 refine s_as ?_
 refine k_nil ?_
 exact s_jn (fu, false) ⟨by first | omega | (dsimp only; omega), hF5⟩
 clear hF4
 rintro ⟨fu, g7⟩ ⟨hl8, hF5⟩
 dsimp only at hl8 hF5 ⊢
 obtain _ | fu := fu
 · rw [m_spec_l4Match_j1] at hF5; cases hF5
 rw [m_spec_l4Match_j1] at hF5
 refine awp_ret (k_seq_ret (k_seq_ret (k_fin ?_)))
 cases hF5
 exact ends_a [] [11] Tryz.results65
 refine awp_skip (k_seq (awp_seq (awp_region ?_)))
 refine s_mv ?_
 refine s_ldW yA27 yS27 ?_
 refine s_ldW yA27 yS27 ?_
 refine s_bld yZ40 yL40 ?_
 refine s_bs Hit.row [(Hit.mk x2 0 x4 ([] : List Hit))] yP30 yR40 ?_
 obtain ⟨hk9, hF5⟩ := chk_some hF4
 refine s_apT Hit.row (fun y => Hit.row_len y) hk9 yP30 ?_
 refine s_as ?_
 refine s_as ?_
 refine k_nil (k_seq (awp_ret (k_seq_ret (k_fin ?_))))
 cases hF5
 exact ends_a [] [37] Tryz.results65
 refine awp_skip (k_seq (awp_seq (awp_seq (awp_region ?_))))
 refine s_fa yF27_0 ?_
 refine s_ld1 yA3 ?_
 refine s_eq ?_
 refine k_nil (k_seq ?_)
 refine w_cond hF1 ?_ ?_ <;> intro hc10 hF2
 refine awp_seq (awp_region ?_)
 refine s_mv ?_
 refine s_ldW yA27 yS27 ?_
 refine s_ldW yA27 yS27 ?_
 obtain ⟨v11, hv11, hF3⟩ := bind_some' hF2
 refine s_pure [] (m_spec_FormSame_ok fu _ _ _ hv11) ?_
 refine s_as ?_
 refine s_as ?_
 refine k_nil (k_seq (awp_ret (k_seq_ret (k_fin ?_))))
 cases hF3
 exact ends_a [] [11] Tryz.results65
 refine awp_skip (k_seq (awp_seq (awp_seq (awp_region ?_))))
 refine s_fa yF27_0 ?_
 refine s_ld1 yA3 ?_
 refine s_ne ?_
 refine k_nil (k_seq ?_)
 refine w_cond hF2 ?_ ?_ <;> intro hc12 hF3
 refine awp_seq (awp_region ?_)
 refine s_mv ?_
 refine s_as ?_
 refine s_as ?_
 refine k_nil (k_seq (awp_ret (k_seq_ret (k_fin ?_))))
 cases hF3
 exact ends_a [] [11] Tryz.results65
 refine awp_skip (k_seq (awp_seq (awp_region ?_)))
 refine s_mv ?_
 refine s_fa yF27_4 ?_
 refine s_ld1 yA25 ?_
 refine s_mv ?_
 refine s_fa yF27_4 ?_
 refine s_ld1 yA25 ?_
 obtain ⟨v13, hv13, hF4⟩ := bind_some' hF3
 refine s_pure [] (ih_m_spec_l4List fu (by omega) _ _ _ _ _ hv13) ?_
 refine s_ext ?_
 refine s_ext ?_
 refine s_as ?_
 refine s_as ?_
 refine k_nil (k_seq (awp_ret (k_fin ?_)))
 cases hF4
 exact ends_a [] [] Tryz.results65
theorem m_spec_l4List_all (fuel : Nat) : m_spec_l4List_AC fuel ∧ m_spec_l4Match_AC fuel := by
 induction fuel using Nat.strongRecOn with
 | _ N ih =>
   cases N with
   | zero => exact ⟨(by intro x1 x2 x3 x4 r h; rw [m_spec_l4List] at h; cases h), (by intro x1 x2 x3 x4 r h; rw [m_spec_l4Match] at h; cases h)⟩
   | succ fu => exact ⟨m_spec_l4List_st fu (fun k hk => (ih k (by omega)).1) (fun k hk => (ih k (by omega)).2), m_spec_l4Match_st fu (fun k hk => (ih k (by omega)).1) (fun k hk => (ih k (by omega)).2)⟩
theorem m_spec_l4Match_ok (fuel : Nat) : m_spec_l4Match_AC fuel := (m_spec_l4List_all fuel).2
def m_spec_l4CopyHit_AC (fuel : Nat) : Prop := ∀ (x1 : Hit) (r : Hit), m_spec_l4CopyHit fuel x1 = some r → AC Tryz.prog 138 [.ag [.t (.sc (.int .i64 x1.name.kind)), .t (.sc (.str x1.name.name)), .t (.sc (.int .i64 x1.name.n)), .t (.sl (x1.name.scopes.map rI)), .t (.sl (x1.name.kids.map Form.row)), .t (.sc (.int .i64 x1.depth)), .t (.sc (.int .i64 x1.one.kind)), .t (.sc (.str x1.one.name)), .t (.sc (.int .i64 x1.one.n)), .t (.sl (x1.one.scopes.map rI)), .t (.sl (x1.one.kids.map Form.row)), .t (.sl (x1.many.map Hit.row))]] noOb (.ag [.t (.sc (.int .i64 r.name.kind)), .t (.sc (.str r.name.name)), .t (.sc (.int .i64 r.name.n)), .t (.sl (r.name.scopes.map rI)), .t (.sl (r.name.kids.map Form.row)), .t (.sc (.int .i64 r.depth)), .t (.sc (.int .i64 r.one.kind)), .t (.sc (.str r.one.name)), .t (.sc (.int .i64 r.one.n)), .t (.sl (r.one.scopes.map rI)), .t (.sl (r.one.kids.map Form.row)), .t (.sl (r.many.map Hit.row))]) noOb
theorem m_spec_l4CopyHit_st (fu : Nat) (ih_m_spec_l4CopyHit : ∀ k, k ≤ fu → m_spec_l4CopyHit_AC k) : m_spec_l4CopyHit_AC (fu + 1) := by
 intro x1 r hF0
 rw [m_spec_l4CopyHit] at hF0
 refine AC_i [.ag [.t (.sc (.int .i64 r.name.kind)), .t (.sc (.str r.name.name)), .t (.sc (.int .i64 r.name.n)), .t (.sl (r.name.scopes.map rI)), .t (.sl (r.name.kids.map Form.row)), .t (.sc (.int .i64 r.depth)), .t (.sc (.int .i64 r.one.kind)), .t (.sc (.str r.one.name)), .t (.sc (.int .i64 r.one.n)), .t (.sl (r.one.scopes.map rI)), .t (.sl (r.one.kids.map Form.row)), .t (.sl (r.many.map Hit.row))]] Tryz.func138 rfl Tryz.ntmps138 ?_
 intro C hC
 refine awp_seq (awp_region ?_)
 refine s_box ?_
 refine s_alloc yZ40 ?_
 refine k_nil (k_seq (awp_seq ?_))
 refine awp_draw yMix (by kernel_rfl) ?_
 refine s_fa yF40_0 ?_
 refine s_ldN yA27 yS27 ?_
 obtain ⟨v1, hv1, hF1⟩ := bind_some' hF0
 refine s_call [(9203, 2007), (9204, 12007)] [] _ _ (m_spec_l1Copy_ok fu _ _ hv1) ?_
 refine s_fa yF40_1 ?_
 refine s_ld1 yA3 ?_
 refine s_fa yF40_2 ?_
 refine s_ldN yA27 yS27 ?_
 obtain ⟨v2, hv2, hF2⟩ := bind_some' hF1
 refine s_call [(9203, 2012), (9204, 12012)] [] _ _ (m_spec_l1Copy_ok fu _ _ hv2) ?_
 refine s_bld yZ40 yL40 ?_
 refine s_alloc yZ40 ?_
 refine s_stW yS40 ?_
 refine k_nilD (by kernel_rfl) ?_
 refine k_seq (awp_seq (awp_seq (awp_region ?_)))
 refine s_as ?_
 refine k_nil (k_seq (awp_block ?_))
 refine awp_ownB 3 5020 40 [.t (.sc (.int .i64 v1.kind)), .t (.sc (.str v1.name)), .t (.sc (.int .i64 v1.n)), .ar 2007, .ar 12007, .t (.sc (.int .i64 x1.depth)), .t (.sc (.int .i64 v2.kind)), .t (.sc (.str v2.name)), .t (.sc (.int .i64 v2.n)), .ar 2012, .ar 12012, .ar 5020] yI40.choose_spec ?_
 refine awp_frame2 [4, 14, 15, 16, 17, 18, 19, 20, 21, 22, 23, 24, 25, 26, 27, 28, 29, 30, 31] [3, 5020] [29, 30] [5020] (fun a : Nat × Int × (List Hit) => a.1) (fun a : Nat × Int × (List Hit) => [(4, .t (.sc (.int .i64 a.2.1)))]) (fun a : Nat × Int × (List Hit) => [(3, .box [.t (.sc (.int .i64 v1.kind)), .t (.sc (.str v1.name)), .t (.sc (.int .i64 v1.n)), .ar 2007, .ar 12007, .t (.sc (.int .i64 x1.depth)), .t (.sc (.int .i64 v2.kind)), .t (.sc (.str v2.name)), .t (.sc (.int .i64 v2.n)), .ar 2012, .ar 12012, .ar 5020]), (5020, .arr (a.2.2.map Hit.row) 40 true)]) (fun a : Nat × Int × (List Hit) => a.1 ≤ fu ∧ m_spec_l4CopyHit_l1 a.1 x1 v1 v2 a.2.1 a.2.2 = some r ∧ 0 ≤ a.2.1) (fu, 0, ([] : List Hit)) ⟨Nat.le_refl _, hF2, by simp⟩ (by rfl) (by rfl) (fun _ => rfl) (hasF_cons (by conv => lhs; whnf) (by rfl) hasF_nil) (hasO_cons (by conv => lhs; whnf) (by rfl) (hasO_cons (by conv => lhs; whnf) (by rfl) hasO_nil)) (fresh_C hC rfl) (by repeat (first | exact freshS_args rfl | refine freshS_upd rfl ?_ | refine freshS_frame rfl ?_)) (by repeat (first | exact freshM_no | exact objs_fresh rfl | refine freshM_upd rfl ?_ | refine freshM_frame rfl ?_)) ?_
 clear hF2
 rintro ⟨fu, g3, g4⟩ ⟨hl5, hF3, hn_g3⟩
 dsimp only at hl5 hF3 hn_g3 ⊢
 obtain _ | fu := fu
 · rw [m_spec_l4CopyHit_l1] at hF3; cases hF3
 rw [m_spec_l4CopyHit_l1] at hF3
 refine awp_seq (awp_seq (awp_region ?_))
 refine s_mv ?_
 refine s_fa yF40_3 ?_
 refine s_ld1 yA30 ?_
 refine s_lenT yU30 ?_
 refine s_lt ?_
 refine k_nil (k_seq ?_)
 refine w_cond hF3 ?_ ?_ <;> intro hc6 hF4
 refine awp_lenT 16 (fun hb7 => ?_)
 refine awp_skip (k_seq (awp_seq (awp_block ?_)))
 refine awp_draw yMix (by kernel_rfl) ?_
 refine s_fa yF40_3 ?_
 refine s_ld1 yA30 ?_
 refine s_fa yF40_3 ?_
 refine s_ld1 yA30 ?_
 refine s_mv ?_
 obtain ⟨v8, hv8, hF5⟩ := bind_some' hF4
 refine s_ixT Hit.row hv8 (Hit.row_eq _) yE30 ?_
 refine s_ldN yA40 yS40 ?_
 obtain ⟨v9, hv9, hF6⟩ := bind_some' hF5
 refine s_pure [] (ih_m_spec_l4CopyHit fu (by omega) _ _ hv9) ?_
 refine s_bs Hit.row [v9] yP30 yR40 ?_
 obtain ⟨hk10, hF7⟩ := chk_some hF6
 refine s_apT Hit.row (fun y => Hit.row_len y) hk10 yP30 ?_
 refine s_fa yF40_3 ?_
 refine s_stP yS30 ?_
 refine k_nilD (by kernel_rfl) ?_
 refine k_blk (k_seq (awp_region ?_))
 refine s_mv ?_
 refine s_add (winc2 hc6 hb7 hn_g3) ?_
 refine s_as ?_
 refine k_nil ?_
 exact s_rn (fu, (g3 + 1), (g4 ++ [v9])) ⟨by first | omega | (dsimp only; omega), hF7, by first | omega | (dsimp only; omega)⟩ [(5020, 30)]
 refine awp_exit (k_seq_exit (k_rnd_exit2 (k_blk_exit (k_seq (awp_seq (awp_region ?_))))))
 refine s_ldW yA40 yS40 ?_
 refine s_stW yS40 ?_
 refine k_nil (k_seq (awp_ret (k_fin ?_)))
 cases hF4
 exact ends_gen [] [2007, 12007, 2012, 12012, 5020] (by rw [Tryz.results138]; exact (res_agg (by conv => lhs; whnf) (by conv => lhs; whnf) yA40 yS40 rfl res_nil))
theorem m_spec_l4CopyHit_all (fuel : Nat) : m_spec_l4CopyHit_AC fuel := by
 induction fuel using Nat.strongRecOn with
 | _ N ih =>
   cases N with
   | zero => exact (by intro x1 r h; rw [m_spec_l4CopyHit] at h; cases h)
   | succ fu => exact m_spec_l4CopyHit_st fu (fun k hk => (ih k (by omega)))
theorem m_spec_l4CopyHit_ok (fuel : Nat) : m_spec_l4CopyHit_AC fuel := (m_spec_l4CopyHit_all fuel)
def m_spec_l4Copy_AC (fuel : Nat) : Prop := ∀ (x1 : (List Hit)) (r : (List Hit)), m_spec_l4Copy fuel x1 = some r → AC Tryz.prog 66 [.t (.sl (x1.map Hit.row))] (objs []) (.ar 9200) (objs [(9200, .arr (r.map Hit.row) 40 true)])
theorem m_spec_l4Copy_ok (fuel : Nat) : m_spec_l4Copy_AC fuel := by
 intro x1 r hF0
 unfold m_spec_l4Copy at hF0
 refine AC_i [.ar 9200] Tryz.func66 rfl Tryz.ntmps66 ?_
 intro C hC
 refine awp_seq (awp_region ?_)
 refine s_as ?_
 refine k_nil (k_seq (awp_seq (awp_region ?_)))
 refine s_bs Hit.row ([] : List Hit) yP30 yR40 ?_
 refine s_as ?_
 refine k_nil (k_seq (awp_seq (awp_seq (awp_region ?_))))
 refine s_as ?_
 refine k_nil (k_seq (awp_block ?_))
 refine awp_mv 3 5 5020 (by conv => lhs; whnf) (by conv => lhs; whnf) rfl ?_
 refine awp_frame2 [3, 4, 6, 7, 8, 9, 10, 11, 12, 13, 14, 15, 16, 17, 18, 19] [5020] [18, 19] [5020] (fun a : Nat × (List Hit) × Int => a.1) (fun a : Nat × (List Hit) × Int => [(3, .ar 5020), (4, .t (.sc (.int .i64 a.2.2)))]) (fun a : Nat × (List Hit) × Int => [(5020, .arr (a.2.1.map Hit.row) 40 true)]) (fun a : Nat × (List Hit) × Int => a.1 ≤ fuel ∧ m_spec_l4Copy_l1 a.1 x1 a.2.1 a.2.2 = some r ∧ 0 ≤ a.2.2) (fuel, ([] : List Hit), 0) ⟨Nat.le_refl _, hF0, by simp⟩ (by rfl) (by rfl) (fun _ => rfl) (hasF_cons (by conv => lhs; whnf) (by rfl) (hasF_cons (by conv => lhs; whnf) (by rfl) hasF_nil)) (hasO_cons (by conv => lhs; whnf) (by rfl) hasO_nil) (fresh_C hC rfl) (by repeat (first | exact freshS_args rfl | refine freshS_upd rfl ?_ | refine freshS_frame rfl ?_)) (by repeat (first | exact freshM_no | exact objs_fresh rfl | refine freshM_upd rfl ?_ | refine freshM_frame rfl ?_)) ?_
 clear hF0
 rintro ⟨fu, g1, g2⟩ ⟨hl3, hF1, hn_g2⟩
 dsimp only at hl3 hF1 hn_g2 ⊢
 obtain _ | fu := fu
 · rw [m_spec_l4Copy_l1] at hF1; cases hF1
 rw [m_spec_l4Copy_l1] at hF1
 refine awp_seq (awp_seq (awp_region ?_))
 refine s_mv ?_
 refine s_mv ?_
 refine s_lenT yU30 ?_
 refine s_lt ?_
 refine k_nil (k_seq ?_)
 refine w_cond hF1 ?_ ?_ <;> intro hc4 hF2
 refine awp_lenT 0 (fun hb5 => ?_)
 refine awp_skip (k_seq (awp_seq (awp_block (awp_region ?_))))
 iterate 3 refine s_mv ?_
 obtain ⟨v6, hv6, hF3⟩ := bind_some' hF2
 refine s_ixT Hit.row hv6 (Hit.row_eq _) yE30 ?_
 refine s_ldN yA40 yS40 ?_
 obtain ⟨v7, hv7, hF4⟩ := bind_some' hF3
 refine s_pure [] (m_spec_l4CopyHit_ok fu _ _ hv7) ?_
 refine s_bs Hit.row [v7] yP30 yR40 ?_
 obtain ⟨hk8, hF5⟩ := chk_some hF4
 refine s_apT Hit.row (fun y => Hit.row_len y) hk8 yP30 ?_
 refine s_as ?_
 refine k_nil (k_blk (k_seq (awp_region ?_)))
 refine s_mv ?_
 refine s_add (winc2 hc4 hb5 hn_g2) ?_
 refine s_as ?_
 refine k_nil ?_
 exact s_rn (fu, (g1 ++ [v7]), (g2 + 1)) ⟨by first | omega | (dsimp only; omega), hF5, by first | omega | (dsimp only; omega)⟩ [(5020, 19)]
 refine awp_exit (k_seq_exit (k_rnd_exit2 (k_blk_exit (k_seq (awp_seq (awp_region ?_))))))
 refine s_mv ?_
 refine s_as ?_
 refine k_nil (k_seq ?_)
 refine awp_mv 2 5020 9200 (by conv => lhs; whnf) (by conv => lhs; whnf) rfl ?_
 refine awp_ret (k_fin ?_)
 cases hF2
 exact ends_a _ [] Tryz.results66
def m_spec_MatchPattern_AC (fuel : Nat) : Prop := ∀ (x1 : (List Bind)) (x2 : Form) (x3 : (List Form)) (x4 : Form) (r : ((List Hit) × Bool)), m_spec_MatchPattern fuel x1 x2 x3 x4 = some r → AC Tryz.prog 15 [.t (.sl (x1.map Bind.row)), .ag [.t (.sc (.int .i64 x2.kind)), .t (.sc (.str x2.name)), .t (.sc (.int .i64 x2.n)), .t (.sl (x2.scopes.map rI)), .t (.sl (x2.kids.map Form.row))], .t (.sl (x3.map Form.row)), .ag [.t (.sc (.int .i64 x4.kind)), .t (.sc (.str x4.name)), .t (.sc (.int .i64 x4.n)), .t (.sl (x4.scopes.map rI)), .t (.sl (x4.kids.map Form.row))]] (objs []) (.tp [.ar 9200, .t (.sc (.bool r.2))]) (objs [(9200, .arr (r.1.map Hit.row) 40 true)])
theorem m_spec_MatchPattern_ok (fuel : Nat) : m_spec_MatchPattern_AC fuel := by
 intro x1 x2 x3 x4 r hF0
 unfold m_spec_MatchPattern at hF0
 refine AC_i [.ar 9200, .t (.sc (.bool r.2))] Tryz.func15 rfl Tryz.ntmps15 ?_
 intro C hC
 refine awp_seq (awp_region ?_)
 refine s_box ?_
 refine s_box ?_
 refine s_as ?_
 refine s_as ?_
 refine k_nil (k_seq (awp_seq ?_))
 refine awp_jn (α := Nat × Bool) [12, 13, 14, 15, 16, 17, 18, 19, 20, 21, 22, 23, 24, 25] [] [] (fun a => [(25, .t (.sc (.bool a.2)))]) (fun a => []) (fun a => a.1 ≤ fuel ∧ m_spec_MatchPattern_j1 a.1 x1 x2 x3 x4 a.2 = some r) ?_ ?_
 refine awp_region ?_
 refine s_mv ?_
 obtain ⟨v1, hv1, hF1⟩ := bind_some' hF0
 refine s_pure [] (m_spec_BindsValid_ok fuel _ _ hv1) ?_
 refine s_not ?_
 refine s_mv ?_
 refine w_guard _ 15 hF1 ?_ ?_ <;> intro hc2 hF2
 iterate 4 refine r_no rfl ?_
 refine s_pkt ?_
 refine s_mv ?_
 iterate 3 refine r_no rfl ?_
 refine s_pkt ?_
 refine k_nil ?_
 exact s_jn (fuel, true) ⟨by first | omega | (dsimp only; omega), hF2⟩
 refine s_ldW yA27 yS27 ?_
 refine s_mv ?_
 obtain ⟨v3, hv3, hF3⟩ := bind_some' hF2
 refine s_pure [] (m_spec_l4Is_ok fuel _ _ _ hv3) ?_
 refine s_not ?_
 refine s_pkf ?_
 refine s_mv ?_
 refine w_guard _ 21 hF3 ?_ ?_ <;> intro hc4 hF4
 iterate 3 refine r_no rfl ?_
 refine s_pkt ?_
 refine k_nil ?_
 exact s_jn (fuel, true) ⟨by first | omega | (dsimp only; omega), hF4⟩
 refine s_ldW yA27 yS27 ?_
 obtain ⟨v5, hv5, hF5⟩ := bind_some' hF4
 refine s_pure [] (m_spec_FormValid_ok fuel _ _ hv5) ?_
 refine s_not ?_
 refine s_pkf ?_
 refine k_nil ?_
 exact s_jn (fuel, (!v5)) ⟨by first | omega | (dsimp only; omega), hF5⟩
 clear hF0
 rintro ⟨fu, g6⟩ ⟨hl7, hF1⟩
 dsimp only at hl7 hF1 ⊢
 obtain _ | fu := fu
 · rw [m_spec_MatchPattern_j1] at hF1; cases hF1
 rw [m_spec_MatchPattern_j1] at hF1
 refine w_cond hF1 ?_ ?_ <;> intro hc8 hF2
 refine awp_seq (awp_region ?_)
 refine s_bs Hit.row ([] : List Hit) yP30 yR40 ?_
 refine s_as ?_
 refine s_as ?_
 refine k_nil (k_seq ?_)
 refine awp_mv 8 26 9200 (by conv => lhs; whnf) (by conv => lhs; whnf) rfl ?_
 refine awp_ret (k_seq_ret (k_fin ?_))
 cases hF2
 exact ends_a _ [] Tryz.results15
 refine awp_skip (k_seq (awp_seq (awp_region ?_)))
 refine s_mv ?_
 refine s_ldW yA27 yS27 ?_
 refine s_mv ?_
 refine s_ldW yA27 yS27 ?_
 obtain ⟨v9, hv9, hF3⟩ := bind_some' hF2
 refine s_pure [] (m_spec_l4Match_ok fu _ _ _ _ _ hv9) ?_
 refine s_mv ?_
 refine s_ext ?_
 refine s_ext ?_
 refine s_as ?_
 refine s_as ?_
 refine k_nil (k_seq (awp_seq (awp_seq (awp_region ?_))))
 refine s_mv ?_
 refine s_not ?_
 refine k_nil (k_seq ?_)
 refine w_cond hF3 ?_ ?_ <;> intro hc10 hF4
 refine awp_seq (awp_region ?_)
 refine s_bs Hit.row ([] : List Hit) yP30 yR40 ?_
 refine s_as ?_
 refine s_as ?_
 refine k_nil (k_seq ?_)
 refine awp_mv 8 37 9200 (by conv => lhs; whnf) (by conv => lhs; whnf) rfl ?_
 refine awp_ret (k_seq_ret (k_fin ?_))
 cases hF4
 exact ends_a _ [] Tryz.results15
 refine awp_skip (k_seq (awp_seq (awp_region ?_)))
 refine s_mv ?_
 obtain ⟨v11, hv11, hF5⟩ := bind_some' hF4
 refine s_call [(9200, 2039)] [] _ _ (m_spec_l4Copy_ok fu _ _ hv11) ?_
 refine s_as ?_
 refine s_as ?_
 refine k_nil (k_seq ?_)
 refine awp_mv 8 2039 9200 (by conv => lhs; whnf) (by conv => lhs; whnf) rfl ?_
 refine awp_ret (k_fin ?_)
 cases hF5
 exact ends_a _ [] Tryz.results15
def m_slices_Index_string_AC (fuel : Nat) : Prop := ∀ (x1 : (List ByteArray)) (x2 : ByteArray) (r : Int), m_slices_Index_string fuel x1 x2 = some r → AC Tryz.prog 145 [.t (.sl (x1.map rS)), .t (.sc (.str x2))] noOb (.t (.sc (.int .i64 r))) noOb
theorem m_slices_Index_string_ok (fuel : Nat) : m_slices_Index_string_AC fuel := by
 intro x1 x2 r hF0
 unfold m_slices_Index_string at hF0
 refine AC_i [.t (.sc (.int .i64 r))] Tryz.func145 rfl Tryz.ntmps145 ?_
 intro C hC
 refine awp_seq (awp_region ?_)
 refine s_as ?_
 refine k_nil (k_seq (awp_seq (awp_seq (awp_region ?_))))
 refine s_mv ?_
 refine s_lenT yU36 ?_
 refine s_mv ?_
 refine k_nil (k_seq (awp_block ?_))
 refine awp_fr (β := Int) [4, 5, 8, 9, 10, 11, 12, 13, 14, 15, 16, 17, 18] [] [] (fun a => [(8, .t (.sc (.int .i64 a.2)))]) (fun a => []) (fun a => a.1 ≤ fuel ∧ m_slices_Index_string_l1 a.1 x1 x2 a.2 = some r ∧ 0 ≤ a.2) (fuel, 0) ⟨Nat.le_refl _, hF0, by simp⟩ ?_
 clear hF0
 rintro ⟨fu, g1⟩ ⟨hl2, hF1, hn_g1⟩
 dsimp only at hl2 hF1 hn_g1 ⊢
 obtain _ | fu := fu
 · rw [m_slices_Index_string_l1] at hF1; cases hF1
 rw [m_slices_Index_string_l1] at hF1
 refine awp_seq (awp_region ?_)
 refine s_lt ?_
 refine k_nil (k_seq (awp_seq ?_))
 refine w_cond hF1 ?_ ?_ <;> intro hc3 hF2
 refine awp_lenT 0 (fun hb4 => ?_)
 refine awp_skip (k_seq (awp_seq (awp_block (awp_seq (awp_region ?_)))))
 refine s_mv ?_
 refine s_as ?_
 refine k_nil (k_seq (awp_seq (awp_region ?_)))
 iterate 3 refine s_mv ?_
 obtain ⟨v5, hv5, hF3⟩ := bind_some' hF2
 refine s_ixT rS hv5 rfl yE36 ?_
 refine s_ld1 yA9 ?_
 refine s_eqS ?_
 refine k_nil (k_seq ?_)
 refine w_cond hF3 ?_ ?_ <;> intro hc6 hF4
 refine awp_seq (awp_region ?_)
 refine s_mv ?_
 refine s_as ?_
 refine k_nil (k_seq (awp_ret (k_blk_ret (k_seq_ret (k_rnd_ret2 (k_blk_ret (k_seq_ret (k_fin ?_))))))))
 cases hF4
 exact ends_a [] [] Tryz.results145
 refine awp_skip (k_blk (k_seq (awp_region ?_)))
 refine s_add (winc2 hc3 hb4 hn_g1) ?_
 refine s_mv ?_
 refine k_nil ?_
 exact s_rn (fu, (g1 + 1)) ⟨by first | omega | (dsimp only; omega), hF4, by first | omega | (dsimp only; omega)⟩
 refine awp_exit (k_seq_exit (k_rnd_exit2 (k_blk_exit (k_seq (awp_seq (awp_region ?_))))))
 refine s_as ?_
 refine k_nil (k_seq (awp_ret (k_fin ?_)))
 cases hF2
 exact ends_a [] [] Tryz.results145
def m_slices_Contains_string_AC (fuel : Nat) : Prop := ∀ (x1 : (List ByteArray)) (x2 : ByteArray) (r : Bool), m_slices_Contains_string fuel x1 x2 = some r → AC Tryz.prog 80 [.t (.sl (x1.map rS)), .t (.sc (.str x2))] noOb (.t (.sc (.bool r))) noOb
theorem m_slices_Contains_string_ok (fuel : Nat) : m_slices_Contains_string_AC fuel := by
 intro x1 x2 r hF0
 unfold m_slices_Contains_string at hF0
 refine AC_i [.t (.sc (.bool r))] Tryz.func80 rfl Tryz.ntmps80 ?_
 intro C hC
 refine awp_seq (awp_region ?_)
 refine s_as ?_
 refine k_nil (k_seq (awp_seq (awp_region ?_)))
 refine s_mv ?_
 refine s_mv ?_
 obtain ⟨v1, hv1, hF1⟩ := bind_some' hF0
 refine s_pure [] (m_slices_Index_string_ok fuel _ _ _ hv1) ?_
 refine s_ge ?_
 refine s_as ?_
 refine k_nil (k_seq (awp_ret (k_fin ?_)))
 cases hF1
 exact ends_a [] [] Tryz.results80
def m_impl_NamesOf_1_AC (fuel : Nat) : Prop := ∀ (x1 : Form) (o1 : (List ByteArray)) (r : (List ByteArray)), m_impl_NamesOf_1 fuel x1 o1 = some r → AC Tryz.prog 79 [.ag [.t (.sc (.int .i64 x1.kind)), .t (.sc (.str x1.name)), .t (.sc (.int .i64 x1.n)), .t (.sl (x1.scopes.map rI)), .t (.sl (x1.kids.map Form.row))], .rf 9000 0] (objs [(9000, .box [.ar 9420]), (9420, .arr (o1.map rS) 9 false)]) (.tp []) (objs [(9000, .box [.ar 10420]), (9420, .dead), (10420, .arr (r.map rS) 9 false)])
theorem m_impl_NamesOf_1_ok (fuel : Nat) : m_impl_NamesOf_1_AC fuel := by
 intro x1 o1 r hF0
 unfold m_impl_NamesOf_1 at hF0
 refine AC_i [] Tryz.func79 rfl Tryz.ntmps79 ?_
 intro C hC
 refine awp_thw ?_
 refine awp_seq (awp_region ?_)
 refine s_box ?_
 refine k_nil (k_seq (awp_seq (awp_region ?_)))
 refine s_fa yF27_0 ?_
 refine s_ld1 yA3 ?_
 refine s_eq ?_
 refine s_mv ?_
 refine w_guard _ 6 hF0 ?_ ?_ <;> intro hc1 hF1
 refine s_ld1 yA36 ?_
 refine s_fa yF27_1 ?_
 refine s_ld1 yA9 ?_
 obtain ⟨v2, hv2, hF2⟩ := bind_some' hF1
 refine s_pure [9420] (m_slices_Contains_string_ok fuel _ _ _ hv2) ?_
 refine s_not ?_
 refine s_pkt ?_
 refine k_nil (k_seq ?_)
 refine w_cond hF2 ?_ ?_ <;> intro hc3 hF3
 refine awp_region ?_
 refine s_ld1 yA36 ?_
 refine s_fa yF27_1 ?_
 refine s_ld1 yA9 ?_
 refine s_bs rS [x1.name] yP36 yR9 ?_
 obtain ⟨hk4, hF4⟩ := chk_some hF3
 refine s_apF rS (fun _ => rfl) hk4 yP36 ?_
 refine s_stW yS36 ?_
 refine k_nil ?_
 refine thw_mvB 9000 17 10420 [.ar 10420] ?_
 refine thw_kill 9420 rfl ?_
 refine thw_id ?_
 refine k_fin_end ?_
 cases hF4
 exact ends_a _ [] Tryz.results79
 refine awp_mvB 9000 9420 10420 [.ar 10420] ?_
 refine awp_skip ?_
 refine thw_id ?_
 refine k_fin_end ?_
 cases hF3
 exact ends_a _ [] Tryz.results79
 iterate 5 refine r_no rfl ?_
 refine s_pkf ?_
 refine k_nil (k_seq (awp_false rfl ?_))
 refine awp_mvB 9000 9420 10420 [.ar 10420] ?_
 refine awp_skip ?_
 refine thw_id ?_
 refine k_fin_end ?_
 cases hF1
 exact ends_a _ [] Tryz.results79
def m_impl_eachForm_NamesOf_1_AC (fuel : Nat) : Prop := ∀ (x1 : Form) (o1 : (List ByteArray)) (r : (List ByteArray)), m_impl_eachForm_NamesOf_1 fuel x1 o1 = some r → AC Tryz.prog 78 [.ag [.t (.sc (.int .i64 x1.kind)), .t (.sc (.str x1.name)), .t (.sc (.int .i64 x1.n)), .t (.sl (x1.scopes.map rI)), .t (.sl (x1.kids.map Form.row))], .fn 79 [.rf 9000 0]] (objs [(9000, .box [.ar 9420]), (9420, .arr (o1.map rS) 9 false)]) (.tp []) (objs [(9000, .box [.ar 10420]), (9420, .dead), (10420, .arr (r.map rS) 9 false)])
theorem m_impl_eachForm_NamesOf_1_st (fu : Nat) (ih_m_impl_eachForm_NamesOf_1 : ∀ k, k ≤ fu → m_impl_eachForm_NamesOf_1_AC k) : m_impl_eachForm_NamesOf_1_AC (fu + 1) := by
 intro x1 o1 r hF0
 rw [m_impl_eachForm_NamesOf_1] at hF0
 refine AC_i [] Tryz.func78 rfl Tryz.ntmps78 ?_
 intro C hC
 refine awp_seq (awp_region ?_)
 refine s_box ?_
 refine k_nil (k_seq (awp_seq (awp_region ?_)))
 refine s_mv ?_
 refine s_ldW yA27 yS27 ?_
 obtain ⟨v1, hv1, hF1⟩ := bind_some' hF0
 refine s_call [(9000, 9000), (9420, 9420), (10420, 22008)] [] _ _ (m_impl_NamesOf_1_ok fu _ _ _ hv1) ?_
 refine k_nil (k_seq (awp_seq (awp_region ?_)))
 refine s_fa yF27_4 ?_
 refine s_ld1 yA25 ?_
 refine s_lenT yU25 ?_
 refine s_mv ?_
 refine k_nil (k_seq (awp_block ?_))
 refine awp_mvB 9000 22008 5020 [.ar 5020] ?_
 refine awp_frame2 [5, 12, 13, 14, 15, 16, 17, 18, 19] [5020, 9000] [5, 22018] [5020] (fun a : Nat × Int × (List ByteArray) => a.1) (fun a : Nat × Int × (List ByteArray) => [(12, .t (.sc (.int .i64 a.2.1)))]) (fun a : Nat × Int × (List ByteArray) => [(5020, .arr (a.2.2.map rS) 9 false), (9000, .box [.ar 5020])]) (fun a : Nat × Int × (List ByteArray) => a.1 ≤ fu ∧ m_impl_eachForm_NamesOf_1_l1 a.1 x1 a.2.1 a.2.2 = some r ∧ 0 ≤ a.2.1) (fu, 0, v1) ⟨Nat.le_refl _, hF1, by simp⟩ (by rfl) (by rfl) (fun _ => rfl) (hasF_cons (by conv => lhs; whnf) (by rfl) hasF_nil) (hasO_cons (by conv => lhs; whnf) (by rfl) (hasO_cons (by conv => lhs; whnf) (by rfl) hasO_nil)) (fresh_C hC rfl) (by repeat (first | exact freshS_args rfl | refine freshS_upd rfl ?_ | refine freshS_frame rfl ?_)) (by repeat (first | exact freshM_no | exact objs_fresh rfl | refine freshM_upd rfl ?_ | refine freshM_frame rfl ?_)) ?_
 clear hF1
 rintro ⟨fu, g2, g3⟩ ⟨hl4, hF2, hn_g2⟩
 dsimp only at hl4 hF2 hn_g2 ⊢
 obtain _ | fu := fu
 · rw [m_impl_eachForm_NamesOf_1_l1] at hF2; cases hF2
 rw [m_impl_eachForm_NamesOf_1_l1] at hF2
 refine awp_seq (awp_region ?_)
 refine s_lt ?_
 refine k_nil (k_seq (awp_seq ?_))
 refine w_cond hF2 ?_ ?_ <;> intro hc5 hF3
 refine awp_lenT 10 (fun hb6 => ?_)
 refine awp_skip (k_seq (awp_seq (awp_block (awp_seq (awp_region ?_)))))
 obtain ⟨v7, hv7, hF4⟩ := bind_some' hF3
 refine s_ixT Form.row hv7 (Form.row_eq _) yE25 ?_
 refine s_ldN yA27 yS27 ?_
 refine s_alloc yZ27 ?_
 refine s_stW yS27 ?_
 refine k_nil (k_seq (awp_region ?_))
 refine s_ldW yA27 yS27 ?_
 refine s_mv ?_
 obtain ⟨v8, hv8, hF5⟩ := bind_some' hF4
 refine s_call [(9000, 9000), (9420, 5020), (10420, 22018)] [] _ _ (ih_m_impl_eachForm_NamesOf_1 fu (by omega) _ _ _ hv8) ?_
 refine k_nil (k_blk (k_seq (awp_region ?_)))
 refine s_add (winc2 hc5 hb6 hn_g2) ?_
 refine s_mv ?_
 refine k_nil ?_
 exact s_rn (fu, (g2 + 1), v8) ⟨by first | omega | (dsimp only; omega), hF5, by first | omega | (dsimp only; omega)⟩ [(5020, 22018)]
 refine awp_mvB 9000 5020 10420 [.ar 10420] ?_
 refine awp_exit (k_seq_exit (k_rnd_exit2 (k_blk_exit (k_fin_end ?_))))
 cases hF3
 exact ends_a _ [] Tryz.results78
end Go.Abs
