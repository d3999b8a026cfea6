/- A part of the proof: what the functions that the law calls answer, as pure values. -/
import Derived.Test.YtbkdbbfgdjcfgaaK00b9e8259e4a
import Derived.Test.YtbkdbbfgdjcfgaaK0759272d1096
import Derived.Test.YtbkdbbfgdjcfgaaK1dbd5033339e
import Derived.Test.YtbkdbbfgdjcfgaaK55104e13721b
import Derived.Test.YtbkdbbfgdjcfgaaK8c4ce054681f
import Derived.Test.YtbkdbbfgdjcfgaaKe8177d545ea5
set_option linter.unusedSimpArgs false
set_option linter.unusedVariables false
set_option maxRecDepth 100000
set_option maxHeartbeats 4000000
namespace Go.Abs
open Go.Proofs
theorem m_spec_l15OwnListForm_st (fu : Nat) (ih_m_spec_l15OwnForm : ∀ k, k ≤ fu → m_spec_l15OwnForm_AC k) (ih_m_spec_l15OwnListForm : ∀ k, k ≤ fu → m_spec_l15OwnListForm_AC k) : m_spec_l15OwnListForm_AC (fu + 1) := by
 intro x1 r hF0
 rw [m_spec_l15OwnListForm] at hF0
 refine AC_i [.t (.sl (r.map Form.row))] Try.func129 rfl Try.ntmps129 ?_
 intro C hC
 refine awp_seq (awp_region ?_)
 refine s_as ?_
 refine k_nil (k_seq (awp_seq (awp_region ?_)))
 refine s_bs Form.row ([] : List Form) yP32 yR34 ?_
 refine s_as ?_
 refine k_nil (k_seq (awp_seq (awp_seq (awp_region ?_))))
 refine s_mv ?_
 refine s_lenT yU32 ?_
 refine s_mv ?_
 refine k_nil (k_seq (awp_block ?_))
 refine awp_mv 3 6 5020 (by conv => lhs; whnf) (by conv => lhs; whnf) rfl ?_
 refine awp_frame2 [3, 5, 9, 10, 11, 12, 13, 14, 15, 16, 17, 18] [5020] [5, 16, 17] [5020] (fun a : Nat × (List Form) × Int => a.1) (fun a : Nat × (List Form) × Int => [(3, .ar 5020), (9, .t (.sc (.int .i64 a.2.2)))]) (fun a : Nat × (List Form) × Int => [(5020, .arr (a.2.1.map Form.row) 34 true)]) (fun a : Nat × (List Form) × Int => a.1 ≤ fu ∧ m_spec_l15OwnListForm_l1 a.1 x1 a.2.1 a.2.2 = some r ∧ 0 ≤ a.2.2) (fu, ([] : List Form), 0) ⟨Nat.le_refl _, hF0, by simp⟩ (by rfl) (by rfl) (fun _ => rfl) (hasF_cons (by conv => lhs; whnf) (by rfl) (hasF_cons (by conv => lhs; whnf) (by rfl) hasF_nil)) (hasO_cons (by conv => lhs; whnf) (by rfl) hasO_nil) (fresh_C hC rfl) (by repeat (first | exact freshS_args rfl | refine freshS_upd rfl ?_ | refine freshS_frame rfl ?_)) (by repeat (first | exact freshM_no | exact objs_fresh rfl | refine freshM_upd rfl ?_ | refine freshM_frame rfl ?_)) ?_
 clear hF0
 rintro ⟨fu, g1, g2⟩ ⟨hl3, hF1, hn_g2⟩
 dsimp only at hl3 hF1 hn_g2 ⊢
 obtain _ | fu := fu
 · rw [m_spec_l15OwnListForm_l1] at hF1; cases hF1
 rw [m_spec_l15OwnListForm_l1] at hF1
 refine awp_seq (awp_region ?_)
 refine s_lt ?_
 refine k_nil (k_seq (awp_seq ?_))
 refine w_cond hF1 ?_ ?_ <;> intro hc4 hF2
 refine awp_lenT 0 (fun hb5 => ?_)
 refine awp_skip (k_seq (awp_seq (awp_block (awp_seq (awp_region ?_)))))
 obtain ⟨v6, hv6, hF3⟩ := bind_some' hF2
 refine s_ixT Form.row hv6 (Form.row_eq _) yE32 ?_
 refine s_ldN yA34 yS34 ?_
 refine s_alloc yZ34 ?_
 refine s_stW yS34 ?_
 refine k_nil (k_seq (awp_region ?_))
 refine s_mv ?_
 refine s_ldW yA34 yS34 ?_
 obtain ⟨v7, hv7, hF4⟩ := bind_some' hF3
 refine s_pure [] (ih_m_spec_l15OwnForm fu (by omega) _ _ hv7) ?_
 refine s_bs Form.row [v7] yP32 yR34 ?_
 obtain ⟨hk8, hF5⟩ := chk_some hF4
 refine s_apT Form.row (fun y => Form.row_len y) hk8 yP32 ?_
 refine s_as ?_
 refine k_nil (k_blk (k_seq (awp_region ?_)))
 refine s_add (winc2 hc4 hb5 hn_g2) ?_
 refine s_mv ?_
 refine k_nil ?_
 exact s_rn (fu, (g1 ++ [v7]), (g2 + 1)) ⟨by first | omega | (dsimp only; omega), hF5, by first | omega | (dsimp only; omega)⟩ [(5020, 17)]
 refine awp_exit (k_seq_exit (k_rnd_exit2 (k_blk_exit (k_seq (awp_seq (awp_region ?_))))))
 refine s_mv ?_
 refine s_as ?_
 refine k_nil (k_seq (awp_ret (k_fin ?_)))
 cases hF2
 exact ends_a [] [5020] Try.results129
theorem m_spec_l15OwnForm_all (fuel : Nat) : m_spec_l15OwnForm_AC fuel ∧ m_spec_l15OwnListForm_AC fuel := by
 induction fuel using Nat.strongRecOn with
 | _ N ih =>
   cases N with
   | zero => exact ⟨(by intro x1 r h; rw [m_spec_l15OwnForm] at h; cases h), (by intro x1 r h; rw [m_spec_l15OwnListForm] at h; cases h)⟩
   | succ fu => exact ⟨m_spec_l15OwnForm_st fu (fun k hk => (ih k (by omega)).1) (fun k hk => (ih k (by omega)).2), m_spec_l15OwnListForm_st fu (fun k hk => (ih k (by omega)).1) (fun k hk => (ih k (by omega)).2)⟩
theorem m_spec_l15OwnForm_ok (fuel : Nat) : m_spec_l15OwnForm_AC fuel := (m_spec_l15OwnForm_all fuel).1
def m_spec_TemplateValid_AC (fuel : Nat) : Prop := ∀ (x1 : Form) (x2 : (List Hit)) (r : Bool), m_spec_TemplateValid fuel x1 x2 = some r → AC Try.prog 106 [.ag [.t (.sc (.int .i64 x1.kind)), .t (.sc (.str x1.name)), .t (.sc (.int .i64 x1.n)), .t (.sl (x1.scopes.map rI)), .t (.sl (x1.kids.map Form.row))], .t (.sl (x2.map Hit.row))] noOb (.t (.sc (.bool r))) noOb
theorem m_spec_TemplateValid_ok (fuel : Nat) : m_spec_TemplateValid_AC fuel := by
 intro x1 x2 r hF0
 unfold m_spec_TemplateValid at hF0
 refine AC_i [.t (.sc (.bool r))] Try.func106 rfl Try.ntmps106 ?_
 intro C hC
 refine awp_seq (awp_region ?_)
 refine s_box ?_
 refine s_as ?_
 refine k_nil (k_seq (awp_seq (awp_region ?_)))
 refine s_ldW yA34 yS34 ?_
 obtain ⟨v1, hv1, hF1⟩ := bind_some' hF0
 refine s_pure [] (m_spec_FormValid_ok fuel _ _ hv1) ?_
 refine s_mv ?_
 refine w_guard _ 7 hF1 ?_ ?_ <;> intro hc2 hF2
 refine s_mv ?_
 obtain ⟨v3, hv3, hF3⟩ := bind_some' hF2
 refine s_pure [] (m_spec_HitsValid_ok fuel _ _ hv3) ?_
 refine s_pkt ?_
 refine s_mv ?_
 refine w_guard _ 11 hF3 ?_ ?_ <;> intro hc4 hF4
 refine s_ldW yA34 yS34 ?_
 refine s_mv ?_
 obtain ⟨v5, hv5, hF5⟩ := bind_some' hF4
 refine s_pure [] (m_spec_l5Is_ok fuel _ _ _ hv5) ?_
 refine s_pkt ?_
 refine s_as ?_
 refine k_nil (k_seq (awp_ret (k_fin ?_)))
 cases hF5
 exact ends_a [] [] Try.results106
 iterate 3 refine r_no rfl ?_
 refine s_pkf ?_
 refine s_as ?_
 refine k_nil (k_seq (awp_ret (k_fin ?_)))
 cases hF4
 exact ends_a [] [] Try.results106
 refine r_no rfl (r_no rfl ?_)
 refine s_pkf ?_
 refine s_mv ?_
 iterate 3 refine r_no rfl ?_
 refine s_pkf ?_
 refine s_as ?_
 refine k_nil (k_seq (awp_ret (k_fin ?_)))
 cases hF2
 exact ends_a [] [] Try.results106
def m_spec_l5Uses_AC (fuel : Nat) : Prop := ∀ (x1 : Form) (x2 : Form) (r : Bool), m_spec_l5Uses fuel x1 x2 = some r → AC Try.prog 177 [.ag [.t (.sc (.int .i64 x1.kind)), .t (.sc (.str x1.name)), .t (.sc (.int .i64 x1.n)), .t (.sl (x1.scopes.map rI)), .t (.sl (x1.kids.map Form.row))], .ag [.t (.sc (.int .i64 x2.kind)), .t (.sc (.str x2.name)), .t (.sc (.int .i64 x2.n)), .t (.sl (x2.scopes.map rI)), .t (.sl (x2.kids.map Form.row))]] noOb (.t (.sc (.bool r))) noOb
theorem m_spec_l5Uses_st (fu : Nat) (ih_m_spec_l5Uses : ∀ k, k ≤ fu → m_spec_l5Uses_AC k) : m_spec_l5Uses_AC (fu + 1) := by
 intro x1 x2 r hF0
 rw [m_spec_l5Uses] at hF0
 refine AC_i [.t (.sc (.bool r))] Try.func177 rfl Try.ntmps177 ?_
 intro C hC
 refine awp_seq (awp_region ?_)
 refine s_box ?_
 refine s_box ?_
 refine s_as ?_
 refine k_nil (k_seq ?_)
 refine awp_jn (α := Nat) [4, 6, 7, 8, 9, 10, 11, 12, 13] [] [] (fun a => []) (fun a => []) (fun a => a ≤ fu ∧ m_spec_l5Uses_j1 a x1 x2  = some r) ?_ ?_
 refine awp_seq (awp_region ?_)
 refine s_fa yF34_0 ?_
 refine s_ld1 yA3 ?_
 refine s_eq ?_
 refine s_mv ?_
 refine w_guard _ 9 hF0 ?_ ?_ <;> intro hc1 hF1
 refine s_ldW yA34 yS34 ?_
 refine s_ldW yA34 yS34 ?_
 obtain ⟨v2, hv2, hF2⟩ := bind_some' hF1
 refine s_pure [] (m_spec_FormSame_ok fu _ _ _ hv2) ?_
 refine s_pkt ?_
 refine k_nil (k_seq ?_)
 refine w_cond hF2 ?_ ?_ <;> intro hc3 hF3
 refine awp_seq (awp_region ?_)
 refine s_as ?_
 refine k_nil (k_seq (awp_ret (k_jn_ret (k_fin ?_))))
 cases hF3
 exact ends_a [] [] Try.results177
 refine awp_skip ?_
 exact s_jn (fu) ⟨by first | omega | (dsimp only; omega), hF3⟩
 iterate 3 refine r_no rfl ?_
 refine s_pkf ?_
 refine k_nil (k_seq (awp_false rfl (awp_skip ?_)))
 exact s_jn (fu) ⟨by first | omega | (dsimp only; omega), hF1⟩
 clear hF0
 rintro fu ⟨hl4, hF1⟩
 obtain _ | fu := fu
 · rw [m_spec_l5Uses_j1] at hF1; cases hF1
 rw [m_spec_l5Uses_j1] at hF1
 refine awp_seq (awp_seq (awp_region ?_))
 refine s_as ?_
 refine k_nil (k_seq (awp_block ?_))
 refine awp_fr (β := Int) [4, 5, 14, 15, 16, 17, 18, 19, 20, 21, 22, 23, 24, 25, 26, 27] [] [] (fun a => [(5, .t (.sc (.int .i64 a.2)))]) (fun a => []) (fun a => a.1 ≤ fu ∧ m_spec_l5Uses_l2 a.1 x1 x2 a.2 = some r ∧ 0 ≤ a.2) (fu, 0) ⟨Nat.le_refl _, hF1, by simp⟩ ?_
 clear hF1
 rintro ⟨fu, g5⟩ ⟨hl6, hF2, hn_g5⟩
 dsimp only at hl6 hF2 hn_g5 ⊢
 obtain _ | fu := fu
 · rw [m_spec_l5Uses_l2] at hF2; cases hF2
 rw [m_spec_l5Uses_l2] at hF2
 refine awp_seq (awp_seq (awp_region ?_))
 refine s_mv ?_
 refine s_fa yF34_4 ?_
 refine s_ld1 yA32 ?_
 refine s_lenT yU32 ?_
 refine s_lt ?_
 refine k_nil (k_seq ?_)
 refine w_cond hF2 ?_ ?_ <;> intro hc7 hF3
 refine awp_lenT 16 (fun hb8 => ?_)
 refine awp_skip (k_seq (awp_seq (awp_block (awp_seq ?_))))
 refine awp_draw yMix (by kernel_rfl) ?_
 refine s_fa yF34_4 ?_
 refine s_ld1 yA32 ?_
 refine s_mv ?_
 obtain ⟨v9, hv9, hF4⟩ := bind_some' hF3
 refine s_ixT Form.row hv9 (Form.row_eq _) yE32 ?_
 refine s_ldN yA34 yS34 ?_
 refine s_ldW yA34 yS34 ?_
 obtain ⟨v10, hv10, hF5⟩ := bind_some' hF4
 refine s_pure [] (ih_m_spec_l5Uses fu (by omega) _ _ _ hv10) ?_
 refine k_nilD (by kernel_rfl) ?_
 refine k_seq ?_
 refine w_cond hF5 ?_ ?_ <;> intro hc11 hF6
 refine awp_seq (awp_region ?_)
 refine s_as ?_
 refine k_nil (k_seq (awp_ret (k_blk_ret (k_seq_ret (k_rnd_ret2 (k_blk_ret (k_seq_ret (k_fin ?_))))))))
 cases hF6
 exact ends_a [] [] Try.results177
 refine awp_skip (k_blk (k_seq (awp_region ?_)))
 refine s_mv ?_
 refine s_add (winc2 hc7 hb8 hn_g5) ?_
 refine s_as ?_
 refine k_nil ?_
 exact s_rn (fu, (g5 + 1)) ⟨by first | omega | (dsimp only; omega), hF6, by first | omega | (dsimp only; omega)⟩
 refine awp_exit (k_seq_exit (k_rnd_exit2 (k_blk_exit (k_seq (awp_seq (awp_region ?_))))))
 refine s_as ?_
 refine k_nil (k_seq (awp_ret (k_fin ?_)))
 cases hF3
 exact ends_a [] [] Try.results177
theorem m_spec_l5Uses_all (fuel : Nat) : m_spec_l5Uses_AC fuel := by
 induction fuel using Nat.strongRecOn with
 | _ N ih =>
   cases N with
   | zero => exact (by intro x1 x2 r h; rw [m_spec_l5Uses] at h; cases h)
   | succ fu => exact m_spec_l5Uses_st fu (fun k hk => (ih k (by omega)))
theorem m_spec_l5Uses_ok (fuel : Nat) : m_spec_l5Uses_AC fuel := (m_spec_l5Uses_all fuel)
def m_spec_l5Count_AC (fuel : Nat) : Prop := ∀ (x1 : Form) (x2 : (List Hit)) (r : Int), m_spec_l5Count fuel x1 x2 = some r → AC Try.prog 147 [.ag [.t (.sc (.int .i64 x1.kind)), .t (.sc (.str x1.name)), .t (.sc (.int .i64 x1.n)), .t (.sl (x1.scopes.map rI)), .t (.sl (x1.kids.map Form.row))], .t (.sl (x2.map Hit.row))] noOb (.t (.sc (.int .i64 r))) noOb
theorem m_spec_l5Count_ok (fuel : Nat) : m_spec_l5Count_AC fuel := by
 intro x1 x2 r hF0
 unfold m_spec_l5Count at hF0
 refine AC_i [.t (.sc (.int .i64 r))] Try.func147 rfl Try.ntmps147 ?_
 intro C hC
 refine awp_seq (awp_region ?_)
 refine s_box ?_
 refine s_as ?_
 refine k_nil (k_seq (awp_seq (awp_region ?_)))
 refine s_as ?_
 refine k_nil (k_seq (awp_seq (awp_seq (awp_region ?_))))
 refine s_as ?_
 refine k_nil (k_seq (awp_block ?_))
 refine awp_fr (β := Int × Int) [4, 5, 6, 7, 8, 9, 10, 11, 12, 13, 14, 15, 16, 17, 18, 19, 20, 21, 22, 23, 24, 25, 26, 27, 28, 29, 30, 31, 32, 33, 34, 35, 36, 37, 38, 39, 40, 41, 42, 43, 44, 45, 46] [] [] (fun a => [(5, .t (.sc (.int .i64 a.2.2))), (6, .t (.sc (.int .i64 a.2.1)))]) (fun a => []) (fun a => a.1 ≤ fuel ∧ m_spec_l5Count_l1 a.1 x1 x2 a.2.1 a.2.2 = some r ∧ 0 ≤ a.2.1) (fuel, 0, (-1)) ⟨Nat.le_refl _, hF0, by simp⟩ ?_
 clear hF0
 rintro ⟨fu, g1, g2⟩ ⟨hl3, hF1, hn_g1⟩
 dsimp only at hl3 hF1 hn_g1 ⊢
 obtain _ | fu := fu
 · rw [m_spec_l5Count_l1] at hF1; cases hF1
 rw [m_spec_l5Count_l1] at hF1
 refine awp_seq (awp_seq (awp_region ?_))
 refine s_mv ?_
 refine s_mv ?_
 refine s_lenT yU63 ?_
 refine s_lt ?_
 refine k_nil (k_seq ?_)
 refine w_cond hF1 ?_ ?_ <;> intro hc4 hF2
 refine awp_lenT 1 (fun hb5 => ?_)
 refine awp_skip (k_seq (awp_seq (awp_block (awp_seq ?_))))
 refine awp_jn (α := Nat × Bool) [13, 14, 15, 16, 17, 18, 19, 20, 21, 22, 23, 24, 25, 26, 27, 28] [] [] (fun a => [(28, .t (.sc (.bool a.2)))]) (fun a => []) (fun a => a.1 ≤ fu ∧ m_spec_l5Count_j2 a.1 x1 x2 g1 g2 a.2 = some r) ?_ ?_
 refine awp_draw yMix (by kernel_rfl) ?_
 refine s_mv ?_
 refine s_mv ?_
 obtain ⟨v6, hv6, hF3⟩ := bind_some' hF2
 refine s_ixT Hit.row hv6 (Hit.row_eq _) yE63 ?_
 refine s_fa yF65_1 ?_
 refine s_ld1 yA3 ?_
 refine s_eq ?_
 refine s_mv ?_
 refine w_guard _ 19 hF3 ?_ ?_ <;> intro hc7 hF4
 iterate 8 refine r_no rfl ?_
 refine s_pkt ?_
 refine k_nilD (by kernel_rfl) ?_
 exact s_jn (fu, true) ⟨by first | omega | (dsimp only; omega), hF4⟩
 refine s_ldW yA34 yS34 ?_
 refine s_mv ?_
 refine s_mv ?_
 obtain ⟨v8, hv8, hF5⟩ := bind_some' hF4
 refine s_ixT Hit.row hv8 (Hit.row_eq _) yE63 ?_
 refine s_fa yF65_0 ?_
 refine s_ldN yA34 yS34 ?_
 obtain ⟨v9, hv9, hF6⟩ := bind_some' hF5
 refine s_pure [] (m_spec_l5Uses_ok fu _ _ _ hv9) ?_
 refine s_not ?_
 refine s_pkf ?_
 refine k_nilD (by kernel_rfl) ?_
 exact s_jn (fu, (!v9)) ⟨by first | omega | (dsimp only; omega), hF6⟩
 clear hF2
 rintro ⟨fu, g10⟩ ⟨hl11, hF3⟩
 dsimp only at hl11 hF3 ⊢
 obtain _ | fu := fu
 · rw [m_spec_l5Count_j2] at hF3; cases hF3
 rw [m_spec_l5Count_j2] at hF3
 refine w_cond hF3 ?_ ?_ <;> intro hc12 hF4
 refine awp_exit (k_seq_exit (k_blk_exit (k_seq (awp_region ?_))))
 refine s_mv ?_
 refine s_add (winc2 hc4 hb5 hn_g1) ?_
 refine s_as ?_
 refine k_nil ?_
 exact s_rn (fu, (g1 + 1), g2) ⟨by first | omega | (dsimp only; omega), hF4, by first | omega | (dsimp only; omega)⟩
 refine awp_skip (k_seq ?_)
 refine awp_jn (α := Nat) [4, 29, 30, 31, 32, 33, 34, 35, 36, 37, 38, 39, 40] [] [] (fun a => []) (fun a => []) (fun a => a ≤ fu ∧ m_spec_l5Count_j3 a x1 x2 g1  = some r) ?_ ?_
 refine awp_seq (awp_region ?_)
 refine s_mv ?_
 refine s_ge ?_
 refine s_mv ?_
 refine w_guard _ 31 hF4 ?_ ?_ <;> intro hc13 hF5
 iterate 3 refine s_mv ?_
 obtain ⟨v14, hv14, hF6⟩ := bind_some' hF5
 refine s_ixT Hit.row hv14 (Hit.row_eq _) yE63 ?_
 refine s_fa yF65_3 ?_
 refine s_ld1 yA63 ?_
 refine s_lenT yU63 ?_
 refine s_ne ?_
 refine s_pkt ?_
 refine k_nil (k_seq ?_)
 refine w_cond hF6 ?_ ?_ <;> intro hc15 hF7
 refine awp_seq (awp_region ?_)
 refine s_as ?_
 refine k_nil (k_seq (awp_ret (k_jn_ret (k_blk_ret (k_seq_ret (k_rnd_ret2 (k_blk_ret (k_seq_ret (k_fin ?_)))))))))
 cases hF7
 exact ends_a [] [] Try.results147
 refine awp_skip ?_
 exact s_jn (fu) ⟨by first | omega | (dsimp only; omega), hF7⟩
 iterate 8 refine r_no rfl ?_
 refine s_pkf ?_
 refine k_nil (k_seq (awp_false rfl (awp_skip ?_)))
 exact s_jn (fu) ⟨by first | omega | (dsimp only; omega), hF5⟩
 clear hF4
 rintro fu ⟨hl16, hF5⟩
 obtain _ | fu := fu
 · rw [m_spec_l5Count_j3] at hF5; cases hF5
 rw [m_spec_l5Count_j3] at hF5
 refine awp_region ?_
 refine s_mv ?_
 refine s_mv ?_
 obtain ⟨v17, hv17, hF6⟩ := bind_some' hF5
 refine s_ixT Hit.row hv17 (Hit.row_eq _) yE63 ?_
 refine s_fa yF65_3 ?_
 refine s_ld1 yA63 ?_
 refine s_lenT yU63 ?_
 refine s_as ?_
 refine k_nil (k_blk (k_seq (awp_region ?_)))
 refine s_mv ?_
 refine s_add (winc2 hc4 hb5 hn_g1) ?_
 refine s_as ?_
 refine k_nil ?_
 exact s_rn (fu, (g1 + 1), (v17.many.length : Int)) ⟨by first | omega | (dsimp only; omega), hF6, by first | omega | (dsimp only; omega)⟩
 refine awp_exit (k_seq_exit (k_rnd_exit2 (k_blk_exit (k_seq (awp_seq (awp_region ?_))))))
 refine s_mv ?_
 refine s_as ?_
 refine k_nil (k_seq (awp_ret (k_fin ?_)))
 cases hF2
 exact ends_a [] [] Try.results147
def m_spec_l5Nth_AC (fuel : Nat) : Prop := ∀ (x1 : Form) (x2 : (List Hit)) (x3 : Int) (r : (List Hit)), m_spec_l5Nth fuel x1 x2 x3 = some r → AC Try.prog 148 [.ag [.t (.sc (.int .i64 x1.kind)), .t (.sc (.str x1.name)), .t (.sc (.int .i64 x1.n)), .t (.sl (x1.scopes.map rI)), .t (.sl (x1.kids.map Form.row))], .t (.sl (x2.map Hit.row)), .t (.sc (.int .i64 x3))] noOb (.t (.sl (r.map Hit.row))) noOb
theorem m_spec_l5Nth_ok (fuel : Nat) : m_spec_l5Nth_AC fuel := by
 intro x1 x2 x3 r hF0
 unfold m_spec_l5Nth at hF0
 refine AC_i [.t (.sl (r.map Hit.row))] Try.func148 rfl Try.ntmps148 ?_
 intro C hC
 refine awp_seq (awp_region ?_)
 refine s_box ?_
 refine s_as ?_
 refine k_nil (k_seq (awp_seq (awp_region ?_)))
 refine s_bs Hit.row ([] : List Hit) yP63 yR65 ?_
 refine s_as ?_
 refine k_nil (k_seq (awp_seq (awp_seq (awp_region ?_))))
 refine s_as ?_
 refine k_nil (k_seq (awp_block ?_))
 refine awp_mv 7 10 5020 (by conv => lhs; whnf) (by conv => lhs; whnf) rfl ?_
 refine awp_frame2 [7, 8, 9, 11, 12, 13, 14, 15, 16, 17, 18, 19, 20, 21, 22, 23, 24, 25, 26, 27, 28, 29, 30, 31, 32, 33, 34, 35, 36, 37, 38] [5020] [9, 37, 38] [5020] (fun a : Nat × (List Hit) × Int => a.1) (fun a : Nat × (List Hit) × Int => [(7, .ar 5020), (8, .t (.sc (.int .i64 a.2.2)))]) (fun a : Nat × (List Hit) × Int => [(5020, .arr (a.2.1.map Hit.row) 65 true)]) (fun a : Nat × (List Hit) × Int => a.1 ≤ fuel ∧ m_spec_l5Nth_l1 a.1 x1 x2 x3 a.2.1 a.2.2 = some r ∧ 0 ≤ a.2.2) (fuel, ([] : List Hit), 0) ⟨Nat.le_refl _, hF0, by simp⟩ (by rfl) (by rfl) (fun _ => rfl) (hasF_cons (by conv => lhs; whnf) (by rfl) (hasF_cons (by conv => lhs; whnf) (by rfl) hasF_nil)) (hasO_cons (by conv => lhs; whnf) (by rfl) hasO_nil) (fresh_C hC rfl) (by repeat (first | exact freshS_args rfl | refine freshS_upd rfl ?_ | refine freshS_frame rfl ?_)) (by repeat (first | exact freshM_no | exact objs_fresh rfl | refine freshM_upd rfl ?_ | refine freshM_frame rfl ?_)) ?_
 clear hF0
 rintro ⟨fu, g1, g2⟩ ⟨hl3, hF1, hn_g2⟩
 dsimp only at hl3 hF1 hn_g2 ⊢
 obtain _ | fu := fu
 · rw [m_spec_l5Nth_l1] at hF1; cases hF1
 rw [m_spec_l5Nth_l1] at hF1
 refine awp_seq (awp_seq (awp_region ?_))
 refine s_mv ?_
 refine s_mv ?_
 refine s_lenT yU63 ?_
 refine s_lt ?_
 refine k_nil (k_seq ?_)
 refine w_cond hF1 ?_ ?_ <;> intro hc4 hF2
 refine awp_lenT 1 (fun hb5 => ?_)
 refine awp_skip (k_seq (awp_seq (awp_block (awp_seq (awp_region ?_)))))
 refine s_mv ?_
 refine s_mv ?_
 obtain ⟨v6, hv6, hF3⟩ := bind_some' hF2
 refine s_ixT Hit.row hv6 (Hit.row_eq _) yE63 ?_
 refine s_ldN yA65 yS65 ?_
 refine s_alloc yZ65 ?_
 refine s_stW yS65 ?_
 refine k_nil (k_seq (awp_seq ?_))
 refine awp_jn (α := Nat × Bool) [21, 22, 23, 24, 25, 26, 27, 28, 29] [] [] (fun a => [(29, .t (.sc (.bool a.2)))]) (fun a => []) (fun a => a.1 ≤ fu ∧ m_spec_l5Nth_j2 a.1 x1 x2 x3 g1 g2 v6 a.2 = some r) ?_ ?_
 refine awp_region ?_
 refine s_fa yF65_1 ?_
 refine s_ld1 yA3 ?_
 refine s_gt ?_
 refine s_mv ?_
 refine w_guard _ 24 hF3 ?_ ?_ <;> intro hc7 hF4
 refine s_ldW yA34 yS34 ?_
 refine s_fa yF65_0 ?_
 refine s_ldN yA34 yS34 ?_
 obtain ⟨v8, hv8, hF5⟩ := bind_some' hF4
 refine s_pure [] (m_spec_l5Uses_ok fu _ _ _ hv8) ?_
 refine s_pkt ?_
 refine k_nil ?_
 exact s_jn (fu, v8) ⟨by first | omega | (dsimp only; omega), hF5⟩
 iterate 4 refine r_no rfl ?_
 refine s_pkf ?_
 refine k_nil ?_
 exact s_jn (fu, false) ⟨by first | omega | (dsimp only; omega), hF4⟩
 clear hF3
 rintro ⟨fu, g9⟩ ⟨hl10, hF4⟩
 dsimp only at hl10 hF4 ⊢
 obtain _ | fu := fu
 · rw [m_spec_l5Nth_j2] at hF4; cases hF4
 rw [m_spec_l5Nth_j2] at hF4
 refine w_cond hF4 ?_ ?_ <;> intro hc11 hF5
 refine awp_region ?_
 refine s_fa yF65_3 ?_
 refine s_ld1 yA63 ?_
 refine s_mv ?_
 obtain ⟨v12, hv12, hF6⟩ := bind_some' hF5
 refine s_ixT Hit.row hv12 (Hit.row_eq _) yE63 ?_
 refine s_ldN yA65 yS65 ?_
 refine s_stW yS65 ?_
 refine k_nil (k_seq (awp_region ?_))
 refine s_mv ?_
 refine s_ldW yA65 yS65 ?_
 refine s_bs Hit.row [v12] yP63 yR65 ?_
 obtain ⟨hk13, hF7⟩ := chk_some hF6
 refine s_apT Hit.row (fun y => Hit.row_len y) hk13 yP63 ?_
 refine s_as ?_
 refine k_nil (k_blk (k_seq (awp_region ?_)))
 refine s_mv ?_
 refine s_add (winc2 hc4 hb5 hn_g2) ?_
 refine s_as ?_
 refine k_nil ?_
 exact s_rn (fu, (g1 ++ [v12]), (g2 + 1)) ⟨by first | omega | (dsimp only; omega), hF7, by first | omega | (dsimp only; omega)⟩ [(5020, 38)]
 refine awp_skip (k_seq (awp_region ?_))
 refine s_mv ?_
 refine s_ldW yA65 yS65 ?_
 refine s_bs Hit.row [v6] yP63 yR65 ?_
 obtain ⟨hk14, hF6⟩ := chk_some hF5
 refine s_apT Hit.row (fun y => Hit.row_len y) hk14 yP63 ?_
 refine s_as ?_
 refine k_nil (k_blk (k_seq (awp_region ?_)))
 refine s_mv ?_
 refine s_add (winc2 hc4 hb5 hn_g2) ?_
 refine s_as ?_
 refine k_nil ?_
 exact s_rn (fu, (g1 ++ [v6]), (g2 + 1)) ⟨by first | omega | (dsimp only; omega), hF6, by first | omega | (dsimp only; omega)⟩ [(5020, 38)]
 refine awp_exit (k_seq_exit (k_rnd_exit2 (k_blk_exit (k_seq (awp_seq (awp_region ?_))))))
 refine s_mv ?_
 refine s_as ?_
 refine k_nil (k_seq (awp_ret (k_fin ?_)))
 cases hF2
 exact ends_a [] [5020] Try.results148
def m_spec_l5Fill_AC (fuel : Nat) : Prop := ∀ (x1 : Form) (x2 : (List Hit)) (r : (Form × Bool)), m_spec_l5Fill fuel x1 x2 = some r → AC Try.prog 107 [.ag [.t (.sc (.int .i64 x1.kind)), .t (.sc (.str x1.name)), .t (.sc (.int .i64 x1.n)), .t (.sl (x1.scopes.map rI)), .t (.sl (x1.kids.map Form.row))], .t (.sl (x2.map Hit.row))] noOb (.tp [.ag [.t (.sc (.int .i64 r.1.kind)), .t (.sc (.str r.1.name)), .t (.sc (.int .i64 r.1.n)), .t (.sl (r.1.scopes.map rI)), .t (.sl (r.1.kids.map Form.row))], .t (.sc (.bool r.2))]) noOb
theorem m_spec_l5Fill_st (fu : Nat) (ih_m_spec_l5Fill : ∀ k, k ≤ fu → m_spec_l5Fill_AC k) : m_spec_l5Fill_AC (fu + 1) := by
 intro x1 x2 r hF0
 rw [m_spec_l5Fill] at hF0
 refine AC_i [.ag [.t (.sc (.int .i64 r.1.kind)), .t (.sc (.str r.1.name)), .t (.sc (.int .i64 r.1.n)), .t (.sl (r.1.scopes.map rI)), .t (.sl (r.1.kids.map Form.row))], .t (.sc (.bool r.2))] Try.func107 rfl Try.ntmps107 ?_
 intro C hC
 refine awp_seq (awp_region ?_)
 refine s_box ?_
 refine s_alloc yZ34 ?_
 refine s_as ?_
 refine k_nil (k_seq (awp_seq (awp_region ?_)))
 refine s_as ?_
 refine k_nil (k_seq ?_)
 refine awp_jn (α := Nat × Int) [6, 16, 17, 18, 19, 20, 21] [] [] (fun a => [(6, .t (.sc (.int .i64 a.2)))]) (fun a => []) (fun a => a.1 ≤ fu ∧ m_spec_l5Fill_j1 a.1 x1 x2 a.2 = some r) ?_ ?_
 refine awp_seq (awp_region ?_)
 refine s_fa yF34_0 ?_
 refine s_ld1 yA3 ?_
 refine s_eq ?_
 refine k_nil (k_seq ?_)
 refine w_cond hF0 ?_ ?_ <;> intro hc1 hF1
 refine awp_region ?_
 refine s_mv ?_
 refine s_ldW yA34 yS34 ?_
 obtain ⟨v2, hv2, hF2⟩ := bind_some' hF1
 refine s_pure [] (m_spec_l4Find_ok fu _ _ _ hv2) ?_
 refine s_as ?_
 refine k_nil ?_
 exact s_jn (fu, v2) ⟨by first | omega | (dsimp only; omega), hF2⟩
 refine awp_skip ?_
 exact s_jn (fu, (-1)) ⟨by first | omega | (dsimp only; omega), hF1⟩
 clear hF0
 rintro ⟨fu, g3⟩ ⟨hl4, hF1⟩
 dsimp only at hl4 hF1 ⊢
 obtain _ | fu := fu
 · rw [m_spec_l5Fill_j1] at hF1; cases hF1
 rw [m_spec_l5Fill_j1] at hF1
 refine awp_seq (awp_seq (awp_region ?_))
 refine s_mv ?_
 refine s_ge ?_
 refine k_nil (k_seq ?_)
 refine w_cond hF1 ?_ ?_ <;> intro hc5 hF2
 refine awp_seq ?_
 refine awp_draw yMix (by kernel_rfl) ?_
 refine s_mv ?_
 refine s_mv ?_
 obtain ⟨v6, hv6, hF3⟩ := bind_some' hF2
 refine s_ixT Hit.row hv6 (Hit.row_eq _) yE63 ?_
 refine s_fa yF65_2 ?_
 refine s_ldN yA34 yS34 ?_
 obtain ⟨v7, hv7, hF4⟩ := bind_some' hF3
 refine s_call [(9203, 2029), (9204, 12029)] [] _ _ (m_spec_l1Copy_ok fu _ _ hv7) ?_
 refine s_mv ?_
 refine s_mv ?_
 obtain ⟨v8, hv8, hF5⟩ := bind_some' hF4
 refine s_ixT Hit.row hv8 (Hit.row_eq _) yE63 ?_
 refine s_fa yF65_1 ?_
 refine s_ld1 yA3 ?_
 refine s_eq ?_
 refine s_stW yS34 ?_
 refine s_as ?_
 refine k_nilD (by kernel_rfl) ?_
 refine k_seq (awp_ret (k_seq_ret (k_fin ?_)))
 cases hF5
 exact ends_gen [] [2029, 12029] (by rw [Try.results107]; exact (res_agg (by conv => lhs; whnf) (by conv => lhs; whnf) yA34 yS34 rfl (res_tmp (by conv => lhs; whnf) res_nil)))
 refine awp_skip (k_seq (awp_seq ?_))
 refine awp_draw yMix (by kernel_rfl) ?_
 refine s_fa yF34_0 ?_
 refine s_ld1 yA3 ?_
 refine s_fa yF34_1 ?_
 refine s_ld1 yA9 ?_
 refine s_fa yF34_2 ?_
 refine s_ld1 yA3 ?_
 refine s_bs rI ([] : List Int) yP22 yR3 ?_
 refine s_fa yF34_3 ?_
 refine s_ld1 yA22 ?_
 obtain ⟨hk9, hF3⟩ := chk_some hF2
 refine s_apT rI (fun _ => rfl) hk9 yP22 ?_
 refine s_bld yZ34 yL34 ?_
 refine s_alloc yZ34 ?_
 refine s_stW yS34 ?_
 refine k_nilD (by kernel_rfl) ?_
 refine k_seq (awp_seq (awp_region ?_))
 refine s_as ?_
 refine k_nil (k_seq (awp_seq (awp_seq (awp_region ?_))))
 refine s_as ?_
 refine k_nil (k_seq (awp_block ?_))
 refine awp_ownB 7 5040 34 [.t (.sc (.int .i64 x1.kind)), .t (.sc (.str x1.name)), .t (.sc (.int .i64 x1.n)), .ar 45, .ar 5040] yI34.choose_spec ?_
 refine awp_frame2 [5, 8, 9, 10, 11, 12, 13, 14, 15, 47, 48, 49, 50, 51, 52, 53, 54, 55, 56, 57, 58, 59, 60, 61, 62, 63, 64, 65, 66, 67, 68, 69, 70, 71, 72, 73, 74, 75, 76, 77, 78, 79, 80, 81, 82, 83, 84, 85, 86, 87, 88, 89, 90, 91, 92, 93, 94, 95, 96, 97, 98, 99, 100, 101, 102, 103, 104, 105, 106, 107, 108, 109, 110, 111, 112, 113, 114, 115, 116, 117, 118, 119, 120, 121, 122, 123, 124, 125, 126, 127] [7, 5040] [5100] [5040] (fun a : Nat × Int × Int × (List Form) => a.1) (fun a : Nat × Int × Int × (List Form) => [(5, .t (.sc (.bool false))), (8, .t (.sc (.int .i64 a.2.2.1))), (9, .t (.sc (.int .i64 a.2.1)))]) (fun a : Nat × Int × Int × (List Form) => [(7, .box [.t (.sc (.int .i64 x1.kind)), .t (.sc (.str x1.name)), .t (.sc (.int .i64 x1.n)), .ar 45, .ar 5040]), (5040, .arr (a.2.2.2.map Form.row) 34 true)]) (fun a : Nat × Int × Int × (List Form) => a.1 ≤ fu ∧ m_spec_l5Fill_l2 a.1 x1 x2 a.2.1 a.2.2.1 a.2.2.2 = some r) (fu, 0, 0, ([] : List Form)) ⟨Nat.le_refl _, hF3⟩ (by rfl) (by rfl) (fun _ => rfl) (hasF_cons (by conv => lhs; whnf) (by rfl) (hasF_cons (by conv => lhs; whnf) (by rfl) (hasF_cons (by conv => lhs; whnf) (by rfl) hasF_nil))) (hasO_cons (by conv => lhs; whnf) (by rfl) (hasO_cons (by conv => lhs; whnf) (by rfl) hasO_nil)) (fresh_C hC rfl) (by repeat (first | exact freshS_args rfl | refine freshS_upd rfl ?_ | refine freshS_frame rfl ?_)) (by repeat (first | exact freshM_no | exact objs_fresh rfl | refine freshM_upd rfl ?_ | refine freshM_frame rfl ?_)) ?_
 clear hF3
 rintro ⟨fu, g10, g11, g12⟩ ⟨hl13, hF4⟩
 dsimp only at hl13 hF4 ⊢
 obtain _ | fu := fu
 · rw [m_spec_l5Fill_l2] at hF4; cases hF4
 rw [m_spec_l5Fill_l2] at hF4
 refine awp_seq (awp_seq (awp_region ?_))
 refine s_mv ?_
 refine s_fa yF34_4 ?_
 refine s_ld1 yA32 ?_
 refine s_lenT yU32 ?_
 refine s_lt ?_
 refine k_nil (k_seq ?_)
 refine w_cond hF4 ?_ ?_ <;> intro hc14 hF5
 refine awp_lenT 49 (fun hb15 => ?_)
 refine awp_skip (k_seq (awp_seq (awp_block (awp_seq (awp_seq (awp_region ?_))))))
 refine s_fa yF34_4 ?_
 refine s_ld1 yA32 ?_
 refine s_mv ?_
 obtain ⟨v16, hv16, hF6⟩ := bind_some' hF5
 refine s_ixT Form.row hv16 (Form.row_eq _) yE32 ?_
 refine s_ldN yA34 yS34 ?_
 obtain ⟨v17, hv17, hF7⟩ := bind_some' hF6
 refine s_pure [] (m_spec_l4Dots_ok fu _ _ hv17) ?_
 refine k_nil (k_seq ?_)
 refine w_cond hF7 ?_ ?_ <;> intro hc18 hF8
 refine awp_exit (k_seq_exit (k_blk_exit (k_seq (awp_region ?_))))
 refine s_mv ?_
 refine s_add (winc2 hc14 hb15 (idx_some hv16).1) ?_
 refine s_as ?_
 refine k_nil ?_
 exact s_rn (fu, (g10 + 1), g11, g12) ⟨by first | omega | (dsimp only; omega), hF8⟩
 refine awp_skip (k_seq (awp_seq (awp_region ?_)))
 refine s_as ?_
 refine k_nil (k_seq ?_)
 refine awp_jn (α := Nat × Bool) [11, 60, 61, 62, 63, 64, 65, 66, 67, 68, 69, 70, 71, 72, 73, 74] [] [] (fun a => [(11, .t (.sc (.bool a.2)))]) (fun a => []) (fun a => a.1 ≤ fu ∧ m_spec_l5Fill_j3 a.1 x1 x2 g10 g11 g12 a.2 = some r) ?_ ?_
 refine awp_region ?_
 refine s_mv ?_
 refine s_add (winc2 hc14 hb15 (idx_some hv16).1) ?_
 refine s_fa yF34_4 ?_
 refine s_ld1 yA32 ?_
 refine s_lenT yU32 ?_
 refine s_lt ?_
 refine s_mv ?_
 refine w_guard _ 66 hF8 ?_ ?_ <;> intro hc19 hF9
 refine s_fa yF34_4 ?_
 refine s_ld1 yA32 ?_
 refine s_mv ?_
 refine s_add (winc2 hc14 hb15 (idx_some hv16).1) ?_
 obtain ⟨v20, hv20, hF10⟩ := bind_some' hF9
 refine s_ixT Form.row hv20 (Form.row_eq _) yE32 ?_
 refine s_ldN yA34 yS34 ?_
 obtain ⟨v21, hv21, hF11⟩ := bind_some' hF10
 refine s_pure [] (m_spec_l4Dots_ok fu _ _ hv21) ?_
 refine s_pkt ?_
 refine s_as ?_
 refine k_nil ?_
 exact s_jn (fu, v21) ⟨by first | omega | (dsimp only; omega), hF11⟩
 iterate 7 refine r_no rfl ?_
 refine s_pkf ?_
 refine s_as ?_
 refine k_nil ?_
 exact s_jn (fu, false) ⟨by first | omega | (dsimp only; omega), hF9⟩
 clear hF8
 rintro ⟨fu, g22⟩ ⟨hl23, hF9⟩
 dsimp only at hl23 hF9 ⊢
 obtain _ | fu := fu
 · rw [m_spec_l5Fill_j3] at hF9; cases hF9
 rw [m_spec_l5Fill_j3] at hF9
 refine awp_jn (α := Nat × Int) [10, 75, 76, 77, 78, 79, 80, 81, 82] [] [] (fun a => [(10, .t (.sc (.int .i64 a.2)))]) (fun a => []) (fun a => a.1 ≤ fu ∧ m_spec_l5Fill_j4 a.1 x1 x2 g10 g11 g12 g22 a.2 = some r) ?_ ?_
 refine awp_seq (awp_region ?_)
 refine s_mv ?_
 refine k_nil (k_seq ?_)
 refine w_cond hF9 ?_ ?_ <;> intro hc24 hF10
 refine awp_region ?_
 refine s_fa yF34_4 ?_
 refine s_ld1 yA32 ?_
 refine s_mv ?_
 obtain ⟨v25, hv25, hF11⟩ := bind_some' hF10
 refine s_ixT Form.row hv25 (Form.row_eq _) yE32 ?_
 refine s_ldN yA34 yS34 ?_
 refine s_mv ?_
 obtain ⟨v26, hv26, hF12⟩ := bind_some' hF11
 refine s_pure [] (m_spec_l5Count_ok fu _ _ _ hv26) ?_
 refine s_as ?_
 refine k_nil ?_
 exact s_jn (fu, v26) ⟨by first | omega | (dsimp only; omega), hF12⟩
 refine awp_skip ?_
 exact s_jn (fu, 1) ⟨by first | omega | (dsimp only; omega), hF10⟩
 clear hF9
 rintro ⟨fu, g27⟩ ⟨hl28, hF10⟩
 dsimp only at hl28 hF10 ⊢
 obtain _ | fu := fu
 · rw [m_spec_l5Fill_j4] at hF10; cases hF10
 rw [m_spec_l5Fill_j4] at hF10
 refine awp_seq (awp_seq (awp_region ?_))
 refine s_mv ?_
 refine s_lt ?_
 refine k_nil (k_seq ?_)
 refine w_cond hF10 ?_ ?_ <;> intro hc29 hF11
 refine awp_seq (awp_region ?_)
 refine s_ldW yA34 yS34 ?_
 refine s_stW yS34 ?_
 refine s_as ?_
 refine k_nil (k_seq (awp_ret (k_seq_ret (k_blk_ret (k_seq_ret (k_rnd_ret2 (k_blk_ret (k_seq_ret (k_fin ?_)))))))))
 cases hF11
 exact ends_gen [] [] (by rw [Try.results107]; exact (res_agg (by conv => lhs; whnf) (by conv => lhs; whnf) yA34 yS34 rfl (res_tmp (by conv => lhs; whnf) res_nil)))
 refine awp_skip (k_seq (awp_seq (awp_region ?_)))
 refine s_as ?_
 refine k_nil (k_seq (awp_block ?_))
 refine awp_mvB 7 5040 5100 [.t (.sc (.int .i64 x1.kind)), .t (.sc (.str x1.name)), .t (.sc (.int .i64 x1.n)), .ar 45, .ar 5100] ?_
 refine awp_frame2 [5, 8, 12, 13, 14, 15, 86, 87, 88, 89, 90, 91, 92, 93, 94, 95, 96, 97, 98, 99, 100, 101, 102, 103, 104, 105, 106, 107, 108, 109, 110, 111, 112, 113, 114, 115, 116, 117, 118, 119, 120, 121, 122, 123, 124, 125, 126, 127] [7, 5100] [14, 125, 126] [5100] (fun a : Nat × Int × Int × (List Form) => a.1) (fun a : Nat × Int × Int × (List Form) => [(5, .t (.sc (.bool false))), (8, .t (.sc (.int .i64 a.2.1))), (12, .t (.sc (.int .i64 a.2.2.1)))]) (fun a : Nat × Int × Int × (List Form) => [(7, .box [.t (.sc (.int .i64 x1.kind)), .t (.sc (.str x1.name)), .t (.sc (.int .i64 x1.n)), .ar 45, .ar 5100]), (5100, .arr (a.2.2.2.map Form.row) 34 true)]) (fun a : Nat × Int × Int × (List Form) => a.1 ≤ fu ∧ m_spec_l5Fill_l5 a.1 x1 x2 g10 g22 g27 a.2.1 a.2.2.1 a.2.2.2 = some r) (fu, g11, 0, g12) ⟨Nat.le_refl _, hF11⟩ (by rfl) (by rfl) (fun _ => rfl) (hasF_cons (by conv => lhs; whnf) (by rfl) (hasF_cons (by conv => lhs; whnf) (by rfl) (hasF_cons (by conv => lhs; whnf) (by rfl) hasF_nil))) (hasO_cons (by conv => lhs; whnf) (by rfl) (hasO_cons (by conv => lhs; whnf) (by rfl) hasO_nil)) (fresh_C hC rfl) (by repeat (first | exact freshS_args rfl | refine freshS_upd rfl ?_ | refine freshS_frame rfl ?_)) (by repeat (first | exact freshM_no | exact objs_fresh rfl | refine freshM_upd rfl ?_ | refine freshM_frame rfl ?_)) ?_
 clear hF11
 rintro ⟨fu, g30, g31, g32⟩ ⟨hl33, hF12⟩
 dsimp only at hl33 hF12 ⊢
 obtain _ | fu := fu
 · rw [m_spec_l5Fill_l5] at hF12; cases hF12
 rw [m_spec_l5Fill_l5] at hF12
 refine awp_seq (awp_seq (awp_region ?_))
 refine s_mv ?_
 refine s_mv ?_
 refine s_lt ?_
 refine k_nil (k_seq ?_)
 refine w_cond hF12 ?_ ?_ <;> intro hc34 hF13
 refine awp_skip (k_seq (awp_seq (awp_block (awp_seq (awp_region ?_)))))
 refine s_mv ?_
 refine s_as ?_
 refine k_nil (k_seq ?_)
 refine awp_jn (α := Nat × (List Hit)) [13, 92, 93, 94, 95, 96, 97, 98, 99, 100] [] [] (fun a => [(13, .t (.sl (a.2.map Hit.row)))]) (fun a => []) (fun a => a.1 ≤ fu ∧ m_spec_l5Fill_j6 a.1 x1 x2 g10 g22 g27 g30 g31 g32 a.2 = some r) ?_ ?_
 refine awp_seq (awp_region ?_)
 refine s_mv ?_
 refine k_nil (k_seq ?_)
 refine w_cond hF13 ?_ ?_ <;> intro hc35 hF14
 refine awp_region ?_
 refine s_fa yF34_4 ?_
 refine s_ld1 yA32 ?_
 refine s_mv ?_
 obtain ⟨v36, hv36, hF15⟩ := bind_some' hF14
 refine s_ixT Form.row hv36 (Form.row_eq _) yE32 ?_
 refine s_ldN yA34 yS34 ?_
 refine s_mv ?_
 refine s_mv ?_
 obtain ⟨v37, hv37, hF16⟩ := bind_some' hF15
 refine s_pure [] (m_spec_l5Nth_ok fu _ _ _ _ hv37) ?_
 refine s_as ?_
 refine k_nil ?_
 exact s_jn (fu, v37) ⟨by first | omega | (dsimp only; omega), hF16⟩
 refine awp_skip ?_
 exact s_jn (fu, x2) ⟨by first | omega | (dsimp only; omega), hF14⟩
 clear hF13
 rintro ⟨fu, g38⟩ ⟨hl39, hF14⟩
 dsimp only at hl39 hF14 ⊢
 obtain _ | fu := fu
 · rw [m_spec_l5Fill_j6] at hF14; cases hF14
 rw [m_spec_l5Fill_j6] at hF14
 refine awp_seq (awp_region ?_)
 refine s_fa yF34_4 ?_
 refine s_ld1 yA32 ?_
 refine s_mv ?_
 obtain ⟨v40, hv40, hF15⟩ := bind_some' hF14
 refine s_ixT Form.row hv40 (Form.row_eq _) yE32 ?_
 refine s_ldN yA34 yS34 ?_
 refine s_mv ?_
 obtain ⟨v41, hv41, hF16⟩ := bind_some' hF15
 refine s_pure [] (ih_m_spec_l5Fill fu (by omega) _ _ _ hv41) ?_
 refine s_mv ?_
 refine s_ext ?_
 refine s_ext ?_
 refine s_alloc yZ34 ?_
 refine s_stW yS34 ?_
 refine s_as ?_
 refine k_nil (k_seq (awp_seq (awp_region ?_)))
 refine s_mv ?_
 refine s_ldW yA34 yS34 ?_
 obtain ⟨v42, hv42, hF17⟩ := bind_some' hF16
 refine s_pure [] (m_spec_l1Count_ok fu _ _ hv42) ?_
 refine s_add rfl ?_
 refine s_as ?_
 refine k_nil (k_seq (awp_seq ?_))
 refine awp_jn (α := Nat × Bool) [115, 116, 117, 118, 119, 120] [] [] (fun a => [(120, .t (.sc (.bool a.2)))]) (fun a => []) (fun a => a.1 ≤ fu ∧ m_spec_l5Fill_j7 a.1 x1 x2 g10 g22 g27 g30 g31 g32 v41 v42 a.2 = some r) ?_ ?_
 refine awp_region ?_
 refine s_mv ?_
 refine s_not ?_
 refine s_mv ?_
 refine w_guard _ 117 hF17 ?_ ?_ <;> intro hc43 hF18
 refine r_no rfl (r_no rfl ?_)
 refine s_pkt ?_
 refine k_nil ?_
 exact s_jn (fu, true) ⟨by first | omega | (dsimp only; omega), hF18⟩
 refine s_mv ?_
 refine s_gt ?_
 refine s_pkf ?_
 refine k_nil ?_
 exact s_jn (fu, (decide (400 < (w64 (g30 + v42))))) ⟨by first | omega | (dsimp only; omega), hF18⟩
 clear hF17
 rintro ⟨fu, g44⟩ ⟨hl45, hF18⟩
 dsimp only at hl45 hF18 ⊢
 obtain _ | fu := fu
 · rw [m_spec_l5Fill_j7] at hF18; cases hF18
 rw [m_spec_l5Fill_j7] at hF18
 refine w_cond hF18 ?_ ?_ <;> intro hc46 hF19
 refine awp_seq (awp_region ?_)
 refine s_ldW yA34 yS34 ?_
 refine s_stW yS34 ?_
 refine s_as ?_
 refine k_nil (k_seq (awp_ret (k_seq_ret (k_blk_ret (k_seq_ret (k_rnd_ret2 (k_blk_ret (k_blk_ret (k_seq_ret (k_rnd_ret2 (k_blk_ret (k_seq_ret (k_fin ?_)))))))))))))
 cases hF19
 exact ends_gen [] [] (by rw [Try.results107]; exact (res_agg (by conv => lhs; whnf) (by conv => lhs; whnf) yA34 yS34 rfl (res_tmp (by conv => lhs; whnf) res_nil)))
 refine awp_skip (k_seq (awp_region ?_))
 refine s_fa yF34_4 ?_
 refine s_ld1 yA32 ?_
 refine s_ldW yA34 yS34 ?_
 refine s_bs Form.row [v41.1] yP32 yR34 ?_
 obtain ⟨hk47, hF20⟩ := chk_some hF19
 refine s_apT Form.row (fun y => Form.row_len y) hk47 yP32 ?_
 refine s_fa yF34_4 ?_
 refine s_stP yS32 ?_
 refine k_nil (k_blk (k_seq (awp_region ?_)))
 refine s_mv ?_
 refine s_add rfl ?_
 refine s_as ?_
 refine k_nil ?_
 exact s_rn (fu, (w64 (g30 + v42)), (w64 (g31 + 1)), (g32 ++ [v41.1])) ⟨by first | omega | (dsimp only; omega), hF20⟩ [(5100, 126)]
 refine awp_exit (k_seq_exit (k_rnd_exit2 (k_blk_exit (k_blk (k_seq (awp_region ?_))))))
 refine s_mv ?_
 refine s_add rfl ?_
 refine s_as ?_
 refine k_nil ?_
 exact s_rn (fu, (w64 (g10 + 1)), g30, g32) ⟨by first | omega | (dsimp only; omega), hF13⟩ [(5040, 5100)]
 refine awp_exit (k_seq_exit (k_rnd_exit2 (k_blk_exit (k_seq (awp_seq (awp_region ?_))))))
 refine s_ldW yA34 yS34 ?_
 refine s_stW yS34 ?_
 refine s_as ?_
 refine k_nil (k_seq (awp_ret (k_fin ?_)))
 cases hF5
 exact ends_gen [] [45, 5040] (by rw [Try.results107]; exact (res_agg (by conv => lhs; whnf) (by conv => lhs; whnf) yA34 yS34 rfl (res_tmp (by conv => lhs; whnf) res_nil)))
theorem m_spec_l5Fill_all (fuel : Nat) : m_spec_l5Fill_AC fuel := by
 induction fuel using Nat.strongRecOn with
 | _ N ih =>
   cases N with
   | zero => exact (by intro x1 x2 r h; rw [m_spec_l5Fill] at h; cases h)
   | succ fu => exact m_spec_l5Fill_st fu (fun k hk => (ih k (by omega)))
theorem m_spec_l5Fill_ok (fuel : Nat) : m_spec_l5Fill_AC fuel := (m_spec_l5Fill_all fuel)
def m_spec_FillTemplate_AC (fuel : Nat) : Prop := ∀ (x1 : Form) (x2 : (List Hit)) (r : (Form × Bool)), m_spec_FillTemplate fuel x1 x2 = some r → AC Try.prog 59 [.ag [.t (.sc (.int .i64 x1.kind)), .t (.sc (.str x1.name)), .t (.sc (.int .i64 x1.n)), .t (.sl (x1.scopes.map rI)), .t (.sl (x1.kids.map Form.row))], .t (.sl (x2.map Hit.row))] noOb (.tp [.ag [.t (.sc (.int .i64 r.1.kind)), .t (.sc (.str r.1.name)), .t (.sc (.int .i64 r.1.n)), .t (.sl (r.1.scopes.map rI)), .t (.sl (r.1.kids.map Form.row))], .t (.sc (.bool r.2))]) noOb
theorem m_spec_FillTemplate_ok (fuel : Nat) : m_spec_FillTemplate_AC fuel := by
 intro x1 x2 r hF0
 unfold m_spec_FillTemplate at hF0
 refine AC_i [.ag [.t (.sc (.int .i64 r.1.kind)), .t (.sc (.str r.1.name)), .t (.sc (.int .i64 r.1.n)), .t (.sl (r.1.scopes.map rI)), .t (.sl (r.1.kids.map Form.row))], .t (.sc (.bool r.2))] Try.func59 rfl Try.ntmps59 ?_
 intro C hC
 refine awp_seq (awp_region ?_)
 refine s_box ?_
 refine s_alloc yZ34 ?_
 refine s_as ?_
 refine k_nil (k_seq (awp_seq (awp_region ?_)))
 refine s_ldW yA34 yS34 ?_
 obtain ⟨v1, hv1, hF1⟩ := bind_some' hF0
 refine s_pure [] (m_spec_l15OwnForm_ok fuel _ _ hv1) ?_
 refine s_stW yS34 ?_
 refine k_nil (k_seq (awp_seq (awp_seq (awp_region ?_))))
 refine s_ldW yA34 yS34 ?_
 refine s_mv ?_
 obtain ⟨v2, hv2, hF2⟩ := bind_some' hF1
 refine s_pure [] (m_spec_TemplateValid_ok fuel _ _ _ hv2) ?_
 refine s_not ?_
 refine k_nil (k_seq ?_)
 refine w_cond hF2 ?_ ?_ <;> intro hc3 hF3
 refine awp_seq (awp_region ?_)
 refine s_bld yZ34 yL34 ?_
 refine s_stW yS34 ?_
 refine s_as ?_
 refine k_nil (k_seq (awp_ret (k_seq_ret (k_fin ?_))))
 cases hF3
 exact ends_gen [] [] (by rw [Try.results59]; exact (res_agg (by conv => lhs; whnf) (by conv => lhs; whnf) yA34 yS34 rfl (res_tmp (by conv => lhs; whnf) res_nil)))
 refine awp_skip (k_seq (awp_seq (awp_region ?_)))
 refine s_ldW yA34 yS34 ?_
 refine s_mv ?_
 obtain ⟨v4, hv4, hF4⟩ := bind_some' hF3
 refine s_pure [] (m_spec_l5Fill_ok fuel _ _ _ hv4) ?_
 refine s_mv ?_
 refine s_ext ?_
 refine s_ext ?_
 refine s_alloc yZ34 ?_
 refine s_stW yS34 ?_
 refine s_as ?_
 refine k_nil (k_seq (awp_seq (awp_seq (awp_region ?_))))
 refine s_mv ?_
 refine s_not ?_
 refine s_mv ?_
 refine w_guard _ 23 hF4 ?_ ?_ <;> intro hc5 hF5
 iterate 3 refine r_no rfl ?_
 refine s_pkt ?_
 refine k_nil (k_seq (awp_true rfl (awp_seq (awp_region ?_))))
 refine s_bld yZ34 yL34 ?_
 refine s_stW yS34 ?_
 refine s_as ?_
 refine k_nil (k_seq (awp_ret (k_seq_ret (k_fin ?_))))
 cases hF5
 exact ends_gen [] [] (by rw [Try.results59]; exact (res_agg (by conv => lhs; whnf) (by conv => lhs; whnf) yA34 yS34 rfl (res_tmp (by conv => lhs; whnf) res_nil)))
 refine s_ldW yA34 yS34 ?_
 obtain ⟨v6, hv6, hF6⟩ := bind_some' hF5
 refine s_pure [] (m_spec_FormValid_ok fuel _ _ hv6) ?_
 refine s_not ?_
 refine s_pkf ?_
 refine k_nil (k_seq ?_)
 refine w_cond hF6 ?_ ?_ <;> intro hc7 hF7
 refine awp_seq (awp_region ?_)
 refine s_bld yZ34 yL34 ?_
 refine s_stW yS34 ?_
 refine s_as ?_
 refine k_nil (k_seq (awp_ret (k_seq_ret (k_fin ?_))))
 cases hF7
 exact ends_gen [] [] (by rw [Try.results59]; exact (res_agg (by conv => lhs; whnf) (by conv => lhs; whnf) yA34 yS34 rfl (res_tmp (by conv => lhs; whnf) res_nil)))
 refine awp_skip (k_seq (awp_seq (awp_region ?_)))
 refine s_ldW yA34 yS34 ?_
 refine s_stW yS34 ?_
 refine s_as ?_
 refine k_nil (k_seq (awp_ret (k_fin ?_)))
 cases hF7
 exact ends_gen [] [] (by rw [Try.results59]; exact (res_agg (by conv => lhs; whnf) (by conv => lhs; whnf) yA34 yS34 rfl (res_tmp (by conv => lhs; whnf) res_nil)))
def m_impl_hitVars_AC (fuel : Nat) : Prop := ∀ (x1 : (List Hit)) (r : ((List Form) × (List Int))), m_impl_hitVars fuel x1 = some r → AC Try.prog 149 [.t (.sl (x1.map Hit.row))] noOb (.tp [.t (.sl (r.1.map Form.row)), .t (.sl (r.2.map rI))]) noOb
theorem m_impl_hitVars_ok (fuel : Nat) : m_impl_hitVars_AC fuel := by
 intro x1 r hF0
 unfold m_impl_hitVars at hF0
 refine AC_i [.t (.sl (r.1.map Form.row)), .t (.sl (r.2.map rI))] Try.func149 rfl Try.ntmps149 ?_
 intro C hC
 refine awp_seq (awp_region ?_)
 refine s_as ?_
 refine s_as ?_
 refine k_nil (k_seq (awp_seq (awp_region ?_)))
 refine s_bs Form.row ([] : List Form) yP32 yR34 ?_
 refine s_bs rI ([] : List Int) yP22 yR3 ?_
 refine s_as ?_
 refine s_as ?_
 refine k_nil (k_seq (awp_seq (awp_seq (awp_region ?_))))
 refine s_mv ?_
 refine s_lenT yU63 ?_
 refine s_mv ?_
 refine k_nil (k_seq (awp_block ?_))
 refine awp_mv 4 8 5020 (by conv => lhs; whnf) (by conv => lhs; whnf) rfl ?_
 refine awp_mv 5 9 5021 (by conv => lhs; whnf) (by conv => lhs; whnf) rfl ?_
 refine awp_frame2 [4, 5, 7, 12, 13, 14, 15, 16, 17, 18, 19, 20, 21, 22, 23, 24, 25, 26] [5020, 5021] [7, 19, 20, 24, 25] [5020, 5021] (fun a : Nat × (List Form) × (List Int) × Int => a.1) (fun a : Nat × (List Form) × (List Int) × Int => [(4, .ar 5020), (5, .ar 5021), (12, .t (.sc (.int .i64 a.2.2.2)))]) (fun a : Nat × (List Form) × (List Int) × Int => [(5020, .arr (a.2.1.map Form.row) 34 true), (5021, .arr (a.2.2.1.map rI) 3 true)]) (fun a : Nat × (List Form) × (List Int) × Int => a.1 ≤ fuel ∧ m_impl_hitVars_l1 a.1 x1 a.2.1 a.2.2.1 a.2.2.2 = some r ∧ 0 ≤ a.2.2.2) (fuel, ([] : List Form), ([] : List Int), 0) ⟨Nat.le_refl _, hF0, by simp⟩ (by rfl) (by rfl) (fun _ => rfl) (hasF_cons (by conv => lhs; whnf) (by rfl) (hasF_cons (by conv => lhs; whnf) (by rfl) (hasF_cons (by conv => lhs; whnf) (by rfl) hasF_nil))) (hasO_cons (by conv => lhs; whnf) (by rfl) (hasO_cons (by conv => lhs; whnf) (by rfl) hasO_nil)) (fresh_C hC rfl) (by repeat (first | exact freshS_args rfl | refine freshS_upd rfl ?_ | refine freshS_frame rfl ?_)) (by repeat (first | exact freshM_no | exact objs_fresh rfl | refine freshM_upd rfl ?_ | refine freshM_frame rfl ?_)) ?_
 clear hF0
 rintro ⟨fu, g1, g2, g3⟩ ⟨hl4, hF1, hn_g3⟩
 dsimp only at hl4 hF1 hn_g3 ⊢
 obtain _ | fu := fu
 · rw [m_impl_hitVars_l1] at hF1; cases hF1
 rw [m_impl_hitVars_l1] at hF1
 refine awp_seq (awp_region ?_)
 refine s_lt ?_
 refine k_nil (k_seq (awp_seq ?_))
 refine w_cond hF1 ?_ ?_ <;> intro hc5 hF2
 refine awp_lenT 0 (fun hb6 => ?_)
 refine awp_skip (k_seq (awp_seq (awp_block (awp_seq (awp_region ?_)))))
 obtain ⟨v7, hv7, hF3⟩ := bind_some' hF2
 refine s_ixT Hit.row hv7 (Hit.row_eq _) yE63 ?_
 refine s_ldN yA65 yS65 ?_
 refine s_alloc yZ65 ?_
 refine s_stW yS65 ?_
 refine k_nil (k_seq ?_)
 refine awp_draw yMix (by kernel_rfl) ?_
 refine s_mv0 ?_
 refine s_fa yF65_0 ?_
 refine s_ldN yA34 yS34 ?_
 refine s_bs Form.row [v7.name] yP32 yR34 ?_
 obtain ⟨hk8, hF4⟩ := chk_some hF3
 refine s_apT Form.row (fun y => Form.row_len y) hk8 yP32 ?_
 refine s_mv0 ?_
 refine s_fa yF65_1 ?_
 refine s_ld1 yA3 ?_
 refine s_bs rI [v7.depth] yP22 yR3 ?_
 obtain ⟨hk9, hF5⟩ := chk_some hF4
 refine s_apT rI (fun _ => rfl) hk9 yP22 ?_
 refine s_as ?_
 refine s_as ?_
 refine k_nilD (by kernel_rfl) ?_
 refine k_blk (k_seq (awp_region ?_))
 refine s_add (winc2 hc5 hb6 hn_g3) ?_
 refine s_mv ?_
 refine k_nil ?_
 exact s_rn (fu, (g1 ++ [v7.name]), (g2 ++ [v7.depth]), (g3 + 1)) ⟨by first | omega | (dsimp only; omega), hF5, by first | omega | (dsimp only; omega)⟩ [(5020, 20), (5021, 25)]
 refine awp_exit (k_seq_exit (k_rnd_exit2 (k_blk_exit (k_seq (awp_seq (awp_region ?_))))))
 refine s_mv ?_
 refine s_mv ?_
 refine s_as ?_
 refine s_as ?_
 refine k_nil (k_seq (awp_ret (k_fin ?_)))
 cases hF2
 exact ends_a [] [5020, 5021] Try.results149
end Go.Abs
