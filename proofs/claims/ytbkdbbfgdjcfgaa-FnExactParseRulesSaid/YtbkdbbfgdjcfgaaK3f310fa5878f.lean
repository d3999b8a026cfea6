/- A part of the proof: what the functions that the law calls answer, as pure values. -/
import Derived.Test.YtbkdbbfgdjcfgaaK0b7d7560d506
import Derived.Test.YtbkdbbfgdjcfgaaK4fd39b116326
import Derived.Test.YtbkdbbfgdjcfgaaK61500c1b4fa0
import Derived.Test.YtbkdbbfgdjcfgaaK699ce2a2ded9
import Derived.Test.YtbkdbbfgdjcfgaaK737adf4b85c3
import Derived.Test.YtbkdbbfgdjcfgaaKcda3492cd79b
import Derived.Test.YtbkdbbfgdjcfgaaKd09531658691
set_option linter.unusedSimpArgs false
set_option linter.unusedVariables false
set_option maxRecDepth 100000
set_option maxHeartbeats 4000000
namespace Go.Abs
open Go.Proofs
def m_impl_depthIn_1_AC (fuel : Nat) : Prop := ∀ (x1 : Form) (o1 : Form) (r : Bool), m_impl_depthIn_1 fuel x1 o1 = some r → AC Try.prog 194 [.ag [.t (.sc (.int .i64 x1.kind)), .t (.sc (.str x1.name)), .t (.sc (.int .i64 x1.n)), .t (.sl (x1.scopes.map rI)), .t (.sl (x1.kids.map Form.row))], .rf 9000 0] (objs [(9000, .box [.t (.sc (.int .i64 o1.kind)), .t (.sc (.str o1.name)), .t (.sc (.int .i64 o1.n)), .t (.sl (o1.scopes.map rI)), .t (.sl (o1.kids.map Form.row))])]) (.t (.sc (.bool r))) (objs [(9000, .box [.t (.sc (.int .i64 o1.kind)), .t (.sc (.str o1.name)), .t (.sc (.int .i64 o1.n)), .t (.sl (o1.scopes.map rI)), .t (.sl (o1.kids.map Form.row))])])
theorem m_impl_depthIn_1_ok (fuel : Nat) : m_impl_depthIn_1_AC fuel := by
 intro x1 o1 r hF0
 unfold m_impl_depthIn_1 at hF0
 refine AC_i [.t (.sc (.bool r))] Try.func194 rfl Try.ntmps194 ?_
 intro C hC
 refine awp_seq (awp_region ?_)
 refine s_box ?_
 refine s_as ?_
 refine k_nil (k_seq (awp_seq (awp_region ?_)))
 refine s_ldW yA34 yS34 ?_
 refine s_ldW yA34 yS34 ?_
 obtain ⟨v1, hv1, hF1⟩ := bind_some' hF0
 refine s_pure [] (m_impl_FormSame_ok fuel _ _ _ hv1) ?_
 refine s_as ?_
 refine k_nil (k_seq (awp_ret (k_fin ?_)))
 cases hF1
 exact ends_a _ [] Try.results194
def m_slices_IndexFunc_Form_depthIn_1_AC (fuel : Nat) : Prop := ∀ (x1 : (List Form)) (o1 : Form) (r : Int), m_slices_IndexFunc_Form_depthIn_1 fuel x1 o1 = some r → AC Try.prog 179 [.t (.sl (x1.map Form.row)), .fn 194 [.rf 9000 0]] (objs [(9000, .box [.t (.sc (.int .i64 o1.kind)), .t (.sc (.str o1.name)), .t (.sc (.int .i64 o1.n)), .t (.sl (o1.scopes.map rI)), .t (.sl (o1.kids.map Form.row))])]) (.t (.sc (.int .i64 r))) (objs [(9000, .box [.t (.sc (.int .i64 o1.kind)), .t (.sc (.str o1.name)), .t (.sc (.int .i64 o1.n)), .t (.sl (o1.scopes.map rI)), .t (.sl (o1.kids.map Form.row))])])
theorem m_slices_IndexFunc_Form_depthIn_1_ok (fuel : Nat) : m_slices_IndexFunc_Form_depthIn_1_AC fuel := by
 intro x1 o1 r hF0
 unfold m_slices_IndexFunc_Form_depthIn_1 at hF0
 refine AC_i [.t (.sc (.int .i64 r))] Try.func179 rfl Try.ntmps179 ?_
 intro C hC
 refine awp_seq (awp_region ?_)
 refine s_as ?_
 refine k_nil (k_seq (awp_seq (awp_seq (awp_region ?_))))
 refine s_mv ?_
 refine s_lenT yU32 ?_
 refine s_mv ?_
 refine k_nil (k_seq (awp_block ?_))
 refine awp_fr (β := Int) [4, 5, 8, 9, 10, 11, 12, 13, 14, 15, 16, 17, 18] [] [] (fun a => [(8, .t (.sc (.int .i64 a.2)))]) (fun a => []) (fun a => a.1 ≤ fuel ∧ m_slices_IndexFunc_Form_depthIn_1_l1 a.1 x1 o1 a.2 = some r ∧ 0 ≤ a.2) (fuel, 0) ⟨Nat.le_refl _, hF0, by simp⟩ ?_
 clear hF0
 rintro ⟨fu, g1⟩ ⟨hl2, hF1, hn_g1⟩
 dsimp only at hl2 hF1 hn_g1 ⊢
 obtain _ | fu := fu
 · rw [m_slices_IndexFunc_Form_depthIn_1_l1] at hF1; cases hF1
 rw [m_slices_IndexFunc_Form_depthIn_1_l1] at hF1
 refine awp_seq (awp_region ?_)
 refine s_lt ?_
 refine k_nil (k_seq (awp_seq ?_))
 refine w_cond hF1 ?_ ?_ <;> intro hc3 hF2
 refine awp_lenT 0 (fun hb4 => ?_)
 refine awp_skip (k_seq (awp_seq (awp_block (awp_seq (awp_region ?_)))))
 refine s_mv ?_
 refine s_as ?_
 refine k_nil (k_seq (awp_seq (awp_region ?_)))
 iterate 3 refine s_mv ?_
 obtain ⟨v5, hv5, hF3⟩ := bind_some' hF2
 refine s_ixT Form.row hv5 (Form.row_eq _) yE32 ?_
 refine s_ldN yA34 yS34 ?_
 obtain ⟨v6, hv6, hF4⟩ := bind_some' hF3
 refine s_call [(9000, 9000)] [] _ _ (m_impl_depthIn_1_ok fu _ _ _ hv6) ?_
 refine k_nil (k_seq ?_)
 refine w_cond hF4 ?_ ?_ <;> intro hc7 hF5
 refine awp_seq (awp_region ?_)
 refine s_mv ?_
 refine s_as ?_
 refine k_nil (k_seq (awp_ret (k_blk_ret (k_seq_ret (k_rnd_ret2 (k_blk_ret (k_seq_ret (k_fin ?_))))))))
 cases hF5
 exact ends_a _ [] Try.results179
 refine awp_skip (k_blk (k_seq (awp_region ?_)))
 refine s_add (winc2 hc3 hb4 hn_g1) ?_
 refine s_mv ?_
 refine k_nil ?_
 exact s_rn (fu, (g1 + 1)) ⟨by first | omega | (dsimp only; omega), hF5, by first | omega | (dsimp only; omega)⟩
 refine awp_exit (k_seq_exit (k_rnd_exit2 (k_blk_exit (k_seq (awp_seq (awp_region ?_))))))
 refine s_as ?_
 refine k_nil (k_seq (awp_ret (k_fin ?_)))
 cases hF2
 exact ends_a _ [] Try.results179
def m_impl_depthIn_AC (fuel : Nat) : Prop := ∀ (x1 : (List Form)) (x2 : (List Int)) (x3 : Form) (r : Int), m_impl_depthIn fuel x1 x2 x3 = some r → AC Try.prog 189 [.t (.sl (x1.map Form.row)), .t (.sl (x2.map rI)), .ag [.t (.sc (.int .i64 x3.kind)), .t (.sc (.str x3.name)), .t (.sc (.int .i64 x3.n)), .t (.sl (x3.scopes.map rI)), .t (.sl (x3.kids.map Form.row))]] noOb (.t (.sc (.int .i64 r))) noOb
theorem m_impl_depthIn_ok (fuel : Nat) : m_impl_depthIn_AC fuel := by
 intro x1 x2 x3 r hF0
 unfold m_impl_depthIn at hF0
 refine AC_i [.t (.sc (.int .i64 r))] Try.func189 rfl Try.ntmps189 ?_
 intro C hC
 refine awp_seq (awp_region ?_)
 refine s_box ?_
 refine s_as ?_
 refine k_nil (k_seq (awp_seq (awp_seq (awp_region ?_))))
 refine s_fa yF34_0 ?_
 refine s_ld1 yA3 ?_
 refine s_ne ?_
 refine k_nil (k_seq ?_)
 refine w_cond hF0 ?_ ?_ <;> intro hc1 hF1
 refine awp_seq (awp_region ?_)
 refine s_as ?_
 refine k_nil (k_seq (awp_ret (k_seq_ret (k_fin ?_))))
 cases hF1
 exact ends_a [] [] Try.results189
 refine awp_skip (k_seq (awp_seq (awp_region ?_)))
 refine s_mv ?_
 refine s_fn ?_
 obtain ⟨v2, hv2, hF2⟩ := bind_some' hF1
 refine s_call [(9000, 5)] [] _ _ (m_slices_IndexFunc_Form_depthIn_1_ok fuel _ _ _ hv2) ?_
 refine s_as ?_
 refine k_nil (k_seq (awp_seq (awp_seq (awp_region ?_))))
 refine s_mv ?_
 refine s_lt ?_
 refine k_nil (k_seq ?_)
 refine w_cond hF2 ?_ ?_ <;> intro hc3 hF3
 refine awp_seq (awp_region ?_)
 refine s_as ?_
 refine k_nil (k_seq (awp_ret (k_seq_ret (k_fin ?_))))
 cases hF3
 exact ends_a [] [] Try.results189
 refine awp_skip (k_seq (awp_seq (awp_region ?_)))
 refine s_mv ?_
 refine s_mv ?_
 obtain ⟨v4, hv4, hF4⟩ := bind_some' hF3
 refine s_ixT rI hv4 rfl yE22 ?_
 refine s_ld1 yA3 ?_
 refine s_as ?_
 refine k_nil (k_seq (awp_ret (k_fin ?_)))
 cases hF4
 exact ends_a [] [] Try.results189
def m_impl_rowsOk_1_AC (fuel : Nat) : Prop := ∀ (x1 : Form) (o1 : Bool) (o2 : (List Form)) (o3 : (List Int)) (o4 : Int) (r : Bool), m_impl_rowsOk_1 fuel x1 o1 o2 o3 o4 = some r → AC Try.prog 190 [.ag [.t (.sc (.int .i64 x1.kind)), .t (.sc (.str x1.name)), .t (.sc (.int .i64 x1.n)), .t (.sl (x1.scopes.map rI)), .t (.sl (x1.kids.map Form.row))], .rf 9000 0, .rf 9001 0, .rf 9002 0, .rf 9003 0] (objs [(9000, .box [.t (.sc (.bool o1))]), (9001, .box [.t (.sl (o2.map Form.row))]), (9002, .box [.t (.sl (o3.map rI))]), (9003, .box [.t (.sc (.int .i64 o4))])]) (.tp []) (objs [(9000, .box [.t (.sc (.bool r))]), (9001, .box [.t (.sl (o2.map Form.row))]), (9002, .box [.t (.sl (o3.map rI))]), (9003, .box [.t (.sc (.int .i64 o4))])])
theorem m_impl_rowsOk_1_ok (fuel : Nat) : m_impl_rowsOk_1_AC fuel := by
 intro x1 o1 o2 o3 o4 r hF0
 unfold m_impl_rowsOk_1 at hF0
 refine AC_i [] Try.func190 rfl Try.ntmps190 ?_
 intro C hC
 refine awp_seq (awp_region ?_)
 refine s_box ?_
 refine k_nil (k_seq ?_)
 refine awp_draw yMix (by kernel_rfl) ?_
 refine s_ld1 yA4 ?_
 refine s_mv ?_
 refine w_guard _ 7 hF0 ?_ ?_ <;> intro hc1 hF1
 iterate 6 refine r_no rfl ?_
 refine s_pkt ?_
 refine s_stW yS4 ?_
 refine k_nilD (by kernel_rfl) ?_
 refine k_fin_end ?_
 cases hF1
 exact ends_a _ [] Try.results190
 refine s_ld1 yA32 ?_
 refine s_ld1 yA22 ?_
 refine s_ldW yA34 yS34 ?_
 obtain ⟨v2, hv2, hF2⟩ := bind_some' hF1
 refine s_pure [] (m_impl_depthIn_ok fuel _ _ _ _ hv2) ?_
 refine s_ld1 yA3 ?_
 refine s_gt ?_
 refine s_pkf ?_
 refine s_stW yS4 ?_
 refine k_nilD (by kernel_rfl) ?_
 refine k_fin_end ?_
 cases hF2
 exact ends_a _ [] Try.results190
def m_impl_eachForm_rowsOk_1_AC (fuel : Nat) : Prop := ∀ (x1 : Form) (o1 : Bool) (o2 : (List Form)) (o3 : (List Int)) (o4 : Int) (r : Bool), m_impl_eachForm_rowsOk_1 fuel x1 o1 o2 o3 o4 = some r → AC Try.prog 153 [.ag [.t (.sc (.int .i64 x1.kind)), .t (.sc (.str x1.name)), .t (.sc (.int .i64 x1.n)), .t (.sl (x1.scopes.map rI)), .t (.sl (x1.kids.map Form.row))], .fn 190 [.rf 9000 0, .rf 9001 0, .rf 9002 0, .rf 9003 0]] (objs [(9000, .box [.t (.sc (.bool o1))]), (9001, .box [.t (.sl (o2.map Form.row))]), (9002, .box [.t (.sl (o3.map rI))]), (9003, .box [.t (.sc (.int .i64 o4))])]) (.tp []) (objs [(9000, .box [.t (.sc (.bool r))]), (9001, .box [.t (.sl (o2.map Form.row))]), (9002, .box [.t (.sl (o3.map rI))]), (9003, .box [.t (.sc (.int .i64 o4))])])
theorem m_impl_eachForm_rowsOk_1_st (fu : Nat) (ih_m_impl_eachForm_rowsOk_1 : ∀ k, k ≤ fu → m_impl_eachForm_rowsOk_1_AC k) : m_impl_eachForm_rowsOk_1_AC (fu + 1) := by
 intro x1 o1 o2 o3 o4 r hF0
 rw [m_impl_eachForm_rowsOk_1] at hF0
 refine AC_i [] Try.func153 rfl Try.ntmps153 ?_
 intro C hC
 refine awp_seq (awp_region ?_)
 refine s_box ?_
 refine k_nil (k_seq (awp_seq (awp_region ?_)))
 refine s_mv ?_
 refine s_ldW yA34 yS34 ?_
 obtain ⟨v1, hv1, hF1⟩ := bind_some' hF0
 refine s_call [(9000, 9000), (9001, 9001), (9002, 9002), (9003, 9003)] [] _ _ (m_impl_rowsOk_1_ok fu _ _ _ _ _ _ hv1) ?_
 refine k_nil (k_seq (awp_seq (awp_region ?_)))
 refine s_fa yF34_4 ?_
 refine s_ld1 yA32 ?_
 refine s_lenT yU32 ?_
 refine s_mv ?_
 refine k_nil (k_seq (awp_block ?_))
 refine awp_fr (β := Int × Bool) [5, 12, 13, 14, 15, 16, 17, 18, 19] [9000] [5] (fun a => [(12, .t (.sc (.int .i64 a.2.1)))]) (fun a => [(9000, .box [.t (.sc (.bool a.2.2))])]) (fun a => a.1 ≤ fu ∧ m_impl_eachForm_rowsOk_1_l1 a.1 x1 o2 o3 o4 a.2.1 a.2.2 = some r ∧ 0 ≤ a.2.1) (fu, 0, v1) ⟨Nat.le_refl _, hF1, by simp⟩ ?_
 clear hF1
 rintro ⟨fu, g2, g3⟩ ⟨hl4, hF2, hn_g2⟩
 dsimp only at hl4 hF2 hn_g2 ⊢
 obtain _ | fu := fu
 · rw [m_impl_eachForm_rowsOk_1_l1] at hF2; cases hF2
 rw [m_impl_eachForm_rowsOk_1_l1] at hF2
 refine awp_seq (awp_region ?_)
 refine s_lt ?_
 refine k_nil (k_seq (awp_seq ?_))
 refine w_cond hF2 ?_ ?_ <;> intro hc5 hF3
 refine awp_lenT 10 (fun hb6 => ?_)
 refine awp_skip (k_seq (awp_seq (awp_block (awp_seq (awp_region ?_)))))
 obtain ⟨v7, hv7, hF4⟩ := bind_some' hF3
 refine s_ixT Form.row hv7 (Form.row_eq _) yE32 ?_
 refine s_ldN yA34 yS34 ?_
 refine s_alloc yZ34 ?_
 refine s_stW yS34 ?_
 refine k_nil (k_seq (awp_region ?_))
 refine s_ldW yA34 yS34 ?_
 refine s_mv ?_
 obtain ⟨v8, hv8, hF5⟩ := bind_some' hF4
 refine s_call [(9000, 9000), (9001, 9001), (9002, 9002), (9003, 9003)] [] _ _ (ih_m_impl_eachForm_rowsOk_1 fu (by omega) _ _ _ _ _ _ hv8) ?_
 refine k_nil (k_blk (k_seq (awp_region ?_)))
 refine s_add (winc2 hc5 hb6 hn_g2) ?_
 refine s_mv ?_
 refine k_nil ?_
 exact s_rn (fu, (g2 + 1), v8) ⟨by first | omega | (dsimp only; omega), hF5, by first | omega | (dsimp only; omega)⟩
 refine awp_exit (k_seq_exit (k_rnd_exit2 (k_blk_exit (k_fin_end ?_))))
 cases hF3
 exact ends_a _ [] Try.results153
theorem m_impl_eachForm_rowsOk_1_all (fuel : Nat) : m_impl_eachForm_rowsOk_1_AC fuel := by
 induction fuel using Nat.strongRecOn with
 | _ N ih =>
   cases N with
   | zero => exact (by intro x1 o1 o2 o3 o4 r h; rw [m_impl_eachForm_rowsOk_1] at h; cases h)
   | succ fu => exact m_impl_eachForm_rowsOk_1_st fu (fun k hk => (ih k (by omega)))
theorem m_impl_eachForm_rowsOk_1_ok (fuel : Nat) : m_impl_eachForm_rowsOk_1_AC fuel := (m_impl_eachForm_rowsOk_1_all fuel)
def m_impl_rowsOk_AC (fuel : Nat) : Prop := ∀ (x1 : Form) (x2 : (List Form)) (x3 : (List Int)) (x4 : Int) (r : Bool), m_impl_rowsOk fuel x1 x2 x3 x4 = some r → AC Try.prog 178 [.ag [.t (.sc (.int .i64 x1.kind)), .t (.sc (.str x1.name)), .t (.sc (.int .i64 x1.n)), .t (.sl (x1.scopes.map rI)), .t (.sl (x1.kids.map Form.row))], .t (.sl (x2.map Form.row)), .t (.sl (x3.map rI)), .t (.sc (.int .i64 x4))] noOb (.t (.sc (.bool r))) noOb
theorem m_impl_rowsOk_st (fu : Nat) (ih_m_impl_rowsOk : ∀ k, k ≤ fu → m_impl_rowsOk_AC k) : m_impl_rowsOk_AC (fu + 1) := by
 intro x1 x2 x3 x4 r hF0
 rw [m_impl_rowsOk] at hF0
 refine AC_i [.t (.sc (.bool r))] Try.func178 rfl Try.ntmps178 ?_
 intro C hC
 refine awp_seq (awp_region ?_)
 iterate 4 refine s_box ?_
 refine s_as ?_
 refine k_nil (k_seq (awp_seq (awp_seq ?_)))
 refine awp_draw yMix (by kernel_rfl) ?_
 refine s_ld1 yA32 ?_
 refine s_ld1 yA22 ?_
 refine s_ldW yA34 yS34 ?_
 obtain ⟨v1, hv1, hF1⟩ := bind_some' hF0
 refine s_pure [] (m_impl_depthIn_ok fu _ _ _ _ hv1) ?_
 refine s_ld1 yA3 ?_
 refine s_gt ?_
 refine k_nilD (by kernel_rfl) ?_
 refine k_seq ?_
 refine w_cond hF1 ?_ ?_ <;> intro hc2 hF2
 refine awp_seq (awp_region ?_)
 refine s_as ?_
 refine k_nil (k_seq (awp_ret (k_seq_ret (k_fin ?_))))
 cases hF2
 exact ends_a [] [] Try.results178
 refine awp_skip (k_seq (awp_seq (awp_seq (awp_region ?_))))
 refine s_fa yF34_4 ?_
 refine s_ld1 yA32 ?_
 refine s_lenT yU32 ?_
 refine s_mv ?_
 refine k_nil (k_seq (awp_block ?_))
 refine awp_fr (β := Int) [8, 9, 10, 11, 12, 22, 23, 24, 25, 26, 27, 28, 29, 30, 31, 32, 33, 34, 35, 36, 37, 38, 39, 40, 41, 42, 43, 44, 45, 46, 47, 48, 49, 50, 51, 52, 53, 54, 55, 56, 57, 58] [] [10, 12] (fun a => [(22, .t (.sc (.int .i64 a.2)))]) (fun a => []) (fun a => a.1 ≤ fu ∧ m_impl_rowsOk_l1 a.1 x1 x2 x3 x4 a.2 = some r ∧ 0 ≤ a.2) (fu, 0) ⟨Nat.le_refl _, hF2, by simp⟩ ?_
 clear hF2
 rintro ⟨fu, g3⟩ ⟨hl4, hF3, hn_g3⟩
 dsimp only at hl4 hF3 hn_g3 ⊢
 obtain _ | fu := fu
 · rw [m_impl_rowsOk_l1] at hF3; cases hF3
 rw [m_impl_rowsOk_l1] at hF3
 refine awp_seq (awp_region ?_)
 refine s_lt ?_
 refine k_nil (k_seq (awp_seq ?_))
 refine w_cond hF3 ?_ ?_ <;> intro hc5 hF4
 refine awp_lenT 20 (fun hb6 => ?_)
 refine awp_skip (k_seq (awp_seq (awp_block (awp_seq (awp_region ?_)))))
 refine s_mv ?_
 obtain ⟨v7, hv7, hF5⟩ := bind_some' hF4
 refine s_ixT Form.row hv7 (Form.row_eq _) yE32 ?_
 refine s_ldN yA34 yS34 ?_
 refine s_alloc yZ34 ?_
 refine s_as ?_
 refine s_stW yS34 ?_
 refine k_nil (k_seq (awp_seq (awp_seq (awp_region ?_))))
 refine s_ldW yA34 yS34 ?_
 obtain ⟨v8, hv8, hF6⟩ := bind_some' hF5
 refine s_pure [] (m_impl_named_ok fu _ _ _ hv8) ?_
 refine k_nil (k_seq ?_)
 refine w_cond hF6 ?_ ?_ <;> intro hc9 hF7
 refine awp_exit (k_seq_exit (k_blk_exit (k_seq (awp_region ?_))))
 refine s_add (winc2 hc5 hb6 hn_g3) ?_
 refine s_mv ?_
 refine k_nil ?_
 exact s_rn (fu, (g3 + 1)) ⟨by first | omega | (dsimp only; omega), hF7, by first | omega | (dsimp only; omega)⟩
 refine awp_skip (k_seq (awp_seq (awp_region ?_)))
 refine s_ld1 yA3 ?_
 refine s_as ?_
 refine k_nil (k_seq (awp_seq (awp_seq (awp_region ?_))))
 refine s_mv ?_
 refine s_add (winc2 hc5 hb6 hn_g3) ?_
 refine s_fa yF34_4 ?_
 refine s_ld1 yA32 ?_
 refine s_lenT yU32 ?_
 refine s_lt ?_
 refine s_mv ?_
 refine w_guard _ 36 hF7 ?_ ?_ <;> intro hc10 hF8
 refine s_fa yF34_4 ?_
 refine s_ld1 yA32 ?_
 refine s_mv ?_
 refine s_add (winc2 hc5 hb6 hn_g3) ?_
 obtain ⟨v11, hv11, hF9⟩ := bind_some' hF8
 refine s_ixT Form.row hv11 (Form.row_eq _) yE32 ?_
 refine s_ldN yA34 yS34 ?_
 obtain ⟨v12, hv12, hF10⟩ := bind_some' hF9
 refine s_pure [] (m_impl_named_ok fu _ _ _ hv12) ?_
 refine s_pkt ?_
 refine k_nil (k_seq ?_)
 refine w_cond hF10 ?_ ?_ <;> intro hc13 hF11
 refine awp_seq (awp_region ?_)
 refine s_mv ?_
 refine s_add rfl ?_
 refine s_as ?_
 refine k_nil (k_seq (awp_seq (awp_region ?_)))
 refine s_alloc yZ4 ?_
 refine s_stW yS4 ?_
 refine k_nil (k_seq (awp_seq (awp_region ?_)))
 refine s_ldW yA34 yS34 ?_
 refine s_fn ?_
 obtain ⟨v14, hv14, hF12⟩ := bind_some' hF11
 refine s_call [(9000, 12), (9001, 5), (9002, 6), (9003, 7)] [] _ _ (m_impl_eachForm_rowsOk_1_ok fu _ _ _ _ _ _ hv14) ?_
 refine k_nil (k_seq (awp_seq (awp_region ?_)))
 refine s_ld1 yA4 ?_
 refine s_not ?_
 refine k_nil (k_seq ?_)
 refine w_cond hF12 ?_ ?_ <;> intro hc15 hF13
 refine awp_seq (awp_region ?_)
 refine s_as ?_
 refine k_nil (k_seq (awp_ret (k_seq_ret (k_blk_ret (k_seq_ret (k_rnd_ret2 (k_blk_ret (k_seq_ret (k_fin ?_)))))))))
 cases hF13
 exact ends_a [] [] Try.results178
 refine awp_skip (k_seq (awp_seq (awp_region ?_)))
 refine s_ldW yA34 yS34 ?_
 refine s_ld1 yA32 ?_
 refine s_ld1 yA22 ?_
 refine s_mv ?_
 obtain ⟨v16, hv16, hF14⟩ := bind_some' hF13
 refine s_pure [] (ih_m_impl_rowsOk fu (by omega) _ _ _ _ _ hv16) ?_
 refine s_not ?_
 refine k_nil (k_seq ?_)
 refine w_cond hF14 ?_ ?_ <;> intro hc17 hF15
 refine awp_seq (awp_region ?_)
 refine s_as ?_
 refine k_nil (k_seq (awp_ret (k_blk_ret (k_seq_ret (k_rnd_ret2 (k_blk_ret (k_seq_ret (k_fin ?_))))))))
 cases hF15
 exact ends_a [] [] Try.results178
 refine awp_skip (k_blk (k_seq (awp_region ?_)))
 refine s_add (winc2 hc5 hb6 hn_g3) ?_
 refine s_mv ?_
 refine k_nil ?_
 exact s_rn (fu, (g3 + 1)) ⟨by first | omega | (dsimp only; omega), hF15, by first | omega | (dsimp only; omega)⟩
 refine awp_skip (k_seq (awp_seq (awp_region ?_)))
 refine s_ldW yA34 yS34 ?_
 refine s_ld1 yA32 ?_
 refine s_ld1 yA22 ?_
 refine s_mv ?_
 obtain ⟨v18, hv18, hF12⟩ := bind_some' hF11
 refine s_pure [] (ih_m_impl_rowsOk fu (by omega) _ _ _ _ _ hv18) ?_
 refine s_not ?_
 refine k_nil (k_seq ?_)
 refine w_cond hF12 ?_ ?_ <;> intro hc19 hF13
 refine awp_seq (awp_region ?_)
 refine s_as ?_
 refine k_nil (k_seq (awp_ret (k_blk_ret (k_seq_ret (k_rnd_ret2 (k_blk_ret (k_seq_ret (k_fin ?_))))))))
 cases hF13
 exact ends_a [] [] Try.results178
 refine awp_skip (k_blk (k_seq (awp_region ?_)))
 refine s_add (winc2 hc5 hb6 hn_g3) ?_
 refine s_mv ?_
 refine k_nil ?_
 exact s_rn (fu, (g3 + 1)) ⟨by first | omega | (dsimp only; omega), hF13, by first | omega | (dsimp only; omega)⟩
 iterate 7 refine r_no rfl ?_
 refine s_pkf ?_
 refine k_nil (k_seq (awp_false rfl (awp_skip (k_seq (awp_seq (awp_region ?_))))))
 refine s_ldW yA34 yS34 ?_
 refine s_ld1 yA32 ?_
 refine s_ld1 yA22 ?_
 refine s_mv ?_
 obtain ⟨v20, hv20, hF9⟩ := bind_some' hF8
 refine s_pure [] (ih_m_impl_rowsOk fu (by omega) _ _ _ _ _ hv20) ?_
 refine s_not ?_
 refine k_nil (k_seq ?_)
 refine w_cond hF9 ?_ ?_ <;> intro hc21 hF10
 refine awp_seq (awp_region ?_)
 refine s_as ?_
 refine k_nil (k_seq (awp_ret (k_blk_ret (k_seq_ret (k_rnd_ret2 (k_blk_ret (k_seq_ret (k_fin ?_))))))))
 cases hF10
 exact ends_a [] [] Try.results178
 refine awp_skip (k_blk (k_seq (awp_region ?_)))
 refine s_add (winc2 hc5 hb6 hn_g3) ?_
 refine s_mv ?_
 refine k_nil ?_
 exact s_rn (fu, (g3 + 1)) ⟨by first | omega | (dsimp only; omega), hF10, by first | omega | (dsimp only; omega)⟩
 refine awp_exit (k_seq_exit (k_rnd_exit2 (k_blk_exit (k_seq (awp_seq (awp_region ?_))))))
 refine s_as ?_
 refine k_nil (k_seq (awp_ret (k_fin ?_)))
 cases hF4
 exact ends_a [] [] Try.results178
theorem m_impl_rowsOk_all (fuel : Nat) : m_impl_rowsOk_AC fuel := by
 induction fuel using Nat.strongRecOn with
 | _ N ih =>
   cases N with
   | zero => exact (by intro x1 x2 x3 x4 r h; rw [m_impl_rowsOk] at h; cases h)
   | succ fu => exact m_impl_rowsOk_st fu (fun k hk => (ih k (by omega)))
theorem m_impl_rowsOk_ok (fuel : Nat) : m_impl_rowsOk_AC fuel := (m_impl_rowsOk_all fuel)
def m_impl_templateOk_AC (fuel : Nat) : Prop := ∀ (x1 : Form) (x2 : (List Form)) (x3 : (List Int)) (r : Bool), m_impl_templateOk fuel x1 x2 x3 = some r → AC Try.prog 150 [.ag [.t (.sc (.int .i64 x1.kind)), .t (.sc (.str x1.name)), .t (.sc (.int .i64 x1.n)), .t (.sl (x1.scopes.map rI)), .t (.sl (x1.kids.map Form.row))], .t (.sl (x2.map Form.row)), .t (.sl (x3.map rI))] noOb (.t (.sc (.bool r))) noOb
theorem m_impl_templateOk_ok (fuel : Nat) : m_impl_templateOk_AC fuel := by
 intro x1 x2 x3 r hF0
 unfold m_impl_templateOk at hF0
 refine AC_i [.t (.sc (.bool r))] Try.func150 rfl Try.ntmps150 ?_
 intro C hC
 refine awp_seq (awp_region ?_)
 refine s_box ?_
 refine s_as ?_
 refine k_nil (k_seq (awp_seq (awp_region ?_)))
 refine s_ldW yA34 yS34 ?_
 obtain ⟨v1, hv1, hF1⟩ := bind_some' hF0
 refine s_pure [] (m_impl_FormValid_ok fuel _ _ hv1) ?_
 refine s_mv ?_
 refine w_guard _ 9 hF1 ?_ ?_ <;> intro hc2 hF2
 refine s_ldW yA34 yS34 ?_
 obtain ⟨v3, hv3, hF3⟩ := bind_some' hF2
 refine s_pure [] (m_impl_named_ok fuel _ _ _ hv3) ?_
 refine s_not ?_
 refine s_pkt ?_
 refine s_mv ?_
 refine w_guard _ 14 hF3 ?_ ?_ <;> intro hc4 hF4
 refine s_ldW yA34 yS34 ?_
 obtain ⟨v5, hv5, hF5⟩ := bind_some' hF4
 refine s_pure [] (m_impl_dotsOk_ok fuel _ _ _ hv5) ?_
 refine s_pkt ?_
 refine s_mv ?_
 refine w_guard _ 18 hF5 ?_ ?_ <;> intro hc6 hF6
 refine s_ldW yA34 yS34 ?_
 refine s_mv ?_
 refine s_mv ?_
 obtain ⟨v7, hv7, hF7⟩ := bind_some' hF6
 refine s_pure [] (m_impl_rowsOk_ok fuel _ _ _ _ _ hv7) ?_
 refine s_pkt ?_
 refine s_as ?_
 refine k_nil (k_seq (awp_ret (k_fin ?_)))
 cases hF7
 exact ends_a [] [] Try.results150
 iterate 4 refine r_no rfl ?_
 refine s_pkf ?_
 refine s_as ?_
 refine k_nil (k_seq (awp_ret (k_fin ?_)))
 cases hF6
 exact ends_a [] [] Try.results150
 refine r_no rfl (r_no rfl ?_)
 refine s_pkf ?_
 refine s_mv ?_
 iterate 4 refine r_no rfl ?_
 refine s_pkf ?_
 refine s_as ?_
 refine k_nil (k_seq (awp_ret (k_fin ?_)))
 cases hF4
 exact ends_a [] [] Try.results150
 iterate 3 refine r_no rfl ?_
 refine s_pkf ?_
 refine s_mv ?_
 refine r_no rfl (r_no rfl ?_)
 refine s_pkf ?_
 refine s_mv ?_
 iterate 4 refine r_no rfl ?_
 refine s_pkf ?_
 refine s_as ?_
 refine k_nil (k_seq (awp_ret (k_fin ?_)))
 cases hF2
 exact ends_a [] [] Try.results150
def m_impl_RuleValid_AC (fuel : Nat) : Prop := ∀ (x1 : Rule) (x2 : (List Form)) (r : Bool), m_impl_RuleValid fuel x1 x2 = some r → AC Try.prog 120 [.ag [.t (.sc (.int .i64 x1.pattern.kind)), .t (.sc (.str x1.pattern.name)), .t (.sc (.int .i64 x1.pattern.n)), .t (.sl (x1.pattern.scopes.map rI)), .t (.sl (x1.pattern.kids.map Form.row)), .t (.sc (.int .i64 x1.template.kind)), .t (.sc (.str x1.template.name)), .t (.sc (.int .i64 x1.template.n)), .t (.sl (x1.template.scopes.map rI)), .t (.sl (x1.template.kids.map Form.row))], .t (.sl (x2.map Form.row))] noOb (.t (.sc (.bool r))) noOb
theorem m_impl_RuleValid_ok (fuel : Nat) : m_impl_RuleValid_AC fuel := by
 intro x1 x2 r hF0
 unfold m_impl_RuleValid at hF0
 refine AC_i [.t (.sc (.bool r))] Try.func120 rfl Try.ntmps120 ?_
 intro C hC
 refine awp_seq (awp_region ?_)
 refine s_box ?_
 refine s_as ?_
 refine k_nil (k_seq (awp_seq (awp_seq (awp_region ?_))))
 refine s_fa yF105_0 ?_
 refine s_ldN yA34 yS34 ?_
 refine s_mv ?_
 obtain ⟨v1, hv1, hF1⟩ := bind_some' hF0
 refine s_pure [] (m_impl_PatternValid_ok fuel _ _ _ hv1) ?_
 refine s_not ?_
 refine s_mv ?_
 refine w_guard _ 12 hF1 ?_ ?_ <;> intro hc2 hF2
 iterate 4 refine r_no rfl ?_
 refine s_pkt ?_
 refine s_mv ?_
 iterate 5 refine r_no rfl ?_
 refine s_pkt ?_
 refine k_nil (k_seq (awp_true rfl (awp_seq (awp_region ?_))))
 refine s_as ?_
 refine k_nil (k_seq (awp_ret (k_seq_ret (k_fin ?_))))
 cases hF2
 exact ends_a [] [] Try.results120
 refine s_fa yF105_0 ?_
 refine s_fa yF34_0 ?_
 refine s_ld1 yA3 ?_
 refine s_ne ?_
 refine s_pkf ?_
 refine s_mv ?_
 refine w_guard _ 18 hF2 ?_ ?_ <;> intro hc3 hF3
 iterate 5 refine r_no rfl ?_
 refine s_pkt ?_
 refine k_nil (k_seq (awp_true rfl (awp_seq (awp_region ?_))))
 refine s_as ?_
 refine k_nil (k_seq (awp_ret (k_seq_ret (k_fin ?_))))
 cases hF3
 exact ends_a [] [] Try.results120
 refine s_fa yF105_0 ?_
 refine s_fa yF34_4 ?_
 refine s_ld1 yA32 ?_
 refine s_lenT yU32 ?_
 refine s_eq ?_
 refine s_pkf ?_
 refine k_nil (k_seq ?_)
 refine w_cond hF3 ?_ ?_ <;> intro hc4 hF4
 refine awp_seq (awp_region ?_)
 refine s_as ?_
 refine k_nil (k_seq (awp_ret (k_seq_ret (k_fin ?_))))
 cases hF4
 exact ends_a [] [] Try.results120
 refine awp_skip (k_seq (awp_seq (awp_region ?_)))
 refine s_fa yF105_0 ?_
 refine s_ldN yA34 yS34 ?_
 refine s_mv ?_
 obtain ⟨v5, hv5, hF5⟩ := bind_some' hF4
 refine s_call [(9200, 2029)] [] _ _ (m_impl_varsOf_ok fuel _ _ _ hv5) ?_
 refine s_mv ?_
 refine s_ext ?_
 refine s_ext ?_
 refine s_as ?_
 refine s_as ?_
 refine k_nil (k_seq (awp_seq (awp_region ?_)))
 refine s_fa yF105_1 ?_
 refine s_ldN yA34 yS34 ?_
 refine s_mv ?_
 refine s_mv ?_
 obtain ⟨v6, hv6, hF6⟩ := bind_some' hF5
 refine s_pure [2029] (m_impl_templateOk_ok fuel _ _ _ _ hv6) ?_
 refine s_as ?_
 refine k_nil (k_seq (awp_ret (k_fin ?_)))
 cases hF6
 exact ends_a [] [] Try.results120
def m_impl_rulesOk_1_AC (fuel : Nat) : Prop := ∀ (x1 : Rule) (o1 : (List Form)) (r : Bool), m_impl_rulesOk_1 fuel x1 o1 = some r → AC Try.prog 119 [.ag [.t (.sc (.int .i64 x1.pattern.kind)), .t (.sc (.str x1.pattern.name)), .t (.sc (.int .i64 x1.pattern.n)), .t (.sl (x1.pattern.scopes.map rI)), .t (.sl (x1.pattern.kids.map Form.row)), .t (.sc (.int .i64 x1.template.kind)), .t (.sc (.str x1.template.name)), .t (.sc (.int .i64 x1.template.n)), .t (.sl (x1.template.scopes.map rI)), .t (.sl (x1.template.kids.map Form.row))], .rf 9000 0] (objs [(9000, .box [.t (.sl (o1.map Form.row))])]) (.t (.sc (.bool r))) (objs [(9000, .box [.t (.sl (o1.map Form.row))])])
theorem m_impl_rulesOk_1_ok (fuel : Nat) : m_impl_rulesOk_1_AC fuel := by
 intro x1 o1 r hF0
 unfold m_impl_rulesOk_1 at hF0
 refine AC_i [.t (.sc (.bool r))] Try.func119 rfl Try.ntmps119 ?_
 intro C hC
 refine awp_seq (awp_region ?_)
 refine s_box ?_
 refine s_as ?_
 refine k_nil (k_seq (awp_seq (awp_region ?_)))
 refine s_ldW yA105 yS105 ?_
 refine s_ld1 yA32 ?_
 obtain ⟨v1, hv1, hF1⟩ := bind_some' hF0
 refine s_pure [] (m_impl_RuleValid_ok fuel _ _ _ hv1) ?_
 refine s_not ?_
 refine s_as ?_
 refine k_nil (k_seq (awp_ret (k_fin ?_)))
 cases hF1
 exact ends_a _ [] Try.results119
def m_slices_IndexFunc_Rule_rulesOk_1_AC (fuel : Nat) : Prop := ∀ (x1 : (List Rule)) (o1 : (List Form)) (r : Int), m_slices_IndexFunc_Rule_rulesOk_1 fuel x1 o1 = some r → AC Try.prog 121 [.t (.sl (x1.map Rule.row)), .fn 119 [.rf 9000 0]] (objs [(9000, .box [.t (.sl (o1.map Form.row))])]) (.t (.sc (.int .i64 r))) (objs [(9000, .box [.t (.sl (o1.map Form.row))])])
theorem m_slices_IndexFunc_Rule_rulesOk_1_ok (fuel : Nat) : m_slices_IndexFunc_Rule_rulesOk_1_AC fuel := by
 intro x1 o1 r hF0
 unfold m_slices_IndexFunc_Rule_rulesOk_1 at hF0
 refine AC_i [.t (.sc (.int .i64 r))] Try.func121 rfl Try.ntmps121 ?_
 intro C hC
 refine awp_seq (awp_region ?_)
 refine s_as ?_
 refine k_nil (k_seq (awp_seq (awp_seq (awp_region ?_))))
 refine s_mv ?_
 refine s_lenT yU48 ?_
 refine s_mv ?_
 refine k_nil (k_seq (awp_block ?_))
 refine awp_fr (β := Int) [4, 5, 8, 9, 10, 11, 12, 13, 14, 15, 16, 17, 18] [] [] (fun a => [(8, .t (.sc (.int .i64 a.2)))]) (fun a => []) (fun a => a.1 ≤ fuel ∧ m_slices_IndexFunc_Rule_rulesOk_1_l1 a.1 x1 o1 a.2 = some r ∧ 0 ≤ a.2) (fuel, 0) ⟨Nat.le_refl _, hF0, by simp⟩ ?_
 clear hF0
 rintro ⟨fu, g1⟩ ⟨hl2, hF1, hn_g1⟩
 dsimp only at hl2 hF1 hn_g1 ⊢
 obtain _ | fu := fu
 · rw [m_slices_IndexFunc_Rule_rulesOk_1_l1] at hF1; cases hF1
 rw [m_slices_IndexFunc_Rule_rulesOk_1_l1] at hF1
 refine awp_seq (awp_region ?_)
 refine s_lt ?_
 refine k_nil (k_seq (awp_seq ?_))
 refine w_cond hF1 ?_ ?_ <;> intro hc3 hF2
 refine awp_lenT 0 (fun hb4 => ?_)
 refine awp_skip (k_seq (awp_seq (awp_block (awp_seq (awp_region ?_)))))
 refine s_mv ?_
 refine s_as ?_
 refine k_nil (k_seq (awp_seq (awp_region ?_)))
 iterate 3 refine s_mv ?_
 obtain ⟨v5, hv5, hF3⟩ := bind_some' hF2
 refine s_ixT Rule.row hv5 (Rule.row_eq _) yE48 ?_
 refine s_ldN yA105 yS105 ?_
 obtain ⟨v6, hv6, hF4⟩ := bind_some' hF3
 refine s_call [(9000, 9000)] [] _ _ (m_impl_rulesOk_1_ok fu _ _ _ hv6) ?_
 refine k_nil (k_seq ?_)
 refine w_cond hF4 ?_ ?_ <;> intro hc7 hF5
 refine awp_seq (awp_region ?_)
 refine s_mv ?_
 refine s_as ?_
 refine k_nil (k_seq (awp_ret (k_blk_ret (k_seq_ret (k_rnd_ret2 (k_blk_ret (k_seq_ret (k_fin ?_))))))))
 cases hF5
 exact ends_a _ [] Try.results121
 refine awp_skip (k_blk (k_seq (awp_region ?_)))
 refine s_add (winc2 hc3 hb4 hn_g1) ?_
 refine s_mv ?_
 refine k_nil ?_
 exact s_rn (fu, (g1 + 1)) ⟨by first | omega | (dsimp only; omega), hF5, by first | omega | (dsimp only; omega)⟩
 refine awp_exit (k_seq_exit (k_rnd_exit2 (k_blk_exit (k_seq (awp_seq (awp_region ?_))))))
 refine s_as ?_
 refine k_nil (k_seq (awp_ret (k_fin ?_)))
 cases hF2
 exact ends_a _ [] Try.results121
def m_slices_ContainsFunc_Rule_rulesOk_1_AC (fuel : Nat) : Prop := ∀ (x1 : (List Rule)) (o1 : (List Form)) (r : Bool), m_slices_ContainsFunc_Rule_rulesOk_1 fuel x1 o1 = some r → AC Try.prog 76 [.t (.sl (x1.map Rule.row)), .fn 119 [.rf 9000 0]] (objs [(9000, .box [.t (.sl (o1.map Form.row))])]) (.t (.sc (.bool r))) (objs [(9000, .box [.t (.sl (o1.map Form.row))])])
theorem m_slices_ContainsFunc_Rule_rulesOk_1_ok (fuel : Nat) : m_slices_ContainsFunc_Rule_rulesOk_1_AC fuel := by
 intro x1 o1 r hF0
 unfold m_slices_ContainsFunc_Rule_rulesOk_1 at hF0
 refine AC_i [.t (.sc (.bool r))] Try.func76 rfl Try.ntmps76 ?_
 intro C hC
 refine awp_seq (awp_region ?_)
 refine s_as ?_
 refine k_nil (k_seq (awp_seq (awp_region ?_)))
 refine s_mv ?_
 refine s_mv ?_
 obtain ⟨v1, hv1, hF1⟩ := bind_some' hF0
 refine s_call [(9000, 9000)] [] _ _ (m_slices_IndexFunc_Rule_rulesOk_1_ok fuel _ _ _ hv1) ?_
 refine s_ge ?_
 refine s_as ?_
 refine k_nil (k_seq (awp_ret (k_fin ?_)))
 cases hF1
 exact ends_a _ [] Try.results76
def m_impl_rulesOk_AC (fuel : Nat) : Prop := ∀ (x1 : (List Rule)) (x2 : (List Form)) (r : Bool), m_impl_rulesOk fuel x1 x2 = some r → AC Try.prog 75 [.t (.sl (x1.map Rule.row)), .t (.sl (x2.map Form.row))] noOb (.t (.sc (.bool r))) noOb
theorem m_impl_rulesOk_ok (fuel : Nat) : m_impl_rulesOk_AC fuel := by
 intro x1 x2 r hF0
 unfold m_impl_rulesOk at hF0
 refine AC_i [.t (.sc (.bool r))] Try.func75 rfl Try.ntmps75 ?_
 intro C hC
 refine awp_seq (awp_region ?_)
 refine s_box ?_
 refine s_as ?_
 refine k_nil (k_seq (awp_seq (awp_region ?_)))
 refine s_mv ?_
 refine s_lenT yU48 ?_
 refine s_le ?_
 refine s_mv ?_
 refine w_guard _ 8 hF0 ?_ ?_ <;> intro hc1 hF1
 refine s_ld1 yA32 ?_
 obtain ⟨v2, hv2, hF2⟩ := bind_some' hF1
 refine s_pure [] (m_impl_literalsOk_ok fuel _ _ hv2) ?_
 refine s_pkt ?_
 refine s_mv ?_
 refine w_guard _ 12 hF2 ?_ ?_ <;> intro hc3 hF3
 refine s_mv ?_
 refine s_fn ?_
 obtain ⟨v4, hv4, hF4⟩ := bind_some' hF3
 refine s_call [(9000, 3)] [] _ _ (m_slices_ContainsFunc_Rule_rulesOk_1_ok fuel _ _ _ hv4) ?_
 refine s_not ?_
 refine s_pkt ?_
 refine s_as ?_
 refine k_nil (k_seq (awp_ret (k_fin ?_)))
 cases hF4
 exact ends_a [] [] Try.results75
 iterate 4 refine r_no rfl ?_
 refine s_pkf ?_
 refine s_as ?_
 refine k_nil (k_seq (awp_ret (k_fin ?_)))
 cases hF3
 exact ends_a [] [] Try.results75
 refine r_no rfl (r_no rfl ?_)
 refine s_pkf ?_
 refine s_mv ?_
 iterate 4 refine r_no rfl ?_
 refine s_pkf ?_
 refine s_as ?_
 refine k_nil (k_seq (awp_ret (k_fin ?_)))
 cases hF1
 exact ends_a [] [] Try.results75
def m_laws_eqRule_AC (fuel : Nat) : Prop := ∀ (x1 : Rule) (x2 : Rule) (r : Bool), m_laws_eqRule fuel x1 x2 = some r → AC Try.prog 79 [.ag [.t (.sc (.int .i64 x1.pattern.kind)), .t (.sc (.str x1.pattern.name)), .t (.sc (.int .i64 x1.pattern.n)), .t (.sl (x1.pattern.scopes.map rI)), .t (.sl (x1.pattern.kids.map Form.row)), .t (.sc (.int .i64 x1.template.kind)), .t (.sc (.str x1.template.name)), .t (.sc (.int .i64 x1.template.n)), .t (.sl (x1.template.scopes.map rI)), .t (.sl (x1.template.kids.map Form.row))], .ag [.t (.sc (.int .i64 x2.pattern.kind)), .t (.sc (.str x2.pattern.name)), .t (.sc (.int .i64 x2.pattern.n)), .t (.sl (x2.pattern.scopes.map rI)), .t (.sl (x2.pattern.kids.map Form.row)), .t (.sc (.int .i64 x2.template.kind)), .t (.sc (.str x2.template.name)), .t (.sc (.int .i64 x2.template.n)), .t (.sl (x2.template.scopes.map rI)), .t (.sl (x2.template.kids.map Form.row))]] noOb (.t (.sc (.bool r))) noOb
theorem m_laws_eqRule_ok (fuel : Nat) : m_laws_eqRule_AC fuel := by
 intro x1 x2 r hF0
 unfold m_laws_eqRule at hF0
 refine AC_i [.t (.sc (.bool r))] Try.func79 rfl Try.ntmps79 ?_
 intro C hC
 refine awp_seq (awp_region ?_)
 refine s_box ?_
 refine s_box ?_
 refine s_as ?_
 refine k_nil (k_seq (awp_seq (awp_seq (awp_region ?_))))
 refine s_fa yF105_0 ?_
 refine s_ldN yA34 yS34 ?_
 refine s_fa yF105_0 ?_
 refine s_ldN yA34 yS34 ?_
 obtain ⟨v1, hv1, hF1⟩ := bind_some' hF0
 refine s_pure [] (m_laws_eqForm_ok fuel _ _ _ hv1) ?_
 refine s_not ?_
 refine k_nil (k_seq ?_)
 refine w_cond hF1 ?_ ?_ <;> intro hc2 hF2
 refine awp_seq (awp_region ?_)
 refine s_as ?_
 refine k_nil (k_seq (awp_ret (k_seq_ret (k_fin ?_))))
 cases hF2
 exact ends_a [] [] Try.results79
 refine awp_skip (k_seq (awp_seq (awp_seq (awp_region ?_))))
 refine s_fa yF105_1 ?_
 refine s_ldN yA34 yS34 ?_
 refine s_fa yF105_1 ?_
 refine s_ldN yA34 yS34 ?_
 obtain ⟨v3, hv3, hF3⟩ := bind_some' hF2
 refine s_pure [] (m_laws_eqForm_ok fuel _ _ _ hv3) ?_
 refine s_not ?_
 refine k_nil (k_seq ?_)
 refine w_cond hF3 ?_ ?_ <;> intro hc4 hF4
 refine awp_seq (awp_region ?_)
 refine s_as ?_
 refine k_nil (k_seq (awp_ret (k_seq_ret (k_fin ?_))))
 cases hF4
 exact ends_a [] [] Try.results79
 refine awp_skip (k_seq (awp_seq (awp_region ?_)))
 refine s_as ?_
 refine k_nil (k_seq (awp_ret (k_fin ?_)))
 cases hF4
 exact ends_a [] [] Try.results79
def m_laws_eqRuleS_AC (fuel : Nat) : Prop := ∀ (x1 : (List Rule)) (x2 : (List Rule)) (r : Bool), m_laws_eqRuleS fuel x1 x2 = some r → AC Try.prog 27 [.t (.sl (x1.map Rule.row)), .t (.sl (x2.map Rule.row))] noOb (.t (.sc (.bool r))) noOb
theorem m_laws_eqRuleS_ok (fuel : Nat) : m_laws_eqRuleS_AC fuel := by
 intro x1 x2 r hF0
 unfold m_laws_eqRuleS at hF0
 refine AC_i [.t (.sc (.bool r))] Try.func27 rfl Try.ntmps27 ?_
 intro C hC
 refine awp_seq (awp_region ?_)
 refine s_as ?_
 refine k_nil (k_seq (awp_seq (awp_seq (awp_region ?_))))
 refine s_mv ?_
 refine s_lenT yU48 ?_
 refine s_mv ?_
 refine s_lenT yU48 ?_
 refine s_ne ?_
 refine k_nil (k_seq ?_)
 refine w_cond hF0 ?_ ?_ <;> intro hc1 hF1
 refine awp_seq (awp_region ?_)
 refine s_as ?_
 refine k_nil (k_seq (awp_ret (k_seq_ret (k_fin ?_))))
 cases hF1
 exact ends_a [] [] Try.results27
 refine awp_skip (k_seq (awp_seq (awp_seq (awp_region ?_))))
 refine s_as ?_
 refine k_nil (k_seq (awp_block ?_))
 refine awp_fr (β := Int) [4, 5, 11, 12, 13, 14, 15, 16, 17, 18, 19, 20, 21, 22, 23, 24, 25, 26] [] [] (fun a => [(5, .t (.sc (.int .i64 a.2)))]) (fun a => []) (fun a => a.1 ≤ fuel ∧ m_laws_eqRuleS_l1 a.1 x1 x2 a.2 = some r ∧ 0 ≤ a.2) (fuel, 0) ⟨Nat.le_refl _, hF1, by simp⟩ ?_
 clear hF1
 rintro ⟨fu, g2⟩ ⟨hl3, hF2, hn_g2⟩
 dsimp only at hl3 hF2 hn_g2 ⊢
 obtain _ | fu := fu
 · rw [m_laws_eqRuleS_l1] at hF2; cases hF2
 rw [m_laws_eqRuleS_l1] at hF2
 refine awp_seq (awp_seq (awp_region ?_))
 refine s_mv ?_
 refine s_mv ?_
 refine s_lenT yU48 ?_
 refine s_lt ?_
 refine k_nil (k_seq ?_)
 refine w_cond hF2 ?_ ?_ <;> intro hc4 hF3
 refine awp_lenT 0 (fun hb5 => ?_)
 refine awp_skip (k_seq (awp_seq (awp_block (awp_seq ?_))))
 refine awp_draw yMix (by kernel_rfl) ?_
 refine s_mv ?_
 refine s_mv ?_
 obtain ⟨v6, hv6, hF4⟩ := bind_some' hF3
 refine s_ixT Rule.row hv6 (Rule.row_eq _) yE48 ?_
 refine s_ldN yA105 yS105 ?_
 refine s_mv ?_
 refine s_mv ?_
 obtain ⟨v7, hv7, hF5⟩ := bind_some' hF4
 refine s_ixT Rule.row hv7 (Rule.row_eq _) yE48 ?_
 refine s_ldN yA105 yS105 ?_
 obtain ⟨v8, hv8, hF6⟩ := bind_some' hF5
 refine s_pure [] (m_laws_eqRule_ok fu _ _ _ hv8) ?_
 refine s_not ?_
 refine k_nilD (by kernel_rfl) ?_
 refine k_seq ?_
 refine w_cond hF6 ?_ ?_ <;> intro hc9 hF7
 refine awp_seq (awp_region ?_)
 refine s_as ?_
 refine k_nil (k_seq (awp_ret (k_blk_ret (k_seq_ret (k_rnd_ret2 (k_blk_ret (k_seq_ret (k_fin ?_))))))))
 cases hF7
 exact ends_a [] [] Try.results27
 refine awp_skip (k_blk (k_seq (awp_region ?_)))
 refine s_mv ?_
 refine s_add (winc2 hc4 hb5 hn_g2) ?_
 refine s_as ?_
 refine k_nil ?_
 exact s_rn (fu, (g2 + 1)) ⟨by first | omega | (dsimp only; omega), hF7, by first | omega | (dsimp only; omega)⟩
 refine awp_exit (k_seq_exit (k_rnd_exit2 (k_blk_exit (k_seq (awp_seq (awp_region ?_))))))
 refine s_as ?_
 refine k_nil (k_seq (awp_ret (k_fin ?_)))
 cases hF3
 exact ends_a [] [] Try.results27
def m_laws_markRuleS_D_AC (fuel : Nat) : Prop := ∀ (x1 : (List Rule)) (x2 : Int) (r : (Int × (List Rule))), m_laws_markRuleS fuel x1 x2 = some r → AC Try.prog 29 [.ar 9300, .t (.sc (.int .i64 x2))] (objs [(9300, .dar (x1.map (Rule.rowD 3 34)) 105)]) (.t (.sc (.int .i64 r.1))) (objs [(9300, .dar (r.2.map (Rule.rowD 3 34)) 105)])
theorem m_laws_markRuleS_D_ok (fuel : Nat) : m_laws_markRuleS_D_AC fuel := by
 intro x1 x2 r hF0
 unfold m_laws_markRuleS at hF0
 refine AC_i [.t (.sc (.int .i64 r.1))] Try.func29 rfl Try.ntmps29 ?_
 intro C hC
 refine awp_seq (awp_region ?_)
 refine s_as ?_
 refine k_nil (k_seq (awp_seq (awp_seq (awp_region ?_))))
 refine s_as ?_
 refine k_nil (k_seq (awp_block ?_))
 refine awp_fr (β := Int × Int × (List Rule)) [1, 5, 6, 7, 8, 9, 10, 11, 12, 13, 14, 15, 16, 17, 18, 19, 20, 21, 22, 23, 24, 25, 26, 27, 28, 29, 30, 31, 32, 33, 34, 35, 36, 37, 38, 39, 40, 41, 42, 43, 44, 45, 46, 47, 48, 49, 50, 51, 52, 53, 54, 55, 56, 57, 58, 59, 60, 61, 62, 63, 64, 65, 66, 67, 68, 69, 70, 71, 72, 73, 74, 75, 76, 77, 78, 79, 80, 81, 82, 83, 84, 85, 86, 87, 88, 89, 90, 91, 92, 93] [9300] [42, 50, 83, 91] (fun a => [(1, .t (.sc (.int .i64 a.2.1))), (5, .t (.sc (.int .i64 a.2.2.1)))]) (fun a => [(9300, .dar (a.2.2.2.map (Rule.rowD 3 34)) 105)]) (fun a => a.1 ≤ fuel ∧ m_laws_markRuleS_l1 a.1  a.2.1 a.2.2.1 a.2.2.2 = some r) (fuel, x2, 0, x1) ⟨Nat.le_refl _, hF0⟩ ?_
 clear hF0
 rintro ⟨fu, g1, g2, g3⟩ ⟨hl4, hF1⟩
 dsimp only at hl4 hF1 ⊢
 obtain _ | fu := fu
 · rw [m_laws_markRuleS_l1] at hF1; cases hF1
 rw [m_laws_markRuleS_l1] at hF1
 refine awp_seq (awp_seq (awp_region ?_))
 refine s_mv ?_
 refine s_mv ?_
 refine s_lenD yU48 ?_
 refine s_lt ?_
 refine k_nil (k_seq ?_)
 refine w_cond hF1 ?_ ?_ <;> intro hc5 hF2
 refine awp_skip (k_seq (awp_seq (awp_block (awp_seq (awp_region ?_)))))
 iterate 3 refine s_mv ?_
 obtain ⟨v6, hv6, hF3⟩ := bind_some' hF2
 refine s_ixD (Rule.rowD 3 34) hv6 yE48 ?_
 refine s_fa yF105_0 ?_
 refine s_fa yF34_0 ?_
 refine s_stC (q := 9300) (off := 0) (u := .sc (.int .i64 g1)) (Rule.rowD 3 34) (Rule.mk (Form.mk g1 v6.pattern.name v6.pattern.n v6.pattern.scopes v6.pattern.kids) v6.template) hv6 (by rw [(Rule.rowDE _ _ _), (Rule.rowDE _ _ _)]; rfl) yS3 yS105 (hw := by rw [(Rule.rowDE _ _ _)]; rfl) ?_
 refine k_nil (k_seq (awp_seq (awp_region ?_)))
 refine s_mv ?_
 refine s_add rfl ?_
 refine s_as ?_
 refine k_nil (k_seq (awp_seq (awp_region ?_)))
 iterate 3 refine s_mv ?_
 obtain ⟨v7, hv7, hF4⟩ := bind_some' hF3
 refine s_pure [] (m_laws_markText_D_ok fu _ _ hv7) ?_
 obtain ⟨v8, hv8, hF5⟩ := bind_some' hF4
 refine s_ixD (Rule.rowD 3 34) hv8 yE48 ?_
 refine s_fa yF105_0 ?_
 refine s_fa yF34_1 ?_
 refine s_stC (q := 9300) (off := 1) (u := .sc (.str v7)) (Rule.rowD 3 34) (Rule.mk (Form.mk v8.pattern.kind v7 v8.pattern.n v8.pattern.scopes v8.pattern.kids) v8.template) hv8 (by rw [(Rule.rowDE _ _ _), (Rule.rowDE _ _ _)]; rfl) yS9 yS105 (hw := by rw [(Rule.rowDE _ _ _)]; rfl) ?_
 refine k_nil (k_seq (awp_seq (awp_region ?_)))
 refine s_mv ?_
 refine s_add rfl ?_
 refine s_as ?_
 refine k_nil (k_seq (awp_seq (awp_region ?_)))
 iterate 3 refine s_mv ?_
 obtain ⟨v9, hv9, hF6⟩ := bind_some' hF5
 refine s_ixD (Rule.rowD 3 34) hv9 yE48 ?_
 refine s_fa yF105_0 ?_
 refine s_fa yF34_2 ?_
 refine s_stC (q := 9300) (off := 2) (u := .sc (.int .i64 (w64 ((w64 (g1 + 1)) + 1)))) (Rule.rowD 3 34) (Rule.mk (Form.mk v9.pattern.kind v9.pattern.name (w64 ((w64 (g1 + 1)) + 1)) v9.pattern.scopes v9.pattern.kids) v9.template) hv9 (by rw [(Rule.rowDE _ _ _), (Rule.rowDE _ _ _)]; rfl) yS3 yS105 (hw := by rw [(Rule.rowDE _ _ _)]; rfl) ?_
 refine k_nil (k_seq (awp_seq (awp_region ?_)))
 refine s_mv ?_
 refine s_add rfl ?_
 refine s_as ?_
 refine k_nil (k_seq (awp_seq (awp_region ?_)))
 refine s_mv ?_
 refine s_mv ?_
 obtain ⟨v10, hv10, hF7⟩ := bind_some' hF6
 refine s_ixD (Rule.rowD 3 34) hv10 yE48 ?_
 refine s_fa yF105_0 ?_
 refine s_fa yF34_3 ?_
 refine s_ldHA (Rule.rowD 3 34) rI v10.pattern.scopes plain_rI hv10 yA22 yS105 (hw := by rw [(Rule.rowDE _ _ _)]; rfl) ?_
 refine s_mv ?_
 obtain ⟨v11, hv11, hF8⟩ := bind_some' hF7
 refine s_call [(9300, 42)] [] _ _ (m_laws_markIntS_D_ok fu _ _ _ hv11) ?_
 refine s_as ?_
 refine k_nil (k_seq ?_)
 refine awp_jsA 9300 42 [.sc (.int .i64 v10.pattern.kind), .sc (.str v10.pattern.name), .sc (.int .i64 v10.pattern.n), .ow 3 (v11.2.map rI), .ow 34 (v10.pattern.kids.map (Form.rowD 3 34)), .sc (.int .i64 v10.template.kind), .sc (.str v10.template.name), .sc (.int .i64 v10.template.n), .ow 3 (v10.template.scopes.map rI), .ow 34 (v10.template.kids.map (Form.rowD 3 34))] hv10 (row := (Rule.rowD 3 34)) (hj := by rw [(Rule.rowDE _ _ _)]; rfl) (hf := by rw [(Rule.rowDE _ _ _)]; rfl) ?_
 refine awp_nsH 9300 (row := (Rule.rowD 3 34)) (fs := [.sc (.int .i64 v10.pattern.kind), .sc (.str v10.pattern.name), .sc (.int .i64 v10.pattern.n), .ow 3 (v11.2.map rI), .ow 34 (v10.pattern.kids.map (Form.rowD 3 34)), .sc (.int .i64 v10.template.kind), .sc (.str v10.template.name), .sc (.int .i64 v10.template.n), .ow 3 (v10.template.scopes.map rI), .ow 34 (v10.template.kids.map (Form.rowD 3 34))]) (Rule.mk (Form.mk v10.pattern.kind v10.pattern.name v10.pattern.n v11.2 v10.pattern.kids) v10.template) (Rule.rowDE _ _ _) ?_
 refine awp_seq (awp_region ?_)
 refine s_mv ?_
 refine s_mv ?_
 obtain ⟨v12, hv12, hF9⟩ := bind_some' hF8
 refine s_ixD (Rule.rowD 3 34) hv12 yE48 ?_
 refine s_fa yF105_0 ?_
 refine s_fa yF34_4 ?_
 refine s_ldHD (Rule.rowD 3 34) (Form.rowD 3 34) v12.pattern.kids hv12 yA32 yS105 (hw := by rw [(Rule.rowDE _ _ _)]; rfl) ?_
 refine s_mv ?_
 obtain ⟨v13, hv13, hF10⟩ := bind_some' hF9
 refine s_call [(9300, 50)] [] _ _ (m_laws_markFormS_D_ok fu _ _ _ hv13) ?_
 refine s_as ?_
 refine k_nil (k_seq ?_)
 refine awp_jsD 9300 50 [.sc (.int .i64 v12.pattern.kind), .sc (.str v12.pattern.name), .sc (.int .i64 v12.pattern.n), .ow 3 (v12.pattern.scopes.map rI), .ow 34 (v13.2.map (Form.rowD 3 34)), .sc (.int .i64 v12.template.kind), .sc (.str v12.template.name), .sc (.int .i64 v12.template.n), .ow 3 (v12.template.scopes.map rI), .ow 34 (v12.template.kids.map (Form.rowD 3 34))] hv12 (row := (Rule.rowD 3 34)) (hj := by rw [(Rule.rowDE _ _ _)]; rfl) (hf := by rw [(Rule.rowDE _ _ _)]; rfl) ?_
 refine awp_nsH 9300 (row := (Rule.rowD 3 34)) (fs := [.sc (.int .i64 v12.pattern.kind), .sc (.str v12.pattern.name), .sc (.int .i64 v12.pattern.n), .ow 3 (v12.pattern.scopes.map rI), .ow 34 (v13.2.map (Form.rowD 3 34)), .sc (.int .i64 v12.template.kind), .sc (.str v12.template.name), .sc (.int .i64 v12.template.n), .ow 3 (v12.template.scopes.map rI), .ow 34 (v12.template.kids.map (Form.rowD 3 34))]) (Rule.mk (Form.mk v12.pattern.kind v12.pattern.name v12.pattern.n v12.pattern.scopes v13.2) v12.template) (Rule.rowDE _ _ _) ?_
 refine awp_seq (awp_region ?_)
 iterate 3 refine s_mv ?_
 obtain ⟨v14, hv14, hF11⟩ := bind_some' hF10
 refine s_ixD (Rule.rowD 3 34) hv14 yE48 ?_
 refine s_fa yF105_1 ?_
 refine s_fa yF34_0 ?_
 refine s_stC (q := 9300) (off := 5) (u := .sc (.int .i64 v13.1)) (Rule.rowD 3 34) (Rule.mk v14.pattern (Form.mk v13.1 v14.template.name v14.template.n v14.template.scopes v14.template.kids)) hv14 (by rw [(Rule.rowDE _ _ _), (Rule.rowDE _ _ _)]; rfl) yS3 yS105 (hw := by rw [(Rule.rowDE _ _ _)]; rfl) ?_
 refine k_nil (k_seq (awp_seq (awp_region ?_)))
 refine s_mv ?_
 refine s_add rfl ?_
 refine s_as ?_
 refine k_nil (k_seq (awp_seq (awp_region ?_)))
 iterate 3 refine s_mv ?_
 obtain ⟨v15, hv15, hF12⟩ := bind_some' hF11
 refine s_pure [] (m_laws_markText_D_ok fu _ _ hv15) ?_
 obtain ⟨v16, hv16, hF13⟩ := bind_some' hF12
 refine s_ixD (Rule.rowD 3 34) hv16 yE48 ?_
 refine s_fa yF105_1 ?_
 refine s_fa yF34_1 ?_
 refine s_stC (q := 9300) (off := 6) (u := .sc (.str v15)) (Rule.rowD 3 34) (Rule.mk v16.pattern (Form.mk v16.template.kind v15 v16.template.n v16.template.scopes v16.template.kids)) hv16 (by rw [(Rule.rowDE _ _ _), (Rule.rowDE _ _ _)]; rfl) yS9 yS105 (hw := by rw [(Rule.rowDE _ _ _)]; rfl) ?_
 refine k_nil (k_seq (awp_seq (awp_region ?_)))
 refine s_mv ?_
 refine s_add rfl ?_
 refine s_as ?_
 refine k_nil (k_seq (awp_seq (awp_region ?_)))
 iterate 3 refine s_mv ?_
 obtain ⟨v17, hv17, hF14⟩ := bind_some' hF13
 refine s_ixD (Rule.rowD 3 34) hv17 yE48 ?_
 refine s_fa yF105_1 ?_
 refine s_fa yF34_2 ?_
 refine s_stC (q := 9300) (off := 7) (u := .sc (.int .i64 (w64 ((w64 (v13.1 + 1)) + 1)))) (Rule.rowD 3 34) (Rule.mk v17.pattern (Form.mk v17.template.kind v17.template.name (w64 ((w64 (v13.1 + 1)) + 1)) v17.template.scopes v17.template.kids)) hv17 (by rw [(Rule.rowDE _ _ _), (Rule.rowDE _ _ _)]; rfl) yS3 yS105 (hw := by rw [(Rule.rowDE _ _ _)]; rfl) ?_
 refine k_nil (k_seq (awp_seq (awp_region ?_)))
 refine s_mv ?_
 refine s_add rfl ?_
 refine s_as ?_
 refine k_nil (k_seq (awp_seq (awp_region ?_)))
 refine s_mv ?_
 refine s_mv ?_
 obtain ⟨v18, hv18, hF15⟩ := bind_some' hF14
 refine s_ixD (Rule.rowD 3 34) hv18 yE48 ?_
 refine s_fa yF105_1 ?_
 refine s_fa yF34_3 ?_
 refine s_ldHA (Rule.rowD 3 34) rI v18.template.scopes plain_rI hv18 yA22 yS105 (hw := by rw [(Rule.rowDE _ _ _)]; rfl) ?_
 refine s_mv ?_
 obtain ⟨v19, hv19, hF16⟩ := bind_some' hF15
 refine s_call [(9300, 83)] [] _ _ (m_laws_markIntS_D_ok fu _ _ _ hv19) ?_
 refine s_as ?_
 refine k_nil (k_seq ?_)
 refine awp_jsA 9300 83 [.sc (.int .i64 v18.pattern.kind), .sc (.str v18.pattern.name), .sc (.int .i64 v18.pattern.n), .ow 3 (v18.pattern.scopes.map rI), .ow 34 (v18.pattern.kids.map (Form.rowD 3 34)), .sc (.int .i64 v18.template.kind), .sc (.str v18.template.name), .sc (.int .i64 v18.template.n), .ow 3 (v19.2.map rI), .ow 34 (v18.template.kids.map (Form.rowD 3 34))] hv18 (row := (Rule.rowD 3 34)) (hj := by rw [(Rule.rowDE _ _ _)]; rfl) (hf := by rw [(Rule.rowDE _ _ _)]; rfl) ?_
 refine awp_nsH 9300 (row := (Rule.rowD 3 34)) (fs := [.sc (.int .i64 v18.pattern.kind), .sc (.str v18.pattern.name), .sc (.int .i64 v18.pattern.n), .ow 3 (v18.pattern.scopes.map rI), .ow 34 (v18.pattern.kids.map (Form.rowD 3 34)), .sc (.int .i64 v18.template.kind), .sc (.str v18.template.name), .sc (.int .i64 v18.template.n), .ow 3 (v19.2.map rI), .ow 34 (v18.template.kids.map (Form.rowD 3 34))]) (Rule.mk v18.pattern (Form.mk v18.template.kind v18.template.name v18.template.n v19.2 v18.template.kids)) (Rule.rowDE _ _ _) ?_
 refine awp_region ?_
 refine s_mv ?_
 refine s_mv ?_
 obtain ⟨v20, hv20, hF17⟩ := bind_some' hF16
 refine s_ixD (Rule.rowD 3 34) hv20 yE48 ?_
 refine s_fa yF105_1 ?_
 refine s_fa yF34_4 ?_
 refine s_ldHD (Rule.rowD 3 34) (Form.rowD 3 34) v20.template.kids hv20 yA32 yS105 (hw := by rw [(Rule.rowDE _ _ _)]; rfl) ?_
 refine s_mv ?_
 obtain ⟨v21, hv21, hF18⟩ := bind_some' hF17
 refine s_call [(9300, 91)] [] _ _ (m_laws_markFormS_D_ok fu _ _ _ hv21) ?_
 refine s_as ?_
 refine k_nil (k_blk (k_seq ?_))
 refine awp_jsD 9300 91 [.sc (.int .i64 v20.pattern.kind), .sc (.str v20.pattern.name), .sc (.int .i64 v20.pattern.n), .ow 3 (v20.pattern.scopes.map rI), .ow 34 (v20.pattern.kids.map (Form.rowD 3 34)), .sc (.int .i64 v20.template.kind), .sc (.str v20.template.name), .sc (.int .i64 v20.template.n), .ow 3 (v20.template.scopes.map rI), .ow 34 (v21.2.map (Form.rowD 3 34))] hv20 (row := (Rule.rowD 3 34)) (hj := by rw [(Rule.rowDE _ _ _)]; rfl) (hf := by rw [(Rule.rowDE _ _ _)]; rfl) ?_
 refine awp_nsH 9300 (row := (Rule.rowD 3 34)) (fs := [.sc (.int .i64 v20.pattern.kind), .sc (.str v20.pattern.name), .sc (.int .i64 v20.pattern.n), .ow 3 (v20.pattern.scopes.map rI), .ow 34 (v20.pattern.kids.map (Form.rowD 3 34)), .sc (.int .i64 v20.template.kind), .sc (.str v20.template.name), .sc (.int .i64 v20.template.n), .ow 3 (v20.template.scopes.map rI), .ow 34 (v21.2.map (Form.rowD 3 34))]) (Rule.mk v20.pattern (Form.mk v20.template.kind v20.template.name v20.template.n v20.template.scopes v21.2)) (Rule.rowDE _ _ _) ?_
 refine awp_region ?_
 refine s_mv ?_
 refine s_add rfl ?_
 refine s_as ?_
 refine k_nil ?_
 exact s_rn (fu, v21.1, (w64 (g2 + 1)), ((((((((((g3.set g2.toNat (Rule.mk (Form.mk g1 v6.pattern.name v6.pattern.n v6.pattern.scopes v6.pattern.kids) v6.template)).set g2.toNat (Rule.mk (Form.mk v8.pattern.kind v7 v8.pattern.n v8.pattern.scopes v8.pattern.kids) v8.template)).set g2.toNat (Rule.mk (Form.mk v9.pattern.kind v9.pattern.name (w64 ((w64 (g1 + 1)) + 1)) v9.pattern.scopes v9.pattern.kids) v9.template)).set g2.toNat (Rule.mk (Form.mk v10.pattern.kind v10.pattern.name v10.pattern.n v11.2 v10.pattern.kids) v10.template)).set g2.toNat (Rule.mk (Form.mk v12.pattern.kind v12.pattern.name v12.pattern.n v12.pattern.scopes v13.2) v12.template)).set g2.toNat (Rule.mk v14.pattern (Form.mk v13.1 v14.template.name v14.template.n v14.template.scopes v14.template.kids))).set g2.toNat (Rule.mk v16.pattern (Form.mk v16.template.kind v15 v16.template.n v16.template.scopes v16.template.kids))).set g2.toNat (Rule.mk v17.pattern (Form.mk v17.template.kind v17.template.name (w64 ((w64 (v13.1 + 1)) + 1)) v17.template.scopes v17.template.kids))).set g2.toNat (Rule.mk v18.pattern (Form.mk v18.template.kind v18.template.name v18.template.n v19.2 v18.template.kids))).set g2.toNat (Rule.mk v20.pattern (Form.mk v20.template.kind v20.template.name v20.template.n v20.template.scopes v21.2)))) ⟨by first | omega | (dsimp only; omega), hF18⟩
 refine awp_exit (k_seq_exit (k_rnd_exit2 (k_blk_exit (k_seq (awp_seq (awp_region ?_))))))
 refine s_mv ?_
 refine s_as ?_
 refine k_nil (k_seq (awp_ret (k_fin ?_)))
 cases hF2
 exact ends_a _ [] Try.results29
end Go.Abs
