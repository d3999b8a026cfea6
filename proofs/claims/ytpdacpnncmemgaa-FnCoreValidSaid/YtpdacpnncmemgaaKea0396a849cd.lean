/- A part of the proof: what the functions that the law calls answer, as pure values. -/
import Derived.Test.YtpdacpnncmemgaaK3ef323c0229b
import Derived.Test.YtpdacpnncmemgaaK8027d358d496
import Derived.Test.YtpdacpnncmemgaaK83716c2a6622
import Derived.Test.YtpdacpnncmemgaaK91b7e0de0d8e
import Derived.Test.YtpdacpnncmemgaaK9447a34c36d6
import Derived.Test.YtpdacpnncmemgaaKd6184381962e
set_option linter.unusedSimpArgs false
set_option linter.unusedVariables false
set_option maxRecDepth 100000
set_option maxHeartbeats 4000000
namespace Go.Abs
open Go.Proofs
theorem m_impl_alike_all (fuel : Nat) : m_impl_alike_AC fuel := by
 induction fuel using Nat.strongRecOn with
 | _ N ih =>
   cases N with
   | zero => exact (by intro x1 x2 x3 r h; rw [m_impl_alike] at h; cases h)
   | succ fu => exact m_impl_alike_st fu (fun k hk => (ih k (by omega)))
theorem m_impl_alike_ok (fuel : Nat) : m_impl_alike_AC fuel := (m_impl_alike_all fuel)
def m_impl_alike_n_AC (fuel : Nat) : Prop := ∀ (x1 : Core) (x2 : Core) (r : Bool), m_impl_alike_n fuel x1 x2 = some r → AC Try.prog 32 [.ag [.t (.sc (.int .i64 x1.kind)), .t (.sc (.int .i64 x1.id)), .t (.sc (.str x1.name)), .t (.sc (.int .i64 x1.n)), .t (.sl (x1.ids.map rI)), .t (.sc (.int .i64 x1.data.kind)), .t (.sc (.str x1.data.name)), .t (.sc (.int .i64 x1.data.n)), .t (.sl (x1.data.scopes.map rI)), .t (.sl (x1.data.kids.map Form.row)), .t (.sl (x1.kids.map Core.row))], .ag [.t (.sc (.int .i64 x2.kind)), .t (.sc (.int .i64 x2.id)), .t (.sc (.str x2.name)), .t (.sc (.int .i64 x2.n)), .t (.sl (x2.ids.map rI)), .t (.sc (.int .i64 x2.data.kind)), .t (.sc (.str x2.data.name)), .t (.sc (.int .i64 x2.data.n)), .t (.sl (x2.data.scopes.map rI)), .t (.sl (x2.data.kids.map Form.row)), .t (.sl (x2.kids.map Core.row))], .t (.sc .nim)] noOb (.t (.sc (.bool r))) noOb
theorem m_impl_alike_n_st (fu : Nat) (ih_m_impl_alike_n : ∀ k, k ≤ fu → m_impl_alike_n_AC k) : m_impl_alike_n_AC (fu + 1) := by
 intro x1 x2 r hF0
 rw [m_impl_alike_n] at hF0
 refine AC_i [.t (.sc (.bool r))] Try.func32 rfl Try.ntmps32 ?_
 intro C hC
 refine awp_seq (awp_region ?_)
 refine s_box ?_
 refine s_box ?_
 refine s_as ?_
 refine k_nil (k_seq (awp_seq ?_))
 refine awp_jn (α := Nat × Bool) [13, 14, 15, 16, 17, 18, 19, 20, 21, 22, 23, 24, 25, 26, 27, 28, 29, 30, 31, 32, 33, 34, 35] [] [] (fun a => [(35, .t (.sc (.bool a.2)))]) (fun a => []) (fun a => a.1 ≤ fu ∧ m_impl_alike_n_j1 a.1 x1 x2 a.2 = some r) ?_ ?_
 refine awp_region ?_
 refine s_fa yF29_0 ?_
 refine s_ld1 yA3 ?_
 refine s_fa yF29_0 ?_
 refine s_ld1 yA3 ?_
 refine s_ne ?_
 refine s_mv ?_
 refine w_guard _ 18 hF0 ?_ ?_ <;> intro hc1 hF1
 iterate 7 refine r_no rfl ?_
 refine s_pkt ?_
 refine s_mv ?_
 iterate 7 refine r_no rfl ?_
 refine s_pkt ?_
 refine k_nil ?_
 exact s_jn (fu, true) ⟨by first | omega | (dsimp only; omega), hF1⟩
 refine s_fa yF29_6 ?_
 refine s_ld1 yA27 ?_
 refine s_lenT yU27 ?_
 refine s_fa yF29_6 ?_
 refine s_ld1 yA27 ?_
 refine s_lenT yU27 ?_
 refine s_ne ?_
 refine s_pkf ?_
 refine s_mv ?_
 refine w_guard _ 27 hF1 ?_ ?_ <;> intro hc2 hF2
 iterate 7 refine r_no rfl ?_
 refine s_pkt ?_
 refine k_nil ?_
 exact s_jn (fu, true) ⟨by first | omega | (dsimp only; omega), hF2⟩
 refine s_fa yF29_4 ?_
 refine s_ld1 yA23 ?_
 refine s_lenT yU23 ?_
 refine s_fa yF29_4 ?_
 refine s_ld1 yA23 ?_
 refine s_lenT yU23 ?_
 refine s_ne ?_
 refine s_pkf ?_
 refine k_nil ?_
 exact s_jn (fu, (decide ((x1.ids.length : Int) ≠ (x2.ids.length : Int)))) ⟨by first | omega | (dsimp only; omega), hF2⟩
 clear hF0
 rintro ⟨fu, g3⟩ ⟨hl4, hF1⟩
 dsimp only at hl4 hF1 ⊢
 obtain _ | fu := fu
 · rw [m_impl_alike_n_j1] at hF1; cases hF1
 rw [m_impl_alike_n_j1] at hF1
 refine w_cond hF1 ?_ ?_ <;> intro hc5 hF2
 refine awp_seq (awp_region ?_)
 refine s_as ?_
 refine k_nil (k_seq (awp_ret (k_seq_ret (k_fin ?_))))
 cases hF2
 exact ends_a [] [] Try.results32
 refine awp_skip (k_seq (awp_seq (awp_seq (awp_region ?_))))
 refine s_fa yF29_0 ?_
 refine s_ld1 yA3 ?_
 refine k_nil (k_seq (awp_block (awp_seq (awp_region ?_))))
 refine s_eq ?_
 refine s_as ?_
 refine k_nil (k_seq ?_)
 refine w_cond hF2 ?_ ?_ <;> intro hc6 hF3
 refine awp_seq (awp_region ?_)
 refine s_mv ?_
 refine s_fa yF29_1 ?_
 refine s_ld1 yA3 ?_
 refine s_lookN yM80 ?_
 refine s_fa yF29_1 ?_
 refine s_ld1 yA3 ?_
 refine s_eq ?_
 refine s_as ?_
 refine k_nil (k_seq (awp_ret (k_blk_ret (k_seq_ret (k_fin ?_)))))
 cases hF3
 exact ends_a [] [] Try.results32
 refine awp_seq (awp_region ?_)
 refine s_eq ?_
 refine s_as ?_
 refine k_nil (k_seq ?_)
 refine w_cond hF3 ?_ ?_ <;> intro hc7 hF4
 refine awp_seq (awp_region ?_)
 refine s_mkm ?_
 refine s_as ?_
 refine k_nil (k_seq (awp_seq (awp_seq (awp_region ?_))))
 refine s_mv ?_
 refine s_rangeN yM80 ?_
 refine k_nil (k_seq (awp_block ?_))
 refine awp_fr (β := Unit) [8, 9, 52, 53, 54, 55, 56, 57, 58, 59] [] [] (fun a => []) (fun a => []) (fun a => True) (0, ()) trivial ?_
 rintro ⟨_, _⟩ _
 refine awp_seq (awp_region ?_)
 refine s_nextN ?_
 refine s_ext ?_
 refine k_nil (k_seq (awp_seq (awp_false rfl ?_)))
 refine awp_exit (k_seq_exit (k_rnd_exit2 (k_blk_exit ?_)))
 refine k_seq ?_
 refine awp_kill 51 rfl ?_
 refine awp_jn (α := Nat × (Int → Option Int)) [10, 11, 60, 61, 62, 63, 64, 65, 66, 67, 68, 69, 70, 71, 72, 73, 74, 75] [49] [] (fun a => []) (fun a => [(49, .mp a.2)]) (fun a => a.1 ≤ fu ∧ m_impl_alike_j2 a.1 x1 x2 a.2 = some r) ?_ ?_
 refine awp_seq (awp_region ?_)
 refine s_fa yF29_4 ?_
 refine s_ld1 yA23 ?_
 refine s_lenT yU23 ?_
 refine s_mv ?_
 refine k_nil (k_seq (awp_block ?_))
 refine awp_fr (β := Int × (Int → Option Int)) [10, 11, 63, 64, 65, 66, 67, 68, 69, 70, 71, 72, 73, 74, 75] [49] [] (fun a => [(63, .t (.sc (.int .i64 a.2.1)))]) (fun a => [(49, .mp a.2.2)]) (fun a => a.1 ≤ fu ∧ m_impl_alike_l3 a.1 x1 x2 a.2.1 a.2.2 = some r ∧ 0 ≤ a.2.1) (fu, 0, map0) ⟨Nat.le_refl _, hF4, by simp⟩ ?_
 clear hF4
 rintro ⟨fu, g8, g9⟩ ⟨hl10, hF5, hn_g8⟩
 dsimp only at hl10 hF5 hn_g8 ⊢
 obtain _ | fu := fu
 · rw [m_impl_alike_l3] at hF5; cases hF5
 rw [m_impl_alike_l3] at hF5
 refine awp_seq (awp_region ?_)
 refine s_lt ?_
 refine k_nil (k_seq (awp_seq ?_))
 refine w_cond hF5 ?_ ?_ <;> intro hc11 hF6
 refine awp_lenT 61 (fun hb12 => ?_)
 refine awp_skip (k_seq (awp_seq (awp_block (awp_seq (awp_region ?_)))))
 refine s_mv ?_
 obtain ⟨v13, hv13, hF7⟩ := bind_some' hF6
 refine s_ixT rI hv13 rfl yE23 ?_
 refine s_ld1 yA3 ?_
 refine s_as ?_
 refine s_as ?_
 refine k_nil (k_seq (awp_region ?_))
 refine s_mv ?_
 refine s_mv ?_
 refine s_fa yF29_4 ?_
 refine s_ld1 yA23 ?_
 refine s_mv ?_
 obtain ⟨v14, hv14, hF8⟩ := bind_some' hF7
 refine s_ixT rI hv14 rfl yE23 ?_
 refine s_ld1 yA3 ?_
 refine s_mupd yM80 ?_
 refine k_nil (k_blk (k_seq (awp_region ?_)))
 refine s_add (winc2 hc11 hb12 hn_g8) ?_
 refine s_mv ?_
 refine k_nil ?_
 exact s_rn (fu, (g8 + 1), (mapSet g9 v13 v14)) ⟨by first | omega | (dsimp only; omega), hF8, by first | omega | (dsimp only; omega)⟩
 refine awp_exit (k_seq_exit (k_rnd_exit2 (k_blk_exit ?_)))
 exact s_jn (fu, g9) ⟨by first | omega | (dsimp only; omega), hF6⟩
 clear hF4
 rintro ⟨fu, g15⟩ ⟨hl16, hF5⟩
 dsimp only at hl16 hF5 ⊢
 obtain _ | fu := fu
 · rw [m_impl_alike_j2] at hF5; cases hF5
 rw [m_impl_alike_j2] at hF5
 refine awp_seq ?_
 refine awp_draw yMix (by kernel_rfl) ?_
 refine s_fa yF29_6 ?_
 refine s_ld1 yA27 ?_
 obtain ⟨v17, hv17, hF6⟩ := bind_some' hF5
 refine s_ixT Core.row hv17 (Core.row_eq _) yE27 ?_
 refine s_ldN yA29 yS29 ?_
 refine s_fa yF29_6 ?_
 refine s_ld1 yA27 ?_
 obtain ⟨v18, hv18, hF7⟩ := bind_some' hF6
 refine s_ixT Core.row hv18 (Core.row_eq _) yE27 ?_
 refine s_ldN yA29 yS29 ?_
 refine s_mv0 ?_
 obtain ⟨v19, hv19, hF8⟩ := bind_some' hF7
 refine s_call [(9302, 49)] [] _ _ (m_impl_alike_ok fu _ _ _ _ hv19) ?_
 refine s_as ?_
 refine k_nilD (by kernel_rfl) ?_
 refine k_seq (awp_ret (k_blk_ret (k_seq_ret (k_fin ?_))))
 cases hF8
 exact ends_a [] [] Try.results32
 refine awp_skip (k_blk (k_seq (awp_seq ?_)))
 refine awp_jn (α := Nat × Bool) [86, 87, 88, 89, 90, 91, 92, 93, 94, 95, 96, 97, 98, 99, 100, 101, 102, 103, 104, 105] [] [] (fun a => [(105, .t (.sc (.bool a.2)))]) (fun a => []) (fun a => a.1 ≤ fu ∧ m_impl_alike_n_j4 a.1 x1 x2 a.2 = some r) ?_ ?_
 refine awp_region ?_
 refine s_fa yF29_2 ?_
 refine s_ld1 yA9 ?_
 refine s_fa yF29_2 ?_
 refine s_ld1 yA9 ?_
 refine s_neS ?_
 refine s_mv ?_
 refine w_guard _ 91 hF4 ?_ ?_ <;> intro hc20 hF5
 iterate 5 refine r_no rfl ?_
 refine s_pkt ?_
 refine s_mv ?_
 iterate 6 refine r_no rfl ?_
 refine s_pkt ?_
 refine k_nil ?_
 exact s_jn (fu, true) ⟨by first | omega | (dsimp only; omega), hF5⟩
 refine s_fa yF29_3 ?_
 refine s_ld1 yA3 ?_
 refine s_fa yF29_3 ?_
 refine s_ld1 yA3 ?_
 refine s_ne ?_
 refine s_pkf ?_
 refine s_mv ?_
 refine w_guard _ 98 hF5 ?_ ?_ <;> intro hc21 hF6
 iterate 6 refine r_no rfl ?_
 refine s_pkt ?_
 refine k_nil ?_
 exact s_jn (fu, true) ⟨by first | omega | (dsimp only; omega), hF6⟩
 refine s_fa yF29_5 ?_
 refine s_ldN yA26 yS26 ?_
 refine s_fa yF29_5 ?_
 refine s_ldN yA26 yS26 ?_
 obtain ⟨v22, hv22, hF7⟩ := bind_some' hF6
 refine s_pure [] (m_impl_FormSame_ok fu _ _ _ hv22) ?_
 refine s_not ?_
 refine s_pkf ?_
 refine k_nil ?_
 exact s_jn (fu, (!v22)) ⟨by first | omega | (dsimp only; omega), hF7⟩
 clear hF4
 rintro ⟨fu, g23⟩ ⟨hl24, hF5⟩
 dsimp only at hl24 hF5 ⊢
 obtain _ | fu := fu
 · rw [m_impl_alike_n_j4] at hF5; cases hF5
 rw [m_impl_alike_n_j4] at hF5
 refine w_cond hF5 ?_ ?_ <;> intro hc25 hF6
 refine awp_seq (awp_region ?_)
 refine s_as ?_
 refine k_nil (k_seq (awp_ret (k_seq_ret (k_fin ?_))))
 cases hF6
 exact ends_a [] [] Try.results32
 refine awp_skip (k_seq (awp_seq (awp_seq (awp_region ?_))))
 refine s_fa yF29_6 ?_
 refine s_ld1 yA27 ?_
 refine s_lenT yU27 ?_
 refine s_mv ?_
 refine k_nil (k_seq (awp_block ?_))
 refine awp_fr (β := Int) [6, 12, 109, 110, 111, 112, 113, 114, 115, 116, 117, 118, 119, 120, 121, 122, 123, 124, 125] [] [] (fun a => [(109, .t (.sc (.int .i64 a.2)))]) (fun a => []) (fun a => a.1 ≤ fu ∧ m_impl_alike_n_l5 a.1 x1 x2 a.2 = some r ∧ 0 ≤ a.2) (fu, 0) ⟨Nat.le_refl _, hF6, by simp⟩ ?_
 clear hF6
 rintro ⟨fu, g26⟩ ⟨hl27, hF7, hn_g26⟩
 dsimp only at hl27 hF7 hn_g26 ⊢
 obtain _ | fu := fu
 · rw [m_impl_alike_n_l5] at hF7; cases hF7
 rw [m_impl_alike_n_l5] at hF7
 refine awp_seq (awp_region ?_)
 refine s_lt ?_
 refine k_nil (k_seq (awp_seq ?_))
 refine w_cond hF7 ?_ ?_ <;> intro hc28 hF8
 refine awp_lenT 107 (fun hb29 => ?_)
 refine awp_skip (k_seq (awp_seq (awp_block (awp_seq (awp_region ?_)))))
 refine s_mv ?_
 refine s_as ?_
 refine k_nil (k_seq (awp_seq ?_))
 refine awp_draw yMix (by kernel_rfl) ?_
 refine s_fa yF29_6 ?_
 refine s_ld1 yA27 ?_
 refine s_mv ?_
 obtain ⟨v30, hv30, hF9⟩ := bind_some' hF8
 refine s_ixT Core.row hv30 (Core.row_eq _) yE27 ?_
 refine s_ldN yA29 yS29 ?_
 refine s_fa yF29_6 ?_
 refine s_ld1 yA27 ?_
 refine s_mv ?_
 obtain ⟨v31, hv31, hF10⟩ := bind_some' hF9
 refine s_ixT Core.row hv31 (Core.row_eq _) yE27 ?_
 refine s_ldN yA29 yS29 ?_
 refine s_mv ?_
 obtain ⟨v32, hv32, hF11⟩ := bind_some' hF10
 refine s_pure [] (ih_m_impl_alike_n fu (by omega) _ _ _ hv32) ?_
 refine s_not ?_
 refine k_nilD (by kernel_rfl) ?_
 refine k_seq ?_
 refine w_cond hF11 ?_ ?_ <;> intro hc33 hF12
 refine awp_seq (awp_region ?_)
 refine s_as ?_
 refine k_nil (k_seq (awp_ret (k_blk_ret (k_seq_ret (k_rnd_ret2 (k_blk_ret (k_seq_ret (k_fin ?_))))))))
 cases hF12
 exact ends_a [] [] Try.results32
 refine awp_skip (k_blk (k_seq (awp_region ?_)))
 refine s_add (winc2 hc28 hb29 hn_g26) ?_
 refine s_mv ?_
 refine k_nil ?_
 exact s_rn (fu, (g26 + 1)) ⟨by first | omega | (dsimp only; omega), hF12, by first | omega | (dsimp only; omega)⟩
 refine awp_exit (k_seq_exit (k_rnd_exit2 (k_blk_exit (k_seq (awp_seq (awp_region ?_))))))
 refine s_as ?_
 refine k_nil (k_seq (awp_ret (k_fin ?_)))
 cases hF8
 exact ends_a [] [] Try.results32
theorem m_impl_alike_n_all (fuel : Nat) : m_impl_alike_n_AC fuel := by
 induction fuel using Nat.strongRecOn with
 | _ N ih =>
   cases N with
   | zero => exact (by intro x1 x2 r h; rw [m_impl_alike_n] at h; cases h)
   | succ fu => exact m_impl_alike_n_st fu (fun k hk => (ih k (by omega)))
theorem m_impl_alike_n_ok (fuel : Nat) : m_impl_alike_n_AC fuel := (m_impl_alike_n_all fuel)
def m_impl_CoreAlike_AC (fuel : Nat) : Prop := ∀ (x1 : Core) (x2 : Core) (r : Bool), m_impl_CoreAlike fuel x1 x2 = some r → AC Try.prog 16 [.ag [.t (.sc (.int .i64 x1.kind)), .t (.sc (.int .i64 x1.id)), .t (.sc (.str x1.name)), .t (.sc (.int .i64 x1.n)), .t (.sl (x1.ids.map rI)), .t (.sc (.int .i64 x1.data.kind)), .t (.sc (.str x1.data.name)), .t (.sc (.int .i64 x1.data.n)), .t (.sl (x1.data.scopes.map rI)), .t (.sl (x1.data.kids.map Form.row)), .t (.sl (x1.kids.map Core.row))], .ag [.t (.sc (.int .i64 x2.kind)), .t (.sc (.int .i64 x2.id)), .t (.sc (.str x2.name)), .t (.sc (.int .i64 x2.n)), .t (.sl (x2.ids.map rI)), .t (.sc (.int .i64 x2.data.kind)), .t (.sc (.str x2.data.name)), .t (.sc (.int .i64 x2.data.n)), .t (.sl (x2.data.scopes.map rI)), .t (.sl (x2.data.kids.map Form.row)), .t (.sl (x2.kids.map Core.row))]] noOb (.t (.sc (.bool r))) noOb
theorem m_impl_CoreAlike_ok (fuel : Nat) : m_impl_CoreAlike_AC fuel := by
 intro x1 x2 r hF0
 unfold m_impl_CoreAlike at hF0
 refine AC_i [.t (.sc (.bool r))] Try.func16 rfl Try.ntmps16 ?_
 intro C hC
 refine awp_seq (awp_region ?_)
 refine s_box ?_
 refine s_box ?_
 refine s_as ?_
 refine k_nil (k_seq (awp_seq (awp_region ?_)))
 refine s_ldW yA29 yS29 ?_
 obtain ⟨v1, hv1, hF1⟩ := bind_some' hF0
 refine s_pure [] (m_impl_CoreValid_ok fuel _ _ hv1) ?_
 refine s_mv ?_
 refine w_guard _ 7 hF1 ?_ ?_ <;> intro hc2 hF2
 refine s_ldW yA29 yS29 ?_
 obtain ⟨v3, hv3, hF3⟩ := bind_some' hF2
 refine s_pure [] (m_impl_CoreValid_ok fuel _ _ hv3) ?_
 refine s_pkt ?_
 refine s_mv ?_
 refine w_guard _ 11 hF3 ?_ ?_ <;> intro hc4 hF4
 refine s_ldW yA29 yS29 ?_
 refine s_ldW yA29 yS29 ?_
 obtain ⟨v5, hv5, hF5⟩ := bind_some' hF4
 refine s_pure [] (m_impl_alike_n_ok fuel _ _ _ hv5) ?_
 refine s_pkt ?_
 refine s_as ?_
 refine k_nil (k_seq (awp_ret (k_fin ?_)))
 cases hF5
 exact ends_a [] [] Try.results16
 iterate 3 refine r_no rfl ?_
 refine s_pkf ?_
 refine s_as ?_
 refine k_nil (k_seq (awp_ret (k_fin ?_)))
 cases hF4
 exact ends_a [] [] Try.results16
 refine r_no rfl (r_no rfl ?_)
 refine s_pkf ?_
 refine s_mv ?_
 iterate 3 refine r_no rfl ?_
 refine s_pkf ?_
 refine s_as ?_
 refine k_nil (k_seq (awp_ret (k_fin ?_)))
 cases hF2
 exact ends_a [] [] Try.results16
def m_laws_FnCoreValid_AC (fuel : Nat) : Prop := ∀ (x1 : (List Int)) (r : Bool), m_laws_FnCoreValid fuel x1 = some r → AC Try.prog 4 [.t (.sl (x1.map rB))] noOb (.t (.sc (.bool r))) noOb
theorem m_laws_FnCoreValid_ok (fuel : Nat) : m_laws_FnCoreValid_AC fuel := by
 intro x1 r hF0
 unfold m_laws_FnCoreValid at hF0
 refine AC_i [.t (.sc (.bool r))] Try.func4 rfl Try.ntmps4 ?_
 intro C hC
 refine awp_seq (awp_region ?_)
 refine s_as ?_
 refine k_nil (k_seq (awp_seq (awp_seq (awp_region ?_))))
 refine s_mv ?_
 refine s_lenT yU22 ?_
 refine s_gt ?_
 refine k_nil (k_seq ?_)
 refine w_cond hF0 ?_ ?_ <;> intro hc1 hF1
 refine awp_lenT 0 (fun hb2 => ?_)
 refine awp_seq (awp_region ?_)
 refine s_as ?_
 refine k_nil (k_seq (awp_ret (k_seq_ret (k_fin ?_))))
 cases hF1
 exact ends_a [] [] Try.results4
 refine awp_skip (k_seq (awp_seq (awp_region ?_)))
 refine s_mv ?_
 obtain ⟨v3, hv3, hF2⟩ := bind_some' hF1
 refine s_pure [] (m_spec_DrawCoreValid_ok fuel _ _ hv3) ?_
 refine s_alloc yZ29 ?_
 refine s_stW yS29 ?_
 refine k_nil (k_seq (awp_seq (awp_region ?_)))
 refine s_ldW yA29 yS29 ?_
 obtain ⟨v4, hv4, hF3⟩ := bind_some' hF2
 refine s_pure [] (m_impl_CoreValid_ok fuel _ _ hv4) ?_
 refine s_as ?_
 refine k_nil (k_seq (awp_seq ?_))
 refine awp_jn (α := Nat × Bool) [14, 15, 16, 17, 18, 19, 20, 21, 22, 23, 24, 25, 26] [] [] (fun a => [(26, .t (.sc (.bool a.2)))]) (fun a => []) (fun a => a.1 ≤ fuel ∧ m_laws_FnCoreValid_j1 a.1 v3 v4 a.2 = some r) ?_ ?_
 refine awp_region ?_
 refine s_mv ?_
 refine s_ldW yA29 yS29 ?_
 obtain ⟨v5, hv5, hF4⟩ := bind_some' hF3
 refine s_pure [] (m_spec_CoreValid_ok fuel _ _ hv5) ?_
 refine s_neB yU4 ?_
 refine s_mv ?_
 refine w_guard _ 18 hF4 ?_ ?_ <;> intro hc6 hF5
 refine r_no rfl (r_no rfl ?_)
 refine s_pkt ?_
 refine s_mv ?_
 iterate 3 refine r_no rfl ?_
 refine s_pkt ?_
 refine k_nil ?_
 exact s_jn (fuel, true) ⟨by first | omega | (dsimp only; omega), hF5⟩
 refine s_mv ?_
 refine s_not ?_
 refine s_pkf ?_
 refine s_mv ?_
 refine w_guard _ 22 hF5 ?_ ?_ <;> intro hc7 hF6
 iterate 3 refine r_no rfl ?_
 refine s_pkt ?_
 refine k_nil ?_
 exact s_jn (fuel, true) ⟨by first | omega | (dsimp only; omega), hF6⟩
 refine s_ldW yA29 yS29 ?_
 obtain ⟨v8, hv8, hF7⟩ := bind_some' hF6
 refine s_pure [] (m_impl_CoreSize_ok fuel _ _ hv8) ?_
 refine s_gt ?_
 refine s_pkf ?_
 refine k_nil ?_
 exact s_jn (fuel, (decide (500 < v8))) ⟨by first | omega | (dsimp only; omega), hF7⟩
 clear hF3
 rintro ⟨fu, g9⟩ ⟨hl10, hF4⟩
 dsimp only at hl10 hF4 ⊢
 obtain _ | fu := fu
 · rw [m_laws_FnCoreValid_j1] at hF4; cases hF4
 rw [m_laws_FnCoreValid_j1] at hF4
 refine w_cond hF4 ?_ ?_ <;> intro hc11 hF5
 refine awp_seq (awp_region ?_)
 refine s_mv ?_
 refine s_ldW yA29 yS29 ?_
 obtain ⟨v12, hv12, hF6⟩ := bind_some' hF5
 refine s_pure [] (m_spec_CoreValid_ok fu _ _ hv12) ?_
 refine s_eqB yU4 ?_
 refine s_as ?_
 refine k_nil (k_seq (awp_ret (k_seq_ret (k_fin ?_))))
 cases hF6
 exact ends_a [] [] Try.results4
 refine awp_skip (k_seq (awp_seq (awp_seq (awp_region ?_))))
 refine s_ldW yA29 yS29 ?_
 obtain ⟨v13, hv13, hF6⟩ := bind_some' hF5
 refine s_pure [] (m_laws_mxCoreHas_ok fu _ _ _ hv13) ?_
 refine k_nil (k_seq ?_)
 refine w_cond hF6 ?_ ?_ <;> intro hc14 hF7
 refine awp_seq (awp_region ?_)
 refine s_as ?_
 refine k_nil (k_seq (awp_ret (k_seq_ret (k_fin ?_))))
 cases hF7
 exact ends_a [] [] Try.results4
 refine awp_skip (k_seq (awp_seq (awp_region ?_)))
 refine s_bs rI [998] yP23 yR3 ?_
 refine s_ldW yA29 yS29 ?_
 refine s_bs Core.row [v3] yP27 yR29 ?_
 refine s_bld yZ29 yL29 ?_
 refine s_alloc yZ29 ?_
 refine s_stW yS29 ?_
 refine k_nil (k_seq (awp_seq (awp_region ?_)))
 refine s_ldW yA29 yS29 ?_
 refine s_ldW yA29 yS29 ?_
 refine s_bs Core.row [(Core.mk 5 0 (⟨#[]⟩ : ByteArray) 0 [998] (Form.mk 0 (⟨#[]⟩ : ByteArray) 0 ([] : List Int) ([] : List Form)) [v3]), (Core.mk 5 0 (⟨#[]⟩ : ByteArray) 0 [998] (Form.mk 0 (⟨#[]⟩ : ByteArray) 0 ([] : List Int) ([] : List Form)) [v3])] yP27 yR29 ?_
 refine s_bld yZ29 yL29 ?_
 refine s_alloc yZ29 ?_
 refine s_stW yS29 ?_
 refine k_nil (k_seq (awp_seq (awp_region ?_)))
 refine s_ldW yA29 yS29 ?_
 obtain ⟨v15, hv15, hF8⟩ := bind_some' hF7
 refine s_pure [] (m_laws_mxDeep_ok fu _ _ hv15) ?_
 refine s_gt ?_
 refine s_mv ?_
 refine w_guard _ 44 hF8 ?_ ?_ <;> intro hc16 hF9
 iterate 3 refine r_no rfl ?_
 refine s_pkt ?_
 refine s_mv ?_
 iterate 12 refine r_no rfl ?_
 refine s_pkt ?_
 refine s_as ?_
 refine k_nil (k_seq (awp_ret (k_fin ?_)))
 cases hF9
 exact ends_a [] [] Try.results4
 refine s_ldW yA29 yS29 ?_
 obtain ⟨v17, hv17, hF10⟩ := bind_some' hF9
 refine s_pure [] (m_impl_CoreSize_ok fu _ _ hv17) ?_
 refine s_gt ?_
 refine s_pkf ?_
 refine s_mv ?_
 refine w_guard _ 49 hF10 ?_ ?_ <;> intro hc18 hF11
 iterate 12 refine r_no rfl ?_
 refine s_pkt ?_
 refine s_as ?_
 refine k_nil (k_seq (awp_ret (k_fin ?_)))
 cases hF11
 exact ends_a [] [] Try.results4
 refine s_ldW yA29 yS29 ?_
 obtain ⟨v19, hv19, hF12⟩ := bind_some' hF11
 refine s_pure [33, 35] (m_impl_CoreValid_ok fu _ _ hv19) ?_
 refine s_mv ?_
 refine w_guard _ 52 hF12 ?_ ?_ <;> intro hc20 hF13
 refine s_ldW yA29 yS29 ?_
 obtain ⟨v21, hv21, hF14⟩ := bind_some' hF13
 refine s_pure [39] (m_impl_CoreValid_ok fu _ _ hv21) ?_
 refine s_pkt ?_
 refine s_mv ?_
 refine w_guard _ 56 hF14 ?_ ?_ <;> intro hc22 hF15
 refine s_ldW yA29 yS29 ?_
 refine s_ldW yA29 yS29 ?_
 obtain ⟨v23, hv23, hF16⟩ := bind_some' hF15
 refine s_pure [33, 35] (m_impl_CoreAlike_ok fu _ _ _ hv23) ?_
 refine s_not ?_
 refine s_pkt ?_
 refine s_pkf ?_
 refine s_as ?_
 refine k_nil (k_seq (awp_ret (k_fin ?_)))
 cases hF16
 exact ends_a [] [] Try.results4
 iterate 4 refine r_no rfl ?_
 refine s_pkf ?_
 refine s_pkf ?_
 refine s_as ?_
 refine k_nil (k_seq (awp_ret (k_fin ?_)))
 cases hF15
 exact ends_a [] [] Try.results4
 refine r_no rfl (r_no rfl ?_)
 refine s_pkf ?_
 refine s_mv ?_
 iterate 4 refine r_no rfl ?_
 refine s_pkf ?_
 refine s_pkf ?_
 refine s_as ?_
 refine k_nil (k_seq (awp_ret (k_fin ?_)))
 cases hF13
 exact ends_a [] [] Try.results4
end Go.Abs
