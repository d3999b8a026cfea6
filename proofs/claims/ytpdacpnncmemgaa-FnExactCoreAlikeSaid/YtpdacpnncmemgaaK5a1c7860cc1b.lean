/- A part of the proof: what the functions that the law calls answer, as pure values. -/
import Derived.Test.YtpdacpnncmemgaaK39cb63bc6596
import Derived.Test.YtpdacpnncmemgaaK91b7e0de0d8e
import Derived.Test.YtpdacpnncmemgaaKb6a9392c4a86
import Derived.Test.YtpdacpnncmemgaaKce019006519b
import Derived.Test.YtpdacpnncmemgaaKd5530cc0b19b
import Derived.Test.YtpdacpnncmemgaaKe7b4201ed229
import Derived.Test.YtpdacpnncmemgaaKf71e0488609d
set_option linter.unusedSimpArgs false
set_option linter.unusedVariables false
set_option maxRecDepth 100000
set_option maxHeartbeats 4000000
namespace Go.Abs
open Go.Proofs
theorem m_impl_alike_n_all (fuel : Nat) : m_impl_alike_n_AC fuel := by
 induction fuel using Nat.strongRecOn with
 | _ N ih =>
   cases N with
   | zero => exact (by intro x1 x2 r h; rw [m_impl_alike_n] at h; cases h)
   | succ fu => exact m_impl_alike_n_st fu (fun k hk => (ih k (by omega)))
theorem m_impl_alike_n_ok (fuel : Nat) : m_impl_alike_n_AC fuel := (m_impl_alike_n_all fuel)
def m_impl_CoreAlike_AC (fuel : Nat) : Prop := ∀ (x1 : Core) (x2 : Core) (r : Bool), m_impl_CoreAlike fuel x1 x2 = some r → AC Try.prog 16 [.ag [.t (.sc (.int .i64 x1.kind)), .t (.sc (.int .i64 x1.id)), .t (.sc (.str x1.name)), .t (.sc (.int .i64 x1.n)), .t (.sl (x1.ids.map rI)), .t (.sc (.int .i64 x1.data.kind)), .t (.sc (.str x1.data.name)), .t (.sc (.int .i64 x1.data.n)), .t (.sl (x1.data.scopes.map rI)), .t (.sl (x1.data.kids.map Form.row)), .t (.sl (x1.kids.map Core.row))], .ag [.t (.sc (.int .i64 x2.kind)), .t (.sc (.int .i64 x2.id)), .t (.sc (.str x2.name)), .t (.sc (.int .i64 x2.n)), .t (.sl (x2.ids.map rI)), .t (.sc (.int .i64 x2.data.kind)), .t (.sc (.str x2.data.name)), .t (.sc (.int .i64 x2.data.n)), .t (.sl (x2.data.scopes.map rI)), .t (.sl (x2.data.kids.map Form.row)), .t (.sl (x2.kids.map Core.row))]] noOb (.t (.sc (.bool r))) noOb
theorem m_impl_CoreAlike_ok (fuel : Nat) : m_impl_CoreAlike_AC fuel := by
 intro x1 x2 r hF0
 unfold m_impl_CoreAlike at hF0
 refine AC_i [.t (.sc (.bool r))] Try.func16 rfl Try.ntmps16 ?_
 intro C hC
 refine awp_seq (awp_region ?_)
 refine s_box ?_
 refine s_box ?_
 refine s_as ?_
 refine k_nil (k_seq (awp_seq (awp_region ?_)))
 refine s_ldW yA29 yS29 ?_
 obtain ⟨v1, hv1, hF1⟩ := bind_some' hF0
 refine s_pure [] (m_impl_CoreValid_ok fuel _ _ hv1) ?_
 refine s_mv ?_
 refine w_guard _ 7 hF1 ?_ ?_ <;> intro hc2 hF2
 refine s_ldW yA29 yS29 ?_
 obtain ⟨v3, hv3, hF3⟩ := bind_some' hF2
 refine s_pure [] (m_impl_CoreValid_ok fuel _ _ hv3) ?_
 refine s_pkt ?_
 refine s_mv ?_
 refine w_guard _ 11 hF3 ?_ ?_ <;> intro hc4 hF4
 refine s_ldW yA29 yS29 ?_
 refine s_ldW yA29 yS29 ?_
 obtain ⟨v5, hv5, hF5⟩ := bind_some' hF4
 refine s_pure [] (m_impl_alike_n_ok fuel _ _ _ hv5) ?_
 refine s_pkt ?_
 refine s_as ?_
 refine k_nil (k_seq (awp_ret (k_fin ?_)))
 cases hF5
 exact ends_a [] [] Try.results16
 iterate 3 refine r_no rfl ?_
 refine s_pkf ?_
 refine s_as ?_
 refine k_nil (k_seq (awp_ret (k_fin ?_)))
 cases hF4
 exact ends_a [] [] Try.results16
 refine r_no rfl (r_no rfl ?_)
 refine s_pkf ?_
 refine s_mv ?_
 iterate 3 refine r_no rfl ?_
 refine s_pkf ?_
 refine s_as ?_
 refine k_nil (k_seq (awp_ret (k_fin ?_)))
 cases hF2
 exact ends_a [] [] Try.results16
def m_spec_l6Last_AC (fuel : Nat) : Prop := ∀ (x1 : (List Int)) (x2 : Int) (r : Int), m_spec_l6Last fuel x1 x2 = some r → AC Try.prog 66 [.t (.sl (x1.map rI)), .t (.sc (.int .i64 x2))] noOb (.t (.sc (.int .i64 r))) noOb
theorem m_spec_l6Last_ok (fuel : Nat) : m_spec_l6Last_AC fuel := by
 intro x1 x2 r hF0
 unfold m_spec_l6Last at hF0
 refine AC_i [.t (.sc (.int .i64 r))] Try.func66 rfl Try.ntmps66 ?_
 intro C hC
 refine awp_seq (awp_region ?_)
 refine s_as ?_
 refine k_nil (k_seq (awp_seq (awp_seq (awp_region ?_))))
 refine s_mv ?_
 refine s_lenT yU23 ?_
 refine s_sub rfl ?_
 refine s_as ?_
 refine k_nil (k_seq (awp_block ?_))
 refine awp_fr (β := Int) [4, 5, 9, 10, 11, 12, 13, 14, 15, 16, 17, 18, 19, 20, 21, 22, 23] [] [] (fun a => [(5, .t (.sc (.int .i64 a.2)))]) (fun a => []) (fun a => a.1 ≤ fuel ∧ m_spec_l6Last_l1 a.1 x1 x2 a.2 = some r) (fuel, (w64 ((x1.length : Int) - 1))) ⟨Nat.le_refl _, hF0⟩ ?_
 clear hF0
 rintro ⟨fu, g1⟩ ⟨hl2, hF1⟩
 dsimp only at hl2 hF1 ⊢
 obtain _ | fu := fu
 · rw [m_spec_l6Last_l1] at hF1; cases hF1
 rw [m_spec_l6Last_l1] at hF1
 refine awp_seq (awp_seq (awp_region ?_))
 refine s_mv ?_
 refine s_ge ?_
 refine k_nil (k_seq ?_)
 refine w_cond hF1 ?_ ?_ <;> intro hc3 hF2
 refine awp_skip (k_seq (awp_seq (awp_block (awp_seq (awp_region ?_)))))
 refine s_mv ?_
 refine s_mv ?_
 obtain ⟨v4, hv4, hF3⟩ := bind_some' hF2
 refine s_ixT rI hv4 rfl yE23 ?_
 refine s_ld1 yA3 ?_
 refine s_mv ?_
 refine s_eq ?_
 refine k_nil (k_seq ?_)
 refine w_cond hF3 ?_ ?_ <;> intro hc5 hF4
 refine awp_seq (awp_region ?_)
 refine s_mv ?_
 refine s_lenT yU23 ?_
 refine s_sub rfl ?_
 refine s_mv ?_
 refine s_sub rfl ?_
 refine s_as ?_
 refine k_nil (k_seq (awp_ret (k_blk_ret (k_seq_ret (k_rnd_ret2 (k_blk_ret (k_seq_ret (k_fin ?_))))))))
 cases hF4
 exact ends_a [] [] Try.results66
 refine awp_skip (k_blk (k_seq (awp_region ?_)))
 refine s_mv ?_
 refine s_sub rfl ?_
 refine s_as ?_
 refine k_nil ?_
 exact s_rn (fu, (w64 (g1 - 1))) ⟨by first | omega | (dsimp only; omega), hF4⟩
 refine awp_exit (k_seq_exit (k_rnd_exit2 (k_blk_exit (k_seq (awp_seq (awp_region ?_))))))
 refine s_as ?_
 refine k_nil (k_seq (awp_ret (k_fin ?_)))
 cases hF2
 exact ends_a [] [] Try.results66
def m_spec_l6Alike_AC (fuel : Nat) : Prop := ∀ (x1 : Core) (x2 : Core) (x3 : (List Int)) (x4 : (List Int)) (r : Bool), m_spec_l6Alike fuel x1 x2 x3 x4 = some r → AC Try.prog 43 [.ag [.t (.sc (.int .i64 x1.kind)), .t (.sc (.int .i64 x1.id)), .t (.sc (.str x1.name)), .t (.sc (.int .i64 x1.n)), .t (.sl (x1.ids.map rI)), .t (.sc (.int .i64 x1.data.kind)), .t (.sc (.str x1.data.name)), .t (.sc (.int .i64 x1.data.n)), .t (.sl (x1.data.scopes.map rI)), .t (.sl (x1.data.kids.map Form.row)), .t (.sl (x1.kids.map Core.row))], .ag [.t (.sc (.int .i64 x2.kind)), .t (.sc (.int .i64 x2.id)), .t (.sc (.str x2.name)), .t (.sc (.int .i64 x2.n)), .t (.sl (x2.ids.map rI)), .t (.sc (.int .i64 x2.data.kind)), .t (.sc (.str x2.data.name)), .t (.sc (.int .i64 x2.data.n)), .t (.sl (x2.data.scopes.map rI)), .t (.sl (x2.data.kids.map Form.row)), .t (.sl (x2.kids.map Core.row))], .t (.sl (x3.map rI)), .t (.sl (x4.map rI))] noOb (.t (.sc (.bool r))) noOb
theorem m_spec_l6Alike_st (fu : Nat) (ih_m_spec_l6Alike : ∀ k, k ≤ fu → m_spec_l6Alike_AC k) : m_spec_l6Alike_AC (fu + 1) := by
 intro x1 x2 x3 x4 r hF0
 rw [m_spec_l6Alike] at hF0
 refine AC_i [.t (.sc (.bool r))] Try.func43 rfl Try.ntmps43 ?_
 intro C hC
 refine awp_seq (awp_region ?_)
 refine s_box ?_
 refine s_box ?_
 refine s_as ?_
 refine k_nil (k_seq (awp_seq ?_))
 refine awp_jn (α := Nat × Bool) [12, 13, 14, 15, 16, 17, 18, 19, 20, 21, 22, 23, 24, 25, 26, 27, 28, 29, 30, 31, 32, 33, 34, 35, 36, 37, 38, 39, 40, 41, 42, 43, 44, 45, 46, 47, 48, 49, 50, 51, 52, 53, 54, 55, 56] [] [] (fun a => [(56, .t (.sc (.bool a.2)))]) (fun a => []) (fun a => a.1 ≤ fu ∧ m_spec_l6Alike_j1 a.1 x1 x2 x3 x4 a.2 = some r) ?_ ?_
 refine awp_region ?_
 refine s_fa yF29_0 ?_
 refine s_ld1 yA3 ?_
 refine s_fa yF29_0 ?_
 refine s_ld1 yA3 ?_
 refine s_ne ?_
 refine s_mv ?_
 refine w_guard _ 17 hF0 ?_ ?_ <;> intro hc1 hF1
 iterate 5 refine r_no rfl ?_
 refine s_pkt ?_
 refine s_mv ?_
 iterate 5 refine r_no rfl ?_
 refine s_pkt ?_
 refine s_mv ?_
 iterate 7 refine r_no rfl ?_
 refine s_pkt ?_
 refine s_mv ?_
 iterate 6 refine r_no rfl ?_
 refine s_pkt ?_
 refine s_mv ?_
 iterate 7 refine r_no rfl ?_
 refine s_pkt ?_
 refine k_nil ?_
 exact s_jn (fu, true) ⟨by first | omega | (dsimp only; omega), hF1⟩
 refine s_fa yF29_2 ?_
 refine s_ld1 yA9 ?_
 refine s_fa yF29_2 ?_
 refine s_ld1 yA9 ?_
 refine s_neS ?_
 refine s_pkf ?_
 refine s_mv ?_
 refine w_guard _ 24 hF1 ?_ ?_ <;> intro hc2 hF2
 iterate 5 refine r_no rfl ?_
 refine s_pkt ?_
 refine s_mv ?_
 iterate 7 refine r_no rfl ?_
 refine s_pkt ?_
 refine s_mv ?_
 iterate 6 refine r_no rfl ?_
 refine s_pkt ?_
 refine s_mv ?_
 iterate 7 refine r_no rfl ?_
 refine s_pkt ?_
 refine k_nil ?_
 exact s_jn (fu, true) ⟨by first | omega | (dsimp only; omega), hF2⟩
 refine s_fa yF29_3 ?_
 refine s_ld1 yA3 ?_
 refine s_fa yF29_3 ?_
 refine s_ld1 yA3 ?_
 refine s_ne ?_
 refine s_pkf ?_
 refine s_mv ?_
 refine w_guard _ 31 hF2 ?_ ?_ <;> intro hc3 hF3
 iterate 7 refine r_no rfl ?_
 refine s_pkt ?_
 refine s_mv ?_
 iterate 6 refine r_no rfl ?_
 refine s_pkt ?_
 refine s_mv ?_
 iterate 7 refine r_no rfl ?_
 refine s_pkt ?_
 refine k_nil ?_
 exact s_jn (fu, true) ⟨by first | omega | (dsimp only; omega), hF3⟩
 refine s_fa yF29_4 ?_
 refine s_ld1 yA23 ?_
 refine s_lenT yU23 ?_
 refine s_fa yF29_4 ?_
 refine s_ld1 yA23 ?_
 refine s_lenT yU23 ?_
 refine s_ne ?_
 refine s_pkf ?_
 refine s_mv ?_
 refine w_guard _ 40 hF3 ?_ ?_ <;> intro hc4 hF4
 iterate 6 refine r_no rfl ?_
 refine s_pkt ?_
 refine s_mv ?_
 iterate 7 refine r_no rfl ?_
 refine s_pkt ?_
 refine k_nil ?_
 exact s_jn (fu, true) ⟨by first | omega | (dsimp only; omega), hF4⟩
 refine s_fa yF29_5 ?_
 refine s_ldN yA26 yS26 ?_
 refine s_fa yF29_5 ?_
 refine s_ldN yA26 yS26 ?_
 obtain ⟨v5, hv5, hF5⟩ := bind_some' hF4
 refine s_pure [] (m_spec_FormSame_ok fu _ _ _ hv5) ?_
 refine s_not ?_
 refine s_pkf ?_
 refine s_mv ?_
 refine w_guard _ 48 hF5 ?_ ?_ <;> intro hc6 hF6
 iterate 7 refine r_no rfl ?_
 refine s_pkt ?_
 refine k_nil ?_
 exact s_jn (fu, true) ⟨by first | omega | (dsimp only; omega), hF6⟩
 refine s_fa yF29_6 ?_
 refine s_ld1 yA27 ?_
 refine s_lenT yU27 ?_
 refine s_fa yF29_6 ?_
 refine s_ld1 yA27 ?_
 refine s_lenT yU27 ?_
 refine s_ne ?_
 refine s_pkf ?_
 refine k_nil ?_
 exact s_jn (fu, (decide ((x1.kids.length : Int) ≠ (x2.kids.length : Int)))) ⟨by first | omega | (dsimp only; omega), hF6⟩
 clear hF0
 rintro ⟨fu, g7⟩ ⟨hl8, hF1⟩
 dsimp only at hl8 hF1 ⊢
 obtain _ | fu := fu
 · rw [m_spec_l6Alike_j1] at hF1; cases hF1
 rw [m_spec_l6Alike_j1] at hF1
 refine w_cond hF1 ?_ ?_ <;> intro hc9 hF2
 refine awp_seq (awp_region ?_)
 refine s_as ?_
 refine k_nil (k_seq (awp_ret (k_seq_ret (k_fin ?_))))
 cases hF2
 exact ends_a [] [] Try.results43
 refine awp_skip (k_seq ?_)
 refine awp_jn (α := Nat) [8, 57, 58, 59, 60, 61, 62, 63, 64, 65, 66, 67, 68, 69, 70] [] [] (fun a => []) (fun a => []) (fun a => a ≤ fu ∧ m_spec_l6Alike_j2 a x1 x2 x3 x4  = some r) ?_ ?_
 refine awp_seq ?_
 refine awp_draw yMix (by kernel_rfl) ?_
 refine s_fa yF29_0 ?_
 refine s_ld1 yA3 ?_
 refine s_eq ?_
 refine s_mv ?_
 refine w_guard _ 60 hF2 ?_ ?_ <;> intro hc10 hF3
 refine s_mv ?_
 refine s_fa yF29_1 ?_
 refine s_ld1 yA3 ?_
 obtain ⟨v11, hv11, hF4⟩ := bind_some' hF3
 refine s_pure [] (m_spec_l6Last_ok fu _ _ _ hv11) ?_
 refine s_mv ?_
 refine s_fa yF29_1 ?_
 refine s_ld1 yA3 ?_
 obtain ⟨v12, hv12, hF5⟩ := bind_some' hF4
 refine s_pure [] (m_spec_l6Last_ok fu _ _ _ hv12) ?_
 refine s_ne ?_
 refine s_pkt ?_
 refine k_nilD (by kernel_rfl) ?_
 refine k_seq ?_
 refine w_cond hF5 ?_ ?_ <;> intro hc13 hF6
 refine awp_seq (awp_region ?_)
 refine s_as ?_
 refine k_nil (k_seq (awp_ret (k_jn_ret (k_fin ?_))))
 cases hF6
 exact ends_a [] [] Try.results43
 refine awp_skip ?_
 exact s_jn (fu) ⟨by first | omega | (dsimp only; omega), hF6⟩
 iterate 9 refine r_no rfl ?_
 refine s_pkf ?_
 refine k_nilD (by kernel_rfl) ?_
 refine k_seq (awp_false rfl (awp_skip ?_))
 exact s_jn (fu) ⟨by first | omega | (dsimp only; omega), hF3⟩
 clear hF2
 rintro fu ⟨hl14, hF3⟩
 obtain _ | fu := fu
 · rw [m_spec_l6Alike_j2] at hF3; cases hF3
 rw [m_spec_l6Alike_j2] at hF3
 refine awp_seq ?_
 refine awp_draw yMix (by kernel_rfl) ?_
 refine s_bs rI ([] : List Int) yP23 yR3 ?_
 refine s_mv ?_
 obtain ⟨hk15, hF4⟩ := chk_some hF3
 refine s_apT rI (fun _ => rfl) hk15 yP23 ?_
 refine s_fa yF29_4 ?_
 refine s_ld1 yA23 ?_
 obtain ⟨hk16, hF5⟩ := chk_some hF4
 refine s_apT rI (fun _ => rfl) hk16 yP23 ?_
 refine s_as ?_
 refine k_nilD (by kernel_rfl) ?_
 refine k_seq (awp_seq ?_)
 refine awp_draw yMix (by kernel_rfl) ?_
 refine s_bs rI ([] : List Int) yP23 yR3 ?_
 refine s_mv ?_
 obtain ⟨hk17, hF6⟩ := chk_some hF5
 refine s_apT rI (fun _ => rfl) hk17 yP23 ?_
 refine s_fa yF29_4 ?_
 refine s_ld1 yA23 ?_
 obtain ⟨hk18, hF7⟩ := chk_some hF6
 refine s_apT rI (fun _ => rfl) hk18 yP23 ?_
 refine s_as ?_
 refine k_nilD (by kernel_rfl) ?_
 refine k_seq (awp_seq (awp_seq (awp_region ?_)))
 refine s_as ?_
 refine k_nil (k_seq (awp_block ?_))
 refine awp_frz 76 (by conv => lhs; whnf) ?_
 refine awp_frz 82 (by conv => lhs; whnf) ?_
 refine awp_fr (β := Int × (List Int) × (List Int)) [8, 11, 83, 84, 85, 86, 87, 88, 89, 90, 91, 92, 93, 94, 95, 96, 97, 98, 99, 100, 101, 102, 103] [76, 82] [] (fun a => [(11, .t (.sc (.int .i64 a.2.1)))]) (fun a => [(76, .arr (a.2.2.1.map rI) 3 false), (82, .arr (a.2.2.2.map rI) 3 false)]) (fun a => a.1 ≤ fu ∧ m_spec_l6Alike_l3 a.1 x1 x2 a.2.1 a.2.2.1 a.2.2.2 = some r ∧ 0 ≤ a.2.1) (fu, 0, ((([] : List Int) ++ x3) ++ x1.ids), ((([] : List Int) ++ x4) ++ x2.ids)) ⟨Nat.le_refl _, hF7, by simp⟩ ?_
 clear hF7
 rintro ⟨fu, g19, g20, g21⟩ ⟨hl22, hF8, hn_g19⟩
 dsimp only at hl22 hF8 hn_g19 ⊢
 obtain _ | fu := fu
 · rw [m_spec_l6Alike_l3] at hF8; cases hF8
 rw [m_spec_l6Alike_l3] at hF8
 refine awp_seq (awp_seq (awp_region ?_))
 refine s_mv ?_
 refine s_fa yF29_6 ?_
 refine s_ld1 yA27 ?_
 refine s_lenT yU27 ?_
 refine s_lt ?_
 refine k_nil (k_seq ?_)
 refine w_cond hF8 ?_ ?_ <;> intro hc23 hF9
 refine awp_lenT 85 (fun hb24 => ?_)
 refine awp_skip (k_seq (awp_seq (awp_block (awp_seq ?_))))
 refine awp_draw yMix (by kernel_rfl) ?_
 refine s_fa yF29_6 ?_
 refine s_ld1 yA27 ?_
 refine s_mv ?_
 obtain ⟨v25, hv25, hF10⟩ := bind_some' hF9
 refine s_ixT Core.row hv25 (Core.row_eq _) yE27 ?_
 refine s_ldN yA29 yS29 ?_
 refine s_fa yF29_6 ?_
 refine s_ld1 yA27 ?_
 refine s_mv ?_
 obtain ⟨v26, hv26, hF11⟩ := bind_some' hF10
 refine s_ixT Core.row hv26 (Core.row_eq _) yE27 ?_
 refine s_ldN yA29 yS29 ?_
 refine s_mv0 ?_
 refine s_mv0 ?_
 obtain ⟨v27, hv27, hF12⟩ := bind_some' hF11
 refine s_pure [76, 82] (ih_m_spec_l6Alike fu (by omega) _ _ _ _ _ hv27) ?_
 refine s_not ?_
 refine k_nilD (by kernel_rfl) ?_
 refine k_seq ?_
 refine w_cond hF12 ?_ ?_ <;> intro hc28 hF13
 refine awp_seq (awp_region ?_)
 refine s_as ?_
 refine k_nil (k_seq (awp_ret (k_blk_ret (k_seq_ret (k_rnd_ret2 (k_blk_ret (k_seq_ret (k_fin ?_))))))))
 cases hF13
 exact ends_a [] [] Try.results43
 refine awp_skip (k_blk (k_seq (awp_region ?_)))
 refine s_mv ?_
 refine s_add (winc2 hc23 hb24 hn_g19) ?_
 refine s_as ?_
 refine k_nil ?_
 exact s_rn (fu, (g19 + 1), g20, g21) ⟨by first | omega | (dsimp only; omega), hF13, by first | omega | (dsimp only; omega)⟩
 refine awp_exit (k_seq_exit (k_rnd_exit2 (k_blk_exit (k_seq (awp_seq (awp_region ?_))))))
 refine s_as ?_
 refine k_nil (k_seq (awp_ret (k_fin ?_)))
 cases hF9
 exact ends_a [] [] Try.results43
theorem m_spec_l6Alike_all (fuel : Nat) : m_spec_l6Alike_AC fuel := by
 induction fuel using Nat.strongRecOn with
 | _ N ih =>
   cases N with
   | zero => exact (by intro x1 x2 x3 x4 r h; rw [m_spec_l6Alike] at h; cases h)
   | succ fu => exact m_spec_l6Alike_st fu (fun k hk => (ih k (by omega)))
theorem m_spec_l6Alike_ok (fuel : Nat) : m_spec_l6Alike_AC fuel := (m_spec_l6Alike_all fuel)
def m_spec_CoreAlike_AC (fuel : Nat) : Prop := ∀ (x1 : Core) (x2 : Core) (r : Bool), m_spec_CoreAlike fuel x1 x2 = some r → AC Try.prog 21 [.ag [.t (.sc (.int .i64 x1.kind)), .t (.sc (.int .i64 x1.id)), .t (.sc (.str x1.name)), .t (.sc (.int .i64 x1.n)), .t (.sl (x1.ids.map rI)), .t (.sc (.int .i64 x1.data.kind)), .t (.sc (.str x1.data.name)), .t (.sc (.int .i64 x1.data.n)), .t (.sl (x1.data.scopes.map rI)), .t (.sl (x1.data.kids.map Form.row)), .t (.sl (x1.kids.map Core.row))], .ag [.t (.sc (.int .i64 x2.kind)), .t (.sc (.int .i64 x2.id)), .t (.sc (.str x2.name)), .t (.sc (.int .i64 x2.n)), .t (.sl (x2.ids.map rI)), .t (.sc (.int .i64 x2.data.kind)), .t (.sc (.str x2.data.name)), .t (.sc (.int .i64 x2.data.n)), .t (.sl (x2.data.scopes.map rI)), .t (.sl (x2.data.kids.map Form.row)), .t (.sl (x2.kids.map Core.row))]] noOb (.t (.sc (.bool r))) noOb
theorem m_spec_CoreAlike_ok (fuel : Nat) : m_spec_CoreAlike_AC fuel := by
 intro x1 x2 r hF0
 unfold m_spec_CoreAlike at hF0
 refine AC_i [.t (.sc (.bool r))] Try.func21 rfl Try.ntmps21 ?_
 intro C hC
 refine awp_seq (awp_region ?_)
 refine s_box ?_
 refine s_box ?_
 refine s_as ?_
 refine k_nil (k_seq (awp_seq (awp_region ?_)))
 refine s_ldW yA29 yS29 ?_
 obtain ⟨v1, hv1, hF1⟩ := bind_some' hF0
 refine s_pure [] (m_spec_CoreValid_ok fuel _ _ hv1) ?_
 refine s_mv ?_
 refine w_guard _ 7 hF1 ?_ ?_ <;> intro hc2 hF2
 refine s_ldW yA29 yS29 ?_
 obtain ⟨v3, hv3, hF3⟩ := bind_some' hF2
 refine s_pure [] (m_spec_CoreValid_ok fuel _ _ hv3) ?_
 refine s_pkt ?_
 refine s_mv ?_
 refine w_guard _ 11 hF3 ?_ ?_ <;> intro hc4 hF4
 refine s_ldW yA29 yS29 ?_
 refine s_ldW yA29 yS29 ?_
 refine s_bs rI ([] : List Int) yP23 yR3 ?_
 refine s_bs rI ([] : List Int) yP23 yR3 ?_
 obtain ⟨v5, hv5, hF5⟩ := bind_some' hF4
 refine s_pure [14, 15] (m_spec_l6Alike_ok fuel _ _ _ _ _ hv5) ?_
 refine s_pkt ?_
 refine s_as ?_
 refine k_nil (k_seq (awp_ret (k_fin ?_)))
 cases hF5
 exact ends_a [] [] Try.results21
 iterate 5 refine r_no rfl ?_
 refine s_pkf ?_
 refine s_as ?_
 refine k_nil (k_seq (awp_ret (k_fin ?_)))
 cases hF4
 exact ends_a [] [] Try.results21
 refine r_no rfl (r_no rfl ?_)
 refine s_pkf ?_
 refine s_mv ?_
 iterate 5 refine r_no rfl ?_
 refine s_pkf ?_
 refine s_as ?_
 refine k_nil (k_seq (awp_ret (k_fin ?_)))
 cases hF2
 exact ends_a [] [] Try.results21
def m_laws_FnExactCoreAlike_AC (fuel : Nat) : Prop := ∀ (x1 : Core) (x2 : Core) (r : Bool), m_laws_FnExactCoreAlike fuel x1 x2 = some r → AC Try.prog 8 [.ag [.t (.sc (.int .i64 x1.kind)), .t (.sc (.int .i64 x1.id)), .t (.sc (.str x1.name)), .t (.sc (.int .i64 x1.n)), .t (.sl (x1.ids.map rI)), .t (.sc (.int .i64 x1.data.kind)), .t (.sc (.str x1.data.name)), .t (.sc (.int .i64 x1.data.n)), .t (.sl (x1.data.scopes.map rI)), .t (.sl (x1.data.kids.map Form.row)), .t (.sl (x1.kids.map Core.row))], .ag [.t (.sc (.int .i64 x2.kind)), .t (.sc (.int .i64 x2.id)), .t (.sc (.str x2.name)), .t (.sc (.int .i64 x2.n)), .t (.sl (x2.ids.map rI)), .t (.sc (.int .i64 x2.data.kind)), .t (.sc (.str x2.data.name)), .t (.sc (.int .i64 x2.data.n)), .t (.sl (x2.data.scopes.map rI)), .t (.sl (x2.data.kids.map Form.row)), .t (.sl (x2.kids.map Core.row))]] noOb (.t (.sc (.bool r))) noOb
theorem m_laws_FnExactCoreAlike_ok (fuel : Nat) : m_laws_FnExactCoreAlike_AC fuel := by
 intro x1 x2 r hF0
 unfold m_laws_FnExactCoreAlike at hF0
 refine AC_i [.t (.sc (.bool r))] Try.func8 rfl Try.ntmps8 ?_
 intro C hC
 refine awp_seq (awp_region ?_)
 refine s_box ?_
 refine s_box ?_
 refine s_as ?_
 refine k_nil (k_seq (awp_seq (awp_region ?_)))
 refine s_as ?_
 refine k_nil (k_seq (awp_seq (awp_region ?_)))
 refine s_ldW yA41 yS41 ?_
 refine s_mv ?_
 obtain ⟨v1, hv1, hF1⟩ := bind_some' hF0
 refine s_pure [] (m_laws_szCore_ok fuel _ _ _ hv1) ?_
 refine s_as ?_
 refine k_nil (k_seq (awp_seq (awp_seq (awp_region ?_))))
 refine s_mv ?_
 refine s_lt ?_
 refine k_nil (k_seq ?_)
 refine w_cond hF1 ?_ ?_ <;> intro hc2 hF2
 refine awp_seq (awp_region ?_)
 refine s_as ?_
 refine k_nil (k_seq (awp_ret (k_seq_ret (k_fin ?_))))
 cases hF2
 exact ends_a [] [] Try.results8
 refine awp_skip (k_seq (awp_seq (awp_region ?_)))
 refine s_ldW yA41 yS41 ?_
 refine s_mv ?_
 obtain ⟨v3, hv3, hF3⟩ := bind_some' hF2
 refine s_pure [] (m_laws_szCore_ok fuel _ _ _ hv3) ?_
 refine s_as ?_
 refine k_nil (k_seq (awp_seq (awp_seq (awp_region ?_))))
 refine s_mv ?_
 refine s_lt ?_
 refine k_nil (k_seq ?_)
 refine w_cond hF3 ?_ ?_ <;> intro hc4 hF4
 refine awp_seq (awp_region ?_)
 refine s_as ?_
 refine k_nil (k_seq (awp_ret (k_seq_ret (k_fin ?_))))
 cases hF4
 exact ends_a [] [] Try.results8
 refine awp_skip (k_seq (awp_seq ?_))
 refine awp_draw yMix (by kernel_rfl) ?_
 refine s_ldW yA41 yS41 ?_
 obtain ⟨v5, hv5, hF5⟩ := bind_some' hF4
 refine s_pure [] (m_laws_toCore_ok fuel _ _ hv5) ?_
 refine s_ldW yA41 yS41 ?_
 obtain ⟨v6, hv6, hF6⟩ := bind_some' hF5
 refine s_pure [] (m_laws_toCore_ok fuel _ _ hv6) ?_
 obtain ⟨v7, hv7, hF7⟩ := bind_some' hF6
 refine s_pure [] (m_spec_CoreAlike_ok fuel _ _ _ hv7) ?_
 refine s_as ?_
 refine k_nilD (by kernel_rfl) ?_
 refine k_seq (awp_seq (awp_region ?_))
 refine s_ldW yA41 yS41 ?_
 obtain ⟨v8, hv8, hF8⟩ := bind_some' hF7
 refine s_pure [] (m_laws_toCore_ok fuel _ _ hv8) ?_
 refine s_alloc yZ29 ?_
 refine s_stW yS29 ?_
 refine k_nil (k_seq (awp_seq (awp_region ?_)))
 refine s_ldW yA41 yS41 ?_
 obtain ⟨v9, hv9, hF9⟩ := bind_some' hF8
 refine s_pure [] (m_laws_toCore_ok fuel _ _ hv9) ?_
 refine s_alloc yZ29 ?_
 refine s_stW yS29 ?_
 refine k_nil (k_seq (awp_seq (awp_region ?_)))
 refine s_ldW yA29 yS29 ?_
 refine s_ldW yA29 yS29 ?_
 obtain ⟨v10, hv10, hF10⟩ := bind_some' hF9
 refine s_pure [] (m_impl_CoreAlike_ok fuel _ _ _ hv10) ?_
 refine s_as ?_
 refine k_nil (k_seq (awp_seq (awp_seq (awp_region ?_))))
 refine s_mv ?_
 refine s_mv ?_
 refine s_neB yU4 ?_
 refine k_nil (k_seq ?_)
 refine w_cond hF10 ?_ ?_ <;> intro hc11 hF11
 refine awp_seq (awp_region ?_)
 refine s_as ?_
 refine k_nil (k_seq (awp_ret (k_seq_ret (k_fin ?_))))
 cases hF11
 exact ends_a [] [] Try.results8
 refine awp_skip (k_seq (awp_seq (awp_seq ?_)))
 refine awp_draw yMix (by kernel_rfl) ?_
 refine s_ldW yA29 yS29 ?_
 refine s_ldW yA41 yS41 ?_
 obtain ⟨v12, hv12, hF12⟩ := bind_some' hF11
 refine s_pure [] (m_laws_toCore_ok fuel _ _ hv12) ?_
 obtain ⟨v13, hv13, hF13⟩ := bind_some' hF12
 refine s_pure [] (m_laws_eqCore_ok fuel _ _ _ hv13) ?_
 refine s_not ?_
 refine k_nilD (by kernel_rfl) ?_
 refine k_seq ?_
 refine w_cond hF13 ?_ ?_ <;> intro hc14 hF14
 refine awp_seq (awp_region ?_)
 refine s_as ?_
 refine k_nil (k_seq (awp_ret (k_seq_ret (k_fin ?_))))
 cases hF14
 exact ends_a [] [] Try.results8
 refine awp_skip (k_seq (awp_seq (awp_seq ?_)))
 refine awp_draw yMix (by kernel_rfl) ?_
 refine s_ldW yA29 yS29 ?_
 refine s_ldW yA41 yS41 ?_
 obtain ⟨v15, hv15, hF15⟩ := bind_some' hF14
 refine s_pure [] (m_laws_toCore_ok fuel _ _ hv15) ?_
 obtain ⟨v16, hv16, hF16⟩ := bind_some' hF15
 refine s_pure [] (m_laws_eqCore_ok fuel _ _ _ hv16) ?_
 refine s_not ?_
 refine k_nilD (by kernel_rfl) ?_
 refine k_seq ?_
 refine w_cond hF16 ?_ ?_ <;> intro hc17 hF17
 refine awp_seq (awp_region ?_)
 refine s_as ?_
 refine k_nil (k_seq (awp_ret (k_seq_ret (k_fin ?_))))
 cases hF17
 exact ends_a [] [] Try.results8
 refine awp_skip (k_seq (awp_seq (awp_region ?_)))
 refine s_as ?_
 refine k_nil (k_seq (awp_ret (k_fin ?_)))
 cases hF17
 exact ends_a [] [] Try.results8
end Go.Abs
