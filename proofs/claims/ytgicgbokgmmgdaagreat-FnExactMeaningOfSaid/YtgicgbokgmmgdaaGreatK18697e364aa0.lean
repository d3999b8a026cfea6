/- A part of the proof: what the functions that the law calls answer, as pure values. -/
import Derived.Test.YtgicgbokgmmgdaaGreatK0a4c624ac2b7
import Derived.Test.YtgicgbokgmmgdaaGreatK2cf23f3e9d46
import Derived.Test.YtgicgbokgmmgdaaGreatK362eb3399492
import Derived.Test.YtgicgbokgmmgdaaGreatK60c1722a3875
import Derived.Test.YtgicgbokgmmgdaaGreatKb2fda210d385
import Derived.Test.YtgicgbokgmmgdaaGreatKc744c354db0d
set_option linter.unusedSimpArgs false
set_option linter.unusedVariables false
set_option maxRecDepth 100000
set_option maxHeartbeats 4000000
namespace Go.Abs
open Go.Proofs
def m_spec_ExpansionValid_AC (fuel : Nat) : Prop := ∀ (x1 : Expansion) (r : Bool), m_spec_ExpansionValid fuel x1 = some r → AC Tryz.prog 7 [.ag [.t (.sl (x1.binds.map Bind.row)), .t (.sl (x1.macros.map Macro.row)), .t (.sc (.int .i64 x1.scope)), .t (.sc (.int .i64 x1.id)), .t (.sc (.int .i64 x1.steps))]] noOb (.t (.sc (.bool r))) noOb
theorem m_spec_ExpansionValid_ok (fuel : Nat) : m_spec_ExpansionValid_AC fuel := by
 intro x1 r hF0
 unfold m_spec_ExpansionValid at hF0
 refine AC_i [.t (.sc (.bool r))] Tryz.func7 rfl Tryz.ntmps7 ?_
 intro C hC
 refine awp_seq (awp_region ?_)
 refine s_box ?_
 refine s_as ?_
 refine k_nil (k_seq (awp_seq ?_))
 refine awp_jn (α := Nat × Bool) [5, 6, 7, 8, 9, 10, 11, 12, 13, 14, 15, 16, 17, 18, 19, 20, 21, 22, 23, 24, 25, 26, 27, 28, 29, 30, 31, 32] [] [] (fun a => [(32, .t (.sc (.bool a.2)))]) (fun a => []) (fun a => a.1 ≤ fuel ∧ m_spec_ExpansionValid_j1 a.1 x1 a.2 = some r) ?_ ?_
 refine awp_region ?_
 refine s_fa yF31_0 ?_
 refine s_ld1 yA28 ?_
 obtain ⟨v1, hv1, hF1⟩ := bind_some' hF0
 refine s_pure [] (m_spec_BindsValid_ok fuel _ _ hv1) ?_
 refine s_not ?_
 refine s_mv ?_
 refine w_guard _ 9 hF1 ?_ ?_ <;> intro hc2 hF2
 iterate 4 refine r_no rfl ?_
 refine s_pkt ?_
 refine s_mv ?_
 iterate 4 refine r_no rfl ?_
 refine s_pkt ?_
 refine s_mv ?_
 iterate 4 refine r_no rfl ?_
 refine s_pkt ?_
 refine s_mv ?_
 iterate 4 refine r_no rfl ?_
 refine s_pkt ?_
 refine k_nil ?_
 exact s_jn (fuel, true) ⟨by first | omega | (dsimp only; omega), hF2⟩
 refine s_fa yF31_1 ?_
 refine s_ld1 yA29 ?_
 refine s_lenT yU29 ?_
 refine s_gt ?_
 refine s_pkf ?_
 refine s_mv ?_
 refine w_guard _ 15 hF2 ?_ ?_ <;> intro hc3 hF3
 iterate 4 refine r_no rfl ?_
 refine s_pkt ?_
 refine s_mv ?_
 iterate 4 refine r_no rfl ?_
 refine s_pkt ?_
 refine s_mv ?_
 iterate 4 refine r_no rfl ?_
 refine s_pkt ?_
 refine k_nil ?_
 exact s_jn (fuel, true) ⟨by first | omega | (dsimp only; omega), hF3⟩
 refine s_fa yF31_2 ?_
 refine s_ld1 yA3 ?_
 obtain ⟨v4, hv4, hF4⟩ := bind_some' hF3
 refine s_pure [] (m_spec_l7In_ok fuel _ _ _ _ hv4) ?_
 refine s_not ?_
 refine s_pkf ?_
 refine s_mv ?_
 refine w_guard _ 21 hF4 ?_ ?_ <;> intro hc5 hF5
 iterate 4 refine r_no rfl ?_
 refine s_pkt ?_
 refine s_mv ?_
 iterate 4 refine r_no rfl ?_
 refine s_pkt ?_
 refine k_nil ?_
 exact s_jn (fuel, true) ⟨by first | omega | (dsimp only; omega), hF5⟩
 refine s_fa yF31_3 ?_
 refine s_ld1 yA3 ?_
 obtain ⟨v6, hv6, hF6⟩ := bind_some' hF5
 refine s_pure [] (m_spec_l7In_ok fuel _ _ _ _ hv6) ?_
 refine s_not ?_
 refine s_pkf ?_
 refine s_mv ?_
 refine w_guard _ 27 hF6 ?_ ?_ <;> intro hc7 hF7
 iterate 4 refine r_no rfl ?_
 refine s_pkt ?_
 refine k_nil ?_
 exact s_jn (fuel, true) ⟨by first | omega | (dsimp only; omega), hF7⟩
 refine s_fa yF31_4 ?_
 refine s_ld1 yA3 ?_
 obtain ⟨v8, hv8, hF8⟩ := bind_some' hF7
 refine s_pure [] (m_spec_l7In_ok fuel _ _ _ _ hv8) ?_
 refine s_not ?_
 refine s_pkf ?_
 refine k_nil ?_
 exact s_jn (fuel, (!v8)) ⟨by first | omega | (dsimp only; omega), hF8⟩
 clear hF0
 rintro ⟨fu, g9⟩ ⟨hl10, hF1⟩
 dsimp only at hl10 hF1 ⊢
 obtain _ | fu := fu
 · rw [m_spec_ExpansionValid_j1] at hF1; cases hF1
 rw [m_spec_ExpansionValid_j1] at hF1
 refine w_cond hF1 ?_ ?_ <;> intro hc11 hF2
 refine awp_seq (awp_region ?_)
 refine s_as ?_
 refine k_nil (k_seq (awp_ret (k_seq_ret (k_fin ?_))))
 cases hF2
 exact ends_a [] [] Tryz.results7
 refine awp_skip (k_seq ?_)
 refine awp_jn (α := Nat) [2, 3, 33, 34, 35, 36, 37, 38, 39, 40, 41, 42, 43, 44, 45, 46, 47, 48, 49, 50, 51, 52, 53, 54, 55, 56, 57, 58, 59, 60, 61, 62, 63, 64, 65, 66] [] [] (fun a => []) (fun a => []) (fun a => a ≤ fu ∧ m_spec_ExpansionValid_j2 a x1  = some r) ?_ ?_
 refine awp_seq (awp_region ?_)
 refine s_as ?_
 refine k_nil (k_seq (awp_block ?_))
 refine awp_fr (β := Int) [2, 3, 33, 34, 35, 36, 37, 38, 39, 40, 41, 42, 43, 44, 45, 46, 47, 48, 49, 50, 51, 52, 53, 54, 55, 56, 57, 58, 59, 60, 61, 62, 63, 64, 65, 66] [] [] (fun a => [(3, .t (.sc (.int .i64 a.2)))]) (fun a => []) (fun a => a.1 ≤ fu ∧ m_spec_ExpansionValid_l3 a.1 x1 a.2 = some r ∧ 0 ≤ a.2) (fu, 0) ⟨Nat.le_refl _, hF2, by simp⟩ ?_
 clear hF2
 rintro ⟨fu, g12⟩ ⟨hl13, hF3, hn_g12⟩
 dsimp only at hl13 hF3 hn_g12 ⊢
 obtain _ | fu := fu
 · rw [m_spec_ExpansionValid_l3] at hF3; cases hF3
 rw [m_spec_ExpansionValid_l3] at hF3
 refine awp_seq (awp_seq (awp_region ?_))
 refine s_mv ?_
 refine s_fa yF31_0 ?_
 refine s_ld1 yA28 ?_
 refine s_lenT yU28 ?_
 refine s_lt ?_
 refine k_nil (k_seq ?_)
 refine w_cond hF3 ?_ ?_ <;> intro hc14 hF4
 refine awp_lenT 35 (fun hb15 => ?_)
 refine awp_skip (k_seq (awp_seq (awp_block (awp_seq ?_))))
 refine awp_draw yMix (by kernel_rfl) ?_
 refine s_fa yF31_0 ?_
 refine s_ld1 yA28 ?_
 refine s_mv ?_
 obtain ⟨v16, hv16, hF5⟩ := bind_some' hF4
 refine s_ixT Bind.row hv16 (Bind.row_eq _) yE28 ?_
 refine s_fa yF66_2 ?_
 refine s_ld1 yA3 ?_
 refine s_fa yF31_3 ?_
 refine s_ld1 yA3 ?_
 refine s_gt ?_
 refine s_mv ?_
 refine w_guard _ 49 hF5 ?_ ?_ <;> intro hc17 hF6
 iterate 16 refine r_no rfl ?_
 refine s_pkt ?_
 refine k_nilD (by kernel_rfl) ?_
 refine k_seq (awp_true rfl (awp_seq (awp_region ?_)))
 refine s_as ?_
 refine k_nil (k_seq (awp_ret (k_blk_ret (k_seq_ret (k_rnd_ret2 (k_blk_ret (k_jn_ret (k_fin ?_))))))))
 cases hF6
 exact ends_a [] [] Tryz.results7
 refine s_fa yF31_0 ?_
 refine s_ld1 yA28 ?_
 refine s_mv ?_
 obtain ⟨v18, hv18, hF7⟩ := bind_some' hF6
 refine s_ixT Bind.row hv18 (Bind.row_eq _) yE28 ?_
 refine s_fa yF66_2 ?_
 refine s_ld1 yA3 ?_
 refine s_gt ?_
 refine s_mv ?_
 refine w_guard _ 57 hF7 ?_ ?_ <;> intro hc19 hF8
 refine s_fa yF31_0 ?_
 refine s_ld1 yA28 ?_
 refine s_mv ?_
 obtain ⟨v20, hv20, hF9⟩ := bind_some' hF8
 refine s_ixT Bind.row hv20 (Bind.row_eq _) yE28 ?_
 refine s_fa yF66_2 ?_
 refine s_ld1 yA3 ?_
 refine s_le ?_
 refine s_pkt ?_
 refine s_pkf ?_
 refine k_nilD (by kernel_rfl) ?_
 refine k_seq ?_
 refine w_cond hF9 ?_ ?_ <;> intro hc21 hF10
 refine awp_seq (awp_region ?_)
 refine s_as ?_
 refine k_nil (k_seq (awp_ret (k_blk_ret (k_seq_ret (k_rnd_ret2 (k_blk_ret (k_jn_ret (k_fin ?_))))))))
 cases hF10
 exact ends_a [] [] Tryz.results7
 refine awp_skip (k_blk (k_seq (awp_region ?_)))
 refine s_mv ?_
 refine s_add (winc2 hc14 hb15 hn_g12) ?_
 refine s_as ?_
 refine k_nil ?_
 exact s_rn (fu, (g12 + 1)) ⟨by first | omega | (dsimp only; omega), hF10, by first | omega | (dsimp only; omega)⟩
 iterate 7 refine r_no rfl ?_
 refine s_pkf ?_
 refine s_pkf ?_
 refine k_nilD (by kernel_rfl) ?_
 refine k_seq (awp_false rfl (awp_skip (k_blk (k_seq (awp_region ?_)))))
 refine s_mv ?_
 refine s_add (winc2 hc14 hb15 hn_g12) ?_
 refine s_as ?_
 refine k_nil ?_
 exact s_rn (fu, (g12 + 1)) ⟨by first | omega | (dsimp only; omega), hF8, by first | omega | (dsimp only; omega)⟩
 refine awp_exit (k_seq_exit (k_rnd_exit2 (k_blk_exit ?_)))
 exact s_jn (fu) ⟨by first | omega | (dsimp only; omega), hF4⟩
 clear hF2
 rintro fu ⟨hl22, hF3⟩
 obtain _ | fu := fu
 · rw [m_spec_ExpansionValid_j2] at hF3; cases hF3
 rw [m_spec_ExpansionValid_j2] at hF3
 refine awp_seq (awp_seq (awp_region ?_))
 refine s_as ?_
 refine k_nil (k_seq (awp_block ?_))
 refine awp_fr (β := Int) [2, 4, 67, 68, 69, 70, 71, 72, 73, 74, 75, 76, 77, 78, 79, 80, 81, 82, 83, 84, 85, 86, 87, 88, 89, 90, 91, 92, 93, 94, 95, 96, 97, 98, 99, 100, 101, 102, 103, 104, 105, 106, 107, 108, 109, 110, 111, 112, 113, 114, 115, 116, 117, 118, 119] [] [] (fun a => [(4, .t (.sc (.int .i64 a.2)))]) (fun a => []) (fun a => a.1 ≤ fu ∧ m_spec_ExpansionValid_l4 a.1 x1 a.2 = some r ∧ 0 ≤ a.2) (fu, 0) ⟨Nat.le_refl _, hF3, by simp⟩ ?_
 clear hF3
 rintro ⟨fu, g23⟩ ⟨hl24, hF4, hn_g23⟩
 dsimp only at hl24 hF4 hn_g23 ⊢
 obtain _ | fu := fu
 · rw [m_spec_ExpansionValid_l4] at hF4; cases hF4
 rw [m_spec_ExpansionValid_l4] at hF4
 refine awp_seq (awp_seq (awp_region ?_))
 refine s_mv ?_
 refine s_fa yF31_1 ?_
 refine s_ld1 yA29 ?_
 refine s_lenT yU29 ?_
 refine s_lt ?_
 refine k_nil (k_seq ?_)
 refine w_cond hF4 ?_ ?_ <;> intro hc25 hF5
 refine awp_lenT 69 (fun hb26 => ?_)
 refine awp_skip (k_seq (awp_seq (awp_block (awp_seq ?_))))
 refine awp_draw yMix (by kernel_rfl) ?_
 refine s_fa yF31_1 ?_
 refine s_ld1 yA29 ?_
 refine s_mv ?_
 obtain ⟨v27, hv27, hF6⟩ := bind_some' hF5
 refine s_ixT Macro.row hv27 (Macro.row_eq _) yE29 ?_
 refine s_fa yF69_0 ?_
 refine s_ld1 yA3 ?_
 refine s_le ?_
 refine s_mv ?_
 refine w_guard _ 81 hF6 ?_ ?_ <;> intro hc28 hF7
 iterate 9 refine r_no rfl ?_
 refine s_pkt ?_
 refine s_mv ?_
 iterate 10 refine r_no rfl ?_
 refine s_pkt ?_
 refine s_mv ?_
 iterate 14 refine r_no rfl ?_
 refine s_pkt ?_
 refine k_nilD (by kernel_rfl) ?_
 refine k_seq (awp_true rfl (awp_seq (awp_region ?_)))
 refine s_as ?_
 refine k_nil (k_seq (awp_ret (k_blk_ret (k_seq_ret (k_rnd_ret2 (k_blk_ret (k_seq_ret (k_fin ?_))))))))
 cases hF7
 exact ends_a [] [] Tryz.results7
 refine s_fa yF31_1 ?_
 refine s_ld1 yA29 ?_
 refine s_mv ?_
 obtain ⟨v29, hv29, hF8⟩ := bind_some' hF7
 refine s_ixT Macro.row hv29 (Macro.row_eq _) yE29 ?_
 refine s_fa yF69_0 ?_
 refine s_ld1 yA3 ?_
 refine s_fa yF31_3 ?_
 refine s_ld1 yA3 ?_
 refine s_gt ?_
 refine s_pkf ?_
 refine s_mv ?_
 refine w_guard _ 92 hF8 ?_ ?_ <;> intro hc30 hF9
 iterate 10 refine r_no rfl ?_
 refine s_pkt ?_
 refine s_mv ?_
 iterate 14 refine r_no rfl ?_
 refine s_pkt ?_
 refine k_nilD (by kernel_rfl) ?_
 refine k_seq (awp_true rfl (awp_seq (awp_region ?_)))
 refine s_as ?_
 refine k_nil (k_seq (awp_ret (k_blk_ret (k_seq_ret (k_rnd_ret2 (k_blk_ret (k_seq_ret (k_fin ?_))))))))
 cases hF9
 exact ends_a [] [] Tryz.results7
 refine s_ldW yA31 yS31 ?_
 refine s_fa yF31_1 ?_
 refine s_ld1 yA29 ?_
 refine s_mv ?_
 obtain ⟨v31, hv31, hF10⟩ := bind_some' hF9
 refine s_ixT Macro.row hv31 (Macro.row_eq _) yE29 ?_
 refine s_fa yF69_0 ?_
 refine s_ld1 yA3 ?_
 obtain ⟨v32, hv32, hF11⟩ := bind_some' hF10
 refine s_pure [] (m_spec_l7Macro_ok fu _ _ _ hv32) ?_
 refine s_mv ?_
 refine s_ne ?_
 refine s_pkf ?_
 refine s_mv ?_
 refine w_guard _ 104 hF11 ?_ ?_ <;> intro hc33 hF12
 iterate 14 refine r_no rfl ?_
 refine s_pkt ?_
 refine k_nilD (by kernel_rfl) ?_
 refine k_seq (awp_true rfl (awp_seq (awp_region ?_)))
 refine s_as ?_
 refine k_nil (k_seq (awp_ret (k_blk_ret (k_seq_ret (k_rnd_ret2 (k_blk_ret (k_seq_ret (k_fin ?_))))))))
 cases hF12
 exact ends_a [] [] Tryz.results7
 refine s_fa yF31_1 ?_
 refine s_ld1 yA29 ?_
 refine s_mv ?_
 obtain ⟨v34, hv34, hF13⟩ := bind_some' hF12
 refine s_ixT Macro.row hv34 (Macro.row_eq _) yE29 ?_
 refine s_fa yF69_2 ?_
 refine s_ld1 yA67 ?_
 refine s_fa yF31_1 ?_
 refine s_ld1 yA29 ?_
 refine s_mv ?_
 obtain ⟨v35, hv35, hF14⟩ := bind_some' hF13
 refine s_ixT Macro.row hv35 (Macro.row_eq _) yE29 ?_
 refine s_fa yF69_1 ?_
 refine s_ld1 yA37 ?_
 obtain ⟨v36, hv36, hF15⟩ := bind_some' hF14
 refine s_pure [] (m_spec_l5Rules_ok fu _ _ _ hv36) ?_
 refine s_not ?_
 refine s_pkf ?_
 refine k_nilD (by kernel_rfl) ?_
 refine k_seq ?_
 refine w_cond hF15 ?_ ?_ <;> intro hc37 hF16
 refine awp_seq (awp_region ?_)
 refine s_as ?_
 refine k_nil (k_seq (awp_ret (k_blk_ret (k_seq_ret (k_rnd_ret2 (k_blk_ret (k_seq_ret (k_fin ?_))))))))
 cases hF16
 exact ends_a [] [] Tryz.results7
 refine awp_skip (k_blk (k_seq (awp_region ?_)))
 refine s_mv ?_
 refine s_add (winc2 hc25 hb26 hn_g23) ?_
 refine s_as ?_
 refine k_nil ?_
 exact s_rn (fu, (g23 + 1)) ⟨by first | omega | (dsimp only; omega), hF16, by first | omega | (dsimp only; omega)⟩
 refine awp_exit (k_seq_exit (k_rnd_exit2 (k_blk_exit (k_seq (awp_seq (awp_region ?_))))))
 refine s_as ?_
 refine k_nil (k_seq (awp_ret (k_fin ?_)))
 cases hF5
 exact ends_a [] [] Tryz.results7
def m_strings_IndexByte_AC (fuel : Nat) : Prop := ∀ (x1 : ByteArray) (x2 : Int) (r : Int), m_strings_IndexByte fuel x1 x2 = some r → AC Tryz.prog 120 [.t (.sc (.str x1)), .t (.sc (.int .u8 x2))] noOb (.t (.sc (.int .i64 r))) noOb
theorem m_strings_IndexByte_ok (fuel : Nat) : m_strings_IndexByte_AC fuel := by
 intro x1 x2 r h
 obtain rfl := Option.some.inj h
 exact ac_two (a := .str x1) (b := .int .u8 x2) (r := .int .i64 _) ⟨_, Tryz.func120, by kernel_rfl, by kernel_rfl⟩ (fun w => Tryz.strings_IndexByte x1 x2 w)
def m_impl_within_AC (fuel : Nat) : Prop := ∀ (x1 : Int) (x2 : Int) (x3 : Int) (r : Bool), m_impl_within fuel x1 x2 x3 = some r → AC Tryz.prog 33 [.t (.sc (.int .i64 x1)), .t (.sc (.int .i64 x2)), .t (.sc (.int .i64 x3))] noOb (.t (.sc (.bool r))) noOb
theorem m_impl_within_ok (fuel : Nat) : m_impl_within_AC fuel := by
 intro x1 x2 x3 r hF0
 unfold m_impl_within at hF0
 refine AC_i [.t (.sc (.bool r))] Tryz.func33 rfl Tryz.ntmps33 ?_
 intro C hC
 refine awp_seq (awp_region ?_)
 refine s_as ?_
 refine k_nil (k_seq (awp_seq (awp_region ?_)))
 refine s_mv ?_
 refine s_mv ?_
 refine s_ge ?_
 refine s_mv ?_
 refine w_guard _ 10 hF0 ?_ ?_ <;> intro hc1 hF1
 refine s_mv ?_
 refine s_mv ?_
 refine s_le ?_
 refine s_pkt ?_
 refine s_as ?_
 refine k_nil (k_seq (awp_ret (k_fin ?_)))
 cases hF1
 exact ends_a [] [] Tryz.results33
 iterate 3 refine r_no rfl ?_
 refine s_pkf ?_
 refine s_as ?_
 refine k_nil (k_seq (awp_ret (k_fin ?_)))
 cases hF1
 exact ends_a [] [] Tryz.results33
def m_impl_NameValid_AC (fuel : Nat) : Prop := ∀ (x1 : ByteArray) (r : Bool), m_impl_NameValid fuel x1 = some r → AC Tryz.prog 72 [.t (.sc (.str x1))] noOb (.t (.sc (.bool r))) noOb
theorem m_impl_NameValid_ok (fuel : Nat) : m_impl_NameValid_AC fuel := by
 intro x1 r hF0
 unfold m_impl_NameValid at hF0
 refine AC_i [.t (.sc (.bool r))] Tryz.func72 rfl Tryz.ntmps72 ?_
 intro C hC
 refine awp_seq (awp_region ?_)
 refine s_as ?_
 refine k_nil (k_seq (awp_seq (awp_seq (awp_region ?_))))
 refine s_mv ?_
 refine s_eqS ?_
 refine s_mv ?_
 refine w_guard _ 7 hF0 ?_ ?_ <;> intro hc1 hF1
 refine r_no rfl (r_no rfl ?_)
 refine s_pkt ?_
 refine k_nil (k_seq (awp_true rfl (awp_seq (awp_region ?_))))
 refine s_as ?_
 refine k_nil (k_seq (awp_ret (k_seq_ret (k_fin ?_))))
 cases hF1
 exact ends_a [] [] Tryz.results72
 refine s_mv ?_
 refine s_eqS ?_
 refine s_pkf ?_
 refine k_nil (k_seq ?_)
 refine w_cond hF1 ?_ ?_ <;> intro hc2 hF2
 refine awp_seq (awp_region ?_)
 refine s_as ?_
 refine k_nil (k_seq (awp_ret (k_seq_ret (k_fin ?_))))
 cases hF2
 exact ends_a [] [] Tryz.results72
 refine awp_skip (k_seq (awp_seq (awp_seq (awp_region ?_))))
 refine s_as ?_
 refine k_nil (k_seq (awp_block ?_))
 refine awp_fr (β := Int) [2, 3, 4, 11, 12, 13, 14, 15, 16, 17, 18, 19, 20, 21, 22, 23, 24, 25, 26, 27, 28, 29, 30, 31, 32, 33, 34, 35, 36, 37, 38, 39, 40, 41, 42, 43, 44, 45, 46] [] [] (fun a => [(3, .t (.sc (.int .i64 a.2)))]) (fun a => []) (fun a => a.1 ≤ fuel ∧ m_impl_NameValid_l1 a.1 x1 a.2 = some r) (fuel, 0) ⟨Nat.le_refl _, hF2⟩ ?_
 clear hF2
 rintro ⟨fu, g3⟩ ⟨hl4, hF3⟩
 dsimp only at hl4 hF3 ⊢
 obtain _ | fu := fu
 · rw [m_impl_NameValid_l1] at hF3; cases hF3
 rw [m_impl_NameValid_l1] at hF3
 refine awp_seq (awp_seq (awp_region ?_))
 refine s_mv ?_
 refine s_mv ?_
 refine s_lenS yU9 ?_
 refine s_lt ?_
 refine k_nil (k_seq ?_)
 refine w_cond hF3 ?_ ?_ <;> intro hc5 hF4
 refine awp_skip (k_seq (awp_seq (awp_block (awp_seq (awp_region ?_)))))
 refine s_mv ?_
 refine s_mv ?_
 obtain ⟨v6, hv6, hF5⟩ := bind_some' hF4
 refine s_ixS hv6 yU9 ?_
 refine s_as ?_
 refine k_nil (k_seq (awp_block (awp_seq (awp_region ?_))))
 refine s_mv ?_
 refine s_ge ?_
 refine s_mv ?_
 refine w_guard _ 23 hF5 ?_ ?_ <;> intro hc7 hF6
 refine s_mv ?_
 refine s_le ?_
 refine s_pkt ?_
 refine s_mv ?_
 refine w_guard _ 27 hF6 ?_ ?_ <;> intro hc8 hF7
 iterate 3 refine r_no rfl ?_
 refine s_pkt ?_
 refine s_as ?_
 refine k_nil (k_seq (awp_true rfl (awp_skip (k_blk (k_blk (k_seq (awp_region ?_)))))))
 refine s_mv ?_
 refine s_add rfl ?_
 refine s_as ?_
 refine k_nil ?_
 exact s_rn (fu, (w64 (g3 + 1))) ⟨by first | omega | (dsimp only; omega), hF7⟩
 refine s_mv ?_
 obtain ⟨v9, hv9, hF8⟩ := bind_some' hF7
 refine s_pure [] (m_strings_IndexByte_ok fu _ _ _ hv9) ?_
 refine s_ge ?_
 refine s_pkf ?_
 refine s_as ?_
 refine k_nil (k_seq ?_)
 refine w_cond hF8 ?_ ?_ <;> intro hc10 hF9
 refine awp_skip (k_blk (k_blk (k_seq (awp_region ?_))))
 refine s_mv ?_
 refine s_add rfl ?_
 refine s_as ?_
 refine k_nil ?_
 exact s_rn (fu, (w64 (g3 + 1))) ⟨by first | omega | (dsimp only; omega), hF9⟩
 refine awp_seq (awp_region ?_)
 refine s_mv ?_
 refine s_gt ?_
 refine s_mv ?_
 refine w_guard _ 35 hF9 ?_ ?_ <;> intro hc11 hF10
 refine s_mv ?_
 refine s_ge ?_
 refine s_mv ?_
 refine w_guard _ 38 hF10 ?_ ?_ <;> intro hc12 hF11
 refine s_mv ?_
 refine s_le ?_
 refine s_pkt ?_
 refine s_mv ?_
 refine w_guard _ 42 hF11 ?_ ?_ <;> intro hc13 hF12
 refine r_no rfl (r_no rfl ?_)
 refine s_pkt ?_
 refine s_pkt ?_
 refine s_as ?_
 refine k_nil (k_seq (awp_true rfl (awp_skip (k_blk (k_blk (k_seq (awp_region ?_)))))))
 refine s_mv ?_
 refine s_add rfl ?_
 refine s_as ?_
 refine k_nil ?_
 exact s_rn (fu, (w64 (g3 + 1))) ⟨by first | omega | (dsimp only; omega), hF12⟩
 refine s_mv ?_
 refine s_eq ?_
 refine s_pkf ?_
 refine s_pkt ?_
 refine s_as ?_
 refine k_nil (k_seq ?_)
 refine w_cond hF12 ?_ ?_ <;> intro hc14 hF13
 refine awp_skip (k_blk (k_blk (k_seq (awp_region ?_))))
 refine s_mv ?_
 refine s_add rfl ?_
 refine s_as ?_
 refine k_nil ?_
 exact s_rn (fu, (w64 (g3 + 1))) ⟨by first | omega | (dsimp only; omega), hF13⟩
 refine awp_seq (awp_region ?_)
 refine s_as ?_
 refine k_nil (k_seq (awp_ret (k_blk_ret (k_blk_ret (k_seq_ret (k_rnd_ret2 (k_blk_ret (k_seq_ret (k_fin ?_)))))))))
 cases hF13
 exact ends_a [] [] Tryz.results72
 refine r_no rfl (r_no rfl ?_)
 refine s_pkf ?_
 refine s_mv ?_
 refine s_mv ?_
 refine s_eq ?_
 refine s_pkf ?_
 refine s_pkt ?_
 refine s_as ?_
 refine k_nil (k_seq ?_)
 refine w_cond hF11 ?_ ?_ <;> intro hc15 hF12
 refine awp_skip (k_blk (k_blk (k_seq (awp_region ?_))))
 refine s_mv ?_
 refine s_add rfl ?_
 refine s_as ?_
 refine k_nil ?_
 exact s_rn (fu, (w64 (g3 + 1))) ⟨by first | omega | (dsimp only; omega), hF12⟩
 refine awp_seq (awp_region ?_)
 refine s_as ?_
 refine k_nil (k_seq (awp_ret (k_blk_ret (k_blk_ret (k_seq_ret (k_rnd_ret2 (k_blk_ret (k_seq_ret (k_fin ?_)))))))))
 cases hF12
 exact ends_a [] [] Tryz.results72
 iterate 10 refine r_no rfl ?_
 refine s_pkf ?_
 refine s_as ?_
 refine k_nil (k_seq (awp_false rfl (awp_seq (awp_region ?_))))
 refine s_as ?_
 refine k_nil (k_seq (awp_ret (k_blk_ret (k_blk_ret (k_seq_ret (k_rnd_ret2 (k_blk_ret (k_seq_ret (k_fin ?_)))))))))
 cases hF10
 exact ends_a [] [] Tryz.results72
 refine r_no rfl (r_no rfl ?_)
 refine s_pkf ?_
 refine s_mv ?_
 refine s_mv ?_
 obtain ⟨v16, hv16, hF7⟩ := bind_some' hF6
 refine s_pure [] (m_strings_IndexByte_ok fu _ _ _ hv16) ?_
 refine s_ge ?_
 refine s_pkf ?_
 refine s_as ?_
 refine k_nil (k_seq ?_)
 refine w_cond hF7 ?_ ?_ <;> intro hc17 hF8
 refine awp_skip (k_blk (k_blk (k_seq (awp_region ?_))))
 refine s_mv ?_
 refine s_add rfl ?_
 refine s_as ?_
 refine k_nil ?_
 exact s_rn (fu, (w64 (g3 + 1))) ⟨by first | omega | (dsimp only; omega), hF8⟩
 refine awp_seq (awp_region ?_)
 refine s_mv ?_
 refine s_gt ?_
 refine s_mv ?_
 refine w_guard _ 35 hF8 ?_ ?_ <;> intro hc18 hF9
 refine s_mv ?_
 refine s_ge ?_
 refine s_mv ?_
 refine w_guard _ 38 hF9 ?_ ?_ <;> intro hc19 hF10
 refine s_mv ?_
 refine s_le ?_
 refine s_pkt ?_
 refine s_mv ?_
 refine w_guard _ 42 hF10 ?_ ?_ <;> intro hc20 hF11
 refine r_no rfl (r_no rfl ?_)
 refine s_pkt ?_
 refine s_pkt ?_
 refine s_as ?_
 refine k_nil (k_seq (awp_true rfl (awp_skip (k_blk (k_blk (k_seq (awp_region ?_)))))))
 refine s_mv ?_
 refine s_add rfl ?_
 refine s_as ?_
 refine k_nil ?_
 exact s_rn (fu, (w64 (g3 + 1))) ⟨by first | omega | (dsimp only; omega), hF11⟩
 refine s_mv ?_
 refine s_eq ?_
 refine s_pkf ?_
 refine s_pkt ?_
 refine s_as ?_
 refine k_nil (k_seq ?_)
 refine w_cond hF11 ?_ ?_ <;> intro hc21 hF12
 refine awp_skip (k_blk (k_blk (k_seq (awp_region ?_))))
 refine s_mv ?_
 refine s_add rfl ?_
 refine s_as ?_
 refine k_nil ?_
 exact s_rn (fu, (w64 (g3 + 1))) ⟨by first | omega | (dsimp only; omega), hF12⟩
 refine awp_seq (awp_region ?_)
 refine s_as ?_
 refine k_nil (k_seq (awp_ret (k_blk_ret (k_blk_ret (k_seq_ret (k_rnd_ret2 (k_blk_ret (k_seq_ret (k_fin ?_)))))))))
 cases hF12
 exact ends_a [] [] Tryz.results72
 refine r_no rfl (r_no rfl ?_)
 refine s_pkf ?_
 refine s_mv ?_
 refine s_mv ?_
 refine s_eq ?_
 refine s_pkf ?_
 refine s_pkt ?_
 refine s_as ?_
 refine k_nil (k_seq ?_)
 refine w_cond hF10 ?_ ?_ <;> intro hc22 hF11
 refine awp_skip (k_blk (k_blk (k_seq (awp_region ?_))))
 refine s_mv ?_
 refine s_add rfl ?_
 refine s_as ?_
 refine k_nil ?_
 exact s_rn (fu, (w64 (g3 + 1))) ⟨by first | omega | (dsimp only; omega), hF11⟩
 refine awp_seq (awp_region ?_)
 refine s_as ?_
 refine k_nil (k_seq (awp_ret (k_blk_ret (k_blk_ret (k_seq_ret (k_rnd_ret2 (k_blk_ret (k_seq_ret (k_fin ?_)))))))))
 cases hF11
 exact ends_a [] [] Tryz.results72
 iterate 10 refine r_no rfl ?_
 refine s_pkf ?_
 refine s_as ?_
 refine k_nil (k_seq (awp_false rfl (awp_seq (awp_region ?_))))
 refine s_as ?_
 refine k_nil (k_seq (awp_ret (k_blk_ret (k_blk_ret (k_seq_ret (k_rnd_ret2 (k_blk_ret (k_seq_ret (k_fin ?_)))))))))
 cases hF9
 exact ends_a [] [] Tryz.results72
 refine awp_exit (k_seq_exit (k_rnd_exit2 (k_blk_exit (k_seq (awp_seq (awp_region ?_))))))
 refine s_mv ?_
 refine s_lenS yU9 ?_
 obtain ⟨v23, hv23, hF5⟩ := bind_some' hF4
 refine s_pure [] (m_impl_within_ok fu _ _ _ _ hv23) ?_
 refine s_as ?_
 refine k_nil (k_seq (awp_ret (k_fin ?_)))
 cases hF5
 exact ends_a [] [] Tryz.results72
def m_impl_scopesOk_AC (fuel : Nat) : Prop := ∀ (x1 : (List Int)) (r : Bool), m_impl_scopesOk fuel x1 = some r → AC Tryz.prog 73 [.t (.sl (x1.map rI))] noOb (.t (.sc (.bool r))) noOb
theorem m_impl_scopesOk_ok (fuel : Nat) : m_impl_scopesOk_AC fuel := by
 intro x1 r hF0
 unfold m_impl_scopesOk at hF0
 refine AC_i [.t (.sc (.bool r))] Tryz.func73 rfl Tryz.ntmps73 ?_
 intro C hC
 refine awp_seq (awp_region ?_)
 refine s_as ?_
 refine k_nil (k_seq (awp_seq (awp_seq (awp_region ?_))))
 refine s_mv ?_
 refine s_lenT yU36 ?_
 refine s_mv ?_
 refine k_nil (k_seq (awp_block ?_))
 refine awp_fr (β := Int) [2, 3, 4, 7, 8, 9, 10, 11, 12, 13, 14, 15, 16, 17, 18, 19, 20, 21, 22, 23, 24, 25, 26, 27, 28] [] [] (fun a => [(7, .t (.sc (.int .i64 a.2)))]) (fun a => []) (fun a => a.1 ≤ fuel ∧ m_impl_scopesOk_l1 a.1 x1 a.2 = some r ∧ 0 ≤ a.2) (fuel, 0) ⟨Nat.le_refl _, hF0, by simp⟩ ?_
 clear hF0
 rintro ⟨fu, g1⟩ ⟨hl2, hF1, hn_g1⟩
 dsimp only at hl2 hF1 hn_g1 ⊢
 obtain _ | fu := fu
 · rw [m_impl_scopesOk_l1] at hF1; cases hF1
 rw [m_impl_scopesOk_l1] at hF1
 refine awp_seq (awp_region ?_)
 refine s_lt ?_
 refine k_nil (k_seq (awp_seq ?_))
 refine w_cond hF1 ?_ ?_ <;> intro hc3 hF2
 refine awp_lenT 0 (fun hb4 => ?_)
 refine awp_skip (k_seq (awp_seq (awp_block (awp_seq (awp_region ?_)))))
 refine s_mv ?_
 obtain ⟨v5, hv5, hF3⟩ := bind_some' hF2
 refine s_ixT rI hv5 rfl yE36 ?_
 refine s_ld1 yA3 ?_
 refine s_as ?_
 refine s_as ?_
 refine k_nil (k_seq (awp_seq (awp_region ?_)))
 refine s_mv ?_
 obtain ⟨v6, hv6, hF4⟩ := bind_some' hF3
 refine s_pure [] (m_impl_within_ok fu _ _ _ _ hv6) ?_
 refine s_not ?_
 refine s_mv ?_
 refine w_guard _ 15 hF4 ?_ ?_ <;> intro hc7 hF5
 iterate 11 refine r_no rfl ?_
 refine s_pkt ?_
 refine k_nil (k_seq (awp_true rfl (awp_seq (awp_region ?_))))
 refine s_as ?_
 refine k_nil (k_seq (awp_ret (k_blk_ret (k_seq_ret (k_rnd_ret2 (k_blk_ret (k_seq_ret (k_fin ?_))))))))
 cases hF5
 exact ends_a [] [] Tryz.results73
 refine s_mv ?_
 refine s_gt ?_
 refine s_mv ?_
 refine w_guard _ 18 hF5 ?_ ?_ <;> intro hc8 hF6
 refine s_mv ?_
 refine s_mv ?_
 refine s_sub rfl ?_
 obtain ⟨v9, hv9, hF7⟩ := bind_some' hF6
 refine s_ixT rI hv9 rfl yE36 ?_
 refine s_ld1 yA3 ?_
 refine s_mv ?_
 refine s_ge ?_
 refine s_pkt ?_
 refine s_pkf ?_
 refine k_nil (k_seq ?_)
 refine w_cond hF7 ?_ ?_ <;> intro hc10 hF8
 refine awp_seq (awp_region ?_)
 refine s_as ?_
 refine k_nil (k_seq (awp_ret (k_blk_ret (k_seq_ret (k_rnd_ret2 (k_blk_ret (k_seq_ret (k_fin ?_))))))))
 cases hF8
 exact ends_a [] [] Tryz.results73
 refine awp_skip (k_blk (k_seq (awp_region ?_)))
 refine s_add (winc2 hc3 hb4 hn_g1) ?_
 refine s_mv ?_
 refine k_nil ?_
 exact s_rn (fu, (g1 + 1)) ⟨by first | omega | (dsimp only; omega), hF8, by first | omega | (dsimp only; omega)⟩
 iterate 7 refine r_no rfl ?_
 refine s_pkf ?_
 refine s_pkf ?_
 refine k_nil (k_seq (awp_false rfl (awp_skip (k_blk (k_seq (awp_region ?_))))))
 refine s_add (winc2 hc3 hb4 hn_g1) ?_
 refine s_mv ?_
 refine k_nil ?_
 exact s_rn (fu, (g1 + 1)) ⟨by first | omega | (dsimp only; omega), hF6, by first | omega | (dsimp only; omega)⟩
 refine awp_exit (k_seq_exit (k_rnd_exit2 (k_blk_exit (k_seq (awp_seq (awp_region ?_))))))
 refine s_mv ?_
 refine s_lenT yU36 ?_
 refine s_le ?_
 refine s_as ?_
 refine k_nil (k_seq (awp_ret (k_fin ?_)))
 cases hF2
 exact ends_a [] [] Tryz.results73
def m_slices_Equal_int_AC (fuel : Nat) : Prop := ∀ (x1 : (List Int)) (x2 : (List Int)) (r : Bool), m_slices_Equal_int fuel x1 x2 = some r → AC Tryz.prog 75 [.t (.sl (x1.map rI)), .t (.sl (x2.map rI))] noOb (.t (.sc (.bool r))) noOb
theorem m_slices_Equal_int_ok (fuel : Nat) : m_slices_Equal_int_AC fuel := by
 intro x1 x2 r hF0
 unfold m_slices_Equal_int at hF0
 refine AC_i [.t (.sc (.bool r))] Tryz.func75 rfl Tryz.ntmps75 ?_
 intro C hC
 refine awp_seq (awp_region ?_)
 refine s_as ?_
 refine k_nil (k_seq (awp_seq (awp_seq (awp_region ?_))))
 refine s_mv ?_
 refine s_lenT yU36 ?_
 refine s_mv ?_
 refine s_lenT yU36 ?_
 refine s_ne ?_
 refine k_nil (k_seq ?_)
 refine w_cond hF0 ?_ ?_ <;> intro hc1 hF1
 refine awp_seq (awp_region ?_)
 refine s_as ?_
 refine k_nil (k_seq (awp_ret (k_seq_ret (k_fin ?_))))
 cases hF1
 exact ends_a [] [] Tryz.results75
 refine awp_skip (k_seq (awp_seq (awp_seq (awp_region ?_))))
 refine s_mv ?_
 refine s_lenT yU36 ?_
 refine s_mv ?_
 refine k_nil (k_seq (awp_block ?_))
 refine awp_fr (β := Int) [4, 5, 13, 14, 15, 16, 17, 18, 19, 20, 21, 22, 23, 24, 25] [] [] (fun a => [(13, .t (.sc (.int .i64 a.2)))]) (fun a => []) (fun a => a.1 ≤ fuel ∧ m_slices_Equal_int_l1 a.1 x1 x2 a.2 = some r ∧ 0 ≤ a.2) (fuel, 0) ⟨Nat.le_refl _, hF1, by simp⟩ ?_
 clear hF1
 rintro ⟨fu, g2⟩ ⟨hl3, hF2, hn_g2⟩
 dsimp only at hl3 hF2 hn_g2 ⊢
 obtain _ | fu := fu
 · rw [m_slices_Equal_int_l1] at hF2; cases hF2
 rw [m_slices_Equal_int_l1] at hF2
 refine awp_seq (awp_region ?_)
 refine s_lt ?_
 refine k_nil (k_seq (awp_seq ?_))
 refine w_cond hF2 ?_ ?_ <;> intro hc4 hF3
 refine awp_lenT 0 (fun hb5 => ?_)
 refine awp_skip (k_seq (awp_seq (awp_block (awp_seq (awp_region ?_)))))
 refine s_mv ?_
 refine s_as ?_
 refine k_nil (k_seq (awp_seq ?_))
 refine awp_draw yMix (by kernel_rfl) ?_
 refine s_mv ?_
 refine s_mv ?_
 obtain ⟨v6, hv6, hF4⟩ := bind_some' hF3
 refine s_ixT rI hv6 rfl yE36 ?_
 refine s_ld1 yA3 ?_
 refine s_mv ?_
 refine s_mv ?_
 obtain ⟨v7, hv7, hF5⟩ := bind_some' hF4
 refine s_ixT rI hv7 rfl yE36 ?_
 refine s_ld1 yA3 ?_
 refine s_ne ?_
 refine k_nilD (by kernel_rfl) ?_
 refine k_seq ?_
 refine w_cond hF5 ?_ ?_ <;> intro hc8 hF6
 refine awp_seq (awp_region ?_)
 refine s_as ?_
 refine k_nil (k_seq (awp_ret (k_blk_ret (k_seq_ret (k_rnd_ret2 (k_blk_ret (k_seq_ret (k_fin ?_))))))))
 cases hF6
 exact ends_a [] [] Tryz.results75
 refine awp_skip (k_blk (k_seq (awp_region ?_)))
 refine s_add (winc2 hc4 hb5 hn_g2) ?_
 refine s_mv ?_
 refine k_nil ?_
 exact s_rn (fu, (g2 + 1)) ⟨by first | omega | (dsimp only; omega), hF6, by first | omega | (dsimp only; omega)⟩
 refine awp_exit (k_seq_exit (k_rnd_exit2 (k_blk_exit (k_seq (awp_seq (awp_region ?_))))))
 refine s_as ?_
 refine k_nil (k_seq (awp_ret (k_fin ?_)))
 cases hF3
 exact ends_a [] [] Tryz.results75
def m_impl_BindsValid_1_AC (fuel : Nat) : Prop := ∀ (x1 : Bind) (o1 : Bind) (r : Bool), m_impl_BindsValid_1 fuel x1 o1 = some r → AC Tryz.prog 74 [.ag [.t (.sc (.str x1.name)), .t (.sl (x1.scopes.map rI)), .t (.sc (.int .i64 x1.id))], .rf 9000 0] (objs [(9000, .box [.t (.sc (.str o1.name)), .t (.sl (o1.scopes.map rI)), .t (.sc (.int .i64 o1.id))])]) (.t (.sc (.bool r))) (objs [(9000, .box [.t (.sc (.str o1.name)), .t (.sl (o1.scopes.map rI)), .t (.sc (.int .i64 o1.id))])])
theorem m_impl_BindsValid_1_ok (fuel : Nat) : m_impl_BindsValid_1_AC fuel := by
 intro x1 o1 r hF0
 unfold m_impl_BindsValid_1 at hF0
 refine AC_i [.t (.sc (.bool r))] Tryz.func74 rfl Tryz.ntmps74 ?_
 intro C hC
 refine awp_seq (awp_region ?_)
 refine s_box ?_
 refine s_as ?_
 refine k_nil (k_seq (awp_seq (awp_region ?_)))
 refine s_fa yF66_0 ?_
 refine s_ld1 yA9 ?_
 refine s_fa yF66_0 ?_
 refine s_ld1 yA9 ?_
 refine s_eqS ?_
 refine s_mv ?_
 refine w_guard _ 9 hF0 ?_ ?_ <;> intro hc1 hF1
 refine s_fa yF66_1 ?_
 refine s_ld1 yA36 ?_
 refine s_fa yF66_1 ?_
 refine s_ld1 yA36 ?_
 obtain ⟨v2, hv2, hF2⟩ := bind_some' hF1
 refine s_pure [] (m_slices_Equal_int_ok fuel _ _ _ hv2) ?_
 refine s_pkt ?_
 refine s_as ?_
 refine k_nil (k_seq (awp_ret (k_fin ?_)))
 cases hF2
 exact ends_a _ [] Tryz.results74
 iterate 5 refine r_no rfl ?_
 refine s_pkf ?_
 refine s_as ?_
 refine k_nil (k_seq (awp_ret (k_fin ?_)))
 cases hF1
 exact ends_a _ [] Tryz.results74
def m_slices_IndexFunc_Bind_BindsValid_1_AC (fuel : Nat) : Prop := ∀ (x1 : (List Bind)) (o1 : Bind) (r : Int), m_slices_IndexFunc_Bind_BindsValid_1 fuel x1 o1 = some r → AC Tryz.prog 76 [.t (.sl (x1.map Bind.row)), .fn 74 [.rf 9000 0]] (objs [(9000, .box [.t (.sc (.str o1.name)), .t (.sl (o1.scopes.map rI)), .t (.sc (.int .i64 o1.id))])]) (.t (.sc (.int .i64 r))) (objs [(9000, .box [.t (.sc (.str o1.name)), .t (.sl (o1.scopes.map rI)), .t (.sc (.int .i64 o1.id))])])
theorem m_slices_IndexFunc_Bind_BindsValid_1_ok (fuel : Nat) : m_slices_IndexFunc_Bind_BindsValid_1_AC fuel := by
 intro x1 o1 r hF0
 unfold m_slices_IndexFunc_Bind_BindsValid_1 at hF0
 refine AC_i [.t (.sc (.int .i64 r))] Tryz.func76 rfl Tryz.ntmps76 ?_
 intro C hC
 refine awp_seq (awp_region ?_)
 refine s_as ?_
 refine k_nil (k_seq (awp_seq (awp_seq (awp_region ?_))))
 refine s_mv ?_
 refine s_lenT yU28 ?_
 refine s_mv ?_
 refine k_nil (k_seq (awp_block ?_))
 refine awp_fr (β := Int) [4, 5, 8, 9, 10, 11, 12, 13, 14, 15, 16, 17, 18] [] [] (fun a => [(8, .t (.sc (.int .i64 a.2)))]) (fun a => []) (fun a => a.1 ≤ fuel ∧ m_slices_IndexFunc_Bind_BindsValid_1_l1 a.1 x1 o1 a.2 = some r ∧ 0 ≤ a.2) (fuel, 0) ⟨Nat.le_refl _, hF0, by simp⟩ ?_
 clear hF0
 rintro ⟨fu, g1⟩ ⟨hl2, hF1, hn_g1⟩
 dsimp only at hl2 hF1 hn_g1 ⊢
 obtain _ | fu := fu
 · rw [m_slices_IndexFunc_Bind_BindsValid_1_l1] at hF1; cases hF1
 rw [m_slices_IndexFunc_Bind_BindsValid_1_l1] at hF1
 refine awp_seq (awp_region ?_)
 refine s_lt ?_
 refine k_nil (k_seq (awp_seq ?_))
 refine w_cond hF1 ?_ ?_ <;> intro hc3 hF2
 refine awp_lenT 0 (fun hb4 => ?_)
 refine awp_skip (k_seq (awp_seq (awp_block (awp_seq (awp_region ?_)))))
 refine s_mv ?_
 refine s_as ?_
 refine k_nil (k_seq (awp_seq (awp_region ?_)))
 iterate 3 refine s_mv ?_
 obtain ⟨v5, hv5, hF3⟩ := bind_some' hF2
 refine s_ixT Bind.row hv5 (Bind.row_eq _) yE28 ?_
 refine s_ldN yA66 yS66 ?_
 obtain ⟨v6, hv6, hF4⟩ := bind_some' hF3
 refine s_call [(9000, 9000)] [] _ _ (m_impl_BindsValid_1_ok fu _ _ _ hv6) ?_
 refine k_nil (k_seq ?_)
 refine w_cond hF4 ?_ ?_ <;> intro hc7 hF5
 refine awp_seq (awp_region ?_)
 refine s_mv ?_
 refine s_as ?_
 refine k_nil (k_seq (awp_ret (k_blk_ret (k_seq_ret (k_rnd_ret2 (k_blk_ret (k_seq_ret (k_fin ?_))))))))
 cases hF5
 exact ends_a _ [] Tryz.results76
 refine awp_skip (k_blk (k_seq (awp_region ?_)))
 refine s_add (winc2 hc3 hb4 hn_g1) ?_
 refine s_mv ?_
 refine k_nil ?_
 exact s_rn (fu, (g1 + 1)) ⟨by first | omega | (dsimp only; omega), hF5, by first | omega | (dsimp only; omega)⟩
 refine awp_exit (k_seq_exit (k_rnd_exit2 (k_blk_exit (k_seq (awp_seq (awp_region ?_))))))
 refine s_as ?_
 refine k_nil (k_seq (awp_ret (k_fin ?_)))
 cases hF2
 exact ends_a _ [] Tryz.results76
def m_slices_ContainsFunc_Bind_BindsValid_1_AC (fuel : Nat) : Prop := ∀ (x1 : (List Bind)) (o1 : Bind) (r : Bool), m_slices_ContainsFunc_Bind_BindsValid_1 fuel x1 o1 = some r → AC Tryz.prog 34 [.t (.sl (x1.map Bind.row)), .fn 74 [.rf 9000 0]] (objs [(9000, .box [.t (.sc (.str o1.name)), .t (.sl (o1.scopes.map rI)), .t (.sc (.int .i64 o1.id))])]) (.t (.sc (.bool r))) (objs [(9000, .box [.t (.sc (.str o1.name)), .t (.sl (o1.scopes.map rI)), .t (.sc (.int .i64 o1.id))])])
theorem m_slices_ContainsFunc_Bind_BindsValid_1_ok (fuel : Nat) : m_slices_ContainsFunc_Bind_BindsValid_1_AC fuel := by
 intro x1 o1 r hF0
 unfold m_slices_ContainsFunc_Bind_BindsValid_1 at hF0
 refine AC_i [.t (.sc (.bool r))] Tryz.func34 rfl Tryz.ntmps34 ?_
 intro C hC
 refine awp_seq (awp_region ?_)
 refine s_as ?_
 refine k_nil (k_seq (awp_seq (awp_region ?_)))
 refine s_mv ?_
 refine s_mv ?_
 obtain ⟨v1, hv1, hF1⟩ := bind_some' hF0
 refine s_call [(9000, 9000)] [] _ _ (m_slices_IndexFunc_Bind_BindsValid_1_ok fuel _ _ _ hv1) ?_
 refine s_ge ?_
 refine s_as ?_
 refine k_nil (k_seq (awp_ret (k_fin ?_)))
 cases hF1
 exact ends_a _ [] Tryz.results34
def m_impl_BindsValid_AC (fuel : Nat) : Prop := ∀ (x1 : (List Bind)) (r : Bool), m_impl_BindsValid fuel x1 = some r → AC Tryz.prog 32 [.t (.sl (x1.map Bind.row))] noOb (.t (.sc (.bool r))) noOb
theorem m_impl_BindsValid_ok (fuel : Nat) : m_impl_BindsValid_AC fuel := by
 intro x1 r hF0
 unfold m_impl_BindsValid at hF0
 refine AC_i [.t (.sc (.bool r))] Tryz.func32 rfl Tryz.ntmps32 ?_
 intro C hC
 refine awp_seq (awp_region ?_)
 refine s_as ?_
 refine k_nil (k_seq (awp_seq (awp_seq (awp_region ?_))))
 refine s_mv ?_
 refine s_lenT yU28 ?_
 refine s_mv ?_
 refine k_nil (k_seq (awp_block ?_))
 refine awp_fr (β := Int) [2, 3, 4, 7, 8, 9, 10, 11, 12, 13, 14, 15, 16, 17, 18, 19, 20, 21, 22, 23, 24, 25, 26, 27, 28, 29, 30, 31, 32, 33] [] [4] (fun a => [(7, .t (.sc (.int .i64 a.2)))]) (fun a => []) (fun a => a.1 ≤ fuel ∧ m_impl_BindsValid_l1 a.1 x1 a.2 = some r ∧ 0 ≤ a.2) (fuel, 0) ⟨Nat.le_refl _, hF0, by simp⟩ ?_
 clear hF0
 rintro ⟨fu, g1⟩ ⟨hl2, hF1, hn_g1⟩
 dsimp only at hl2 hF1 hn_g1 ⊢
 obtain _ | fu := fu
 · rw [m_impl_BindsValid_l1] at hF1; cases hF1
 rw [m_impl_BindsValid_l1] at hF1
 refine awp_seq (awp_region ?_)
 refine s_lt ?_
 refine k_nil (k_seq (awp_seq ?_))
 refine w_cond hF1 ?_ ?_ <;> intro hc3 hF2
 refine awp_lenT 0 (fun hb4 => ?_)
 refine awp_skip (k_seq (awp_seq (awp_block (awp_seq (awp_region ?_)))))
 refine s_mv ?_
 obtain ⟨v5, hv5, hF3⟩ := bind_some' hF2
 refine s_ixT Bind.row hv5 (Bind.row_eq _) yE28 ?_
 refine s_ldN yA66 yS66 ?_
 refine s_alloc yZ66 ?_
 refine s_as ?_
 refine s_stW yS66 ?_
 refine k_nil (k_seq (awp_seq ?_))
 refine awp_jn (α := Nat × Bool) [12, 13, 14, 15, 16, 17, 18, 19, 20, 21, 22, 23, 24, 25, 26, 27] [] [] (fun a => [(27, .t (.sc (.bool a.2)))]) (fun a => []) (fun a => a.1 ≤ fu ∧ m_impl_BindsValid_j2 a.1 x1 g1 v5 a.2 = some r) ?_ ?_
 refine awp_region ?_
 refine s_fa yF66_0 ?_
 refine s_ld1 yA9 ?_
 obtain ⟨v6, hv6, hF4⟩ := bind_some' hF3
 refine s_pure [] (m_impl_NameValid_ok fu _ _ hv6) ?_
 refine s_not ?_
 refine s_mv ?_
 refine w_guard _ 16 hF4 ?_ ?_ <;> intro hc7 hF5
 iterate 4 refine r_no rfl ?_
 refine s_pkt ?_
 refine s_mv ?_
 iterate 4 refine r_no rfl ?_
 refine s_pkt ?_
 refine k_nil ?_
 exact s_jn (fu, true) ⟨by first | omega | (dsimp only; omega), hF5⟩
 refine s_fa yF66_1 ?_
 refine s_ld1 yA36 ?_
 obtain ⟨v8, hv8, hF6⟩ := bind_some' hF5
 refine s_pure [] (m_impl_scopesOk_ok fu _ _ hv8) ?_
 refine s_not ?_
 refine s_pkf ?_
 refine s_mv ?_
 refine w_guard _ 22 hF6 ?_ ?_ <;> intro hc9 hF7
 iterate 4 refine r_no rfl ?_
 refine s_pkt ?_
 refine k_nil ?_
 exact s_jn (fu, true) ⟨by first | omega | (dsimp only; omega), hF7⟩
 refine s_fa yF66_2 ?_
 refine s_ld1 yA3 ?_
 obtain ⟨v10, hv10, hF8⟩ := bind_some' hF7
 refine s_pure [] (m_impl_within_ok fu _ _ _ _ hv10) ?_
 refine s_not ?_
 refine s_pkf ?_
 refine k_nil ?_
 exact s_jn (fu, (!v10)) ⟨by first | omega | (dsimp only; omega), hF8⟩
 clear hF3
 rintro ⟨fu, g11⟩ ⟨hl12, hF4⟩
 dsimp only at hl12 hF4 ⊢
 obtain _ | fu := fu
 · rw [m_impl_BindsValid_j2] at hF4; cases hF4
 rw [m_impl_BindsValid_j2] at hF4
 refine w_cond hF4 ?_ ?_ <;> intro hc13 hF5
 refine awp_seq (awp_region ?_)
 refine s_as ?_
 refine k_nil (k_seq (awp_ret (k_seq_ret (k_blk_ret (k_seq_ret (k_rnd_ret2 (k_blk_ret (k_seq_ret (k_fin ?_)))))))))
 cases hF5
 exact ends_a [] [] Tryz.results32
 refine awp_skip (k_seq (awp_seq (awp_region ?_)))
 refine s_mv ?_
 refine s_mv ?_
 obtain ⟨v14, hv14, hF6⟩ := bind_some' hF5
 refine s_sl01 Bind.row (fun y => Bind.row_len y) hv14 yU28 yE28 ?_
 refine s_fn ?_
 obtain ⟨v15, hv15, hF7⟩ := bind_some' hF6
 refine s_call [(9000, 4)] [] _ _ (m_slices_ContainsFunc_Bind_BindsValid_1_ok fu _ _ _ hv15) ?_
 refine k_nil (k_seq ?_)
 refine w_cond hF7 ?_ ?_ <;> intro hc16 hF8
 refine awp_seq (awp_region ?_)
 refine s_as ?_
 refine k_nil (k_seq (awp_ret (k_blk_ret (k_seq_ret (k_rnd_ret2 (k_blk_ret (k_seq_ret (k_fin ?_))))))))
 cases hF8
 exact ends_a [] [] Tryz.results32
 refine awp_skip (k_blk (k_seq (awp_region ?_)))
 refine s_add (winc2 hc3 hb4 hn_g1) ?_
 refine s_mv ?_
 refine k_nil ?_
 exact s_rn (fu, (g1 + 1)) ⟨by first | omega | (dsimp only; omega), hF8, by first | omega | (dsimp only; omega)⟩
 refine awp_exit (k_seq_exit (k_rnd_exit2 (k_blk_exit (k_seq (awp_seq (awp_region ?_))))))
 refine s_mv ?_
 refine s_lenT yU28 ?_
 refine s_le ?_
 refine s_as ?_
 refine k_nil (k_seq (awp_ret (k_fin ?_)))
 cases hF2
 exact ends_a [] [] Tryz.results32
def m_impl_ExpansionValid_1_AC (fuel : Nat) : Prop := ∀ (x1 : Bind) (o1 : Expansion) (r : Bool), m_impl_ExpansionValid_1 fuel x1 o1 = some r → AC Tryz.prog 35 [.ag [.t (.sc (.str x1.name)), .t (.sl (x1.scopes.map rI)), .t (.sc (.int .i64 x1.id))], .rf 9000 0] (objs [(9000, .box [.t (.sl (o1.binds.map Bind.row)), .t (.sl (o1.macros.map Macro.row)), .t (.sc (.int .i64 o1.scope)), .t (.sc (.int .i64 o1.id)), .t (.sc (.int .i64 o1.steps))])]) (.t (.sc (.bool r))) (objs [(9000, .box [.t (.sl (o1.binds.map Bind.row)), .t (.sl (o1.macros.map Macro.row)), .t (.sc (.int .i64 o1.scope)), .t (.sc (.int .i64 o1.id)), .t (.sc (.int .i64 o1.steps))])])
theorem m_impl_ExpansionValid_1_ok (fuel : Nat) : m_impl_ExpansionValid_1_AC fuel := by
 intro x1 o1 r hF0
 unfold m_impl_ExpansionValid_1 at hF0
 refine AC_i [.t (.sc (.bool r))] Tryz.func35 rfl Tryz.ntmps35 ?_
 intro C hC
 refine awp_seq (awp_region ?_)
 refine s_box ?_
 refine s_as ?_
 refine k_nil (k_seq (awp_seq (awp_region ?_)))
 refine s_fa yF66_2 ?_
 refine s_ld1 yA3 ?_
 refine s_fa yF31_3 ?_
 refine s_ld1 yA3 ?_
 refine s_gt ?_
 refine s_mv ?_
 refine w_guard _ 9 hF0 ?_ ?_ <;> intro hc1 hF1
 iterate 3 refine r_no rfl ?_
 refine s_pkt ?_
 refine s_as ?_
 refine k_nil (k_seq (awp_ret (k_fin ?_)))
 cases hF1
 exact ends_a _ [] Tryz.results35
 refine s_fa yF66_2 ?_
 refine s_ld1 yA3 ?_
 obtain ⟨v2, hv2, hF2⟩ := bind_some' hF1
 refine s_pure [] (m_impl_within_ok fuel _ _ _ _ hv2) ?_
 refine s_pkf ?_
 refine s_as ?_
 refine k_nil (k_seq (awp_ret (k_fin ?_)))
 cases hF2
 exact ends_a _ [] Tryz.results35
def m_slices_IndexFunc_Bind_ExpansionValid_1_AC (fuel : Nat) : Prop := ∀ (x1 : (List Bind)) (o1 : Expansion) (r : Int), m_slices_IndexFunc_Bind_ExpansionValid_1 fuel x1 o1 = some r → AC Tryz.prog 76 [.t (.sl (x1.map Bind.row)), .fn 35 [.rf 9000 0]] (objs [(9000, .box [.t (.sl (o1.binds.map Bind.row)), .t (.sl (o1.macros.map Macro.row)), .t (.sc (.int .i64 o1.scope)), .t (.sc (.int .i64 o1.id)), .t (.sc (.int .i64 o1.steps))])]) (.t (.sc (.int .i64 r))) (objs [(9000, .box [.t (.sl (o1.binds.map Bind.row)), .t (.sl (o1.macros.map Macro.row)), .t (.sc (.int .i64 o1.scope)), .t (.sc (.int .i64 o1.id)), .t (.sc (.int .i64 o1.steps))])])
theorem m_slices_IndexFunc_Bind_ExpansionValid_1_ok (fuel : Nat) : m_slices_IndexFunc_Bind_ExpansionValid_1_AC fuel := by
 intro x1 o1 r hF0
 unfold m_slices_IndexFunc_Bind_ExpansionValid_1 at hF0
 refine AC_i [.t (.sc (.int .i64 r))] Tryz.func76 rfl Tryz.ntmps76 ?_
 intro C hC
 refine awp_seq (awp_region ?_)
 refine s_as ?_
 refine k_nil (k_seq (awp_seq (awp_seq (awp_region ?_))))
 refine s_mv ?_
 refine s_lenT yU28 ?_
 refine s_mv ?_
 refine k_nil (k_seq (awp_block ?_))
 refine awp_fr (β := Int) [4, 5, 8, 9, 10, 11, 12, 13, 14, 15, 16, 17, 18] [] [] (fun a => [(8, .t (.sc (.int .i64 a.2)))]) (fun a => []) (fun a => a.1 ≤ fuel ∧ m_slices_IndexFunc_Bind_ExpansionValid_1_l1 a.1 x1 o1 a.2 = some r ∧ 0 ≤ a.2) (fuel, 0) ⟨Nat.le_refl _, hF0, by simp⟩ ?_
 clear hF0
 rintro ⟨fu, g1⟩ ⟨hl2, hF1, hn_g1⟩
 dsimp only at hl2 hF1 hn_g1 ⊢
 obtain _ | fu := fu
 · rw [m_slices_IndexFunc_Bind_ExpansionValid_1_l1] at hF1; cases hF1
 rw [m_slices_IndexFunc_Bind_ExpansionValid_1_l1] at hF1
 refine awp_seq (awp_region ?_)
 refine s_lt ?_
 refine k_nil (k_seq (awp_seq ?_))
 refine w_cond hF1 ?_ ?_ <;> intro hc3 hF2
 refine awp_lenT 0 (fun hb4 => ?_)
 refine awp_skip (k_seq (awp_seq (awp_block (awp_seq (awp_region ?_)))))
 refine s_mv ?_
 refine s_as ?_
 refine k_nil (k_seq (awp_seq (awp_region ?_)))
 iterate 3 refine s_mv ?_
 obtain ⟨v5, hv5, hF3⟩ := bind_some' hF2
 refine s_ixT Bind.row hv5 (Bind.row_eq _) yE28 ?_
 refine s_ldN yA66 yS66 ?_
 obtain ⟨v6, hv6, hF4⟩ := bind_some' hF3
 refine s_call [(9000, 9000)] [] _ _ (m_impl_ExpansionValid_1_ok fu _ _ _ hv6) ?_
 refine k_nil (k_seq ?_)
 refine w_cond hF4 ?_ ?_ <;> intro hc7 hF5
 refine awp_seq (awp_region ?_)
 refine s_mv ?_
 refine s_as ?_
 refine k_nil (k_seq (awp_ret (k_blk_ret (k_seq_ret (k_rnd_ret2 (k_blk_ret (k_seq_ret (k_fin ?_))))))))
 cases hF5
 exact ends_a _ [] Tryz.results76
 refine awp_skip (k_blk (k_seq (awp_region ?_)))
 refine s_add (winc2 hc3 hb4 hn_g1) ?_
 refine s_mv ?_
 refine k_nil ?_
 exact s_rn (fu, (g1 + 1)) ⟨by first | omega | (dsimp only; omega), hF5, by first | omega | (dsimp only; omega)⟩
 refine awp_exit (k_seq_exit (k_rnd_exit2 (k_blk_exit (k_seq (awp_seq (awp_region ?_))))))
 refine s_as ?_
 refine k_nil (k_seq (awp_ret (k_fin ?_)))
 cases hF2
 exact ends_a _ [] Tryz.results76
end Go.Abs
