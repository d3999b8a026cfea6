/- A part of the proof: what the functions that the law calls answer, as pure values. -/
import Derived.Test.YtehdhaaopmihaaaGreatDoorK0fde71595f57
import Derived.Test.YtehdhaaopmihaaaGreatDoorKc393c9bb41a5
import Derived.Test.YtehdhaaopmihaaaGreatDoorKdaf94b7ba384
set_option linter.unusedSimpArgs false
set_option linter.unusedVariables false
set_option maxRecDepth 100000
set_option maxHeartbeats 4000000
namespace Go.Abs
open Go.Proofs
def m_impl_within_AC (fuel : Nat) : Prop := ∀ (x1 : Int) (x2 : Int) (x3 : Int) (r : Bool), m_impl_within fuel x1 x2 x3 = some r → AC Tryz.prog 87 [.t (.sc (.int .i64 x1)), .t (.sc (.int .i64 x2)), .t (.sc (.int .i64 x3))] noOb (.t (.sc (.bool r))) noOb
theorem m_impl_within_ok (fuel : Nat) : m_impl_within_AC fuel := by
 intro x1 x2 x3 r hF0
 unfold m_impl_within at hF0
 refine AC_i [.t (.sc (.bool r))] Tryz.func87 rfl Tryz.ntmps87 ?_
 intro C hC
 refine awp_seq (awp_region ?_)
 refine s_as ?_
 refine k_nil (k_seq (awp_seq (awp_region ?_)))
 refine s_mv ?_
 refine s_mv ?_
 refine s_ge ?_
 refine s_mv ?_
 refine w_guard _ 10 hF0 ?_ ?_ <;> intro hc1 hF1
 refine s_mv ?_
 refine s_mv ?_
 refine s_le ?_
 refine s_pkt ?_
 refine s_as ?_
 refine k_nil (k_seq (awp_ret (k_fin ?_)))
 cases hF1
 exact ends_a [] [] Tryz.results87
 iterate 3 refine r_no rfl ?_
 refine s_pkf ?_
 refine s_as ?_
 refine k_nil (k_seq (awp_ret (k_fin ?_)))
 cases hF1
 exact ends_a [] [] Tryz.results87
def m_slices_Index_int_AC (fuel : Nat) : Prop := ∀ (x1 : (List Int)) (x2 : Int) (r : Int), m_slices_Index_int fuel x1 x2 = some r → AC Tryz.prog 118 [.t (.sl (x1.map rI)), .t (.sc (.int .i64 x2))] noOb (.t (.sc (.int .i64 r))) noOb
theorem m_slices_Index_int_ok (fuel : Nat) : m_slices_Index_int_AC fuel := by
 intro x1 x2 r hF0
 unfold m_slices_Index_int at hF0
 refine AC_i [.t (.sc (.int .i64 r))] Tryz.func118 rfl Tryz.ntmps118 ?_
 intro C hC
 refine awp_seq (awp_region ?_)
 refine s_as ?_
 refine k_nil (k_seq (awp_seq (awp_seq (awp_region ?_))))
 refine s_mv ?_
 refine s_lenT yU22 ?_
 refine s_mv ?_
 refine k_nil (k_seq (awp_block ?_))
 refine awp_fr (β := Int) [4, 5, 8, 9, 10, 11, 12, 13, 14, 15, 16, 17, 18] [] [] (fun a => [(8, .t (.sc (.int .i64 a.2)))]) (fun a => []) (fun a => a.1 ≤ fuel ∧ m_slices_Index_int_l1 a.1 x1 x2 a.2 = some r ∧ 0 ≤ a.2) (fuel, 0) ⟨Nat.le_refl _, hF0, by simp⟩ ?_
 clear hF0
 rintro ⟨fu, g1⟩ ⟨hl2, hF1, hn_g1⟩
 dsimp only at hl2 hF1 hn_g1 ⊢
 obtain _ | fu := fu
 · rw [m_slices_Index_int_l1] at hF1; cases hF1
 rw [m_slices_Index_int_l1] at hF1
 refine awp_seq (awp_region ?_)
 refine s_lt ?_
 refine k_nil (k_seq (awp_seq ?_))
 refine w_cond hF1 ?_ ?_ <;> intro hc3 hF2
 refine awp_lenT 0 (fun hb4 => ?_)
 refine awp_skip (k_seq (awp_seq (awp_block (awp_seq (awp_region ?_)))))
 refine s_mv ?_
 refine s_as ?_
 refine k_nil (k_seq (awp_seq (awp_region ?_)))
 iterate 3 refine s_mv ?_
 obtain ⟨v5, hv5, hF3⟩ := bind_some' hF2
 refine s_ixT rI hv5 rfl yE22 ?_
 refine s_ld1 yA3 ?_
 refine s_eq ?_
 refine k_nil (k_seq ?_)
 refine w_cond hF3 ?_ ?_ <;> intro hc6 hF4
 refine awp_seq (awp_region ?_)
 refine s_mv ?_
 refine s_as ?_
 refine k_nil (k_seq (awp_ret (k_blk_ret (k_seq_ret (k_rnd_ret2 (k_blk_ret (k_seq_ret (k_fin ?_))))))))
 cases hF4
 exact ends_a [] [] Tryz.results118
 refine awp_skip (k_blk (k_seq (awp_region ?_)))
 refine s_add (winc2 hc3 hb4 hn_g1) ?_
 refine s_mv ?_
 refine k_nil ?_
 exact s_rn (fu, (g1 + 1)) ⟨by first | omega | (dsimp only; omega), hF4, by first | omega | (dsimp only; omega)⟩
 refine awp_exit (k_seq_exit (k_rnd_exit2 (k_blk_exit (k_seq (awp_seq (awp_region ?_))))))
 refine s_as ?_
 refine k_nil (k_seq (awp_ret (k_fin ?_)))
 cases hF2
 exact ends_a [] [] Tryz.results118
def m_slices_Contains_int_AC (fuel : Nat) : Prop := ∀ (x1 : (List Int)) (x2 : Int) (r : Bool), m_slices_Contains_int fuel x1 x2 = some r → AC Tryz.prog 88 [.t (.sl (x1.map rI)), .t (.sc (.int .i64 x2))] noOb (.t (.sc (.bool r))) noOb
theorem m_slices_Contains_int_ok (fuel : Nat) : m_slices_Contains_int_AC fuel := by
 intro x1 x2 r hF0
 unfold m_slices_Contains_int at hF0
 refine AC_i [.t (.sc (.bool r))] Tryz.func88 rfl Tryz.ntmps88 ?_
 intro C hC
 refine awp_seq (awp_region ?_)
 refine s_as ?_
 refine k_nil (k_seq (awp_seq (awp_region ?_)))
 refine s_mv ?_
 refine s_mv ?_
 obtain ⟨v1, hv1, hF1⟩ := bind_some' hF0
 refine s_pure [] (m_slices_Index_int_ok fuel _ _ _ hv1) ?_
 refine s_ge ?_
 refine s_as ?_
 refine k_nil (k_seq (awp_ret (k_fin ?_)))
 cases hF1
 exact ends_a [] [] Tryz.results88
def m_strings_IndexByte_AC (fuel : Nat) : Prop := ∀ (x1 : ByteArray) (x2 : Int) (r : Int), m_strings_IndexByte fuel x1 x2 = some r → AC Tryz.prog 119 [.t (.sc (.str x1)), .t (.sc (.int .u8 x2))] noOb (.t (.sc (.int .i64 r))) noOb
theorem m_strings_IndexByte_ok (fuel : Nat) : m_strings_IndexByte_AC fuel := by
 intro x1 x2 r h
 obtain rfl := Option.some.inj h
 exact ac_two (a := .str x1) (b := .int .u8 x2) (r := .int .i64 _) ⟨_, Tryz.func119, by kernel_rfl, by kernel_rfl⟩ (fun w => Tryz.strings_IndexByte x1 x2 w)
def m_impl_NameValid_AC (fuel : Nat) : Prop := ∀ (x1 : ByteArray) (r : Bool), m_impl_NameValid fuel x1 = some r → AC Tryz.prog 89 [.t (.sc (.str x1))] noOb (.t (.sc (.bool r))) noOb
theorem m_impl_NameValid_ok (fuel : Nat) : m_impl_NameValid_AC fuel := by
 intro x1 r hF0
 unfold m_impl_NameValid at hF0
 refine AC_i [.t (.sc (.bool r))] Tryz.func89 rfl Tryz.ntmps89 ?_
 intro C hC
 refine awp_seq (awp_region ?_)
 refine s_as ?_
 refine k_nil (k_seq (awp_seq (awp_seq (awp_region ?_))))
 refine s_mv ?_
 refine s_eqS ?_
 refine s_mv ?_
 refine w_guard _ 7 hF0 ?_ ?_ <;> intro hc1 hF1
 refine r_no rfl (r_no rfl ?_)
 refine s_pkt ?_
 refine k_nil (k_seq (awp_true rfl (awp_seq (awp_region ?_))))
 refine s_as ?_
 refine k_nil (k_seq (awp_ret (k_seq_ret (k_fin ?_))))
 cases hF1
 exact ends_a [] [] Tryz.results89
 refine s_mv ?_
 refine s_eqS ?_
 refine s_pkf ?_
 refine k_nil (k_seq ?_)
 refine w_cond hF1 ?_ ?_ <;> intro hc2 hF2
 refine awp_seq (awp_region ?_)
 refine s_as ?_
 refine k_nil (k_seq (awp_ret (k_seq_ret (k_fin ?_))))
 cases hF2
 exact ends_a [] [] Tryz.results89
 refine awp_skip (k_seq (awp_seq (awp_seq (awp_region ?_))))
 refine s_as ?_
 refine k_nil (k_seq (awp_block ?_))
 refine awp_fr (β := Int) [2, 3, 4, 11, 12, 13, 14, 15, 16, 17, 18, 19, 20, 21, 22, 23, 24, 25, 26, 27, 28, 29, 30, 31, 32, 33, 34, 35, 36, 37, 38, 39, 40, 41, 42, 43, 44, 45, 46] [] [] (fun a => [(3, .t (.sc (.int .i64 a.2)))]) (fun a => []) (fun a => a.1 ≤ fuel ∧ m_impl_NameValid_l1 a.1 x1 a.2 = some r) (fuel, 0) ⟨Nat.le_refl _, hF2⟩ ?_
 clear hF2
 rintro ⟨fu, g3⟩ ⟨hl4, hF3⟩
 dsimp only at hl4 hF3 ⊢
 obtain _ | fu := fu
 · rw [m_impl_NameValid_l1] at hF3; cases hF3
 rw [m_impl_NameValid_l1] at hF3
 refine awp_seq (awp_seq (awp_region ?_))
 refine s_mv ?_
 refine s_mv ?_
 refine s_lenS yU9 ?_
 refine s_lt ?_
 refine k_nil (k_seq ?_)
 refine w_cond hF3 ?_ ?_ <;> intro hc5 hF4
 refine awp_skip (k_seq (awp_seq (awp_block (awp_seq (awp_region ?_)))))
 refine s_mv ?_
 refine s_mv ?_
 obtain ⟨v6, hv6, hF5⟩ := bind_some' hF4
 refine s_ixS hv6 yU9 ?_
 refine s_as ?_
 refine k_nil (k_seq (awp_block (awp_seq (awp_region ?_))))
 refine s_mv ?_
 refine s_ge ?_
 refine s_mv ?_
 refine w_guard _ 23 hF5 ?_ ?_ <;> intro hc7 hF6
 refine s_mv ?_
 refine s_le ?_
 refine s_pkt ?_
 refine s_mv ?_
 refine w_guard _ 27 hF6 ?_ ?_ <;> intro hc8 hF7
 iterate 3 refine r_no rfl ?_
 refine s_pkt ?_
 refine s_as ?_
 refine k_nil (k_seq (awp_true rfl (awp_skip (k_blk (k_blk (k_seq (awp_region ?_)))))))
 refine s_mv ?_
 refine s_add rfl ?_
 refine s_as ?_
 refine k_nil ?_
 exact s_rn (fu, (w64 (g3 + 1))) ⟨by first | omega | (dsimp only; omega), hF7⟩
 refine s_mv ?_
 obtain ⟨v9, hv9, hF8⟩ := bind_some' hF7
 refine s_pure [] (m_strings_IndexByte_ok fu _ _ _ hv9) ?_
 refine s_ge ?_
 refine s_pkf ?_
 refine s_as ?_
 refine k_nil (k_seq ?_)
 refine w_cond hF8 ?_ ?_ <;> intro hc10 hF9
 refine awp_skip (k_blk (k_blk (k_seq (awp_region ?_))))
 refine s_mv ?_
 refine s_add rfl ?_
 refine s_as ?_
 refine k_nil ?_
 exact s_rn (fu, (w64 (g3 + 1))) ⟨by first | omega | (dsimp only; omega), hF9⟩
 refine awp_seq (awp_region ?_)
 refine s_mv ?_
 refine s_gt ?_
 refine s_mv ?_
 refine w_guard _ 35 hF9 ?_ ?_ <;> intro hc11 hF10
 refine s_mv ?_
 refine s_ge ?_
 refine s_mv ?_
 refine w_guard _ 38 hF10 ?_ ?_ <;> intro hc12 hF11
 refine s_mv ?_
 refine s_le ?_
 refine s_pkt ?_
 refine s_mv ?_
 refine w_guard _ 42 hF11 ?_ ?_ <;> intro hc13 hF12
 refine r_no rfl (r_no rfl ?_)
 refine s_pkt ?_
 refine s_pkt ?_
 refine s_as ?_
 refine k_nil (k_seq (awp_true rfl (awp_skip (k_blk (k_blk (k_seq (awp_region ?_)))))))
 refine s_mv ?_
 refine s_add rfl ?_
 refine s_as ?_
 refine k_nil ?_
 exact s_rn (fu, (w64 (g3 + 1))) ⟨by first | omega | (dsimp only; omega), hF12⟩
 refine s_mv ?_
 refine s_eq ?_
 refine s_pkf ?_
 refine s_pkt ?_
 refine s_as ?_
 refine k_nil (k_seq ?_)
 refine w_cond hF12 ?_ ?_ <;> intro hc14 hF13
 refine awp_skip (k_blk (k_blk (k_seq (awp_region ?_))))
 refine s_mv ?_
 refine s_add rfl ?_
 refine s_as ?_
 refine k_nil ?_
 exact s_rn (fu, (w64 (g3 + 1))) ⟨by first | omega | (dsimp only; omega), hF13⟩
 refine awp_seq (awp_region ?_)
 refine s_as ?_
 refine k_nil (k_seq (awp_ret (k_blk_ret (k_blk_ret (k_seq_ret (k_rnd_ret2 (k_blk_ret (k_seq_ret (k_fin ?_)))))))))
 cases hF13
 exact ends_a [] [] Tryz.results89
 refine r_no rfl (r_no rfl ?_)
 refine s_pkf ?_
 refine s_mv ?_
 refine s_mv ?_
 refine s_eq ?_
 refine s_pkf ?_
 refine s_pkt ?_
 refine s_as ?_
 refine k_nil (k_seq ?_)
 refine w_cond hF11 ?_ ?_ <;> intro hc15 hF12
 refine awp_skip (k_blk (k_blk (k_seq (awp_region ?_))))
 refine s_mv ?_
 refine s_add rfl ?_
 refine s_as ?_
 refine k_nil ?_
 exact s_rn (fu, (w64 (g3 + 1))) ⟨by first | omega | (dsimp only; omega), hF12⟩
 refine awp_seq (awp_region ?_)
 refine s_as ?_
 refine k_nil (k_seq (awp_ret (k_blk_ret (k_blk_ret (k_seq_ret (k_rnd_ret2 (k_blk_ret (k_seq_ret (k_fin ?_)))))))))
 cases hF12
 exact ends_a [] [] Tryz.results89
 iterate 10 refine r_no rfl ?_
 refine s_pkf ?_
 refine s_as ?_
 refine k_nil (k_seq (awp_false rfl (awp_seq (awp_region ?_))))
 refine s_as ?_
 refine k_nil (k_seq (awp_ret (k_blk_ret (k_blk_ret (k_seq_ret (k_rnd_ret2 (k_blk_ret (k_seq_ret (k_fin ?_)))))))))
 cases hF10
 exact ends_a [] [] Tryz.results89
 refine r_no rfl (r_no rfl ?_)
 refine s_pkf ?_
 refine s_mv ?_
 refine s_mv ?_
 obtain ⟨v16, hv16, hF7⟩ := bind_some' hF6
 refine s_pure [] (m_strings_IndexByte_ok fu _ _ _ hv16) ?_
 refine s_ge ?_
 refine s_pkf ?_
 refine s_as ?_
 refine k_nil (k_seq ?_)
 refine w_cond hF7 ?_ ?_ <;> intro hc17 hF8
 refine awp_skip (k_blk (k_blk (k_seq (awp_region ?_))))
 refine s_mv ?_
 refine s_add rfl ?_
 refine s_as ?_
 refine k_nil ?_
 exact s_rn (fu, (w64 (g3 + 1))) ⟨by first | omega | (dsimp only; omega), hF8⟩
 refine awp_seq (awp_region ?_)
 refine s_mv ?_
 refine s_gt ?_
 refine s_mv ?_
 refine w_guard _ 35 hF8 ?_ ?_ <;> intro hc18 hF9
 refine s_mv ?_
 refine s_ge ?_
 refine s_mv ?_
 refine w_guard _ 38 hF9 ?_ ?_ <;> intro hc19 hF10
 refine s_mv ?_
 refine s_le ?_
 refine s_pkt ?_
 refine s_mv ?_
 refine w_guard _ 42 hF10 ?_ ?_ <;> intro hc20 hF11
 refine r_no rfl (r_no rfl ?_)
 refine s_pkt ?_
 refine s_pkt ?_
 refine s_as ?_
 refine k_nil (k_seq (awp_true rfl (awp_skip (k_blk (k_blk (k_seq (awp_region ?_)))))))
 refine s_mv ?_
 refine s_add rfl ?_
 refine s_as ?_
 refine k_nil ?_
 exact s_rn (fu, (w64 (g3 + 1))) ⟨by first | omega | (dsimp only; omega), hF11⟩
 refine s_mv ?_
 refine s_eq ?_
 refine s_pkf ?_
 refine s_pkt ?_
 refine s_as ?_
 refine k_nil (k_seq ?_)
 refine w_cond hF11 ?_ ?_ <;> intro hc21 hF12
 refine awp_skip (k_blk (k_blk (k_seq (awp_region ?_))))
 refine s_mv ?_
 refine s_add rfl ?_
 refine s_as ?_
 refine k_nil ?_
 exact s_rn (fu, (w64 (g3 + 1))) ⟨by first | omega | (dsimp only; omega), hF12⟩
 refine awp_seq (awp_region ?_)
 refine s_as ?_
 refine k_nil (k_seq (awp_ret (k_blk_ret (k_blk_ret (k_seq_ret (k_rnd_ret2 (k_blk_ret (k_seq_ret (k_fin ?_)))))))))
 cases hF12
 exact ends_a [] [] Tryz.results89
 refine r_no rfl (r_no rfl ?_)
 refine s_pkf ?_
 refine s_mv ?_
 refine s_mv ?_
 refine s_eq ?_
 refine s_pkf ?_
 refine s_pkt ?_
 refine s_as ?_
 refine k_nil (k_seq ?_)
 refine w_cond hF10 ?_ ?_ <;> intro hc22 hF11
 refine awp_skip (k_blk (k_blk (k_seq (awp_region ?_))))
 refine s_mv ?_
 refine s_add rfl ?_
 refine s_as ?_
 refine k_nil ?_
 exact s_rn (fu, (w64 (g3 + 1))) ⟨by first | omega | (dsimp only; omega), hF11⟩
 refine awp_seq (awp_region ?_)
 refine s_as ?_
 refine k_nil (k_seq (awp_ret (k_blk_ret (k_blk_ret (k_seq_ret (k_rnd_ret2 (k_blk_ret (k_seq_ret (k_fin ?_)))))))))
 cases hF11
 exact ends_a [] [] Tryz.results89
 iterate 10 refine r_no rfl ?_
 refine s_pkf ?_
 refine s_as ?_
 refine k_nil (k_seq (awp_false rfl (awp_seq (awp_region ?_))))
 refine s_as ?_
 refine k_nil (k_seq (awp_ret (k_blk_ret (k_blk_ret (k_seq_ret (k_rnd_ret2 (k_blk_ret (k_seq_ret (k_fin ?_)))))))))
 cases hF9
 exact ends_a [] [] Tryz.results89
 refine awp_exit (k_seq_exit (k_rnd_exit2 (k_blk_exit (k_seq (awp_seq (awp_region ?_))))))
 refine s_mv ?_
 refine s_lenS yU9 ?_
 obtain ⟨v23, hv23, hF5⟩ := bind_some' hF4
 refine s_pure [] (m_impl_within_ok fu _ _ _ _ hv23) ?_
 refine s_as ?_
 refine k_nil (k_seq (awp_ret (k_fin ?_)))
 cases hF5
 exact ends_a [] [] Tryz.results89
def m_impl_scopesOk_AC (fuel : Nat) : Prop := ∀ (x1 : (List Int)) (r : Bool), m_impl_scopesOk fuel x1 = some r → AC Tryz.prog 102 [.t (.sl (x1.map rI))] noOb (.t (.sc (.bool r))) noOb
theorem m_impl_scopesOk_ok (fuel : Nat) : m_impl_scopesOk_AC fuel := by
 intro x1 r hF0
 unfold m_impl_scopesOk at hF0
 refine AC_i [.t (.sc (.bool r))] Tryz.func102 rfl Tryz.ntmps102 ?_
 intro C hC
 refine awp_seq (awp_region ?_)
 refine s_as ?_
 refine k_nil (k_seq (awp_seq (awp_seq (awp_region ?_))))
 refine s_mv ?_
 refine s_lenT yU22 ?_
 refine s_mv ?_
 refine k_nil (k_seq (awp_block ?_))
 refine awp_fr (β := Int) [2, 3, 4, 7, 8, 9, 10, 11, 12, 13, 14, 15, 16, 17, 18, 19, 20, 21, 22, 23, 24, 25, 26, 27, 28] [] [] (fun a => [(7, .t (.sc (.int .i64 a.2)))]) (fun a => []) (fun a => a.1 ≤ fuel ∧ m_impl_scopesOk_l1 a.1 x1 a.2 = some r ∧ 0 ≤ a.2) (fuel, 0) ⟨Nat.le_refl _, hF0, by simp⟩ ?_
 clear hF0
 rintro ⟨fu, g1⟩ ⟨hl2, hF1, hn_g1⟩
 dsimp only at hl2 hF1 hn_g1 ⊢
 obtain _ | fu := fu
 · rw [m_impl_scopesOk_l1] at hF1; cases hF1
 rw [m_impl_scopesOk_l1] at hF1
 refine awp_seq (awp_region ?_)
 refine s_lt ?_
 refine k_nil (k_seq (awp_seq ?_))
 refine w_cond hF1 ?_ ?_ <;> intro hc3 hF2
 refine awp_lenT 0 (fun hb4 => ?_)
 refine awp_skip (k_seq (awp_seq (awp_block (awp_seq (awp_region ?_)))))
 refine s_mv ?_
 obtain ⟨v5, hv5, hF3⟩ := bind_some' hF2
 refine s_ixT rI hv5 rfl yE22 ?_
 refine s_ld1 yA3 ?_
 refine s_as ?_
 refine s_as ?_
 refine k_nil (k_seq (awp_seq (awp_region ?_)))
 refine s_mv ?_
 obtain ⟨v6, hv6, hF4⟩ := bind_some' hF3
 refine s_pure [] (m_impl_within_ok fu _ _ _ _ hv6) ?_
 refine s_not ?_
 refine s_mv ?_
 refine w_guard _ 15 hF4 ?_ ?_ <;> intro hc7 hF5
 iterate 11 refine r_no rfl ?_
 refine s_pkt ?_
 refine k_nil (k_seq (awp_true rfl (awp_seq (awp_region ?_))))
 refine s_as ?_
 refine k_nil (k_seq (awp_ret (k_blk_ret (k_seq_ret (k_rnd_ret2 (k_blk_ret (k_seq_ret (k_fin ?_))))))))
 cases hF5
 exact ends_a [] [] Tryz.results102
 refine s_mv ?_
 refine s_gt ?_
 refine s_mv ?_
 refine w_guard _ 18 hF5 ?_ ?_ <;> intro hc8 hF6
 refine s_mv ?_
 refine s_mv ?_
 refine s_sub rfl ?_
 obtain ⟨v9, hv9, hF7⟩ := bind_some' hF6
 refine s_ixT rI hv9 rfl yE22 ?_
 refine s_ld1 yA3 ?_
 refine s_mv ?_
 refine s_ge ?_
 refine s_pkt ?_
 refine s_pkf ?_
 refine k_nil (k_seq ?_)
 refine w_cond hF7 ?_ ?_ <;> intro hc10 hF8
 refine awp_seq (awp_region ?_)
 refine s_as ?_
 refine k_nil (k_seq (awp_ret (k_blk_ret (k_seq_ret (k_rnd_ret2 (k_blk_ret (k_seq_ret (k_fin ?_))))))))
 cases hF8
 exact ends_a [] [] Tryz.results102
 refine awp_skip (k_blk (k_seq (awp_region ?_)))
 refine s_add (winc2 hc3 hb4 hn_g1) ?_
 refine s_mv ?_
 refine k_nil ?_
 exact s_rn (fu, (g1 + 1)) ⟨by first | omega | (dsimp only; omega), hF8, by first | omega | (dsimp only; omega)⟩
 iterate 7 refine r_no rfl ?_
 refine s_pkf ?_
 refine s_pkf ?_
 refine k_nil (k_seq (awp_false rfl (awp_skip (k_blk (k_seq (awp_region ?_))))))
 refine s_add (winc2 hc3 hb4 hn_g1) ?_
 refine s_mv ?_
 refine k_nil ?_
 exact s_rn (fu, (g1 + 1)) ⟨by first | omega | (dsimp only; omega), hF6, by first | omega | (dsimp only; omega)⟩
 refine awp_exit (k_seq_exit (k_rnd_exit2 (k_blk_exit (k_seq (awp_seq (awp_region ?_))))))
 refine s_mv ?_
 refine s_lenT yU22 ?_
 refine s_le ?_
 refine s_as ?_
 refine k_nil (k_seq (awp_ret (k_fin ?_)))
 cases hF2
 exact ends_a [] [] Tryz.results102
def m_impl_formOk_AC (fuel : Nat) : Prop := ∀ (x1 : Form) (x2 : Int) (o1 : Int) (r : (Bool × Int)), m_impl_formOk fuel x1 x2 o1 = some r → AC Tryz.prog 61 [.ag [.t (.sc (.int .i64 x1.kind)), .t (.sc (.str x1.name)), .t (.sc (.int .i64 x1.n)), .t (.sl (x1.scopes.map rI)), .t (.sl (x1.kids.map Form.row))], .t (.sc (.int .i64 x2)), .rf 9000 0] (objs [(9000, .box [.t (.sc (.int .i64 o1))])]) (.t (.sc (.bool r.1))) (objs [(9000, .box [.t (.sc (.int .i64 r.2))])])
theorem m_impl_formOk_st (fu : Nat) (ih_m_impl_formOk : ∀ k, k ≤ fu → m_impl_formOk_AC k) : m_impl_formOk_AC (fu + 1) := by
 intro x1 x2 o1 r hF0
 rw [m_impl_formOk] at hF0
 refine AC_i [.t (.sc (.bool r.1))] Tryz.func61 rfl Tryz.ntmps61 ?_
 intro C hC
 refine awp_seq (awp_region ?_)
 refine s_box ?_
 refine s_as ?_
 refine k_nil (k_seq (awp_seq (awp_region ?_)))
 refine s_mv ?_
 refine s_nc ?_
 refine s_ld1 yA3 ?_
 refine s_sub rfl ?_
 refine s_nc ?_
 refine s_stW yS3 ?_
 refine k_nil (k_seq (awp_seq (awp_seq (awp_region ?_))))
 refine s_mv ?_
 refine s_nc ?_
 refine s_ld1 yA3 ?_
 refine s_lt ?_
 refine s_mv ?_
 refine w_guard _ 18 hF0 ?_ ?_ <;> intro hc1 hF1
 refine r_no rfl (r_no rfl ?_)
 refine s_pkt ?_
 refine k_nil (k_seq (awp_true rfl (awp_seq (awp_region ?_))))
 refine s_as ?_
 refine k_nil (k_seq (awp_ret (k_seq_ret (k_fin ?_))))
 cases hF1
 exact ends_a _ [] Tryz.results61
 refine s_mv ?_
 refine s_gt ?_
 refine s_pkf ?_
 refine k_nil (k_seq ?_)
 refine w_cond hF1 ?_ ?_ <;> intro hc2 hF2
 refine awp_seq (awp_region ?_)
 refine s_as ?_
 refine k_nil (k_seq (awp_ret (k_seq_ret (k_fin ?_))))
 cases hF2
 exact ends_a _ [] Tryz.results61
 refine awp_skip (k_seq (awp_seq (awp_seq (awp_region ?_))))
 refine s_fa yF33_0 ?_
 refine s_ld1 yA3 ?_
 refine k_nil (k_seq (awp_block (awp_seq (awp_region ?_))))
 refine s_eq ?_
 refine s_as ?_
 refine k_nil (k_seq ?_)
 refine w_cond hF2 ?_ ?_ <;> intro hc3 hF3
 refine awp_seq (awp_region ?_)
 refine s_fa yF33_1 ?_
 refine s_ld1 yA9 ?_
 obtain ⟨v4, hv4, hF4⟩ := bind_some' hF3
 refine s_pure [] (m_impl_NameValid_ok fu _ _ hv4) ?_
 refine s_mv ?_
 refine w_guard _ 29 hF4 ?_ ?_ <;> intro hc5 hF5
 refine s_fa yF33_2 ?_
 refine s_ld1 yA3 ?_
 refine s_eq ?_
 refine s_pkt ?_
 refine s_mv ?_
 refine w_guard _ 34 hF5 ?_ ?_ <;> intro hc6 hF6
 refine s_fa yF33_3 ?_
 refine s_ld1 yA22 ?_
 obtain ⟨v7, hv7, hF7⟩ := bind_some' hF6
 refine s_pure [] (m_impl_scopesOk_ok fu _ _ hv7) ?_
 refine s_pkt ?_
 refine s_mv ?_
 refine w_guard _ 39 hF7 ?_ ?_ <;> intro hc8 hF8
 refine s_fa yF33_4 ?_
 refine s_ld1 yA31 ?_
 refine s_lenT yU31 ?_
 refine s_eq ?_
 refine s_pkt ?_
 refine s_as ?_
 refine k_nil (k_seq (awp_ret (k_blk_ret (k_seq_ret (k_fin ?_)))))
 cases hF8
 exact ends_a _ [] Tryz.results61
 iterate 4 refine r_no rfl ?_
 refine s_pkf ?_
 refine s_as ?_
 refine k_nil (k_seq (awp_ret (k_blk_ret (k_seq_ret (k_fin ?_)))))
 cases hF8
 exact ends_a _ [] Tryz.results61
 iterate 3 refine r_no rfl ?_
 refine s_pkf ?_
 refine s_mv ?_
 iterate 4 refine r_no rfl ?_
 refine s_pkf ?_
 refine s_as ?_
 refine k_nil (k_seq (awp_ret (k_blk_ret (k_seq_ret (k_fin ?_)))))
 cases hF6
 exact ends_a _ [] Tryz.results61
 iterate 3 refine r_no rfl ?_
 refine s_pkf ?_
 refine s_mv ?_
 iterate 3 refine r_no rfl ?_
 refine s_pkf ?_
 refine s_mv ?_
 iterate 4 refine r_no rfl ?_
 refine s_pkf ?_
 refine s_as ?_
 refine k_nil (k_seq (awp_ret (k_blk_ret (k_seq_ret (k_fin ?_)))))
 cases hF5
 exact ends_a _ [] Tryz.results61
 refine awp_seq (awp_region ?_)
 refine s_eq ?_
 refine s_as ?_
 refine k_nil (k_seq ?_)
 refine w_cond hF3 ?_ ?_ <;> intro hc9 hF4
 refine awp_seq (awp_region ?_)
 refine s_fa yF33_1 ?_
 refine s_ld1 yA9 ?_
 refine s_eqS ?_
 refine s_mv ?_
 refine w_guard _ 50 hF4 ?_ ?_ <;> intro hc10 hF5
 refine s_fa yF33_2 ?_
 refine s_ld1 yA3 ?_
 obtain ⟨v11, hv11, hF6⟩ := bind_some' hF5
 refine s_pure [] (m_impl_within_ok fu _ _ _ _ hv11) ?_
 refine s_pkt ?_
 refine s_mv ?_
 refine w_guard _ 55 hF6 ?_ ?_ <;> intro hc12 hF7
 refine s_fa yF33_3 ?_
 refine s_ld1 yA22 ?_
 refine s_lenT yU22 ?_
 refine s_eq ?_
 refine s_pkt ?_
 refine s_mv ?_
 refine w_guard _ 61 hF7 ?_ ?_ <;> intro hc13 hF8
 refine s_fa yF33_4 ?_
 refine s_ld1 yA31 ?_
 refine s_lenT yU31 ?_
 refine s_eq ?_
 refine s_pkt ?_
 refine s_as ?_
 refine k_nil (k_seq (awp_ret (k_blk_ret (k_seq_ret (k_fin ?_)))))
 cases hF8
 exact ends_a _ [] Tryz.results61
 iterate 4 refine r_no rfl ?_
 refine s_pkf ?_
 refine s_as ?_
 refine k_nil (k_seq (awp_ret (k_blk_ret (k_seq_ret (k_fin ?_)))))
 cases hF8
 exact ends_a _ [] Tryz.results61
 iterate 4 refine r_no rfl ?_
 refine s_pkf ?_
 refine s_mv ?_
 iterate 4 refine r_no rfl ?_
 refine s_pkf ?_
 refine s_as ?_
 refine k_nil (k_seq (awp_ret (k_blk_ret (k_seq_ret (k_fin ?_)))))
 cases hF7
 exact ends_a _ [] Tryz.results61
 iterate 3 refine r_no rfl ?_
 refine s_pkf ?_
 refine s_mv ?_
 iterate 4 refine r_no rfl ?_
 refine s_pkf ?_
 refine s_mv ?_
 iterate 4 refine r_no rfl ?_
 refine s_pkf ?_
 refine s_as ?_
 refine k_nil (k_seq (awp_ret (k_blk_ret (k_seq_ret (k_fin ?_)))))
 cases hF5
 exact ends_a _ [] Tryz.results61
 refine awp_seq (awp_region ?_)
 refine s_eq ?_
 refine s_as ?_
 refine k_nil (k_seq ?_)
 refine w_cond hF4 ?_ ?_ <;> intro hc14 hF5
 refine awp_seq (awp_seq (awp_region ?_))
 refine s_fa yF33_1 ?_
 refine s_ld1 yA9 ?_
 refine s_neS ?_
 refine s_mv ?_
 refine w_guard _ 72 hF5 ?_ ?_ <;> intro hc15 hF6
 iterate 3 refine r_no rfl ?_
 refine s_pkt ?_
 refine s_mv ?_
 iterate 4 refine r_no rfl ?_
 refine s_pkt ?_
 refine k_nil (k_seq (awp_true rfl (awp_seq (awp_region ?_))))
 refine s_as ?_
 refine k_nil (k_seq (awp_ret (k_seq_ret (k_blk_ret (k_seq_ret (k_fin ?_))))))
 cases hF6
 exact ends_a _ [] Tryz.results61
 refine s_fa yF33_2 ?_
 refine s_ld1 yA3 ?_
 refine s_ne ?_
 refine s_pkf ?_
 refine s_mv ?_
 refine w_guard _ 77 hF6 ?_ ?_ <;> intro hc16 hF7
 iterate 4 refine r_no rfl ?_
 refine s_pkt ?_
 refine k_nil (k_seq (awp_true rfl (awp_seq (awp_region ?_))))
 refine s_as ?_
 refine k_nil (k_seq (awp_ret (k_seq_ret (k_blk_ret (k_seq_ret (k_fin ?_))))))
 cases hF7
 exact ends_a _ [] Tryz.results61
 refine s_fa yF33_3 ?_
 refine s_ld1 yA22 ?_
 refine s_lenT yU22 ?_
 refine s_gt ?_
 refine s_pkf ?_
 refine k_nil (k_seq ?_)
 refine w_cond hF7 ?_ ?_ <;> intro hc17 hF8
 refine awp_lenT 79 (fun hb18 => ?_)
 refine awp_seq (awp_region ?_)
 refine s_as ?_
 refine k_nil (k_seq (awp_ret (k_seq_ret (k_blk_ret (k_seq_ret (k_fin ?_))))))
 cases hF8
 exact ends_a _ [] Tryz.results61
 refine awp_skip (k_seq (awp_seq (awp_seq (awp_region ?_))))
 refine s_fa yF33_4 ?_
 refine s_ld1 yA31 ?_
 refine s_lenT yU31 ?_
 refine s_mv ?_
 refine k_nil (k_seq (awp_block ?_))
 refine awp_fr (β := Int × Int) [6, 8, 86, 87, 88, 89, 90, 91, 92, 93, 94, 95, 96] [9000] [8] (fun a => [(86, .t (.sc (.int .i64 a.2.1)))]) (fun a => [(9000, .box [.t (.sc (.int .i64 a.2.2))])]) (fun a => a.1 ≤ fu ∧ m_impl_formOk_l1 a.1 x1 x2 a.2.1 a.2.2 = some r ∧ 0 ≤ a.2.1) (fu, 0, (w64 (o1 - 1))) ⟨Nat.le_refl _, hF8, by simp⟩ ?_
 clear hF8
 rintro ⟨fu, g19, g20⟩ ⟨hl21, hF9, hn_g19⟩
 dsimp only at hl21 hF9 hn_g19 ⊢
 obtain _ | fu := fu
 · rw [m_impl_formOk_l1] at hF9; cases hF9
 rw [m_impl_formOk_l1] at hF9
 refine awp_seq (awp_region ?_)
 refine s_lt ?_
 refine k_nil (k_seq (awp_seq ?_))
 refine w_cond hF9 ?_ ?_ <;> intro hc22 hF10
 refine awp_lenT 84 (fun hb23 => ?_)
 refine awp_skip (k_seq (awp_seq (awp_block (awp_seq (awp_region ?_)))))
 obtain ⟨v24, hv24, hF11⟩ := bind_some' hF10
 refine s_ixT Form.row hv24 (Form.row_eq _) yE31 ?_
 refine s_ldN yA33 yS33 ?_
 refine s_alloc yZ33 ?_
 refine s_stW yS33 ?_
 refine k_nil (k_seq (awp_seq (awp_region ?_)))
 refine s_ldW yA33 yS33 ?_
 refine s_mv ?_
 refine s_add rfl ?_
 refine s_mv ?_
 obtain ⟨v25, hv25, hF12⟩ := bind_some' hF11
 refine s_call [(9000, 9000)] [] _ _ (ih_m_impl_formOk fu (by omega) _ _ _ _ hv25) ?_
 refine s_not ?_
 refine k_nil (k_seq ?_)
 refine w_cond hF12 ?_ ?_ <;> intro hc26 hF13
 refine awp_seq (awp_region ?_)
 refine s_as ?_
 refine k_nil (k_seq (awp_ret (k_blk_ret (k_seq_ret (k_rnd_ret2 (k_blk_ret (k_seq_ret (k_blk_ret (k_seq_ret (k_fin ?_))))))))))
 cases hF13
 exact ends_a _ [] Tryz.results61
 refine awp_skip (k_blk (k_seq (awp_region ?_)))
 refine s_add (winc2 hc22 hb23 hn_g19) ?_
 refine s_mv ?_
 refine k_nil ?_
 exact s_rn (fu, (g19 + 1), v25.2) ⟨by first | omega | (dsimp only; omega), hF13, by first | omega | (dsimp only; omega)⟩
 refine awp_exit (k_seq_exit (k_rnd_exit2 (k_blk_exit (k_seq (awp_seq (awp_region ?_))))))
 refine s_as ?_
 refine k_nil (k_seq (awp_ret (k_blk_ret (k_seq_ret (k_fin ?_)))))
 cases hF10
 exact ends_a _ [] Tryz.results61
 refine awp_skip (k_blk (k_seq (awp_seq (awp_region ?_))))
 refine s_as ?_
 refine k_nil (k_seq (awp_ret (k_fin ?_)))
 cases hF5
 exact ends_a _ [] Tryz.results61
theorem m_impl_formOk_all (fuel : Nat) : m_impl_formOk_AC fuel := by
 induction fuel using Nat.strongRecOn with
 | _ N ih =>
   cases N with
   | zero => exact (by intro x1 x2 o1 r h; rw [m_impl_formOk] at h; cases h)
   | succ fu => exact m_impl_formOk_st fu (fun k hk => (ih k (by omega)))
theorem m_impl_formOk_ok (fuel : Nat) : m_impl_formOk_AC fuel := (m_impl_formOk_all fuel)
def m_impl_FormValid_AC (fuel : Nat) : Prop := ∀ (x1 : Form) (r : Bool), m_impl_FormValid fuel x1 = some r → AC Tryz.prog 29 [.ag [.t (.sc (.int .i64 x1.kind)), .t (.sc (.str x1.name)), .t (.sc (.int .i64 x1.n)), .t (.sl (x1.scopes.map rI)), .t (.sl (x1.kids.map Form.row))]] noOb (.t (.sc (.bool r))) noOb
theorem m_impl_FormValid_ok (fuel : Nat) : m_impl_FormValid_AC fuel := by
 intro x1 r hF0
 unfold m_impl_FormValid at hF0
 refine AC_i [.t (.sc (.bool r))] Tryz.func29 rfl Tryz.ntmps29 ?_
 intro C hC
 refine awp_seq (awp_region ?_)
 refine s_box ?_
 refine s_as ?_
 refine k_nil (k_seq (awp_seq (awp_region ?_)))
 refine s_alloc yZ3 ?_
 refine s_stW yS3 ?_
 refine k_nil (k_seq (awp_seq (awp_region ?_)))
 refine s_ldW yA33 yS33 ?_
 obtain ⟨v1, hv1, hF1⟩ := bind_some' hF0
 refine s_call [(9000, 3)] [] _ _ (m_impl_formOk_ok fuel _ _ _ _ hv1) ?_
 refine s_as ?_
 refine k_nil (k_seq (awp_ret (k_fin ?_)))
 cases hF1
 exact ends_a [] [] Tryz.results29
def m_impl_ScopesOf_1_AC (fuel : Nat) : Prop := ∀ (x1 : Form) (o1 : (List Int)) (r : (List Int)), m_impl_ScopesOf_1 fuel x1 o1 = some r → AC Tryz.prog 121 [.ag [.t (.sc (.int .i64 x1.kind)), .t (.sc (.str x1.name)), .t (.sc (.int .i64 x1.n)), .t (.sl (x1.scopes.map rI)), .t (.sl (x1.kids.map Form.row))], .rf 9000 0] (objs [(9000, .box [.ar 9420]), (9420, .arr (o1.map rI) 3 true)]) (.tp []) (objs [(9000, .box [.ar 10420]), (9420, .dead), (10420, .arr (r.map rI) 3 true)])
theorem m_impl_ScopesOf_1_ok (fuel : Nat) : m_impl_ScopesOf_1_AC fuel := by
 intro x1 o1 r hF0
 unfold m_impl_ScopesOf_1 at hF0
 refine AC_i [] Tryz.func121 rfl Tryz.ntmps121 ?_
 intro C hC
 refine awp_thw ?_
 refine awp_seq (awp_region ?_)
 refine s_box ?_
 refine k_nil (k_seq (awp_region ?_))
 refine s_ld1 yA22 ?_
 refine s_fa yF33_3 ?_
 refine s_ld1 yA22 ?_
 obtain ⟨hk1, hF1⟩ := chk_some hF0
 refine s_apT rI (fun _ => rfl) hk1 yP22 ?_
 refine s_stW yS22 ?_
 refine k_nil ?_
 refine thw_mvB 9000 6 10420 [.ar 10420] ?_
 refine thw_id ?_
 refine k_fin_end ?_
 cases hF1
 exact ends_a _ [] Tryz.results121
def m_impl_eachForm_ScopesOf_1_AC (fuel : Nat) : Prop := ∀ (x1 : Form) (o1 : (List Int)) (r : (List Int)), m_impl_eachForm_ScopesOf_1 fuel x1 o1 = some r → AC Tryz.prog 120 [.ag [.t (.sc (.int .i64 x1.kind)), .t (.sc (.str x1.name)), .t (.sc (.int .i64 x1.n)), .t (.sl (x1.scopes.map rI)), .t (.sl (x1.kids.map Form.row))], .fn 121 [.rf 9000 0]] (objs [(9000, .box [.ar 9420]), (9420, .arr (o1.map rI) 3 true)]) (.tp []) (objs [(9000, .box [.ar 10420]), (9420, .dead), (10420, .arr (r.map rI) 3 true)])
theorem m_impl_eachForm_ScopesOf_1_st (fu : Nat) (ih_m_impl_eachForm_ScopesOf_1 : ∀ k, k ≤ fu → m_impl_eachForm_ScopesOf_1_AC k) : m_impl_eachForm_ScopesOf_1_AC (fu + 1) := by
 intro x1 o1 r hF0
 rw [m_impl_eachForm_ScopesOf_1] at hF0
 refine AC_i [] Tryz.func120 rfl Tryz.ntmps120 ?_
 intro C hC
 refine awp_seq (awp_region ?_)
 refine s_box ?_
 refine k_nil (k_seq (awp_seq (awp_region ?_)))
 refine s_mv ?_
 refine s_ldW yA33 yS33 ?_
 obtain ⟨v1, hv1, hF1⟩ := bind_some' hF0
 refine s_call [(9000, 9000), (9420, 9420), (10420, 22008)] [] _ _ (m_impl_ScopesOf_1_ok fu _ _ _ hv1) ?_
 refine k_nil (k_seq (awp_seq (awp_region ?_)))
 refine s_fa yF33_4 ?_
 refine s_ld1 yA31 ?_
 refine s_lenT yU31 ?_
 refine s_mv ?_
 refine k_nil (k_seq (awp_block ?_))
 refine awp_mvB 9000 22008 5020 [.ar 5020] ?_
 refine awp_frame2 [5, 12, 13, 14, 15, 16, 17, 18, 19] [5020, 9000] [5, 22018] [5020] (fun a : Nat × Int × (List Int) => a.1) (fun a : Nat × Int × (List Int) => [(12, .t (.sc (.int .i64 a.2.1)))]) (fun a : Nat × Int × (List Int) => [(5020, .arr (a.2.2.map rI) 3 true), (9000, .box [.ar 5020])]) (fun a : Nat × Int × (List Int) => a.1 ≤ fu ∧ m_impl_eachForm_ScopesOf_1_l1 a.1 x1 a.2.1 a.2.2 = some r ∧ 0 ≤ a.2.1) (fu, 0, v1) ⟨Nat.le_refl _, hF1, by simp⟩ (by rfl) (by rfl) (fun _ => rfl) (hasF_cons (by conv => lhs; whnf) (by rfl) hasF_nil) (hasO_cons (by conv => lhs; whnf) (by rfl) (hasO_cons (by conv => lhs; whnf) (by rfl) hasO_nil)) (fresh_C hC rfl) (by repeat (first | exact freshS_args rfl | refine freshS_upd rfl ?_ | refine freshS_frame rfl ?_)) (by repeat (first | exact freshM_no | exact objs_fresh rfl | refine freshM_upd rfl ?_ | refine freshM_frame rfl ?_)) ?_
 clear hF1
 rintro ⟨fu, g2, g3⟩ ⟨hl4, hF2, hn_g2⟩
 dsimp only at hl4 hF2 hn_g2 ⊢
 obtain _ | fu := fu
 · rw [m_impl_eachForm_ScopesOf_1_l1] at hF2; cases hF2
 rw [m_impl_eachForm_ScopesOf_1_l1] at hF2
 refine awp_seq (awp_region ?_)
 refine s_lt ?_
 refine k_nil (k_seq (awp_seq ?_))
 refine w_cond hF2 ?_ ?_ <;> intro hc5 hF3
 refine awp_lenT 10 (fun hb6 => ?_)
 refine awp_skip (k_seq (awp_seq (awp_block (awp_seq (awp_region ?_)))))
 obtain ⟨v7, hv7, hF4⟩ := bind_some' hF3
 refine s_ixT Form.row hv7 (Form.row_eq _) yE31 ?_
 refine s_ldN yA33 yS33 ?_
 refine s_alloc yZ33 ?_
 refine s_stW yS33 ?_
 refine k_nil (k_seq (awp_region ?_))
 refine s_ldW yA33 yS33 ?_
 refine s_mv ?_
 obtain ⟨v8, hv8, hF5⟩ := bind_some' hF4
 refine s_call [(9000, 9000), (9420, 5020), (10420, 22018)] [] _ _ (ih_m_impl_eachForm_ScopesOf_1 fu (by omega) _ _ _ hv8) ?_
 refine k_nil (k_blk (k_seq (awp_region ?_)))
 refine s_add (winc2 hc5 hb6 hn_g2) ?_
 refine s_mv ?_
 refine k_nil ?_
 exact s_rn (fu, (g2 + 1), v8) ⟨by first | omega | (dsimp only; omega), hF5, by first | omega | (dsimp only; omega)⟩ [(5020, 22018)]
 refine awp_mvB 9000 5020 10420 [.ar 10420] ?_
 refine awp_exit (k_seq_exit (k_rnd_exit2 (k_blk_exit (k_fin_end ?_))))
 cases hF3
 exact ends_a _ [] Tryz.results120
theorem m_impl_eachForm_ScopesOf_1_all (fuel : Nat) : m_impl_eachForm_ScopesOf_1_AC fuel := by
 induction fuel using Nat.strongRecOn with
 | _ N ih =>
   cases N with
   | zero => exact (by intro x1 o1 r h; rw [m_impl_eachForm_ScopesOf_1] at h; cases h)
   | succ fu => exact m_impl_eachForm_ScopesOf_1_st fu (fun k hk => (ih k (by omega)))
theorem m_impl_eachForm_ScopesOf_1_ok (fuel : Nat) : m_impl_eachForm_ScopesOf_1_AC fuel := (m_impl_eachForm_ScopesOf_1_all fuel)
def m_slices_Sort_int_AC (fuel : Nat) : Prop := ∀ (x1 : (List Int)) (r : (List Int)), m_slices_Sort_int fuel x1 = some r → AC Tryz.prog 122 [.ar 9300] (objs [(9300, .arr (x1.map rI) 3 true)]) (.tp []) (objs [(9300, .arr (r.map rI) 3 true)])
theorem m_slices_Sort_int_ok (fuel : Nat) : m_slices_Sort_int_AC fuel := by
 intro x1 r h
 obtain ⟨hc, h⟩ := chk_some h
 obtain rfl := Option.some.inj h
 exact ac_sort x1 ⟨_, Tryz.func122, by kernel_rfl, by kernel_rfl⟩ (by kernel_rfl) (by simpa using hc) (fun blk cap w hH hb => Tryz.slices_Sort_int blk 0 cap x1 w hH hb (by simpa using hc)) (fun A w => Tryz.slices_Sort_int_none A 0 w)
def m_slices_Compact_int_AC (fuel : Nat) : Prop := ∀ (x1 : (List Int)) (r : (List Int)), m_slices_Compact_int fuel x1 = some r → AC Tryz.prog 123 [.ar 9300] (objs [(9300, .arr (x1.map rI) 3 true)]) (.ar 9200) (objs [(9300, .dead), (9200, .arr (r.map rI) 3 true)])
theorem m_slices_Compact_int_ok (fuel : Nat) : m_slices_Compact_int_AC fuel := by
 intro x1 r h
 obtain rfl := Option.some.inj h
 exact ac_compact x1 ⟨_, Tryz.func123, by kernel_rfl, by kernel_rfl⟩ (by kernel_rfl) (fun blk cap w hH h1 h2 => Tryz.slices_Compact_int blk 0 cap x1 w hH h1 h2) (fun A w => Tryz.slices_Compact_int_empty A 0 w)
def m_impl_ScopesOf_AC (fuel : Nat) : Prop := ∀ (x1 : Form) (r : (List Int)), m_impl_ScopesOf fuel x1 = some r → AC Tryz.prog 90 [.ag [.t (.sc (.int .i64 x1.kind)), .t (.sc (.str x1.name)), .t (.sc (.int .i64 x1.n)), .t (.sl (x1.scopes.map rI)), .t (.sl (x1.kids.map Form.row))]] noOb (.t (.sl (r.map rI))) noOb
theorem m_impl_ScopesOf_ok (fuel : Nat) : m_impl_ScopesOf_AC fuel := by
 intro x1 r hF0
 unfold m_impl_ScopesOf at hF0
 refine AC_i [.t (.sl (r.map rI))] Tryz.func90 rfl Tryz.ntmps90 ?_
 intro C hC
 refine awp_seq (awp_region ?_)
 refine s_box ?_
 refine s_as ?_
 refine k_nil (k_seq (awp_seq (awp_region ?_)))
 refine s_bs rI ([] : List Int) yP22 yR3 ?_
 refine s_alloc yZ22 ?_
 refine s_stW yS22 ?_
 refine k_nil (k_seq (awp_seq (awp_seq (awp_region ?_))))
 refine s_ldW yA33 yS33 ?_
 obtain ⟨v1, hv1, hF1⟩ := bind_some' hF0
 refine s_pure [] (m_impl_FormValid_ok fuel _ _ hv1) ?_
 refine s_not ?_
 refine k_nil (k_seq ?_)
 refine w_cond hF1 ?_ ?_ <;> intro hc2 hF2
 refine awp_seq (awp_region ?_)
 refine s_ld1 yA22 ?_
 refine s_as ?_
 refine k_nil (k_seq (awp_ret (k_seq_ret (k_fin ?_))))
 cases hF2
 exact ends_a [] [4] Tryz.results90
 refine awp_skip (k_seq (awp_seq (awp_region ?_)))
 refine s_ldW yA33 yS33 ?_
 refine s_fn ?_
 obtain ⟨v3, hv3, hF3⟩ := bind_some' hF2
 refine s_call [(9000, 3), (9420, 4), (10420, 22011)] [] _ _ (m_impl_eachForm_ScopesOf_1_ok fuel _ _ _ hv3) ?_
 refine k_nil (k_seq (awp_seq (awp_region ?_)))
 refine s_ld1 yA22 ?_
 obtain ⟨v4, hv4, hF4⟩ := bind_some' hF3
 refine s_call [(9300, 22011)] [] _ _ (m_slices_Sort_int_ok fuel _ _ hv4) ?_
 refine k_nil (k_seq (awp_seq (awp_region ?_)))
 refine s_ld1 yA22 ?_
 obtain ⟨v5, hv5, hF5⟩ := bind_some' hF4
 refine s_call [(9300, 22011), (9200, 12015)] [] _ _ (m_slices_Compact_int_ok fuel _ _ hv5) ?_
 refine s_as ?_
 refine k_nil (k_seq (awp_ret (k_fin ?_)))
 cases hF5
 exact ends_a [] [12015] Tryz.results90
def m_slices_Clone_int_AC (fuel : Nat) : Prop := ∀ (x1 : (List Int)) (r : (List Int)), m_slices_Clone_int fuel x1 = some r → AC Tryz.prog 91 [.t (.sl (x1.map rI))] (objs []) (.ar 9200) (objs [(9200, .arr (r.map rI) 3 true)])
theorem m_slices_Clone_int_ok (fuel : Nat) : m_slices_Clone_int_AC fuel := by
 intro x1 r hF0
 unfold m_slices_Clone_int at hF0
 refine AC_i [.ar 9200] Tryz.func91 rfl Tryz.ntmps91 ?_
 intro C hC
 refine awp_nil 0 (fun hz => ?_) ?_
 replace hz := List.map_eq_nil_iff.mp hz; subst hz; obtain ⟨_, hF1⟩ := chk_some hF0
 refine awp_seq (awp_region ?_)
 refine s_as ?_
 refine k_nil (k_seq (awp_seq (awp_seq (awp_region ?_))))
 refine s_mv ?_
 refine s_nil yU22 ?_
 refine k_nil (k_seq (awp_true rfl ?_))
 refine awp_unnil 0 ?_
 refine awp_unnil 3 ?_
 refine awp_seq (awp_region ?_)
 refine s_as ?_
 refine k_nil (k_seq ?_)
 refine awp_own 2 9200 3 yI3.choose_spec ?_
 refine awp_ret (k_seq_ret (k_fin ?_))
 cases hF1
 exact ends_a _ [] Tryz.results91
 refine awp_seq (awp_region ?_)
 refine s_as ?_
 refine k_nil (k_seq (awp_seq (awp_seq (awp_region ?_))))
 refine s_mv ?_
 refine s_nil yU22 ?_
 refine k_nil (k_seq (awp_false rfl ?_))
 refine awp_unnil 0 ?_
 refine awp_unnil 3 ?_
 refine awp_skip (k_seq (awp_seq (awp_region ?_)))
 refine s_bs rI ([] : List Int) yP22 yR3 ?_
 refine s_mv ?_
 obtain ⟨hk1, hF1⟩ := chk_some hF0
 refine s_apT rI (fun _ => rfl) hk1 yP22 ?_
 refine s_as ?_
 refine k_nil (k_seq ?_)
 refine awp_mv 2 7 9200 (by conv => lhs; whnf) (by conv => lhs; whnf) rfl ?_
 refine awp_ret (k_fin ?_)
 cases hF1
 exact ends_a _ [] Tryz.results91
def m_slices_Equal_int_AC (fuel : Nat) : Prop := ∀ (x1 : (List Int)) (x2 : (List Int)) (r : Bool), m_slices_Equal_int fuel x1 x2 = some r → AC Tryz.prog 65 [.t (.sl (x1.map rI)), .t (.sl (x2.map rI))] noOb (.t (.sc (.bool r))) noOb
theorem m_slices_Equal_int_ok (fuel : Nat) : m_slices_Equal_int_AC fuel := by
 intro x1 x2 r hF0
 unfold m_slices_Equal_int at hF0
 refine AC_i [.t (.sc (.bool r))] Tryz.func65 rfl Tryz.ntmps65 ?_
 intro C hC
 refine awp_seq (awp_region ?_)
 refine s_as ?_
 refine k_nil (k_seq (awp_seq (awp_seq (awp_region ?_))))
 refine s_mv ?_
 refine s_lenT yU22 ?_
 refine s_mv ?_
 refine s_lenT yU22 ?_
 refine s_ne ?_
 refine k_nil (k_seq ?_)
 refine w_cond hF0 ?_ ?_ <;> intro hc1 hF1
 refine awp_seq (awp_region ?_)
 refine s_as ?_
 refine k_nil (k_seq (awp_ret (k_seq_ret (k_fin ?_))))
 cases hF1
 exact ends_a [] [] Tryz.results65
 refine awp_skip (k_seq (awp_seq (awp_seq (awp_region ?_))))
 refine s_mv ?_
 refine s_lenT yU22 ?_
 refine s_mv ?_
 refine k_nil (k_seq (awp_block ?_))
 refine awp_fr (β := Int) [4, 5, 13, 14, 15, 16, 17, 18, 19, 20, 21, 22, 23, 24, 25] [] [] (fun a => [(13, .t (.sc (.int .i64 a.2)))]) (fun a => []) (fun a => a.1 ≤ fuel ∧ m_slices_Equal_int_l1 a.1 x1 x2 a.2 = some r ∧ 0 ≤ a.2) (fuel, 0) ⟨Nat.le_refl _, hF1, by simp⟩ ?_
 clear hF1
 rintro ⟨fu, g2⟩ ⟨hl3, hF2, hn_g2⟩
 dsimp only at hl3 hF2 hn_g2 ⊢
 obtain _ | fu := fu
 · rw [m_slices_Equal_int_l1] at hF2; cases hF2
 rw [m_slices_Equal_int_l1] at hF2
 refine awp_seq (awp_region ?_)
 refine s_lt ?_
 refine k_nil (k_seq (awp_seq ?_))
 refine w_cond hF2 ?_ ?_ <;> intro hc4 hF3
 refine awp_lenT 0 (fun hb5 => ?_)
 refine awp_skip (k_seq (awp_seq (awp_block (awp_seq (awp_region ?_)))))
 refine s_mv ?_
 refine s_as ?_
 refine k_nil (k_seq (awp_seq ?_))
 refine awp_draw yMix (by kernel_rfl) ?_
 refine s_mv ?_
 refine s_mv ?_
 obtain ⟨v6, hv6, hF4⟩ := bind_some' hF3
 refine s_ixT rI hv6 rfl yE22 ?_
 refine s_ld1 yA3 ?_
 refine s_mv ?_
 refine s_mv ?_
 obtain ⟨v7, hv7, hF5⟩ := bind_some' hF4
 refine s_ixT rI hv7 rfl yE22 ?_
 refine s_ld1 yA3 ?_
 refine s_ne ?_
 refine k_nilD (by kernel_rfl) ?_
 refine k_seq ?_
 refine w_cond hF5 ?_ ?_ <;> intro hc8 hF6
 refine awp_seq (awp_region ?_)
 refine s_as ?_
 refine k_nil (k_seq (awp_ret (k_blk_ret (k_seq_ret (k_rnd_ret2 (k_blk_ret (k_seq_ret (k_fin ?_))))))))
 cases hF6
 exact ends_a [] [] Tryz.results65
 refine awp_skip (k_blk (k_seq (awp_region ?_)))
 refine s_add (winc2 hc4 hb5 hn_g2) ?_
 refine s_mv ?_
 refine k_nil ?_
 exact s_rn (fu, (g2 + 1)) ⟨by first | omega | (dsimp only; omega), hF6, by first | omega | (dsimp only; omega)⟩
 refine awp_exit (k_seq_exit (k_rnd_exit2 (k_blk_exit (k_seq (awp_seq (awp_region ?_))))))
 refine s_as ?_
 refine k_nil (k_seq (awp_ret (k_fin ?_)))
 cases hF3
 exact ends_a [] [] Tryz.results65
def m_impl_FormSame_AC (fuel : Nat) : Prop := ∀ (x1 : Form) (x2 : Form) (r : Bool), m_impl_FormSame fuel x1 x2 = some r → AC Tryz.prog 32 [.ag [.t (.sc (.int .i64 x1.kind)), .t (.sc (.str x1.name)), .t (.sc (.int .i64 x1.n)), .t (.sl (x1.scopes.map rI)), .t (.sl (x1.kids.map Form.row))], .ag [.t (.sc (.int .i64 x2.kind)), .t (.sc (.str x2.name)), .t (.sc (.int .i64 x2.n)), .t (.sl (x2.scopes.map rI)), .t (.sl (x2.kids.map Form.row))]] noOb (.t (.sc (.bool r))) noOb
def m_slices_EqualFunc_Form_FormSame_AC (fuel : Nat) : Prop := ∀ (x1 : (List Form)) (x2 : (List Form)) (r : Bool), m_slices_EqualFunc_Form_FormSame fuel x1 x2 = some r → AC Tryz.prog 66 [.t (.sl (x1.map Form.row)), .t (.sl (x2.map Form.row)), .fn 32 []] noOb (.t (.sc (.bool r))) noOb
theorem m_impl_FormSame_st (fu : Nat) (ih_m_impl_FormSame : ∀ k, k ≤ fu → m_impl_FormSame_AC k) (ih_m_slices_EqualFunc_Form_FormSame : ∀ k, k ≤ fu → m_slices_EqualFunc_Form_FormSame_AC k) : m_impl_FormSame_AC (fu + 1) := by
 intro x1 x2 r hF0
 rw [m_impl_FormSame] at hF0
 refine AC_i [.t (.sc (.bool r))] Tryz.func32 rfl Tryz.ntmps32 ?_
 intro C hC
 refine awp_seq (awp_region ?_)
 refine s_box ?_
 refine s_box ?_
 refine s_as ?_
 refine k_nil (k_seq (awp_seq (awp_region ?_)))
 refine s_fa yF33_0 ?_
 refine s_ld1 yA3 ?_
 refine s_fa yF33_0 ?_
 refine s_ld1 yA3 ?_
 refine s_eq ?_
 refine s_mv ?_
 refine w_guard _ 10 hF0 ?_ ?_ <;> intro hc1 hF1
 refine s_fa yF33_1 ?_
 refine s_ld1 yA9 ?_
 refine s_fa yF33_1 ?_
 refine s_ld1 yA9 ?_
 refine s_eqS ?_
 refine s_pkt ?_
 refine s_mv ?_
 refine w_guard _ 17 hF1 ?_ ?_ <;> intro hc2 hF2
 refine s_fa yF33_2 ?_
 refine s_ld1 yA3 ?_
 refine s_fa yF33_2 ?_
 refine s_ld1 yA3 ?_
 refine s_eq ?_
 refine s_pkt ?_
 refine s_mv ?_
 refine w_guard _ 24 hF2 ?_ ?_ <;> intro hc3 hF3
 refine s_fa yF33_3 ?_
 refine s_ld1 yA22 ?_
 refine s_fa yF33_3 ?_
 refine s_ld1 yA22 ?_
 obtain ⟨v4, hv4, hF4⟩ := bind_some' hF3
 refine s_pure [] (m_slices_Equal_int_ok fu _ _ _ hv4) ?_
 refine s_pkt ?_
 refine s_mv ?_
 refine w_guard _ 31 hF4 ?_ ?_ <;> intro hc5 hF5
 refine s_fa yF33_4 ?_
 refine s_ld1 yA31 ?_
 refine s_fa yF33_4 ?_
 refine s_ld1 yA31 ?_
 obtain ⟨v6, hv6, hF6⟩ := bind_some' hF5
 refine s_pure [] (ih_m_slices_EqualFunc_Form_FormSame fu (by omega) _ _ _ hv6) ?_
 refine s_pkt ?_
 refine s_as ?_
 refine k_nil (k_seq (awp_ret (k_fin ?_)))
 cases hF6
 exact ends_a [] [] Tryz.results32
 iterate 5 refine r_no rfl ?_
 refine s_pkf ?_
 refine s_as ?_
 refine k_nil (k_seq (awp_ret (k_fin ?_)))
 cases hF5
 exact ends_a [] [] Tryz.results32
 iterate 5 refine r_no rfl ?_
 refine s_pkf ?_
 refine s_mv ?_
 iterate 5 refine r_no rfl ?_
 refine s_pkf ?_
 refine s_as ?_
 refine k_nil (k_seq (awp_ret (k_fin ?_)))
 cases hF3
 exact ends_a [] [] Tryz.results32
 iterate 5 refine r_no rfl ?_
 refine s_pkf ?_
 refine s_mv ?_
 iterate 5 refine r_no rfl ?_
 refine s_pkf ?_
 refine s_mv ?_
 iterate 5 refine r_no rfl ?_
 refine s_pkf ?_
 refine s_as ?_
 refine k_nil (k_seq (awp_ret (k_fin ?_)))
 cases hF2
 exact ends_a [] [] Tryz.results32
 iterate 5 refine r_no rfl ?_
 refine s_pkf ?_
 refine s_mv ?_
 iterate 5 refine r_no rfl ?_
 refine s_pkf ?_
 refine s_mv ?_
 iterate 5 refine r_no rfl ?_
 refine s_pkf ?_
 refine s_mv ?_
 iterate 5 refine r_no rfl ?_
 refine s_pkf ?_
 refine s_as ?_
 refine k_nil (k_seq (awp_ret (k_fin ?_)))
 cases hF1
 exact ends_a [] [] Tryz.results32
end Go.Abs
