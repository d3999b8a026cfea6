/- A part of the proof: what the functions that the law calls answer, as pure values. -/
import Derived.Test.YtidbdmpbcpanjaaGreatDoorK10a31c29eeb6
import Derived.Test.YtidbdmpbcpanjaaGreatDoorK2cf43c99d87e
import Derived.Test.YtidbdmpbcpanjaaGreatDoorK3aa03bdccf4b
import Derived.Test.YtidbdmpbcpanjaaGreatDoorKa21c0bbbe675
set_option linter.unusedSimpArgs false
set_option linter.unusedVariables false
set_option maxRecDepth 100000
set_option maxHeartbeats 4000000
namespace Go.Abs
open Go.Proofs
def m_spec_DrawFormatForm_AC (fuel : Nat) : Prop := ∀ (x1 : (List Int)) (r : Form), m_spec_DrawFormatForm fuel x1 = some r → AC Tryz.prog 5 [.t (.sl (x1.map rB))] noOb (.ag [.t (.sc (.int .i64 r.kind)), .t (.sc (.str r.name)), .t (.sc (.int .i64 r.n)), .t (.sl (r.scopes.map rI)), .t (.sl (r.kids.map Form.row))]) noOb
theorem m_spec_DrawFormatForm_ok (fuel : Nat) : m_spec_DrawFormatForm_AC fuel := by
 intro x1 r hF0
 unfold m_spec_DrawFormatForm at hF0
 refine AC_i [.ag [.t (.sc (.int .i64 r.kind)), .t (.sc (.str r.name)), .t (.sc (.int .i64 r.n)), .t (.sl (r.scopes.map rI)), .t (.sl (r.kids.map Form.row))]] Tryz.func5 rfl Tryz.ntmps5 ?_
 intro C hC
 refine awp_seq (awp_region ?_)
 refine s_alloc yZ26 ?_
 refine k_nil (k_seq (awp_seq (awp_region ?_)))
 refine s_mv ?_
 obtain ⟨v1, hv1, hF1⟩ := bind_some' hF0
 refine s_pure [] (m_spec_DrawFormValid_ok fuel _ _ hv1) ?_
 refine s_stW yS26 ?_
 refine k_nil (k_seq (awp_ret (k_fin ?_)))
 cases hF1
 exact ends_gen [] [] (by rw [Tryz.results5]; exact (res_agg (by conv => lhs; whnf) (by conv => lhs; whnf) yA26 yS26 rfl res_nil))
def m_strings_IndexByte_AC (fuel : Nat) : Prop := ∀ (x1 : ByteArray) (x2 : Int) (r : Int), m_strings_IndexByte fuel x1 x2 = some r → AC Tryz.prog 57 [.t (.sc (.str x1)), .t (.sc (.int .u8 x2))] noOb (.t (.sc (.int .i64 r))) noOb
theorem m_strings_IndexByte_ok (fuel : Nat) : m_strings_IndexByte_AC fuel := by
 intro x1 x2 r h
 obtain rfl := Option.some.inj h
 exact ac_two (a := .str x1) (b := .int .u8 x2) (r := .int .i64 _) ⟨_, Tryz.func57, by kernel_rfl, by kernel_rfl⟩ (fun w => Tryz.strings_IndexByte x1 x2 w)
def m_impl_within_AC (fuel : Nat) : Prop := ∀ (x1 : Int) (x2 : Int) (x3 : Int) (r : Bool), m_impl_within fuel x1 x2 x3 = some r → AC Tryz.prog 42 [.t (.sc (.int .i64 x1)), .t (.sc (.int .i64 x2)), .t (.sc (.int .i64 x3))] noOb (.t (.sc (.bool r))) noOb
theorem m_impl_within_ok (fuel : Nat) : m_impl_within_AC fuel := by
 intro x1 x2 x3 r hF0
 unfold m_impl_within at hF0
 refine AC_i [.t (.sc (.bool r))] Tryz.func42 rfl Tryz.ntmps42 ?_
 intro C hC
 refine awp_seq (awp_region ?_)
 refine s_as ?_
 refine k_nil (k_seq (awp_seq (awp_region ?_)))
 refine s_mv ?_
 refine s_mv ?_
 refine s_ge ?_
 refine s_mv ?_
 refine w_guard _ 10 hF0 ?_ ?_ <;> intro hc1 hF1
 refine s_mv ?_
 refine s_mv ?_
 refine s_le ?_
 refine s_pkt ?_
 refine s_as ?_
 refine k_nil (k_seq (awp_ret (k_fin ?_)))
 cases hF1
 exact ends_a [] [] Tryz.results42
 iterate 3 refine r_no rfl ?_
 refine s_pkf ?_
 refine s_as ?_
 refine k_nil (k_seq (awp_ret (k_fin ?_)))
 cases hF1
 exact ends_a [] [] Tryz.results42
def m_impl_NameValid_AC (fuel : Nat) : Prop := ∀ (x1 : ByteArray) (r : Bool), m_impl_NameValid fuel x1 = some r → AC Tryz.prog 36 [.t (.sc (.str x1))] noOb (.t (.sc (.bool r))) noOb
theorem m_impl_NameValid_ok (fuel : Nat) : m_impl_NameValid_AC fuel := by
 intro x1 r hF0
 unfold m_impl_NameValid at hF0
 refine AC_i [.t (.sc (.bool r))] Tryz.func36 rfl Tryz.ntmps36 ?_
 intro C hC
 refine awp_seq (awp_region ?_)
 refine s_as ?_
 refine k_nil (k_seq (awp_seq (awp_seq (awp_region ?_))))
 refine s_mv ?_
 refine s_eqS ?_
 refine s_mv ?_
 refine w_guard _ 7 hF0 ?_ ?_ <;> intro hc1 hF1
 refine r_no rfl (r_no rfl ?_)
 refine s_pkt ?_
 refine k_nil (k_seq (awp_true rfl (awp_seq (awp_region ?_))))
 refine s_as ?_
 refine k_nil (k_seq (awp_ret (k_seq_ret (k_fin ?_))))
 cases hF1
 exact ends_a [] [] Tryz.results36
 refine s_mv ?_
 refine s_eqS ?_
 refine s_pkf ?_
 refine k_nil (k_seq ?_)
 refine w_cond hF1 ?_ ?_ <;> intro hc2 hF2
 refine awp_seq (awp_region ?_)
 refine s_as ?_
 refine k_nil (k_seq (awp_ret (k_seq_ret (k_fin ?_))))
 cases hF2
 exact ends_a [] [] Tryz.results36
 refine awp_skip (k_seq (awp_seq (awp_seq (awp_region ?_))))
 refine s_as ?_
 refine k_nil (k_seq (awp_block ?_))
 refine awp_fr (β := Int) [2, 3, 4, 11, 12, 13, 14, 15, 16, 17, 18, 19, 20, 21, 22, 23, 24, 25, 26, 27, 28, 29, 30, 31, 32, 33, 34, 35, 36, 37, 38, 39, 40, 41, 42, 43, 44, 45, 46] [] [] (fun a => [(3, .t (.sc (.int .i64 a.2)))]) (fun a => []) (fun a => a.1 ≤ fuel ∧ m_impl_NameValid_l1 a.1 x1 a.2 = some r) (fuel, 0) ⟨Nat.le_refl _, hF2⟩ ?_
 clear hF2
 rintro ⟨fu, g3⟩ ⟨hl4, hF3⟩
 dsimp only at hl4 hF3 ⊢
 obtain _ | fu := fu
 · rw [m_impl_NameValid_l1] at hF3; cases hF3
 rw [m_impl_NameValid_l1] at hF3
 refine awp_seq (awp_seq (awp_region ?_))
 refine s_mv ?_
 refine s_mv ?_
 refine s_lenS yU9 ?_
 refine s_lt ?_
 refine k_nil (k_seq ?_)
 refine w_cond hF3 ?_ ?_ <;> intro hc5 hF4
 refine awp_skip (k_seq (awp_seq (awp_block (awp_seq (awp_region ?_)))))
 refine s_mv ?_
 refine s_mv ?_
 obtain ⟨v6, hv6, hF5⟩ := bind_some' hF4
 refine s_ixS hv6 yU9 ?_
 refine s_as ?_
 refine k_nil (k_seq (awp_block (awp_seq (awp_region ?_))))
 refine s_mv ?_
 refine s_ge ?_
 refine s_mv ?_
 refine w_guard _ 23 hF5 ?_ ?_ <;> intro hc7 hF6
 refine s_mv ?_
 refine s_le ?_
 refine s_pkt ?_
 refine s_mv ?_
 refine w_guard _ 27 hF6 ?_ ?_ <;> intro hc8 hF7
 iterate 3 refine r_no rfl ?_
 refine s_pkt ?_
 refine s_as ?_
 refine k_nil (k_seq (awp_true rfl (awp_skip (k_blk (k_blk (k_seq (awp_region ?_)))))))
 refine s_mv ?_
 refine s_add rfl ?_
 refine s_as ?_
 refine k_nil ?_
 exact s_rn (fu, (w64 (g3 + 1))) ⟨by first | omega | (dsimp only; omega), hF7⟩
 refine s_mv ?_
 obtain ⟨v9, hv9, hF8⟩ := bind_some' hF7
 refine s_pure [] (m_strings_IndexByte_ok fu _ _ _ hv9) ?_
 refine s_ge ?_
 refine s_pkf ?_
 refine s_as ?_
 refine k_nil (k_seq ?_)
 refine w_cond hF8 ?_ ?_ <;> intro hc10 hF9
 refine awp_skip (k_blk (k_blk (k_seq (awp_region ?_))))
 refine s_mv ?_
 refine s_add rfl ?_
 refine s_as ?_
 refine k_nil ?_
 exact s_rn (fu, (w64 (g3 + 1))) ⟨by first | omega | (dsimp only; omega), hF9⟩
 refine awp_seq (awp_region ?_)
 refine s_mv ?_
 refine s_gt ?_
 refine s_mv ?_
 refine w_guard _ 35 hF9 ?_ ?_ <;> intro hc11 hF10
 refine s_mv ?_
 refine s_ge ?_
 refine s_mv ?_
 refine w_guard _ 38 hF10 ?_ ?_ <;> intro hc12 hF11
 refine s_mv ?_
 refine s_le ?_
 refine s_pkt ?_
 refine s_mv ?_
 refine w_guard _ 42 hF11 ?_ ?_ <;> intro hc13 hF12
 refine r_no rfl (r_no rfl ?_)
 refine s_pkt ?_
 refine s_pkt ?_
 refine s_as ?_
 refine k_nil (k_seq (awp_true rfl (awp_skip (k_blk (k_blk (k_seq (awp_region ?_)))))))
 refine s_mv ?_
 refine s_add rfl ?_
 refine s_as ?_
 refine k_nil ?_
 exact s_rn (fu, (w64 (g3 + 1))) ⟨by first | omega | (dsimp only; omega), hF12⟩
 refine s_mv ?_
 refine s_eq ?_
 refine s_pkf ?_
 refine s_pkt ?_
 refine s_as ?_
 refine k_nil (k_seq ?_)
 refine w_cond hF12 ?_ ?_ <;> intro hc14 hF13
 refine awp_skip (k_blk (k_blk (k_seq (awp_region ?_))))
 refine s_mv ?_
 refine s_add rfl ?_
 refine s_as ?_
 refine k_nil ?_
 exact s_rn (fu, (w64 (g3 + 1))) ⟨by first | omega | (dsimp only; omega), hF13⟩
 refine awp_seq (awp_region ?_)
 refine s_as ?_
 refine k_nil (k_seq (awp_ret (k_blk_ret (k_blk_ret (k_seq_ret (k_rnd_ret2 (k_blk_ret (k_seq_ret (k_fin ?_)))))))))
 cases hF13
 exact ends_a [] [] Tryz.results36
 refine r_no rfl (r_no rfl ?_)
 refine s_pkf ?_
 refine s_mv ?_
 refine s_mv ?_
 refine s_eq ?_
 refine s_pkf ?_
 refine s_pkt ?_
 refine s_as ?_
 refine k_nil (k_seq ?_)
 refine w_cond hF11 ?_ ?_ <;> intro hc15 hF12
 refine awp_skip (k_blk (k_blk (k_seq (awp_region ?_))))
 refine s_mv ?_
 refine s_add rfl ?_
 refine s_as ?_
 refine k_nil ?_
 exact s_rn (fu, (w64 (g3 + 1))) ⟨by first | omega | (dsimp only; omega), hF12⟩
 refine awp_seq (awp_region ?_)
 refine s_as ?_
 refine k_nil (k_seq (awp_ret (k_blk_ret (k_blk_ret (k_seq_ret (k_rnd_ret2 (k_blk_ret (k_seq_ret (k_fin ?_)))))))))
 cases hF12
 exact ends_a [] [] Tryz.results36
 iterate 10 refine r_no rfl ?_
 refine s_pkf ?_
 refine s_as ?_
 refine k_nil (k_seq (awp_false rfl (awp_seq (awp_region ?_))))
 refine s_as ?_
 refine k_nil (k_seq (awp_ret (k_blk_ret (k_blk_ret (k_seq_ret (k_rnd_ret2 (k_blk_ret (k_seq_ret (k_fin ?_)))))))))
 cases hF10
 exact ends_a [] [] Tryz.results36
 refine r_no rfl (r_no rfl ?_)
 refine s_pkf ?_
 refine s_mv ?_
 refine s_mv ?_
 obtain ⟨v16, hv16, hF7⟩ := bind_some' hF6
 refine s_pure [] (m_strings_IndexByte_ok fu _ _ _ hv16) ?_
 refine s_ge ?_
 refine s_pkf ?_
 refine s_as ?_
 refine k_nil (k_seq ?_)
 refine w_cond hF7 ?_ ?_ <;> intro hc17 hF8
 refine awp_skip (k_blk (k_blk (k_seq (awp_region ?_))))
 refine s_mv ?_
 refine s_add rfl ?_
 refine s_as ?_
 refine k_nil ?_
 exact s_rn (fu, (w64 (g3 + 1))) ⟨by first | omega | (dsimp only; omega), hF8⟩
 refine awp_seq (awp_region ?_)
 refine s_mv ?_
 refine s_gt ?_
 refine s_mv ?_
 refine w_guard _ 35 hF8 ?_ ?_ <;> intro hc18 hF9
 refine s_mv ?_
 refine s_ge ?_
 refine s_mv ?_
 refine w_guard _ 38 hF9 ?_ ?_ <;> intro hc19 hF10
 refine s_mv ?_
 refine s_le ?_
 refine s_pkt ?_
 refine s_mv ?_
 refine w_guard _ 42 hF10 ?_ ?_ <;> intro hc20 hF11
 refine r_no rfl (r_no rfl ?_)
 refine s_pkt ?_
 refine s_pkt ?_
 refine s_as ?_
 refine k_nil (k_seq (awp_true rfl (awp_skip (k_blk (k_blk (k_seq (awp_region ?_)))))))
 refine s_mv ?_
 refine s_add rfl ?_
 refine s_as ?_
 refine k_nil ?_
 exact s_rn (fu, (w64 (g3 + 1))) ⟨by first | omega | (dsimp only; omega), hF11⟩
 refine s_mv ?_
 refine s_eq ?_
 refine s_pkf ?_
 refine s_pkt ?_
 refine s_as ?_
 refine k_nil (k_seq ?_)
 refine w_cond hF11 ?_ ?_ <;> intro hc21 hF12
 refine awp_skip (k_blk (k_blk (k_seq (awp_region ?_))))
 refine s_mv ?_
 refine s_add rfl ?_
 refine s_as ?_
 refine k_nil ?_
 exact s_rn (fu, (w64 (g3 + 1))) ⟨by first | omega | (dsimp only; omega), hF12⟩
 refine awp_seq (awp_region ?_)
 refine s_as ?_
 refine k_nil (k_seq (awp_ret (k_blk_ret (k_blk_ret (k_seq_ret (k_rnd_ret2 (k_blk_ret (k_seq_ret (k_fin ?_)))))))))
 cases hF12
 exact ends_a [] [] Tryz.results36
 refine r_no rfl (r_no rfl ?_)
 refine s_pkf ?_
 refine s_mv ?_
 refine s_mv ?_
 refine s_eq ?_
 refine s_pkf ?_
 refine s_pkt ?_
 refine s_as ?_
 refine k_nil (k_seq ?_)
 refine w_cond hF10 ?_ ?_ <;> intro hc22 hF11
 refine awp_skip (k_blk (k_blk (k_seq (awp_region ?_))))
 refine s_mv ?_
 refine s_add rfl ?_
 refine s_as ?_
 refine k_nil ?_
 exact s_rn (fu, (w64 (g3 + 1))) ⟨by first | omega | (dsimp only; omega), hF11⟩
 refine awp_seq (awp_region ?_)
 refine s_as ?_
 refine k_nil (k_seq (awp_ret (k_blk_ret (k_blk_ret (k_seq_ret (k_rnd_ret2 (k_blk_ret (k_seq_ret (k_fin ?_)))))))))
 cases hF11
 exact ends_a [] [] Tryz.results36
 iterate 10 refine r_no rfl ?_
 refine s_pkf ?_
 refine s_as ?_
 refine k_nil (k_seq (awp_false rfl (awp_seq (awp_region ?_))))
 refine s_as ?_
 refine k_nil (k_seq (awp_ret (k_blk_ret (k_blk_ret (k_seq_ret (k_rnd_ret2 (k_blk_ret (k_seq_ret (k_fin ?_)))))))))
 cases hF9
 exact ends_a [] [] Tryz.results36
 refine awp_exit (k_seq_exit (k_rnd_exit2 (k_blk_exit (k_seq (awp_seq (awp_region ?_))))))
 refine s_mv ?_
 refine s_lenS yU9 ?_
 obtain ⟨v23, hv23, hF5⟩ := bind_some' hF4
 refine s_pure [] (m_impl_within_ok fu _ _ _ _ hv23) ?_
 refine s_as ?_
 refine k_nil (k_seq (awp_ret (k_fin ?_)))
 cases hF5
 exact ends_a [] [] Tryz.results36
def m_impl_scopesOk_AC (fuel : Nat) : Prop := ∀ (x1 : (List Int)) (r : Bool), m_impl_scopesOk fuel x1 = some r → AC Tryz.prog 41 [.t (.sl (x1.map rI))] noOb (.t (.sc (.bool r))) noOb
theorem m_impl_scopesOk_ok (fuel : Nat) : m_impl_scopesOk_AC fuel := by
 intro x1 r hF0
 unfold m_impl_scopesOk at hF0
 refine AC_i [.t (.sc (.bool r))] Tryz.func41 rfl Tryz.ntmps41 ?_
 intro C hC
 refine awp_seq (awp_region ?_)
 refine s_as ?_
 refine k_nil (k_seq (awp_seq (awp_seq (awp_region ?_))))
 refine s_mv ?_
 refine s_lenT yU23 ?_
 refine s_mv ?_
 refine k_nil (k_seq (awp_block ?_))
 refine awp_fr (β := Int) [2, 3, 4, 7, 8, 9, 10, 11, 12, 13, 14, 15, 16, 17, 18, 19, 20, 21, 22, 23, 24, 25, 26, 27, 28] [] [] (fun a => [(7, .t (.sc (.int .i64 a.2)))]) (fun a => []) (fun a => a.1 ≤ fuel ∧ m_impl_scopesOk_l1 a.1 x1 a.2 = some r ∧ 0 ≤ a.2) (fuel, 0) ⟨Nat.le_refl _, hF0, by simp⟩ ?_
 clear hF0
 rintro ⟨fu, g1⟩ ⟨hl2, hF1, hn_g1⟩
 dsimp only at hl2 hF1 hn_g1 ⊢
 obtain _ | fu := fu
 · rw [m_impl_scopesOk_l1] at hF1; cases hF1
 rw [m_impl_scopesOk_l1] at hF1
 refine awp_seq (awp_region ?_)
 refine s_lt ?_
 refine k_nil (k_seq (awp_seq ?_))
 refine w_cond hF1 ?_ ?_ <;> intro hc3 hF2
 refine awp_lenT 0 (fun hb4 => ?_)
 refine awp_skip (k_seq (awp_seq (awp_block (awp_seq (awp_region ?_)))))
 refine s_mv ?_
 obtain ⟨v5, hv5, hF3⟩ := bind_some' hF2
 refine s_ixT rI hv5 rfl yE23 ?_
 refine s_ld1 yA3 ?_
 refine s_as ?_
 refine s_as ?_
 refine k_nil (k_seq (awp_seq (awp_region ?_)))
 refine s_mv ?_
 obtain ⟨v6, hv6, hF4⟩ := bind_some' hF3
 refine s_pure [] (m_impl_within_ok fu _ _ _ _ hv6) ?_
 refine s_not ?_
 refine s_mv ?_
 refine w_guard _ 15 hF4 ?_ ?_ <;> intro hc7 hF5
 iterate 11 refine r_no rfl ?_
 refine s_pkt ?_
 refine k_nil (k_seq (awp_true rfl (awp_seq (awp_region ?_))))
 refine s_as ?_
 refine k_nil (k_seq (awp_ret (k_blk_ret (k_seq_ret (k_rnd_ret2 (k_blk_ret (k_seq_ret (k_fin ?_))))))))
 cases hF5
 exact ends_a [] [] Tryz.results41
 refine s_mv ?_
 refine s_gt ?_
 refine s_mv ?_
 refine w_guard _ 18 hF5 ?_ ?_ <;> intro hc8 hF6
 refine s_mv ?_
 refine s_mv ?_
 refine s_sub rfl ?_
 obtain ⟨v9, hv9, hF7⟩ := bind_some' hF6
 refine s_ixT rI hv9 rfl yE23 ?_
 refine s_ld1 yA3 ?_
 refine s_mv ?_
 refine s_ge ?_
 refine s_pkt ?_
 refine s_pkf ?_
 refine k_nil (k_seq ?_)
 refine w_cond hF7 ?_ ?_ <;> intro hc10 hF8
 refine awp_seq (awp_region ?_)
 refine s_as ?_
 refine k_nil (k_seq (awp_ret (k_blk_ret (k_seq_ret (k_rnd_ret2 (k_blk_ret (k_seq_ret (k_fin ?_))))))))
 cases hF8
 exact ends_a [] [] Tryz.results41
 refine awp_skip (k_blk (k_seq (awp_region ?_)))
 refine s_add (winc2 hc3 hb4 hn_g1) ?_
 refine s_mv ?_
 refine k_nil ?_
 exact s_rn (fu, (g1 + 1)) ⟨by first | omega | (dsimp only; omega), hF8, by first | omega | (dsimp only; omega)⟩
 iterate 7 refine r_no rfl ?_
 refine s_pkf ?_
 refine s_pkf ?_
 refine k_nil (k_seq (awp_false rfl (awp_skip (k_blk (k_seq (awp_region ?_))))))
 refine s_add (winc2 hc3 hb4 hn_g1) ?_
 refine s_mv ?_
 refine k_nil ?_
 exact s_rn (fu, (g1 + 1)) ⟨by first | omega | (dsimp only; omega), hF6, by first | omega | (dsimp only; omega)⟩
 refine awp_exit (k_seq_exit (k_rnd_exit2 (k_blk_exit (k_seq (awp_seq (awp_region ?_))))))
 refine s_mv ?_
 refine s_lenT yU23 ?_
 refine s_le ?_
 refine s_as ?_
 refine k_nil (k_seq (awp_ret (k_fin ?_)))
 cases hF2
 exact ends_a [] [] Tryz.results41
def m_impl_formOk_AC (fuel : Nat) : Prop := ∀ (x1 : Form) (x2 : Int) (o1 : Int) (r : (Bool × Int)), m_impl_formOk fuel x1 x2 o1 = some r → AC Tryz.prog 18 [.ag [.t (.sc (.int .i64 x1.kind)), .t (.sc (.str x1.name)), .t (.sc (.int .i64 x1.n)), .t (.sl (x1.scopes.map rI)), .t (.sl (x1.kids.map Form.row))], .t (.sc (.int .i64 x2)), .rf 9000 0] (objs [(9000, .box [.t (.sc (.int .i64 o1))])]) (.t (.sc (.bool r.1))) (objs [(9000, .box [.t (.sc (.int .i64 r.2))])])
theorem m_impl_formOk_st (fu : Nat) (ih_m_impl_formOk : ∀ k, k ≤ fu → m_impl_formOk_AC k) : m_impl_formOk_AC (fu + 1) := by
 intro x1 x2 o1 r hF0
 rw [m_impl_formOk] at hF0
 refine AC_i [.t (.sc (.bool r.1))] Tryz.func18 rfl Tryz.ntmps18 ?_
 intro C hC
 refine awp_seq (awp_region ?_)
 refine s_box ?_
 refine s_as ?_
 refine k_nil (k_seq (awp_seq (awp_region ?_)))
 refine s_mv ?_
 refine s_nc ?_
 refine s_ld1 yA3 ?_
 refine s_sub rfl ?_
 refine s_nc ?_
 refine s_stW yS3 ?_
 refine k_nil (k_seq (awp_seq (awp_seq (awp_region ?_))))
 refine s_mv ?_
 refine s_nc ?_
 refine s_ld1 yA3 ?_
 refine s_lt ?_
 refine s_mv ?_
 refine w_guard _ 18 hF0 ?_ ?_ <;> intro hc1 hF1
 refine r_no rfl (r_no rfl ?_)
 refine s_pkt ?_
 refine k_nil (k_seq (awp_true rfl (awp_seq (awp_region ?_))))
 refine s_as ?_
 refine k_nil (k_seq (awp_ret (k_seq_ret (k_fin ?_))))
 cases hF1
 exact ends_a _ [] Tryz.results18
 refine s_mv ?_
 refine s_gt ?_
 refine s_pkf ?_
 refine k_nil (k_seq ?_)
 refine w_cond hF1 ?_ ?_ <;> intro hc2 hF2
 refine awp_seq (awp_region ?_)
 refine s_as ?_
 refine k_nil (k_seq (awp_ret (k_seq_ret (k_fin ?_))))
 cases hF2
 exact ends_a _ [] Tryz.results18
 refine awp_skip (k_seq (awp_seq (awp_seq (awp_region ?_))))
 refine s_fa yF26_0 ?_
 refine s_ld1 yA3 ?_
 refine k_nil (k_seq (awp_block (awp_seq (awp_region ?_))))
 refine s_eq ?_
 refine s_as ?_
 refine k_nil (k_seq ?_)
 refine w_cond hF2 ?_ ?_ <;> intro hc3 hF3
 refine awp_seq (awp_region ?_)
 refine s_fa yF26_1 ?_
 refine s_ld1 yA9 ?_
 obtain ⟨v4, hv4, hF4⟩ := bind_some' hF3
 refine s_pure [] (m_impl_NameValid_ok fu _ _ hv4) ?_
 refine s_mv ?_
 refine w_guard _ 29 hF4 ?_ ?_ <;> intro hc5 hF5
 refine s_fa yF26_2 ?_
 refine s_ld1 yA3 ?_
 refine s_eq ?_
 refine s_pkt ?_
 refine s_mv ?_
 refine w_guard _ 34 hF5 ?_ ?_ <;> intro hc6 hF6
 refine s_fa yF26_3 ?_
 refine s_ld1 yA23 ?_
 obtain ⟨v7, hv7, hF7⟩ := bind_some' hF6
 refine s_pure [] (m_impl_scopesOk_ok fu _ _ hv7) ?_
 refine s_pkt ?_
 refine s_mv ?_
 refine w_guard _ 39 hF7 ?_ ?_ <;> intro hc8 hF8
 refine s_fa yF26_4 ?_
 refine s_ld1 yA24 ?_
 refine s_lenT yU24 ?_
 refine s_eq ?_
 refine s_pkt ?_
 refine s_as ?_
 refine k_nil (k_seq (awp_ret (k_blk_ret (k_seq_ret (k_fin ?_)))))
 cases hF8
 exact ends_a _ [] Tryz.results18
 iterate 4 refine r_no rfl ?_
 refine s_pkf ?_
 refine s_as ?_
 refine k_nil (k_seq (awp_ret (k_blk_ret (k_seq_ret (k_fin ?_)))))
 cases hF8
 exact ends_a _ [] Tryz.results18
 iterate 3 refine r_no rfl ?_
 refine s_pkf ?_
 refine s_mv ?_
 iterate 4 refine r_no rfl ?_
 refine s_pkf ?_
 refine s_as ?_
 refine k_nil (k_seq (awp_ret (k_blk_ret (k_seq_ret (k_fin ?_)))))
 cases hF6
 exact ends_a _ [] Tryz.results18
 iterate 3 refine r_no rfl ?_
 refine s_pkf ?_
 refine s_mv ?_
 iterate 3 refine r_no rfl ?_
 refine s_pkf ?_
 refine s_mv ?_
 iterate 4 refine r_no rfl ?_
 refine s_pkf ?_
 refine s_as ?_
 refine k_nil (k_seq (awp_ret (k_blk_ret (k_seq_ret (k_fin ?_)))))
 cases hF5
 exact ends_a _ [] Tryz.results18
 refine awp_seq (awp_region ?_)
 refine s_eq ?_
 refine s_as ?_
 refine k_nil (k_seq ?_)
 refine w_cond hF3 ?_ ?_ <;> intro hc9 hF4
 refine awp_seq (awp_region ?_)
 refine s_fa yF26_1 ?_
 refine s_ld1 yA9 ?_
 refine s_eqS ?_
 refine s_mv ?_
 refine w_guard _ 50 hF4 ?_ ?_ <;> intro hc10 hF5
 refine s_fa yF26_2 ?_
 refine s_ld1 yA3 ?_
 obtain ⟨v11, hv11, hF6⟩ := bind_some' hF5
 refine s_pure [] (m_impl_within_ok fu _ _ _ _ hv11) ?_
 refine s_pkt ?_
 refine s_mv ?_
 refine w_guard _ 55 hF6 ?_ ?_ <;> intro hc12 hF7
 refine s_fa yF26_3 ?_
 refine s_ld1 yA23 ?_
 refine s_lenT yU23 ?_
 refine s_eq ?_
 refine s_pkt ?_
 refine s_mv ?_
 refine w_guard _ 61 hF7 ?_ ?_ <;> intro hc13 hF8
 refine s_fa yF26_4 ?_
 refine s_ld1 yA24 ?_
 refine s_lenT yU24 ?_
 refine s_eq ?_
 refine s_pkt ?_
 refine s_as ?_
 refine k_nil (k_seq (awp_ret (k_blk_ret (k_seq_ret (k_fin ?_)))))
 cases hF8
 exact ends_a _ [] Tryz.results18
 iterate 4 refine r_no rfl ?_
 refine s_pkf ?_
 refine s_as ?_
 refine k_nil (k_seq (awp_ret (k_blk_ret (k_seq_ret (k_fin ?_)))))
 cases hF8
 exact ends_a _ [] Tryz.results18
 iterate 4 refine r_no rfl ?_
 refine s_pkf ?_
 refine s_mv ?_
 iterate 4 refine r_no rfl ?_
 refine s_pkf ?_
 refine s_as ?_
 refine k_nil (k_seq (awp_ret (k_blk_ret (k_seq_ret (k_fin ?_)))))
 cases hF7
 exact ends_a _ [] Tryz.results18
 iterate 3 refine r_no rfl ?_
 refine s_pkf ?_
 refine s_mv ?_
 iterate 4 refine r_no rfl ?_
 refine s_pkf ?_
 refine s_mv ?_
 iterate 4 refine r_no rfl ?_
 refine s_pkf ?_
 refine s_as ?_
 refine k_nil (k_seq (awp_ret (k_blk_ret (k_seq_ret (k_fin ?_)))))
 cases hF5
 exact ends_a _ [] Tryz.results18
 refine awp_seq (awp_region ?_)
 refine s_eq ?_
 refine s_as ?_
 refine k_nil (k_seq ?_)
 refine w_cond hF4 ?_ ?_ <;> intro hc14 hF5
 refine awp_seq (awp_seq (awp_region ?_))
 refine s_fa yF26_1 ?_
 refine s_ld1 yA9 ?_
 refine s_neS ?_
 refine s_mv ?_
 refine w_guard _ 72 hF5 ?_ ?_ <;> intro hc15 hF6
 iterate 3 refine r_no rfl ?_
 refine s_pkt ?_
 refine s_mv ?_
 iterate 4 refine r_no rfl ?_
 refine s_pkt ?_
 refine k_nil (k_seq (awp_true rfl (awp_seq (awp_region ?_))))
 refine s_as ?_
 refine k_nil (k_seq (awp_ret (k_seq_ret (k_blk_ret (k_seq_ret (k_fin ?_))))))
 cases hF6
 exact ends_a _ [] Tryz.results18
 refine s_fa yF26_2 ?_
 refine s_ld1 yA3 ?_
 refine s_ne ?_
 refine s_pkf ?_
 refine s_mv ?_
 refine w_guard _ 77 hF6 ?_ ?_ <;> intro hc16 hF7
 iterate 4 refine r_no rfl ?_
 refine s_pkt ?_
 refine k_nil (k_seq (awp_true rfl (awp_seq (awp_region ?_))))
 refine s_as ?_
 refine k_nil (k_seq (awp_ret (k_seq_ret (k_blk_ret (k_seq_ret (k_fin ?_))))))
 cases hF7
 exact ends_a _ [] Tryz.results18
 refine s_fa yF26_3 ?_
 refine s_ld1 yA23 ?_
 refine s_lenT yU23 ?_
 refine s_gt ?_
 refine s_pkf ?_
 refine k_nil (k_seq ?_)
 refine w_cond hF7 ?_ ?_ <;> intro hc17 hF8
 refine awp_lenT 79 (fun hb18 => ?_)
 refine awp_seq (awp_region ?_)
 refine s_as ?_
 refine k_nil (k_seq (awp_ret (k_seq_ret (k_blk_ret (k_seq_ret (k_fin ?_))))))
 cases hF8
 exact ends_a _ [] Tryz.results18
 refine awp_skip (k_seq (awp_seq (awp_seq (awp_region ?_))))
 refine s_fa yF26_4 ?_
 refine s_ld1 yA24 ?_
 refine s_lenT yU24 ?_
 refine s_mv ?_
 refine k_nil (k_seq (awp_block ?_))
 refine awp_fr (β := Int × Int) [6, 8, 86, 87, 88, 89, 90, 91, 92, 93, 94, 95, 96] [9000] [8] (fun a => [(86, .t (.sc (.int .i64 a.2.1)))]) (fun a => [(9000, .box [.t (.sc (.int .i64 a.2.2))])]) (fun a => a.1 ≤ fu ∧ m_impl_formOk_l1 a.1 x1 x2 a.2.1 a.2.2 = some r ∧ 0 ≤ a.2.1) (fu, 0, (w64 (o1 - 1))) ⟨Nat.le_refl _, hF8, by simp⟩ ?_
 clear hF8
 rintro ⟨fu, g19, g20⟩ ⟨hl21, hF9, hn_g19⟩
 dsimp only at hl21 hF9 hn_g19 ⊢
 obtain _ | fu := fu
 · rw [m_impl_formOk_l1] at hF9; cases hF9
 rw [m_impl_formOk_l1] at hF9
 refine awp_seq (awp_region ?_)
 refine s_lt ?_
 refine k_nil (k_seq (awp_seq ?_))
 refine w_cond hF9 ?_ ?_ <;> intro hc22 hF10
 refine awp_lenT 84 (fun hb23 => ?_)
 refine awp_skip (k_seq (awp_seq (awp_block (awp_seq (awp_region ?_)))))
 obtain ⟨v24, hv24, hF11⟩ := bind_some' hF10
 refine s_ixT Form.row hv24 (Form.row_eq _) yE24 ?_
 refine s_ldN yA26 yS26 ?_
 refine s_alloc yZ26 ?_
 refine s_stW yS26 ?_
 refine k_nil (k_seq (awp_seq (awp_region ?_)))
 refine s_ldW yA26 yS26 ?_
 refine s_mv ?_
 refine s_add rfl ?_
 refine s_mv ?_
 obtain ⟨v25, hv25, hF12⟩ := bind_some' hF11
 refine s_call [(9000, 9000)] [] _ _ (ih_m_impl_formOk fu (by omega) _ _ _ _ hv25) ?_
 refine s_not ?_
 refine k_nil (k_seq ?_)
 refine w_cond hF12 ?_ ?_ <;> intro hc26 hF13
 refine awp_seq (awp_region ?_)
 refine s_as ?_
 refine k_nil (k_seq (awp_ret (k_blk_ret (k_seq_ret (k_rnd_ret2 (k_blk_ret (k_seq_ret (k_blk_ret (k_seq_ret (k_fin ?_))))))))))
 cases hF13
 exact ends_a _ [] Tryz.results18
 refine awp_skip (k_blk (k_seq (awp_region ?_)))
 refine s_add (winc2 hc22 hb23 hn_g19) ?_
 refine s_mv ?_
 refine k_nil ?_
 exact s_rn (fu, (g19 + 1), v25.2) ⟨by first | omega | (dsimp only; omega), hF13, by first | omega | (dsimp only; omega)⟩
 refine awp_exit (k_seq_exit (k_rnd_exit2 (k_blk_exit (k_seq (awp_seq (awp_region ?_))))))
 refine s_as ?_
 refine k_nil (k_seq (awp_ret (k_blk_ret (k_seq_ret (k_fin ?_)))))
 cases hF10
 exact ends_a _ [] Tryz.results18
 refine awp_skip (k_blk (k_seq (awp_seq (awp_region ?_))))
 refine s_as ?_
 refine k_nil (k_seq (awp_ret (k_fin ?_)))
 cases hF5
 exact ends_a _ [] Tryz.results18
theorem m_impl_formOk_all (fuel : Nat) : m_impl_formOk_AC fuel := by
 induction fuel using Nat.strongRecOn with
 | _ N ih =>
   cases N with
   | zero => exact (by intro x1 x2 o1 r h; rw [m_impl_formOk] at h; cases h)
   | succ fu => exact m_impl_formOk_st fu (fun k hk => (ih k (by omega)))
theorem m_impl_formOk_ok (fuel : Nat) : m_impl_formOk_AC fuel := (m_impl_formOk_all fuel)
def m_impl_FormValid_AC (fuel : Nat) : Prop := ∀ (x1 : Form) (r : Bool), m_impl_FormValid fuel x1 = some r → AC Tryz.prog 8 [.ag [.t (.sc (.int .i64 x1.kind)), .t (.sc (.str x1.name)), .t (.sc (.int .i64 x1.n)), .t (.sl (x1.scopes.map rI)), .t (.sl (x1.kids.map Form.row))]] noOb (.t (.sc (.bool r))) noOb
theorem m_impl_FormValid_ok (fuel : Nat) : m_impl_FormValid_AC fuel := by
 intro x1 r hF0
 unfold m_impl_FormValid at hF0
 refine AC_i [.t (.sc (.bool r))] Tryz.func8 rfl Tryz.ntmps8 ?_
 intro C hC
 refine awp_seq (awp_region ?_)
 refine s_box ?_
 refine s_as ?_
 refine k_nil (k_seq (awp_seq (awp_region ?_)))
 refine s_alloc yZ3 ?_
 refine s_stW yS3 ?_
 refine k_nil (k_seq (awp_seq (awp_region ?_)))
 refine s_ldW yA26 yS26 ?_
 obtain ⟨v1, hv1, hF1⟩ := bind_some' hF0
 refine s_call [(9000, 3)] [] _ _ (m_impl_formOk_ok fuel _ _ _ _ hv1) ?_
 refine s_as ?_
 refine k_nil (k_seq (awp_ret (k_fin ?_)))
 cases hF1
 exact ends_a [] [] Tryz.results8
def m_strings_Join_AC (fuel : Nat) : Prop := ∀ (x1 : (List ByteArray)) (x2 : ByteArray) (r : ByteArray), m_strings_Join fuel x1 x2 = some r → AC Tryz.prog 33 [.t (.sl (x1.map rS)), .t (.sc (.str x2))] noOb (.t (.sc (.str r))) noOb
theorem m_strings_Join_ok (fuel : Nat) : m_strings_Join_AC fuel := by
 intro x1 x2 r h
 obtain ⟨h0, h⟩ := chk_some h
 obtain ⟨h1, h⟩ := chk_some h
 obtain rfl := Option.some.inj h
 exact ac_join x1 x2 ⟨_, Tryz.func33, by kernel_rfl, by kernel_rfl⟩ (by simpa using h0) (by simpa using h1) (fun a c w => Tryz.strings_Join_none a c x2 w) (fun bk o c w hc hb hcap => Tryz.strings_Join bk o c x1 x2 w hc hb (by simpa using h0) hcap (by simpa using h1))
def m_strconv_Itoa_AC (fuel : Nat) : Prop := ∀ (x1 : Int) (r : ByteArray), m_strconv_Itoa fuel x1 = some r → AC Tryz.prog 32 [.t (.sc (.int .i64 x1))] noOb (.t (.sc (.str r))) noOb
theorem m_strconv_Itoa_ok (fuel : Nat) : m_strconv_Itoa_AC fuel := by
 intro x1 r h
 obtain ⟨h0, h⟩ := chk_some h
 obtain ⟨h1, h⟩ := chk_some h
 obtain rfl := Option.some.inj h
 exact ac_itoa x1 ⟨_, Tryz.func32, by kernel_rfl, by kernel_rfl⟩ (by kernel_rfl) (fun w ht => Tryz.strconv_Itoa x1 (by simpa using h0) (by simpa using h1) w ht)
def m_impl_formText_AC (fuel : Nat) : Prop := ∀ (x1 : Form) (r : ByteArray), m_impl_formText fuel x1 = some r → AC Tryz.prog 15 [.ag [.t (.sc (.int .i64 x1.kind)), .t (.sc (.str x1.name)), .t (.sc (.int .i64 x1.n)), .t (.sl (x1.scopes.map rI)), .t (.sl (x1.kids.map Form.row))]] noOb (.t (.sc (.str r))) noOb
theorem m_impl_formText_st (fu : Nat) (ih_m_impl_formText : ∀ k, k ≤ fu → m_impl_formText_AC k) : m_impl_formText_AC (fu + 1) := by
 intro x1 r hF0
 rw [m_impl_formText] at hF0
 refine AC_i [.t (.sc (.str r))] Tryz.func15 rfl Tryz.ntmps15 ?_
 intro C hC
 refine awp_seq (awp_region ?_)
 refine s_box ?_
 refine s_as ?_
 refine k_nil (k_seq (awp_seq (awp_seq (awp_region ?_))))
 refine s_fa yF26_0 ?_
 refine s_ld1 yA3 ?_
 refine k_nil (k_seq (awp_block (awp_seq (awp_region ?_))))
 refine s_eq ?_
 refine s_as ?_
 refine k_nil (k_seq ?_)
 refine w_cond hF0 ?_ ?_ <;> intro hc1 hF1
 refine awp_seq (awp_seq (awp_region ?_))
 refine s_fa yF26_3 ?_
 refine s_ld1 yA23 ?_
 refine s_lenT yU23 ?_
 refine s_eq ?_
 refine k_nil (k_seq ?_)
 refine w_cond hF1 ?_ ?_ <;> intro hc2 hF2
 refine awp_seq (awp_region ?_)
 refine s_fa yF26_1 ?_
 refine s_ld1 yA9 ?_
 refine s_as ?_
 refine k_nil (k_seq (awp_ret (k_seq_ret (k_blk_ret (k_seq_ret (k_fin ?_))))))
 cases hF2
 exact ends_a [] [] Tryz.results15
 refine awp_skip (k_seq (awp_seq (awp_region ?_)))
 refine s_bs rS ([] : List ByteArray) yP52 yR9 ?_
 refine s_as ?_
 refine k_nil (k_seq ?_)
 refine awp_jn (α := Nat × (List ByteArray)) [3, 5, 20, 21, 22, 23, 24, 25, 26, 27, 28, 29, 30, 31, 32] [19, 5040] [] (fun a => [(3, .ar 5040)]) (fun a => [(19, .dead), (5040, .arr (a.2.map rS) 9 true)]) (fun a => a.1 ≤ fu ∧ m_impl_formText_j1 a.1 x1 a.2 = some r) ?_ ?_
 refine awp_seq (awp_region ?_)
 refine s_fa yF26_3 ?_
 refine s_ld1 yA23 ?_
 refine s_lenT yU23 ?_
 refine s_mv ?_
 refine k_nil (k_seq (awp_block ?_))
 refine awp_mv 3 19 5040 (by conv => lhs; whnf) (by conv => lhs; whnf) rfl ?_
 refine awp_frame2 [3, 5, 23, 24, 25, 26, 27, 28, 29, 30, 31, 32] [5040] [30, 31] [5040] (fun a : Nat × (List ByteArray) × Int => a.1) (fun a : Nat × (List ByteArray) × Int => [(3, .ar 5040), (23, .t (.sc (.int .i64 a.2.2)))]) (fun a : Nat × (List ByteArray) × Int => [(5040, .arr (a.2.1.map rS) 9 true)]) (fun a : Nat × (List ByteArray) × Int => a.1 ≤ fu ∧ m_impl_formText_l2 a.1 x1 a.2.1 a.2.2 = some r ∧ 0 ≤ a.2.2) (fu, ([] : List ByteArray), 0) ⟨Nat.le_refl _, hF2, by simp⟩ (by rfl) (by rfl) (fun _ => rfl) (hasF_cons (by conv => lhs; whnf) (by rfl) (hasF_cons (by conv => lhs; whnf) (by rfl) hasF_nil)) (hasO_cons (by conv => lhs; whnf) (by rfl) hasO_nil) (fresh_C hC rfl) (by repeat (first | exact freshS_args rfl | refine freshS_upd rfl ?_ | refine freshS_frame rfl ?_)) (by repeat (first | exact freshM_no | exact objs_fresh rfl | refine freshM_upd rfl ?_ | refine freshM_frame rfl ?_)) ?_
 clear hF2
 rintro ⟨fu, g3, g4⟩ ⟨hl5, hF3, hn_g4⟩
 dsimp only at hl5 hF3 hn_g4 ⊢
 obtain _ | fu := fu
 · rw [m_impl_formText_l2] at hF3; cases hF3
 rw [m_impl_formText_l2] at hF3
 refine awp_seq (awp_region ?_)
 refine s_lt ?_
 refine k_nil (k_seq (awp_seq ?_))
 refine w_cond hF3 ?_ ?_ <;> intro hc6 hF4
 refine awp_lenT 14 (fun hb7 => ?_)
 refine awp_skip (k_seq (awp_seq (awp_block (awp_seq (awp_region ?_)))))
 obtain ⟨v8, hv8, hF5⟩ := bind_some' hF4
 refine s_ixT rI hv8 rfl yE23 ?_
 refine s_ld1 yA3 ?_
 refine s_as ?_
 refine k_nil (k_seq (awp_region ?_))
 refine s_mv ?_
 refine s_mv ?_
 obtain ⟨v9, hv9, hF6⟩ := bind_some' hF5
 refine s_pure [] (m_strconv_Itoa_ok fu _ _ hv9) ?_
 refine s_bs rS [v9] yP52 yR9 ?_
 obtain ⟨hk10, hF7⟩ := chk_some hF6
 refine s_apT rS (fun _ => rfl) hk10 yP52 ?_
 refine s_as ?_
 refine k_nil (k_blk (k_seq (awp_region ?_)))
 refine s_add (winc2 hc6 hb7 hn_g4) ?_
 refine s_mv ?_
 refine k_nil ?_
 exact s_rn (fu, (g3 ++ [v9]), (g4 + 1)) ⟨by first | omega | (dsimp only; omega), hF7, by first | omega | (dsimp only; omega)⟩ [(5040, 31)]
 refine awp_exit (k_seq_exit (k_rnd_exit2 (k_blk_exit ?_)))
 exact s_jn (fu, g3) ⟨by first | omega | (dsimp only; omega), hF4⟩
 clear hF2
 rintro ⟨fu, g11⟩ ⟨hl12, hF3⟩
 dsimp only at hl12 hF3 ⊢
 obtain _ | fu := fu
 · rw [m_impl_formText_j1] at hF3; cases hF3
 rw [m_impl_formText_j1] at hF3
 refine awp_seq ?_
 refine awp_draw yMix (by kernel_rfl) ?_
 refine s_fa yF26_1 ?_
 refine s_ld1 yA9 ?_
 obtain ⟨v13, hv13, hF4⟩ := bind_some' hF3
 refine s_cat hv13 ?_
 refine s_mv0 ?_
 obtain ⟨v14, hv14, hF5⟩ := bind_some' hF4
 refine s_pure [5040] (m_strings_Join_ok fu _ _ _ hv14) ?_
 obtain ⟨v15, hv15, hF6⟩ := bind_some' hF5
 refine s_cat hv15 ?_
 obtain ⟨v16, hv16, hF7⟩ := bind_some' hF6
 refine s_cat hv16 ?_
 refine s_as ?_
 refine k_nilD (by kernel_rfl) ?_
 refine k_seq (awp_ret (k_blk_ret (k_seq_ret (k_fin ?_))))
 cases hF7
 exact ends_a [] [] Tryz.results15
 refine awp_seq (awp_region ?_)
 refine s_eq ?_
 refine s_as ?_
 refine k_nil (k_seq ?_)
 refine w_cond hF1 ?_ ?_ <;> intro hc17 hF2
 refine awp_seq (awp_region ?_)
 refine s_fa yF26_2 ?_
 refine s_ld1 yA3 ?_
 obtain ⟨v18, hv18, hF3⟩ := bind_some' hF2
 refine s_pure [] (m_strconv_Itoa_ok fu _ _ hv18) ?_
 refine s_as ?_
 refine k_nil (k_seq (awp_ret (k_blk_ret (k_seq_ret (k_fin ?_)))))
 cases hF3
 exact ends_a [] [] Tryz.results15
 refine awp_skip (k_blk (k_seq (awp_seq (awp_region ?_))))
 refine s_bs rS ([] : List ByteArray) yP52 yR9 ?_
 refine s_as ?_
 refine k_nil (k_seq (awp_seq (awp_seq (awp_region ?_))))
 refine s_fa yF26_4 ?_
 refine s_ld1 yA24 ?_
 refine s_lenT yU24 ?_
 refine s_mv ?_
 refine k_nil (k_seq (awp_block ?_))
 refine awp_mv 6 45 5060 (by conv => lhs; whnf) (by conv => lhs; whnf) rfl ?_
 refine awp_frame2 [6, 8, 49, 50, 51, 52, 53, 54, 55, 56, 57, 58] [5060] [8, 56, 57] [5060] (fun a : Nat × (List ByteArray) × Int => a.1) (fun a : Nat × (List ByteArray) × Int => [(6, .ar 5060), (49, .t (.sc (.int .i64 a.2.2)))]) (fun a : Nat × (List ByteArray) × Int => [(5060, .arr (a.2.1.map rS) 9 true)]) (fun a : Nat × (List ByteArray) × Int => a.1 ≤ fu ∧ m_impl_formText_l3 a.1 x1 a.2.1 a.2.2 = some r ∧ 0 ≤ a.2.2) (fu, ([] : List ByteArray), 0) ⟨Nat.le_refl _, hF2, by simp⟩ (by rfl) (by rfl) (fun _ => rfl) (hasF_cons (by conv => lhs; whnf) (by rfl) (hasF_cons (by conv => lhs; whnf) (by rfl) hasF_nil)) (hasO_cons (by conv => lhs; whnf) (by rfl) hasO_nil) (fresh_C hC rfl) (by repeat (first | exact freshS_args rfl | refine freshS_upd rfl ?_ | refine freshS_frame rfl ?_)) (by repeat (first | exact freshM_no | exact objs_fresh rfl | refine freshM_upd rfl ?_ | refine freshM_frame rfl ?_)) ?_
 clear hF2
 rintro ⟨fu, g19, g20⟩ ⟨hl21, hF3, hn_g20⟩
 dsimp only at hl21 hF3 hn_g20 ⊢
 obtain _ | fu := fu
 · rw [m_impl_formText_l3] at hF3; cases hF3
 rw [m_impl_formText_l3] at hF3
 refine awp_seq (awp_region ?_)
 refine s_lt ?_
 refine k_nil (k_seq (awp_seq ?_))
 refine w_cond hF3 ?_ ?_ <;> intro hc22 hF4
 refine awp_lenT 47 (fun hb23 => ?_)
 refine awp_skip (k_seq (awp_seq (awp_block (awp_seq (awp_region ?_)))))
 obtain ⟨v24, hv24, hF5⟩ := bind_some' hF4
 refine s_ixT Form.row hv24 (Form.row_eq _) yE24 ?_
 refine s_ldN yA26 yS26 ?_
 refine s_alloc yZ26 ?_
 refine s_stW yS26 ?_
 refine k_nil (k_seq (awp_region ?_))
 refine s_mv ?_
 refine s_ldW yA26 yS26 ?_
 obtain ⟨v25, hv25, hF6⟩ := bind_some' hF5
 refine s_pure [] (ih_m_impl_formText fu (by omega) _ _ hv25) ?_
 refine s_bs rS [v25] yP52 yR9 ?_
 obtain ⟨hk26, hF7⟩ := chk_some hF6
 refine s_apT rS (fun _ => rfl) hk26 yP52 ?_
 refine s_as ?_
 refine k_nil (k_blk (k_seq (awp_region ?_)))
 refine s_add (winc2 hc22 hb23 hn_g20) ?_
 refine s_mv ?_
 refine k_nil ?_
 exact s_rn (fu, (g19 ++ [v25]), (g20 + 1)) ⟨by first | omega | (dsimp only; omega), hF7, by first | omega | (dsimp only; omega)⟩ [(5060, 57)]
 refine awp_exit (k_seq_exit (k_rnd_exit2 (k_blk_exit (k_seq (awp_seq (awp_region ?_))))))
 refine s_mv ?_
 obtain ⟨v27, hv27, hF5⟩ := bind_some' hF4
 refine s_pure [5060] (m_strings_Join_ok fu _ _ _ hv27) ?_
 obtain ⟨v28, hv28, hF6⟩ := bind_some' hF5
 refine s_cat hv28 ?_
 obtain ⟨v29, hv29, hF7⟩ := bind_some' hF6
 refine s_cat hv29 ?_
 refine s_as ?_
 refine k_nil (k_seq (awp_ret (k_fin ?_)))
 cases hF7
 exact ends_a [] [] Tryz.results15
theorem m_impl_formText_all (fuel : Nat) : m_impl_formText_AC fuel := by
 induction fuel using Nat.strongRecOn with
 | _ N ih =>
   cases N with
   | zero => exact (by intro x1 r h; rw [m_impl_formText] at h; cases h)
   | succ fu => exact m_impl_formText_st fu (fun k hk => (ih k (by omega)))
theorem m_impl_formText_ok (fuel : Nat) : m_impl_formText_AC fuel := (m_impl_formText_all fuel)
def m_impl_FormatForm_AC (fuel : Nat) : Prop := ∀ (x1 : Form) (r : ByteArray), m_impl_FormatForm fuel x1 = some r → AC Tryz.prog 6 [.ag [.t (.sc (.int .i64 x1.kind)), .t (.sc (.str x1.name)), .t (.sc (.int .i64 x1.n)), .t (.sl (x1.scopes.map rI)), .t (.sl (x1.kids.map Form.row))]] noOb (.t (.sc (.str r))) noOb
theorem m_impl_FormatForm_ok (fuel : Nat) : m_impl_FormatForm_AC fuel := by
 intro x1 r hF0
 unfold m_impl_FormatForm at hF0
 refine AC_i [.t (.sc (.str r))] Tryz.func6 rfl Tryz.ntmps6 ?_
 intro C hC
 refine awp_seq (awp_region ?_)
 refine s_box ?_
 refine s_as ?_
 refine k_nil (k_seq (awp_seq (awp_seq (awp_region ?_))))
 refine s_ldW yA26 yS26 ?_
 obtain ⟨v1, hv1, hF1⟩ := bind_some' hF0
 refine s_pure [] (m_impl_FormValid_ok fuel _ _ hv1) ?_
 refine s_not ?_
 refine k_nil (k_seq ?_)
 refine w_cond hF1 ?_ ?_ <;> intro hc2 hF2
 refine awp_seq (awp_region ?_)
 refine s_as ?_
 refine k_nil (k_seq (awp_ret (k_seq_ret (k_fin ?_))))
 cases hF2
 exact ends_a [] [] Tryz.results6
 refine awp_skip (k_seq (awp_seq (awp_region ?_)))
 refine s_ldW yA26 yS26 ?_
 obtain ⟨v3, hv3, hF3⟩ := bind_some' hF2
 refine s_pure [] (m_impl_formText_ok fuel _ _ hv3) ?_
 refine s_as ?_
 refine k_nil (k_seq (awp_ret (k_fin ?_)))
 cases hF3
 exact ends_a [] [] Tryz.results6
def m_spec_l1Letter_AC (fuel : Nat) : Prop := ∀ (x1 : Int) (x2 : Bool) (r : Bool), m_spec_l1Letter fuel x1 x2 = some r → AC Tryz.prog 65 [.t (.sc (.int .u8 x1)), .t (.sc (.bool x2))] noOb (.t (.sc (.bool r))) noOb
theorem m_spec_l1Letter_ok (fuel : Nat) : m_spec_l1Letter_AC fuel := by
 intro x1 x2 r hF0
 unfold m_spec_l1Letter at hF0
 refine AC_i [.t (.sc (.bool r))] Tryz.func65 rfl Tryz.ntmps65 ?_
 intro C hC
 refine awp_seq (awp_region ?_)
 refine s_as ?_
 refine k_nil (k_seq (awp_seq (awp_seq (awp_region ?_))))
 refine s_mv ?_
 refine s_ge ?_
 refine s_mv ?_
 refine w_guard _ 7 hF0 ?_ ?_ <;> intro hc1 hF1
 refine s_mv ?_
 refine s_le ?_
 refine s_pkt ?_
 refine s_mv ?_
 refine w_guard _ 11 hF1 ?_ ?_ <;> intro hc2 hF2
 refine r_no rfl (r_no rfl ?_)
 refine s_pkt ?_
 refine s_mv ?_
 refine r_no rfl (r_no rfl ?_)
 refine s_pkt ?_
 refine s_mv ?_
 refine r_no rfl (r_no rfl ?_)
 refine s_pkt ?_
 refine s_mv ?_
 refine r_no rfl (r_no rfl ?_)
 refine s_pkt ?_
 refine s_mv ?_
 refine r_no rfl (r_no rfl ?_)
 refine s_pkt ?_
 refine k_nil (k_seq (awp_true rfl (awp_seq (awp_region ?_))))
 refine s_as ?_
 refine k_nil (k_seq (awp_ret (k_seq_ret (k_fin ?_))))
 cases hF2
 exact ends_a [] [] Tryz.results65
 refine s_mv ?_
 refine s_eq ?_
 refine s_pkf ?_
 refine s_mv ?_
 refine w_guard _ 15 hF2 ?_ ?_ <;> intro hc3 hF3
 refine r_no rfl (r_no rfl ?_)
 refine s_pkt ?_
 refine s_mv ?_
 refine r_no rfl (r_no rfl ?_)
 refine s_pkt ?_
 refine s_mv ?_
 refine r_no rfl (r_no rfl ?_)
 refine s_pkt ?_
 refine s_mv ?_
 refine r_no rfl (r_no rfl ?_)
 refine s_pkt ?_
 refine k_nil (k_seq (awp_true rfl (awp_seq (awp_region ?_))))
 refine s_as ?_
 refine k_nil (k_seq (awp_ret (k_seq_ret (k_fin ?_))))
 cases hF3
 exact ends_a [] [] Tryz.results65
 refine s_mv ?_
 refine s_eq ?_
 refine s_pkf ?_
 refine s_mv ?_
 refine w_guard _ 19 hF3 ?_ ?_ <;> intro hc4 hF4
 refine r_no rfl (r_no rfl ?_)
 refine s_pkt ?_
 refine s_mv ?_
 refine r_no rfl (r_no rfl ?_)
 refine s_pkt ?_
 refine s_mv ?_
 refine r_no rfl (r_no rfl ?_)
 refine s_pkt ?_
 refine k_nil (k_seq (awp_true rfl (awp_seq (awp_region ?_))))
 refine s_as ?_
 refine k_nil (k_seq (awp_ret (k_seq_ret (k_fin ?_))))
 cases hF4
 exact ends_a [] [] Tryz.results65
 refine s_mv ?_
 refine s_eq ?_
 refine s_pkf ?_
 refine s_mv ?_
 refine w_guard _ 23 hF4 ?_ ?_ <;> intro hc5 hF5
 refine r_no rfl (r_no rfl ?_)
 refine s_pkt ?_
 refine s_mv ?_
 refine r_no rfl (r_no rfl ?_)
 refine s_pkt ?_
 refine k_nil (k_seq (awp_true rfl (awp_seq (awp_region ?_))))
 refine s_as ?_
 refine k_nil (k_seq (awp_ret (k_seq_ret (k_fin ?_))))
 cases hF5
 exact ends_a [] [] Tryz.results65
 refine s_mv ?_
 refine s_eq ?_
 refine s_pkf ?_
 refine s_mv ?_
 refine w_guard _ 27 hF5 ?_ ?_ <;> intro hc6 hF6
 refine r_no rfl (r_no rfl ?_)
 refine s_pkt ?_
 refine k_nil (k_seq (awp_true rfl (awp_seq (awp_region ?_))))
 refine s_as ?_
 refine k_nil (k_seq (awp_ret (k_seq_ret (k_fin ?_))))
 cases hF6
 exact ends_a [] [] Tryz.results65
 refine s_mv ?_
 refine s_eq ?_
 refine s_pkf ?_
 refine k_nil (k_seq ?_)
 refine w_cond hF6 ?_ ?_ <;> intro hc7 hF7
 refine awp_seq (awp_region ?_)
 refine s_as ?_
 refine k_nil (k_seq (awp_ret (k_seq_ret (k_fin ?_))))
 cases hF7
 exact ends_a [] [] Tryz.results65
 refine awp_skip (k_seq (awp_seq (awp_region ?_)))
 refine s_mv ?_
 refine s_not ?_
 refine s_mv ?_
 refine w_guard _ 33 hF7 ?_ ?_ <;> intro hc8 hF8
 refine s_mv ?_
 refine s_ge ?_
 refine s_mv ?_
 refine w_guard _ 36 hF8 ?_ ?_ <;> intro hc9 hF9
 refine s_mv ?_
 refine s_le ?_
 refine s_pkt ?_
 refine s_mv ?_
 refine w_guard _ 40 hF9 ?_ ?_ <;> intro hc10 hF10
 refine r_no rfl (r_no rfl ?_)
 refine s_pkt ?_
 refine s_pkt ?_
 refine s_as ?_
 refine k_nil (k_seq (awp_ret (k_fin ?_)))
 cases hF10
 exact ends_a [] [] Tryz.results65
 refine s_mv ?_
 refine s_eq ?_
 refine s_pkf ?_
 refine s_pkt ?_
 refine s_as ?_
 refine k_nil (k_seq (awp_ret (k_fin ?_)))
 cases hF10
 exact ends_a [] [] Tryz.results65
 refine r_no rfl (r_no rfl ?_)
 refine s_pkf ?_
 refine s_mv ?_
 refine s_mv ?_
 refine s_eq ?_
 refine s_pkf ?_
 refine s_pkt ?_
 refine s_as ?_
 refine k_nil (k_seq (awp_ret (k_fin ?_)))
 cases hF9
 exact ends_a [] [] Tryz.results65
 iterate 10 refine r_no rfl ?_
 refine s_pkf ?_
 refine s_as ?_
 refine k_nil (k_seq (awp_ret (k_fin ?_)))
 cases hF8
 exact ends_a [] [] Tryz.results65
 refine r_no rfl (r_no rfl ?_)
 refine s_pkf ?_
 refine s_mv ?_
 refine s_mv ?_
 refine s_eq ?_
 refine s_pkf ?_
 refine s_mv ?_
 refine w_guard _ 15 hF1 ?_ ?_ <;> intro hc11 hF2
 refine r_no rfl (r_no rfl ?_)
 refine s_pkt ?_
 refine s_mv ?_
 refine r_no rfl (r_no rfl ?_)
 refine s_pkt ?_
 refine s_mv ?_
 refine r_no rfl (r_no rfl ?_)
 refine s_pkt ?_
 refine s_mv ?_
 refine r_no rfl (r_no rfl ?_)
 refine s_pkt ?_
 refine k_nil (k_seq (awp_true rfl (awp_seq (awp_region ?_))))
 refine s_as ?_
 refine k_nil (k_seq (awp_ret (k_seq_ret (k_fin ?_))))
 cases hF2
 exact ends_a [] [] Tryz.results65
 refine s_mv ?_
 refine s_eq ?_
 refine s_pkf ?_
 refine s_mv ?_
 refine w_guard _ 19 hF2 ?_ ?_ <;> intro hc12 hF3
 refine r_no rfl (r_no rfl ?_)
 refine s_pkt ?_
 refine s_mv ?_
 refine r_no rfl (r_no rfl ?_)
 refine s_pkt ?_
 refine s_mv ?_
 refine r_no rfl (r_no rfl ?_)
 refine s_pkt ?_
 refine k_nil (k_seq (awp_true rfl (awp_seq (awp_region ?_))))
 refine s_as ?_
 refine k_nil (k_seq (awp_ret (k_seq_ret (k_fin ?_))))
 cases hF3
 exact ends_a [] [] Tryz.results65
 refine s_mv ?_
 refine s_eq ?_
 refine s_pkf ?_
 refine s_mv ?_
 refine w_guard _ 23 hF3 ?_ ?_ <;> intro hc13 hF4
 refine r_no rfl (r_no rfl ?_)
 refine s_pkt ?_
 refine s_mv ?_
 refine r_no rfl (r_no rfl ?_)
 refine s_pkt ?_
 refine k_nil (k_seq (awp_true rfl (awp_seq (awp_region ?_))))
 refine s_as ?_
 refine k_nil (k_seq (awp_ret (k_seq_ret (k_fin ?_))))
 cases hF4
 exact ends_a [] [] Tryz.results65
 refine s_mv ?_
 refine s_eq ?_
 refine s_pkf ?_
 refine s_mv ?_
 refine w_guard _ 27 hF4 ?_ ?_ <;> intro hc14 hF5
 refine r_no rfl (r_no rfl ?_)
 refine s_pkt ?_
 refine k_nil (k_seq (awp_true rfl (awp_seq (awp_region ?_))))
 refine s_as ?_
 refine k_nil (k_seq (awp_ret (k_seq_ret (k_fin ?_))))
 cases hF5
 exact ends_a [] [] Tryz.results65
 refine s_mv ?_
 refine s_eq ?_
 refine s_pkf ?_
 refine k_nil (k_seq ?_)
 refine w_cond hF5 ?_ ?_ <;> intro hc15 hF6
 refine awp_seq (awp_region ?_)
 refine s_as ?_
 refine k_nil (k_seq (awp_ret (k_seq_ret (k_fin ?_))))
 cases hF6
 exact ends_a [] [] Tryz.results65
 refine awp_skip (k_seq (awp_seq (awp_region ?_)))
 refine s_mv ?_
 refine s_not ?_
 refine s_mv ?_
 refine w_guard _ 33 hF6 ?_ ?_ <;> intro hc16 hF7
 refine s_mv ?_
 refine s_ge ?_
 refine s_mv ?_
 refine w_guard _ 36 hF7 ?_ ?_ <;> intro hc17 hF8
 refine s_mv ?_
 refine s_le ?_
 refine s_pkt ?_
 refine s_mv ?_
 refine w_guard _ 40 hF8 ?_ ?_ <;> intro hc18 hF9
 refine r_no rfl (r_no rfl ?_)
 refine s_pkt ?_
 refine s_pkt ?_
 refine s_as ?_
 refine k_nil (k_seq (awp_ret (k_fin ?_)))
 cases hF9
 exact ends_a [] [] Tryz.results65
 refine s_mv ?_
 refine s_eq ?_
 refine s_pkf ?_
 refine s_pkt ?_
 refine s_as ?_
 refine k_nil (k_seq (awp_ret (k_fin ?_)))
 cases hF9
 exact ends_a [] [] Tryz.results65
 refine r_no rfl (r_no rfl ?_)
 refine s_pkf ?_
 refine s_mv ?_
 refine s_mv ?_
 refine s_eq ?_
 refine s_pkf ?_
 refine s_pkt ?_
 refine s_as ?_
 refine k_nil (k_seq (awp_ret (k_fin ?_)))
 cases hF8
 exact ends_a [] [] Tryz.results65
 iterate 10 refine r_no rfl ?_
 refine s_pkf ?_
 refine s_as ?_
 refine k_nil (k_seq (awp_ret (k_fin ?_)))
 cases hF7
 exact ends_a [] [] Tryz.results65
end Go.Abs
