/- A part of the proof: what the functions that the law calls answer, as pure values. -/
import Derived.Test.YtbkdbbfgdjcfgaaK00b9e8259e4a
import Derived.Test.YtbkdbbfgdjcfgaaK2759ad94f49e
import Derived.Test.YtbkdbbfgdjcfgaaK55104e13721b
import Derived.Test.YtbkdbbfgdjcfgaaK560d067bf798
import Derived.Test.YtbkdbbfgdjcfgaaKe8177d545ea5
set_option linter.unusedSimpArgs false
set_option linter.unusedVariables false
set_option maxRecDepth 100000
set_option maxHeartbeats 4000000
namespace Go.Abs
open Go.Proofs
theorem m_laws_eqHitS_st (fu : Nat) (ih_m_laws_eqHit : ∀ k, k ≤ fu → m_laws_eqHit_AC k) (ih_m_laws_eqHitS : ∀ k, k ≤ fu → m_laws_eqHitS_AC k) : m_laws_eqHitS_AC (fu + 1) := by
 intro x1 x2 r hF0
 rw [m_laws_eqHitS] at hF0
 refine AC_i [.t (.sc (.bool r))] Try.func50 rfl Try.ntmps50 ?_
 intro C hC
 refine awp_seq (awp_region ?_)
 refine s_as ?_
 refine k_nil (k_seq (awp_seq (awp_seq (awp_region ?_))))
 refine s_mv ?_
 refine s_lenT yU63 ?_
 refine s_mv ?_
 refine s_lenT yU63 ?_
 refine s_ne ?_
 refine k_nil (k_seq ?_)
 refine w_cond hF0 ?_ ?_ <;> intro hc1 hF1
 refine awp_seq (awp_region ?_)
 refine s_as ?_
 refine k_nil (k_seq (awp_ret (k_seq_ret (k_fin ?_))))
 cases hF1
 exact ends_a [] [] Try.results50
 refine awp_skip (k_seq (awp_seq (awp_seq (awp_region ?_))))
 refine s_as ?_
 refine k_nil (k_seq (awp_block ?_))
 refine awp_fr (β := Int) [4, 5, 11, 12, 13, 14, 15, 16, 17, 18, 19, 20, 21, 22, 23, 24, 25, 26] [] [] (fun a => [(5, .t (.sc (.int .i64 a.2)))]) (fun a => []) (fun a => a.1 ≤ fu ∧ m_laws_eqHitS_l1 a.1 x1 x2 a.2 = some r ∧ 0 ≤ a.2) (fu, 0) ⟨Nat.le_refl _, hF1, by simp⟩ ?_
 clear hF1
 rintro ⟨fu, g2⟩ ⟨hl3, hF2, hn_g2⟩
 dsimp only at hl3 hF2 hn_g2 ⊢
 obtain _ | fu := fu
 · rw [m_laws_eqHitS_l1] at hF2; cases hF2
 rw [m_laws_eqHitS_l1] at hF2
 refine awp_seq (awp_seq (awp_region ?_))
 refine s_mv ?_
 refine s_mv ?_
 refine s_lenT yU63 ?_
 refine s_lt ?_
 refine k_nil (k_seq ?_)
 refine w_cond hF2 ?_ ?_ <;> intro hc4 hF3
 refine awp_lenT 0 (fun hb5 => ?_)
 refine awp_skip (k_seq (awp_seq (awp_block (awp_seq ?_))))
 refine awp_draw yMix (by kernel_rfl) ?_
 refine s_mv ?_
 refine s_mv ?_
 obtain ⟨v6, hv6, hF4⟩ := bind_some' hF3
 refine s_ixT Hit.row hv6 (Hit.row_eq _) yE63 ?_
 refine s_ldN yA65 yS65 ?_
 refine s_mv ?_
 refine s_mv ?_
 obtain ⟨v7, hv7, hF5⟩ := bind_some' hF4
 refine s_ixT Hit.row hv7 (Hit.row_eq _) yE63 ?_
 refine s_ldN yA65 yS65 ?_
 obtain ⟨v8, hv8, hF6⟩ := bind_some' hF5
 refine s_pure [] (ih_m_laws_eqHit fu (by omega) _ _ _ hv8) ?_
 refine s_not ?_
 refine k_nilD (by kernel_rfl) ?_
 refine k_seq ?_
 refine w_cond hF6 ?_ ?_ <;> intro hc9 hF7
 refine awp_seq (awp_region ?_)
 refine s_as ?_
 refine k_nil (k_seq (awp_ret (k_blk_ret (k_seq_ret (k_rnd_ret2 (k_blk_ret (k_seq_ret (k_fin ?_))))))))
 cases hF7
 exact ends_a [] [] Try.results50
 refine awp_skip (k_blk (k_seq (awp_region ?_)))
 refine s_mv ?_
 refine s_add (winc2 hc4 hb5 hn_g2) ?_
 refine s_as ?_
 refine k_nil ?_
 exact s_rn (fu, (g2 + 1)) ⟨by first | omega | (dsimp only; omega), hF7, by first | omega | (dsimp only; omega)⟩
 refine awp_exit (k_seq_exit (k_rnd_exit2 (k_blk_exit (k_seq (awp_seq (awp_region ?_))))))
 refine s_as ?_
 refine k_nil (k_seq (awp_ret (k_fin ?_)))
 cases hF3
 exact ends_a [] [] Try.results50
theorem m_laws_eqHit_all (fuel : Nat) : m_laws_eqHit_AC fuel ∧ m_laws_eqHitS_AC fuel := by
 induction fuel using Nat.strongRecOn with
 | _ N ih =>
   cases N with
   | zero => exact ⟨(by intro x1 x2 r h; rw [m_laws_eqHit] at h; cases h), (by intro x1 x2 r h; rw [m_laws_eqHitS] at h; cases h)⟩
   | succ fu => exact ⟨m_laws_eqHit_st fu (fun k hk => (ih k (by omega)).1) (fun k hk => (ih k (by omega)).2), m_laws_eqHitS_st fu (fun k hk => (ih k (by omega)).1) (fun k hk => (ih k (by omega)).2)⟩
theorem m_laws_eqHitS_ok (fuel : Nat) : m_laws_eqHitS_AC fuel := (m_laws_eqHit_all fuel).2
def m_laws_markIntS_D_AC (fuel : Nat) : Prop := ∀ (x1 : (List Int)) (x2 : Int) (r : (Int × (List Int))), m_laws_markIntS fuel x1 x2 = some r → AC Try.prog 31 [.ar 9300, .t (.sc (.int .i64 x2))] (objs [(9300, .arr (x1.map rI) 3 true)]) (.t (.sc (.int .i64 r.1))) (objs [(9300, .arr (r.2.map rI) 3 true)])
theorem m_laws_markIntS_D_ok (fuel : Nat) : m_laws_markIntS_D_AC fuel := by
 intro x1 x2 r hF0
 unfold m_laws_markIntS at hF0
 refine AC_i [.t (.sc (.int .i64 r.1))] Try.func31 rfl Try.ntmps31 ?_
 intro C hC
 refine awp_seq (awp_region ?_)
 refine s_as ?_
 refine k_nil (k_seq (awp_seq (awp_seq (awp_region ?_))))
 refine s_as ?_
 refine k_nil (k_seq (awp_block ?_))
 refine awp_fr (β := Int × Int × (List Int)) [1, 5, 6, 7, 8, 9, 10, 11, 12, 13, 14, 15, 16, 17] [9300] [] (fun a => [(1, .t (.sc (.int .i64 a.2.1))), (5, .t (.sc (.int .i64 a.2.2.1)))]) (fun a => [(9300, .arr (a.2.2.2.map rI) 3 true)]) (fun a => a.1 ≤ fuel ∧ m_laws_markIntS_l1 a.1  a.2.1 a.2.2.1 a.2.2.2 = some r ∧ 0 ≤ a.2.2.1) (fuel, x2, 0, x1) ⟨Nat.le_refl _, hF0, by simp⟩ ?_
 clear hF0
 rintro ⟨fu, g1, g2, g3⟩ ⟨hl4, hF1, hn_g2⟩
 dsimp only at hl4 hF1 hn_g2 ⊢
 obtain _ | fu := fu
 · rw [m_laws_markIntS_l1] at hF1; cases hF1
 rw [m_laws_markIntS_l1] at hF1
 refine awp_seq (awp_seq (awp_region ?_))
 refine s_mv ?_
 refine s_mv ?_
 refine s_lenA yU22 ?_
 refine s_lt ?_
 refine k_nil (k_seq ?_)
 refine w_cond hF1 ?_ ?_ <;> intro hc5 hF2
 refine awp_lenA 0 9300 (fun hb6 => ?_)
 refine awp_skip (k_seq (awp_seq (awp_block (awp_seq (awp_region ?_)))))
 iterate 3 refine s_mv ?_
 obtain ⟨v7, hv7, hF3⟩ := bind_some' hF2
 refine s_ixA rI hv7 yE22 ?_
 refine s_stA rI g1 hv7 rfl rfl yS3 yS3 ?_
 refine k_nil (k_seq (awp_region ?_))
 refine s_mv ?_
 refine s_add rfl ?_
 refine s_as ?_
 refine k_nil (k_blk (k_seq (awp_region ?_)))
 refine s_mv ?_
 refine s_add (winc2 hc5 hb6 hn_g2) ?_
 refine s_as ?_
 refine k_nil ?_
 exact s_rn (fu, (w64 (g1 + 1)), (g2 + 1), (g3.set g2.toNat g1)) ⟨by first | omega | (dsimp only; omega), hF3, by first | omega | (dsimp only; omega)⟩
 refine awp_exit (k_seq_exit (k_rnd_exit2 (k_blk_exit (k_seq (awp_seq (awp_region ?_))))))
 refine s_mv ?_
 refine s_as ?_
 refine k_nil (k_seq (awp_ret (k_fin ?_)))
 cases hF2
 exact ends_a _ [] Try.results31
def m_laws_markText_D_AC (fuel : Nat) : Prop := ∀ (x1 : Int) (r : ByteArray), m_laws_markText fuel x1 = some r → AC Try.prog 70 [.t (.sc (.int .i64 x1))] noOb (.t (.sc (.str r))) noOb
theorem m_laws_markText_D_ok (fuel : Nat) : m_laws_markText_D_AC fuel := by
 intro x1 r hF0
 unfold m_laws_markText at hF0
 refine AC_i [.t (.sc (.str r))] Try.func70 rfl Try.ntmps70 ?_
 intro C hC
 refine awp_seq (awp_region ?_)
 refine s_as ?_
 refine k_nil (k_seq (awp_seq (awp_seq (awp_region ?_))))
 refine s_mv ?_
 refine s_le ?_
 refine k_nil (k_seq ?_)
 refine w_cond hF0 ?_ ?_ <;> intro hc1 hF1
 refine awp_seq (awp_region ?_)
 refine s_as ?_
 refine k_nil (k_seq (awp_ret (k_seq_ret (k_fin ?_))))
 cases hF1
 exact ends_a [] [] Try.results70
 refine awp_skip (k_seq (awp_seq (awp_region ?_)))
 refine s_as ?_
 refine k_nil (k_seq (awp_seq (awp_block ?_)))
 refine awp_fr (β := Int × ByteArray) [0, 3, 6, 7, 8, 9, 10, 11, 12, 13, 14, 15, 16, 17] [] [12] (fun a => [(0, .t (.sc (.int .i64 a.2.1))), (3, .t (.sc (.str a.2.2)))]) (fun a => []) (fun a => a.1 ≤ fuel ∧ m_laws_markText_l1 a.1  a.2.1 a.2.2 = some r) (fuel, x1, (⟨#[]⟩ : ByteArray)) ⟨Nat.le_refl _, hF1⟩ ?_
 clear hF1
 rintro ⟨fu, g2, g3⟩ ⟨hl4, hF2⟩
 dsimp only at hl4 hF2 ⊢
 obtain _ | fu := fu
 · rw [m_laws_markText_l1] at hF2; cases hF2
 rw [m_laws_markText_l1] at hF2
 refine awp_seq (awp_seq (awp_region ?_))
 refine s_mv ?_
 refine s_gt ?_
 refine k_nil (k_seq ?_)
 refine w_cond hF2 ?_ ?_ <;> intro hc5 hF3
 refine awp_skip (k_seq (awp_block (awp_seq (awp_region ?_))))
 refine s_mv ?_
 refine s_rem ?_
 refine s_add rfl ?_
 refine s_int yU3 yU5 rfl ?_
 refine s_bs rB [(w8 (w64 (48 + (g2.tmod 10))))] yP132 yR5 ?_
 refine s_bst (l := [(w8 (w64 (48 + (g2.tmod 10))))]) yU132 yU9 yE132 yU5 ?_
 refine s_mv ?_
 obtain ⟨v6, hv6, hF4⟩ := bind_some' hF3
 refine s_cat hv6 ?_
 refine s_as ?_
 refine k_nil (k_seq (awp_region ?_))
 refine s_mv ?_
 refine s_quo rfl ?_
 refine s_as ?_
 refine k_nil (k_blk ?_)
 exact s_rn (fu, (w64 (g2.tdiv 10)), v6) ⟨by first | omega | (dsimp only; omega), hF4⟩
 refine awp_exit (k_seq_exit (k_rnd_exit2 (k_blk_exit (k_seq (awp_seq (awp_region ?_))))))
 refine s_mv ?_
 obtain ⟨v7, hv7, hF4⟩ := bind_some' hF3
 refine s_cat hv7 ?_
 refine s_as ?_
 refine k_nil (k_seq (awp_ret (k_fin ?_)))
 cases hF4
 exact ends_a [] [] Try.results70
def m_laws_markFormS_D_AC (fuel : Nat) : Prop := ∀ (x1 : (List Form)) (x2 : Int) (r : (Int × (List Form))), m_laws_markFormS fuel x1 x2 = some r → AC Try.prog 30 [.ar 9300, .t (.sc (.int .i64 x2))] (objs [(9300, .dar (x1.map (Form.rowD 3 34)) 34)]) (.t (.sc (.int .i64 r.1))) (objs [(9300, .dar (r.2.map (Form.rowD 3 34)) 34)])
theorem m_laws_markFormS_D_st (fu : Nat) (ih_m_laws_markFormS_D : ∀ k, k ≤ fu → m_laws_markFormS_D_AC k) : m_laws_markFormS_D_AC (fu + 1) := by
 intro x1 x2 r hF0
 rw [m_laws_markFormS] at hF0
 refine AC_i [.t (.sc (.int .i64 r.1))] Try.func30 rfl Try.ntmps30 ?_
 intro C hC
 refine awp_seq (awp_region ?_)
 refine s_as ?_
 refine k_nil (k_seq (awp_seq (awp_seq (awp_region ?_))))
 refine s_as ?_
 refine k_nil (k_seq (awp_block ?_))
 refine awp_fr (β := Int × Int × (List Form)) [1, 5, 6, 7, 8, 9, 10, 11, 12, 13, 14, 15, 16, 17, 18, 19, 20, 21, 22, 23, 24, 25, 26, 27, 28, 29, 30, 31, 32, 33, 34, 35, 36, 37, 38, 39, 40, 41, 42, 43, 44, 45, 46, 47] [9300] [38, 45] (fun a => [(1, .t (.sc (.int .i64 a.2.1))), (5, .t (.sc (.int .i64 a.2.2.1)))]) (fun a => [(9300, .dar (a.2.2.2.map (Form.rowD 3 34)) 34)]) (fun a => a.1 ≤ fu ∧ m_laws_markFormS_l1 a.1  a.2.1 a.2.2.1 a.2.2.2 = some r) (fu, x2, 0, x1) ⟨Nat.le_refl _, hF0⟩ ?_
 clear hF0
 rintro ⟨fu, g1, g2, g3⟩ ⟨hl4, hF1⟩
 dsimp only at hl4 hF1 ⊢
 obtain _ | fu := fu
 · rw [m_laws_markFormS_l1] at hF1; cases hF1
 rw [m_laws_markFormS_l1] at hF1
 refine awp_seq (awp_seq (awp_region ?_))
 refine s_mv ?_
 refine s_mv ?_
 refine s_lenD yU32 ?_
 refine s_lt ?_
 refine k_nil (k_seq ?_)
 refine w_cond hF1 ?_ ?_ <;> intro hc5 hF2
 refine awp_skip (k_seq (awp_seq (awp_block (awp_seq (awp_region ?_)))))
 iterate 3 refine s_mv ?_
 obtain ⟨v6, hv6, hF3⟩ := bind_some' hF2
 refine s_ixD (Form.rowD 3 34) hv6 yE32 ?_
 refine s_fa yF34_0 ?_
 refine s_stC (q := 9300) (off := 0) (u := .sc (.int .i64 g1)) (Form.rowD 3 34) (Form.mk g1 v6.name v6.n v6.scopes v6.kids) hv6 (by rw [(Form.rowDE _ _ _), (Form.rowDE _ _ _)]; rfl) yS3 yS34 (hw := by rw [(Form.rowDE _ _ _)]; rfl) ?_
 refine k_nil (k_seq (awp_seq (awp_region ?_)))
 refine s_mv ?_
 refine s_add rfl ?_
 refine s_as ?_
 refine k_nil (k_seq (awp_seq (awp_region ?_)))
 iterate 3 refine s_mv ?_
 obtain ⟨v7, hv7, hF4⟩ := bind_some' hF3
 refine s_pure [] (m_laws_markText_D_ok fu _ _ hv7) ?_
 obtain ⟨v8, hv8, hF5⟩ := bind_some' hF4
 refine s_ixD (Form.rowD 3 34) hv8 yE32 ?_
 refine s_fa yF34_1 ?_
 refine s_stC (q := 9300) (off := 1) (u := .sc (.str v7)) (Form.rowD 3 34) (Form.mk v8.kind v7 v8.n v8.scopes v8.kids) hv8 (by rw [(Form.rowDE _ _ _), (Form.rowDE _ _ _)]; rfl) yS9 yS34 (hw := by rw [(Form.rowDE _ _ _)]; rfl) ?_
 refine k_nil (k_seq (awp_seq (awp_region ?_)))
 refine s_mv ?_
 refine s_add rfl ?_
 refine s_as ?_
 refine k_nil (k_seq (awp_seq (awp_region ?_)))
 iterate 3 refine s_mv ?_
 obtain ⟨v9, hv9, hF6⟩ := bind_some' hF5
 refine s_ixD (Form.rowD 3 34) hv9 yE32 ?_
 refine s_fa yF34_2 ?_
 refine s_stC (q := 9300) (off := 2) (u := .sc (.int .i64 (w64 ((w64 (g1 + 1)) + 1)))) (Form.rowD 3 34) (Form.mk v9.kind v9.name (w64 ((w64 (g1 + 1)) + 1)) v9.scopes v9.kids) hv9 (by rw [(Form.rowDE _ _ _), (Form.rowDE _ _ _)]; rfl) yS3 yS34 (hw := by rw [(Form.rowDE _ _ _)]; rfl) ?_
 refine k_nil (k_seq (awp_seq (awp_region ?_)))
 refine s_mv ?_
 refine s_add rfl ?_
 refine s_as ?_
 refine k_nil (k_seq (awp_seq (awp_region ?_)))
 refine s_mv ?_
 refine s_mv ?_
 obtain ⟨v10, hv10, hF7⟩ := bind_some' hF6
 refine s_ixD (Form.rowD 3 34) hv10 yE32 ?_
 refine s_fa yF34_3 ?_
 refine s_ldHA (Form.rowD 3 34) rI v10.scopes plain_rI hv10 yA22 yS34 (hw := by rw [(Form.rowDE _ _ _)]; rfl) ?_
 refine s_mv ?_
 obtain ⟨v11, hv11, hF8⟩ := bind_some' hF7
 refine s_call [(9300, 38)] [] _ _ (m_laws_markIntS_D_ok fu _ _ _ hv11) ?_
 refine s_as ?_
 refine k_nil (k_seq ?_)
 refine awp_jsA 9300 38 [.sc (.int .i64 v10.kind), .sc (.str v10.name), .sc (.int .i64 v10.n), .ow 3 (v11.2.map rI), .ow 34 (v10.kids.map (Form.rowD 3 34))] hv10 (row := (Form.rowD 3 34)) (hj := by rw [(Form.rowDE _ _ _)]; rfl) (hf := by rw [(Form.rowDE _ _ _)]; rfl) ?_
 refine awp_nsH 9300 (row := (Form.rowD 3 34)) (fs := [.sc (.int .i64 v10.kind), .sc (.str v10.name), .sc (.int .i64 v10.n), .ow 3 (v11.2.map rI), .ow 34 (v10.kids.map (Form.rowD 3 34))]) (Form.mk v10.kind v10.name v10.n v11.2 v10.kids) (Form.rowDE _ _ _) ?_
 refine awp_region ?_
 refine s_mv ?_
 refine s_mv ?_
 obtain ⟨v12, hv12, hF9⟩ := bind_some' hF8
 refine s_ixD (Form.rowD 3 34) hv12 yE32 ?_
 refine s_fa yF34_4 ?_
 refine s_ldHD (Form.rowD 3 34) (Form.rowD 3 34) v12.kids hv12 yA32 yS34 (hw := by rw [(Form.rowDE _ _ _)]; rfl) ?_
 refine s_mv ?_
 obtain ⟨v13, hv13, hF10⟩ := bind_some' hF9
 refine s_call [(9300, 45)] [] _ _ (ih_m_laws_markFormS_D fu (by omega) _ _ _ hv13) ?_
 refine s_as ?_
 refine k_nil (k_blk (k_seq ?_))
 refine awp_jsD 9300 45 [.sc (.int .i64 v12.kind), .sc (.str v12.name), .sc (.int .i64 v12.n), .ow 3 (v12.scopes.map rI), .ow 34 (v13.2.map (Form.rowD 3 34))] hv12 (row := (Form.rowD 3 34)) (hj := by rw [(Form.rowDE _ _ _)]; rfl) (hf := by rw [(Form.rowDE _ _ _)]; rfl) ?_
 refine awp_nsH 9300 (row := (Form.rowD 3 34)) (fs := [.sc (.int .i64 v12.kind), .sc (.str v12.name), .sc (.int .i64 v12.n), .ow 3 (v12.scopes.map rI), .ow 34 (v13.2.map (Form.rowD 3 34))]) (Form.mk v12.kind v12.name v12.n v12.scopes v13.2) (Form.rowDE _ _ _) ?_
 refine awp_region ?_
 refine s_mv ?_
 refine s_add rfl ?_
 refine s_as ?_
 refine k_nil ?_
 exact s_rn (fu, v13.1, (w64 (g2 + 1)), (((((g3.set g2.toNat (Form.mk g1 v6.name v6.n v6.scopes v6.kids)).set g2.toNat (Form.mk v8.kind v7 v8.n v8.scopes v8.kids)).set g2.toNat (Form.mk v9.kind v9.name (w64 ((w64 (g1 + 1)) + 1)) v9.scopes v9.kids)).set g2.toNat (Form.mk v10.kind v10.name v10.n v11.2 v10.kids)).set g2.toNat (Form.mk v12.kind v12.name v12.n v12.scopes v13.2))) ⟨by first | omega | (dsimp only; omega), hF10⟩
 refine awp_exit (k_seq_exit (k_rnd_exit2 (k_blk_exit (k_seq (awp_seq (awp_region ?_))))))
 refine s_mv ?_
 refine s_as ?_
 refine k_nil (k_seq (awp_ret (k_fin ?_)))
 cases hF2
 exact ends_a _ [] Try.results30
theorem m_laws_markFormS_D_all (fuel : Nat) : m_laws_markFormS_D_AC fuel := by
 induction fuel using Nat.strongRecOn with
 | _ N ih =>
   cases N with
   | zero => exact (by intro x1 x2 r h; rw [m_laws_markFormS] at h; cases h)
   | succ fu => exact m_laws_markFormS_D_st fu (fun k hk => (ih k (by omega)))
theorem m_laws_markFormS_D_ok (fuel : Nat) : m_laws_markFormS_D_AC fuel := (m_laws_markFormS_D_all fuel)
def m_laws_markForm_D_AC (fuel : Nat) : Prop := ∀ (x1 : Form) (x2 : Int) (r : (Int × (List Int) × (List Form))), m_laws_markForm fuel x1 x2 = some r → AC Try.prog 45 [.ag [.t (.sc (.int .i64 x1.kind)), .t (.sc (.str x1.name)), .t (.sc (.int .i64 x1.n)), .ar 9303, .ar 9304], .t (.sc (.int .i64 x2))] (objs [(9303, .arr (x1.scopes.map rI) 3 true), (9304, .dar (x1.kids.map (Form.rowD 3 34)) 34)]) (.t (.sc (.int .i64 r.1))) (objs [(9303, .arr (r.2.1.map rI) 3 true), (9304, .dar (r.2.2.map (Form.rowD 3 34)) 34)])
theorem m_laws_markForm_D_ok (fuel : Nat) : m_laws_markForm_D_AC fuel := by
 intro x1 x2 r hF0
 unfold m_laws_markForm at hF0
 refine AC_i [.t (.sc (.int .i64 r.1))] Try.func45 rfl Try.ntmps45 ?_
 intro C hC
 refine awp_seq (awp_region ?_)
 refine s_box ?_
 refine s_as ?_
 refine k_nil (k_seq (awp_seq (awp_region ?_)))
 refine s_fa yF34_3 ?_
 refine s_ld1 yA22 ?_
 refine s_mv ?_
 obtain ⟨v1, hv1, hF1⟩ := bind_some' hF0
 refine s_call [(9300, 9303)] [] _ _ (m_laws_markIntS_D_ok fuel _ _ _ hv1) ?_
 refine s_as ?_
 refine k_nil (k_seq (awp_seq (awp_region ?_)))
 refine s_fa yF34_4 ?_
 refine s_ld1 yA32 ?_
 refine s_mv ?_
 obtain ⟨v2, hv2, hF2⟩ := bind_some' hF1
 refine s_call [(9300, 9304)] [] _ _ (m_laws_markFormS_D_ok fuel _ _ _ hv2) ?_
 refine s_as ?_
 refine k_nil (k_seq (awp_seq (awp_region ?_)))
 refine s_mv ?_
 refine s_as ?_
 refine k_nil (k_seq (awp_ret (k_fin ?_)))
 cases hF2
 exact ends_a _ [] Try.results45
def m_laws_markHitS_D_AC (fuel : Nat) : Prop := ∀ (x1 : (List Hit)) (x2 : Int) (r : (Int × (List Hit))), m_laws_markHitS fuel x1 x2 = some r → AC Try.prog 51 [.ar 9300, .t (.sc (.int .i64 x2))] (objs [(9300, .dar (x1.map (Hit.rowD 3 34 65)) 65)]) (.t (.sc (.int .i64 r.1))) (objs [(9300, .dar (r.2.map (Hit.rowD 3 34 65)) 65)])
theorem m_laws_markHitS_D_st (fu : Nat) (ih_m_laws_markHitS_D : ∀ k, k ≤ fu → m_laws_markHitS_D_AC k) : m_laws_markHitS_D_AC (fu + 1) := by
 intro x1 x2 r hF0
 rw [m_laws_markHitS] at hF0
 refine AC_i [.t (.sc (.int .i64 r.1))] Try.func51 rfl Try.ntmps51 ?_
 intro C hC
 refine awp_seq (awp_region ?_)
 refine s_as ?_
 refine k_nil (k_seq (awp_seq (awp_seq (awp_region ?_))))
 refine s_as ?_
 refine k_nil (k_seq (awp_block ?_))
 refine awp_fr (β := Int × Int × (List Hit)) [1, 5, 6, 7, 8, 9, 10, 11, 12, 13, 14, 15, 16, 17, 18, 19, 20, 21, 22, 23, 24, 25, 26, 27, 28, 29, 30, 31, 32, 33, 34, 35, 36, 37, 38, 39, 40, 41, 42, 43, 44, 45, 46, 47, 48, 49, 50, 51, 52, 53, 54, 55, 56, 57, 58, 59, 60, 61, 62, 63, 64, 65, 66, 67, 68, 69, 70, 71, 72, 73, 74, 75, 76, 77, 78, 79, 80, 81, 82, 83, 84, 85, 86, 87, 88, 89, 90, 91, 92, 93, 94, 95, 96, 97, 98, 99, 100, 101, 102, 103, 104, 105, 106, 107] [9300] [42, 50, 90, 98, 105] (fun a => [(1, .t (.sc (.int .i64 a.2.1))), (5, .t (.sc (.int .i64 a.2.2.1)))]) (fun a => [(9300, .dar (a.2.2.2.map (Hit.rowD 3 34 65)) 65)]) (fun a => a.1 ≤ fu ∧ m_laws_markHitS_l1 a.1  a.2.1 a.2.2.1 a.2.2.2 = some r) (fu, x2, 0, x1) ⟨Nat.le_refl _, hF0⟩ ?_
 clear hF0
 rintro ⟨fu, g1, g2, g3⟩ ⟨hl4, hF1⟩
 dsimp only at hl4 hF1 ⊢
 obtain _ | fu := fu
 · rw [m_laws_markHitS_l1] at hF1; cases hF1
 rw [m_laws_markHitS_l1] at hF1
 refine awp_seq (awp_seq (awp_region ?_))
 refine s_mv ?_
 refine s_mv ?_
 refine s_lenD yU63 ?_
 refine s_lt ?_
 refine k_nil (k_seq ?_)
 refine w_cond hF1 ?_ ?_ <;> intro hc5 hF2
 refine awp_skip (k_seq (awp_seq (awp_block (awp_seq (awp_region ?_)))))
 iterate 3 refine s_mv ?_
 obtain ⟨v6, hv6, hF3⟩ := bind_some' hF2
 refine s_ixD (Hit.rowD 3 34 65) hv6 yE63 ?_
 refine s_fa yF65_0 ?_
 refine s_fa yF34_0 ?_
 refine s_stC (q := 9300) (off := 0) (u := .sc (.int .i64 g1)) (Hit.rowD 3 34 65) (Hit.mk (Form.mk g1 v6.name.name v6.name.n v6.name.scopes v6.name.kids) v6.depth v6.one v6.many) hv6 (by rw [(Hit.rowDE _ _ _ _), (Hit.rowDE _ _ _ _)]; rfl) yS3 yS65 (hw := by rw [(Hit.rowDE _ _ _ _)]; rfl) ?_
 refine k_nil (k_seq (awp_seq (awp_region ?_)))
 refine s_mv ?_
 refine s_add rfl ?_
 refine s_as ?_
 refine k_nil (k_seq (awp_seq (awp_region ?_)))
 iterate 3 refine s_mv ?_
 obtain ⟨v7, hv7, hF4⟩ := bind_some' hF3
 refine s_pure [] (m_laws_markText_D_ok fu _ _ hv7) ?_
 obtain ⟨v8, hv8, hF5⟩ := bind_some' hF4
 refine s_ixD (Hit.rowD 3 34 65) hv8 yE63 ?_
 refine s_fa yF65_0 ?_
 refine s_fa yF34_1 ?_
 refine s_stC (q := 9300) (off := 1) (u := .sc (.str v7)) (Hit.rowD 3 34 65) (Hit.mk (Form.mk v8.name.kind v7 v8.name.n v8.name.scopes v8.name.kids) v8.depth v8.one v8.many) hv8 (by rw [(Hit.rowDE _ _ _ _), (Hit.rowDE _ _ _ _)]; rfl) yS9 yS65 (hw := by rw [(Hit.rowDE _ _ _ _)]; rfl) ?_
 refine k_nil (k_seq (awp_seq (awp_region ?_)))
 refine s_mv ?_
 refine s_add rfl ?_
 refine s_as ?_
 refine k_nil (k_seq (awp_seq (awp_region ?_)))
 iterate 3 refine s_mv ?_
 obtain ⟨v9, hv9, hF6⟩ := bind_some' hF5
 refine s_ixD (Hit.rowD 3 34 65) hv9 yE63 ?_
 refine s_fa yF65_0 ?_
 refine s_fa yF34_2 ?_
 refine s_stC (q := 9300) (off := 2) (u := .sc (.int .i64 (w64 ((w64 (g1 + 1)) + 1)))) (Hit.rowD 3 34 65) (Hit.mk (Form.mk v9.name.kind v9.name.name (w64 ((w64 (g1 + 1)) + 1)) v9.name.scopes v9.name.kids) v9.depth v9.one v9.many) hv9 (by rw [(Hit.rowDE _ _ _ _), (Hit.rowDE _ _ _ _)]; rfl) yS3 yS65 (hw := by rw [(Hit.rowDE _ _ _ _)]; rfl) ?_
 refine k_nil (k_seq (awp_seq (awp_region ?_)))
 refine s_mv ?_
 refine s_add rfl ?_
 refine s_as ?_
 refine k_nil (k_seq (awp_seq (awp_region ?_)))
 refine s_mv ?_
 refine s_mv ?_
 obtain ⟨v10, hv10, hF7⟩ := bind_some' hF6
 refine s_ixD (Hit.rowD 3 34 65) hv10 yE63 ?_
 refine s_fa yF65_0 ?_
 refine s_fa yF34_3 ?_
 refine s_ldHA (Hit.rowD 3 34 65) rI v10.name.scopes plain_rI hv10 yA22 yS65 (hw := by rw [(Hit.rowDE _ _ _ _)]; rfl) ?_
 refine s_mv ?_
 obtain ⟨v11, hv11, hF8⟩ := bind_some' hF7
 refine s_call [(9300, 42)] [] _ _ (m_laws_markIntS_D_ok fu _ _ _ hv11) ?_
 refine s_as ?_
 refine k_nil (k_seq ?_)
 refine awp_jsA 9300 42 [.sc (.int .i64 v10.name.kind), .sc (.str v10.name.name), .sc (.int .i64 v10.name.n), .ow 3 (v11.2.map rI), .ow 34 (v10.name.kids.map (Form.rowD 3 34)), .sc (.int .i64 v10.depth), .sc (.int .i64 v10.one.kind), .sc (.str v10.one.name), .sc (.int .i64 v10.one.n), .ow 3 (v10.one.scopes.map rI), .ow 34 (v10.one.kids.map (Form.rowD 3 34)), .ow 65 (v10.many.map (Hit.rowD 3 34 65))] hv10 (row := (Hit.rowD 3 34 65)) (hj := by rw [(Hit.rowDE _ _ _ _)]; rfl) (hf := by rw [(Hit.rowDE _ _ _ _)]; rfl) ?_
 refine awp_nsH 9300 (row := (Hit.rowD 3 34 65)) (fs := [.sc (.int .i64 v10.name.kind), .sc (.str v10.name.name), .sc (.int .i64 v10.name.n), .ow 3 (v11.2.map rI), .ow 34 (v10.name.kids.map (Form.rowD 3 34)), .sc (.int .i64 v10.depth), .sc (.int .i64 v10.one.kind), .sc (.str v10.one.name), .sc (.int .i64 v10.one.n), .ow 3 (v10.one.scopes.map rI), .ow 34 (v10.one.kids.map (Form.rowD 3 34)), .ow 65 (v10.many.map (Hit.rowD 3 34 65))]) (Hit.mk (Form.mk v10.name.kind v10.name.name v10.name.n v11.2 v10.name.kids) v10.depth v10.one v10.many) (Hit.rowDE _ _ _ _) ?_
 refine awp_seq (awp_region ?_)
 refine s_mv ?_
 refine s_mv ?_
 obtain ⟨v12, hv12, hF9⟩ := bind_some' hF8
 refine s_ixD (Hit.rowD 3 34 65) hv12 yE63 ?_
 refine s_fa yF65_0 ?_
 refine s_fa yF34_4 ?_
 refine s_ldHD (Hit.rowD 3 34 65) (Form.rowD 3 34) v12.name.kids hv12 yA32 yS65 (hw := by rw [(Hit.rowDE _ _ _ _)]; rfl) ?_
 refine s_mv ?_
 obtain ⟨v13, hv13, hF10⟩ := bind_some' hF9
 refine s_call [(9300, 50)] [] _ _ (m_laws_markFormS_D_ok fu _ _ _ hv13) ?_
 refine s_as ?_
 refine k_nil (k_seq ?_)
 refine awp_jsD 9300 50 [.sc (.int .i64 v12.name.kind), .sc (.str v12.name.name), .sc (.int .i64 v12.name.n), .ow 3 (v12.name.scopes.map rI), .ow 34 (v13.2.map (Form.rowD 3 34)), .sc (.int .i64 v12.depth), .sc (.int .i64 v12.one.kind), .sc (.str v12.one.name), .sc (.int .i64 v12.one.n), .ow 3 (v12.one.scopes.map rI), .ow 34 (v12.one.kids.map (Form.rowD 3 34)), .ow 65 (v12.many.map (Hit.rowD 3 34 65))] hv12 (row := (Hit.rowD 3 34 65)) (hj := by rw [(Hit.rowDE _ _ _ _)]; rfl) (hf := by rw [(Hit.rowDE _ _ _ _)]; rfl) ?_
 refine awp_nsH 9300 (row := (Hit.rowD 3 34 65)) (fs := [.sc (.int .i64 v12.name.kind), .sc (.str v12.name.name), .sc (.int .i64 v12.name.n), .ow 3 (v12.name.scopes.map rI), .ow 34 (v13.2.map (Form.rowD 3 34)), .sc (.int .i64 v12.depth), .sc (.int .i64 v12.one.kind), .sc (.str v12.one.name), .sc (.int .i64 v12.one.n), .ow 3 (v12.one.scopes.map rI), .ow 34 (v12.one.kids.map (Form.rowD 3 34)), .ow 65 (v12.many.map (Hit.rowD 3 34 65))]) (Hit.mk (Form.mk v12.name.kind v12.name.name v12.name.n v12.name.scopes v13.2) v12.depth v12.one v12.many) (Hit.rowDE _ _ _ _) ?_
 refine awp_seq (awp_region ?_)
 iterate 3 refine s_mv ?_
 obtain ⟨v14, hv14, hF11⟩ := bind_some' hF10
 refine s_ixD (Hit.rowD 3 34 65) hv14 yE63 ?_
 refine s_fa yF65_1 ?_
 refine s_stC (q := 9300) (off := 5) (u := .sc (.int .i64 v13.1)) (Hit.rowD 3 34 65) (Hit.mk v14.name v13.1 v14.one v14.many) hv14 (by rw [(Hit.rowDE _ _ _ _), (Hit.rowDE _ _ _ _)]; rfl) yS3 yS65 (hw := by rw [(Hit.rowDE _ _ _ _)]; rfl) ?_
 refine k_nil (k_seq (awp_seq (awp_region ?_)))
 refine s_mv ?_
 refine s_add rfl ?_
 refine s_as ?_
 refine k_nil (k_seq (awp_seq (awp_region ?_)))
 iterate 3 refine s_mv ?_
 obtain ⟨v15, hv15, hF12⟩ := bind_some' hF11
 refine s_ixD (Hit.rowD 3 34 65) hv15 yE63 ?_
 refine s_fa yF65_2 ?_
 refine s_fa yF34_0 ?_
 refine s_stC (q := 9300) (off := 6) (u := .sc (.int .i64 (w64 (v13.1 + 1)))) (Hit.rowD 3 34 65) (Hit.mk v15.name v15.depth (Form.mk (w64 (v13.1 + 1)) v15.one.name v15.one.n v15.one.scopes v15.one.kids) v15.many) hv15 (by rw [(Hit.rowDE _ _ _ _), (Hit.rowDE _ _ _ _)]; rfl) yS3 yS65 (hw := by rw [(Hit.rowDE _ _ _ _)]; rfl) ?_
 refine k_nil (k_seq (awp_seq (awp_region ?_)))
 refine s_mv ?_
 refine s_add rfl ?_
 refine s_as ?_
 refine k_nil (k_seq (awp_seq (awp_region ?_)))
 iterate 3 refine s_mv ?_
 obtain ⟨v16, hv16, hF13⟩ := bind_some' hF12
 refine s_pure [] (m_laws_markText_D_ok fu _ _ hv16) ?_
 obtain ⟨v17, hv17, hF14⟩ := bind_some' hF13
 refine s_ixD (Hit.rowD 3 34 65) hv17 yE63 ?_
 refine s_fa yF65_2 ?_
 refine s_fa yF34_1 ?_
 refine s_stC (q := 9300) (off := 7) (u := .sc (.str v16)) (Hit.rowD 3 34 65) (Hit.mk v17.name v17.depth (Form.mk v17.one.kind v16 v17.one.n v17.one.scopes v17.one.kids) v17.many) hv17 (by rw [(Hit.rowDE _ _ _ _), (Hit.rowDE _ _ _ _)]; rfl) yS9 yS65 (hw := by rw [(Hit.rowDE _ _ _ _)]; rfl) ?_
 refine k_nil (k_seq (awp_seq (awp_region ?_)))
 refine s_mv ?_
 refine s_add rfl ?_
 refine s_as ?_
 refine k_nil (k_seq (awp_seq (awp_region ?_)))
 iterate 3 refine s_mv ?_
 obtain ⟨v18, hv18, hF15⟩ := bind_some' hF14
 refine s_ixD (Hit.rowD 3 34 65) hv18 yE63 ?_
 refine s_fa yF65_2 ?_
 refine s_fa yF34_2 ?_
 refine s_stC (q := 9300) (off := 8) (u := .sc (.int .i64 (w64 ((w64 ((w64 (v13.1 + 1)) + 1)) + 1)))) (Hit.rowD 3 34 65) (Hit.mk v18.name v18.depth (Form.mk v18.one.kind v18.one.name (w64 ((w64 ((w64 (v13.1 + 1)) + 1)) + 1)) v18.one.scopes v18.one.kids) v18.many) hv18 (by rw [(Hit.rowDE _ _ _ _), (Hit.rowDE _ _ _ _)]; rfl) yS3 yS65 (hw := by rw [(Hit.rowDE _ _ _ _)]; rfl) ?_
 refine k_nil (k_seq (awp_seq (awp_region ?_)))
 refine s_mv ?_
 refine s_add rfl ?_
 refine s_as ?_
 refine k_nil (k_seq (awp_seq (awp_region ?_)))
 refine s_mv ?_
 refine s_mv ?_
 obtain ⟨v19, hv19, hF16⟩ := bind_some' hF15
 refine s_ixD (Hit.rowD 3 34 65) hv19 yE63 ?_
 refine s_fa yF65_2 ?_
 refine s_fa yF34_3 ?_
 refine s_ldHA (Hit.rowD 3 34 65) rI v19.one.scopes plain_rI hv19 yA22 yS65 (hw := by rw [(Hit.rowDE _ _ _ _)]; rfl) ?_
 refine s_mv ?_
 obtain ⟨v20, hv20, hF17⟩ := bind_some' hF16
 refine s_call [(9300, 90)] [] _ _ (m_laws_markIntS_D_ok fu _ _ _ hv20) ?_
 refine s_as ?_
 refine k_nil (k_seq ?_)
 refine awp_jsA 9300 90 [.sc (.int .i64 v19.name.kind), .sc (.str v19.name.name), .sc (.int .i64 v19.name.n), .ow 3 (v19.name.scopes.map rI), .ow 34 (v19.name.kids.map (Form.rowD 3 34)), .sc (.int .i64 v19.depth), .sc (.int .i64 v19.one.kind), .sc (.str v19.one.name), .sc (.int .i64 v19.one.n), .ow 3 (v20.2.map rI), .ow 34 (v19.one.kids.map (Form.rowD 3 34)), .ow 65 (v19.many.map (Hit.rowD 3 34 65))] hv19 (row := (Hit.rowD 3 34 65)) (hj := by rw [(Hit.rowDE _ _ _ _)]; rfl) (hf := by rw [(Hit.rowDE _ _ _ _)]; rfl) ?_
 refine awp_nsH 9300 (row := (Hit.rowD 3 34 65)) (fs := [.sc (.int .i64 v19.name.kind), .sc (.str v19.name.name), .sc (.int .i64 v19.name.n), .ow 3 (v19.name.scopes.map rI), .ow 34 (v19.name.kids.map (Form.rowD 3 34)), .sc (.int .i64 v19.depth), .sc (.int .i64 v19.one.kind), .sc (.str v19.one.name), .sc (.int .i64 v19.one.n), .ow 3 (v20.2.map rI), .ow 34 (v19.one.kids.map (Form.rowD 3 34)), .ow 65 (v19.many.map (Hit.rowD 3 34 65))]) (Hit.mk v19.name v19.depth (Form.mk v19.one.kind v19.one.name v19.one.n v20.2 v19.one.kids) v19.many) (Hit.rowDE _ _ _ _) ?_
 refine awp_seq (awp_region ?_)
 refine s_mv ?_
 refine s_mv ?_
 obtain ⟨v21, hv21, hF18⟩ := bind_some' hF17
 refine s_ixD (Hit.rowD 3 34 65) hv21 yE63 ?_
 refine s_fa yF65_2 ?_
 refine s_fa yF34_4 ?_
 refine s_ldHD (Hit.rowD 3 34 65) (Form.rowD 3 34) v21.one.kids hv21 yA32 yS65 (hw := by rw [(Hit.rowDE _ _ _ _)]; rfl) ?_
 refine s_mv ?_
 obtain ⟨v22, hv22, hF19⟩ := bind_some' hF18
 refine s_call [(9300, 98)] [] _ _ (m_laws_markFormS_D_ok fu _ _ _ hv22) ?_
 refine s_as ?_
 refine k_nil (k_seq ?_)
 refine awp_jsD 9300 98 [.sc (.int .i64 v21.name.kind), .sc (.str v21.name.name), .sc (.int .i64 v21.name.n), .ow 3 (v21.name.scopes.map rI), .ow 34 (v21.name.kids.map (Form.rowD 3 34)), .sc (.int .i64 v21.depth), .sc (.int .i64 v21.one.kind), .sc (.str v21.one.name), .sc (.int .i64 v21.one.n), .ow 3 (v21.one.scopes.map rI), .ow 34 (v22.2.map (Form.rowD 3 34)), .ow 65 (v21.many.map (Hit.rowD 3 34 65))] hv21 (row := (Hit.rowD 3 34 65)) (hj := by rw [(Hit.rowDE _ _ _ _)]; rfl) (hf := by rw [(Hit.rowDE _ _ _ _)]; rfl) ?_
 refine awp_nsH 9300 (row := (Hit.rowD 3 34 65)) (fs := [.sc (.int .i64 v21.name.kind), .sc (.str v21.name.name), .sc (.int .i64 v21.name.n), .ow 3 (v21.name.scopes.map rI), .ow 34 (v21.name.kids.map (Form.rowD 3 34)), .sc (.int .i64 v21.depth), .sc (.int .i64 v21.one.kind), .sc (.str v21.one.name), .sc (.int .i64 v21.one.n), .ow 3 (v21.one.scopes.map rI), .ow 34 (v22.2.map (Form.rowD 3 34)), .ow 65 (v21.many.map (Hit.rowD 3 34 65))]) (Hit.mk v21.name v21.depth (Form.mk v21.one.kind v21.one.name v21.one.n v21.one.scopes v22.2) v21.many) (Hit.rowDE _ _ _ _) ?_
 refine awp_region ?_
 refine s_mv ?_
 refine s_mv ?_
 obtain ⟨v23, hv23, hF20⟩ := bind_some' hF19
 refine s_ixD (Hit.rowD 3 34 65) hv23 yE63 ?_
 refine s_fa yF65_3 ?_
 refine s_ldHD (Hit.rowD 3 34 65) (Hit.rowD 3 34 65) v23.many hv23 yA63 yS65 (hw := by rw [(Hit.rowDE _ _ _ _)]; rfl) ?_
 refine s_mv ?_
 obtain ⟨v24, hv24, hF21⟩ := bind_some' hF20
 refine s_call [(9300, 105)] [] _ _ (ih_m_laws_markHitS_D fu (by omega) _ _ _ hv24) ?_
 refine s_as ?_
 refine k_nil (k_blk (k_seq ?_))
 refine awp_jsD 9300 105 [.sc (.int .i64 v23.name.kind), .sc (.str v23.name.name), .sc (.int .i64 v23.name.n), .ow 3 (v23.name.scopes.map rI), .ow 34 (v23.name.kids.map (Form.rowD 3 34)), .sc (.int .i64 v23.depth), .sc (.int .i64 v23.one.kind), .sc (.str v23.one.name), .sc (.int .i64 v23.one.n), .ow 3 (v23.one.scopes.map rI), .ow 34 (v23.one.kids.map (Form.rowD 3 34)), .ow 65 (v24.2.map (Hit.rowD 3 34 65))] hv23 (row := (Hit.rowD 3 34 65)) (hj := by rw [(Hit.rowDE _ _ _ _)]; rfl) (hf := by rw [(Hit.rowDE _ _ _ _)]; rfl) ?_
 refine awp_nsH 9300 (row := (Hit.rowD 3 34 65)) (fs := [.sc (.int .i64 v23.name.kind), .sc (.str v23.name.name), .sc (.int .i64 v23.name.n), .ow 3 (v23.name.scopes.map rI), .ow 34 (v23.name.kids.map (Form.rowD 3 34)), .sc (.int .i64 v23.depth), .sc (.int .i64 v23.one.kind), .sc (.str v23.one.name), .sc (.int .i64 v23.one.n), .ow 3 (v23.one.scopes.map rI), .ow 34 (v23.one.kids.map (Form.rowD 3 34)), .ow 65 (v24.2.map (Hit.rowD 3 34 65))]) (Hit.mk v23.name v23.depth v23.one v24.2) (Hit.rowDE _ _ _ _) ?_
 refine awp_region ?_
 refine s_mv ?_
 refine s_add rfl ?_
 refine s_as ?_
 refine k_nil ?_
 exact s_rn (fu, v24.1, (w64 (g2 + 1)), ((((((((((((g3.set g2.toNat (Hit.mk (Form.mk g1 v6.name.name v6.name.n v6.name.scopes v6.name.kids) v6.depth v6.one v6.many)).set g2.toNat (Hit.mk (Form.mk v8.name.kind v7 v8.name.n v8.name.scopes v8.name.kids) v8.depth v8.one v8.many)).set g2.toNat (Hit.mk (Form.mk v9.name.kind v9.name.name (w64 ((w64 (g1 + 1)) + 1)) v9.name.scopes v9.name.kids) v9.depth v9.one v9.many)).set g2.toNat (Hit.mk (Form.mk v10.name.kind v10.name.name v10.name.n v11.2 v10.name.kids) v10.depth v10.one v10.many)).set g2.toNat (Hit.mk (Form.mk v12.name.kind v12.name.name v12.name.n v12.name.scopes v13.2) v12.depth v12.one v12.many)).set g2.toNat (Hit.mk v14.name v13.1 v14.one v14.many)).set g2.toNat (Hit.mk v15.name v15.depth (Form.mk (w64 (v13.1 + 1)) v15.one.name v15.one.n v15.one.scopes v15.one.kids) v15.many)).set g2.toNat (Hit.mk v17.name v17.depth (Form.mk v17.one.kind v16 v17.one.n v17.one.scopes v17.one.kids) v17.many)).set g2.toNat (Hit.mk v18.name v18.depth (Form.mk v18.one.kind v18.one.name (w64 ((w64 ((w64 (v13.1 + 1)) + 1)) + 1)) v18.one.scopes v18.one.kids) v18.many)).set g2.toNat (Hit.mk v19.name v19.depth (Form.mk v19.one.kind v19.one.name v19.one.n v20.2 v19.one.kids) v19.many)).set g2.toNat (Hit.mk v21.name v21.depth (Form.mk v21.one.kind v21.one.name v21.one.n v21.one.scopes v22.2) v21.many)).set g2.toNat (Hit.mk v23.name v23.depth v23.one v24.2))) ⟨by first | omega | (dsimp only; omega), hF21⟩
 refine awp_exit (k_seq_exit (k_rnd_exit2 (k_blk_exit (k_seq (awp_seq (awp_region ?_))))))
 refine s_mv ?_
 refine s_as ?_
 refine k_nil (k_seq (awp_ret (k_fin ?_)))
 cases hF2
 exact ends_a _ [] Try.results51
theorem m_laws_markHitS_D_all (fuel : Nat) : m_laws_markHitS_D_AC fuel := by
 induction fuel using Nat.strongRecOn with
 | _ N ih =>
   cases N with
   | zero => exact (by intro x1 x2 r h; rw [m_laws_markHitS] at h; cases h)
   | succ fu => exact m_laws_markHitS_D_st fu (fun k hk => (ih k (by omega)))
theorem m_laws_markHitS_D_ok (fuel : Nat) : m_laws_markHitS_D_AC fuel := (m_laws_markHitS_D_all fuel)
def m_laws_heldIntS_AC (fuel : Nat) : Prop := ∀ (x1 : (List Int)) (x2 : Int) (r : Int), m_laws_heldIntS fuel x1 x2 = some r → AC Try.prog 32 [.t (.sl (x1.map rI)), .t (.sc (.int .i64 x2))] noOb (.t (.sc (.int .i64 r))) noOb
theorem m_laws_heldIntS_ok (fuel : Nat) : m_laws_heldIntS_AC fuel := by
 intro x1 x2 r hF0
 unfold m_laws_heldIntS at hF0
 refine AC_i [.t (.sc (.int .i64 r))] Try.func32 rfl Try.ntmps32 ?_
 intro C hC
 refine awp_seq (awp_region ?_)
 refine s_as ?_
 refine k_nil (k_seq (awp_seq (awp_seq (awp_region ?_))))
 refine s_as ?_
 refine k_nil (k_seq (awp_block ?_))
 refine awp_fr (β := Int × Int) [1, 4, 5, 6, 7, 8, 9, 10, 11, 12, 13, 14, 15, 16, 17, 18, 19] [] [] (fun a => [(1, .t (.sc (.int .i64 a.2.1))), (5, .t (.sc (.int .i64 a.2.2)))]) (fun a => []) (fun a => a.1 ≤ fuel ∧ m_laws_heldIntS_l1 a.1 x1 a.2.1 a.2.2 = some r ∧ 0 ≤ a.2.2) (fuel, x2, 0) ⟨Nat.le_refl _, hF0, by simp⟩ ?_
 clear hF0
 rintro ⟨fu, g1, g2⟩ ⟨hl3, hF1, hn_g2⟩
 dsimp only at hl3 hF1 hn_g2 ⊢
 obtain _ | fu := fu
 · rw [m_laws_heldIntS_l1] at hF1; cases hF1
 rw [m_laws_heldIntS_l1] at hF1
 refine awp_seq (awp_seq (awp_region ?_))
 refine s_mv ?_
 refine s_mv ?_
 refine s_lenT yU22 ?_
 refine s_lt ?_
 refine k_nil (k_seq ?_)
 refine w_cond hF1 ?_ ?_ <;> intro hc4 hF2
 refine awp_lenT 0 (fun hb5 => ?_)
 refine awp_skip (k_seq (awp_seq (awp_block (awp_seq (awp_seq (awp_region ?_))))))
 refine s_mv ?_
 refine s_mv ?_
 obtain ⟨v6, hv6, hF3⟩ := bind_some' hF2
 refine s_ixT rI hv6 rfl yE22 ?_
 refine s_ld1 yA3 ?_
 refine s_mv ?_
 refine s_ne ?_
 refine k_nil (k_seq ?_)
 refine w_cond hF3 ?_ ?_ <;> intro hc7 hF4
 refine awp_seq (awp_region ?_)
 refine s_as ?_
 refine k_nil (k_seq (awp_ret (k_seq_ret (k_blk_ret (k_seq_ret (k_rnd_ret2 (k_blk_ret (k_seq_ret (k_fin ?_)))))))))
 cases hF4
 exact ends_a [] [] Try.results32
 refine awp_skip (k_seq (awp_region ?_))
 refine s_mv ?_
 refine s_add rfl ?_
 refine s_as ?_
 refine k_nil (k_blk (k_seq (awp_region ?_)))
 refine s_mv ?_
 refine s_add (winc2 hc4 hb5 hn_g2) ?_
 refine s_as ?_
 refine k_nil ?_
 exact s_rn (fu, (w64 (g1 + 1)), (g2 + 1)) ⟨by first | omega | (dsimp only; omega), hF4, by first | omega | (dsimp only; omega)⟩
 refine awp_exit (k_seq_exit (k_rnd_exit2 (k_blk_exit (k_seq (awp_seq (awp_region ?_))))))
 refine s_mv ?_
 refine s_as ?_
 refine k_nil (k_seq (awp_ret (k_fin ?_)))
 cases hF2
 exact ends_a [] [] Try.results32
def m_laws_heldFormS_AC (fuel : Nat) : Prop := ∀ (x1 : (List Form)) (x2 : Int) (r : Int), m_laws_heldFormS fuel x1 x2 = some r → AC Try.prog 39 [.t (.sl (x1.map Form.row)), .t (.sc (.int .i64 x2))] noOb (.t (.sc (.int .i64 r))) noOb
theorem m_laws_heldFormS_st (fu : Nat) (ih_m_laws_heldFormS : ∀ k, k ≤ fu → m_laws_heldFormS_AC k) : m_laws_heldFormS_AC (fu + 1) := by
 intro x1 x2 r hF0
 rw [m_laws_heldFormS] at hF0
 refine AC_i [.t (.sc (.int .i64 r))] Try.func39 rfl Try.ntmps39 ?_
 intro C hC
 refine awp_seq (awp_region ?_)
 refine s_as ?_
 refine k_nil (k_seq (awp_seq (awp_seq (awp_region ?_))))
 refine s_as ?_
 refine k_nil (k_seq (awp_block ?_))
 refine awp_fr (β := Int × Int) [1, 4, 5, 6, 7, 8, 9, 10, 11, 12, 13, 14, 15, 16, 17, 18, 19, 20, 21, 22, 23, 24, 25, 26, 27, 28, 29, 30, 31, 32, 33, 34, 35, 36, 37, 38, 39, 40, 41, 42, 43, 44, 45, 46, 47, 48, 49, 50, 51, 52, 53, 54, 55, 56, 57] [] [] (fun a => [(1, .t (.sc (.int .i64 a.2.1))), (5, .t (.sc (.int .i64 a.2.2)))]) (fun a => []) (fun a => a.1 ≤ fu ∧ m_laws_heldFormS_l1 a.1 x1 a.2.1 a.2.2 = some r ∧ 0 ≤ a.2.2) (fu, x2, 0) ⟨Nat.le_refl _, hF0, by simp⟩ ?_
 clear hF0
 rintro ⟨fu, g1, g2⟩ ⟨hl3, hF1, hn_g2⟩
 dsimp only at hl3 hF1 hn_g2 ⊢
 obtain _ | fu := fu
 · rw [m_laws_heldFormS_l1] at hF1; cases hF1
 rw [m_laws_heldFormS_l1] at hF1
 refine awp_seq (awp_seq (awp_region ?_))
 refine s_mv ?_
 refine s_mv ?_
 refine s_lenT yU32 ?_
 refine s_lt ?_
 refine k_nil (k_seq ?_)
 refine w_cond hF1 ?_ ?_ <;> intro hc4 hF2
 refine awp_lenT 0 (fun hb5 => ?_)
 refine awp_skip (k_seq (awp_seq (awp_block (awp_seq (awp_seq (awp_region ?_))))))
 refine s_mv ?_
 refine s_mv ?_
 obtain ⟨v6, hv6, hF3⟩ := bind_some' hF2
 refine s_ixT Form.row hv6 (Form.row_eq _) yE32 ?_
 refine s_fa yF34_0 ?_
 refine s_ld1 yA3 ?_
 refine s_mv ?_
 refine s_ne ?_
 refine k_nil (k_seq ?_)
 refine w_cond hF3 ?_ ?_ <;> intro hc7 hF4
 refine awp_seq (awp_region ?_)
 refine s_as ?_
 refine k_nil (k_seq (awp_ret (k_seq_ret (k_blk_ret (k_seq_ret (k_rnd_ret2 (k_blk_ret (k_seq_ret (k_fin ?_)))))))))
 cases hF4
 exact ends_a [] [] Try.results39
 refine awp_skip (k_seq (awp_seq (awp_region ?_)))
 refine s_mv ?_
 refine s_add rfl ?_
 refine s_as ?_
 refine k_nil (k_seq (awp_seq (awp_seq ?_)))
 refine awp_draw yMix (by kernel_rfl) ?_
 refine s_mv ?_
 refine s_mv ?_
 obtain ⟨v8, hv8, hF5⟩ := bind_some' hF4
 refine s_ixT Form.row hv8 (Form.row_eq _) yE32 ?_
 refine s_fa yF34_1 ?_
 refine s_ld1 yA9 ?_
 refine s_mv ?_
 obtain ⟨v9, hv9, hF6⟩ := bind_some' hF5
 refine s_pure [] (m_laws_markText_D_ok fu _ _ hv9) ?_
 refine s_neS ?_
 refine k_nilD (by kernel_rfl) ?_
 refine k_seq ?_
 refine w_cond hF6 ?_ ?_ <;> intro hc10 hF7
 refine awp_seq (awp_region ?_)
 refine s_as ?_
 refine k_nil (k_seq (awp_ret (k_seq_ret (k_blk_ret (k_seq_ret (k_rnd_ret2 (k_blk_ret (k_seq_ret (k_fin ?_)))))))))
 cases hF7
 exact ends_a [] [] Try.results39
 refine awp_skip (k_seq (awp_seq (awp_region ?_)))
 refine s_mv ?_
 refine s_add rfl ?_
 refine s_as ?_
 refine k_nil (k_seq (awp_seq (awp_seq (awp_region ?_))))
 refine s_mv ?_
 refine s_mv ?_
 obtain ⟨v11, hv11, hF8⟩ := bind_some' hF7
 refine s_ixT Form.row hv11 (Form.row_eq _) yE32 ?_
 refine s_fa yF34_2 ?_
 refine s_ld1 yA3 ?_
 refine s_mv ?_
 refine s_ne ?_
 refine k_nil (k_seq ?_)
 refine w_cond hF8 ?_ ?_ <;> intro hc12 hF9
 refine awp_seq (awp_region ?_)
 refine s_as ?_
 refine k_nil (k_seq (awp_ret (k_seq_ret (k_blk_ret (k_seq_ret (k_rnd_ret2 (k_blk_ret (k_seq_ret (k_fin ?_)))))))))
 cases hF9
 exact ends_a [] [] Try.results39
 refine awp_skip (k_seq (awp_seq (awp_region ?_)))
 refine s_mv ?_
 refine s_add rfl ?_
 refine s_as ?_
 refine k_nil (k_seq (awp_seq (awp_region ?_)))
 refine s_mv ?_
 refine s_mv ?_
 obtain ⟨v13, hv13, hF10⟩ := bind_some' hF9
 refine s_ixT Form.row hv13 (Form.row_eq _) yE32 ?_
 refine s_fa yF34_3 ?_
 refine s_ld1 yA22 ?_
 refine s_mv ?_
 obtain ⟨v14, hv14, hF11⟩ := bind_some' hF10
 refine s_pure [] (m_laws_heldIntS_ok fu _ _ _ hv14) ?_
 refine s_as ?_
 refine k_nil (k_seq (awp_seq (awp_seq (awp_region ?_))))
 refine s_mv ?_
 refine s_lt ?_
 refine k_nil (k_seq ?_)
 refine w_cond hF11 ?_ ?_ <;> intro hc15 hF12
 refine awp_seq (awp_region ?_)
 refine s_as ?_
 refine k_nil (k_seq (awp_ret (k_seq_ret (k_blk_ret (k_seq_ret (k_rnd_ret2 (k_blk_ret (k_seq_ret (k_fin ?_)))))))))
 cases hF12
 exact ends_a [] [] Try.results39
 refine awp_skip (k_seq (awp_seq (awp_region ?_)))
 refine s_mv ?_
 refine s_mv ?_
 obtain ⟨v16, hv16, hF13⟩ := bind_some' hF12
 refine s_ixT Form.row hv16 (Form.row_eq _) yE32 ?_
 refine s_fa yF34_4 ?_
 refine s_ld1 yA32 ?_
 refine s_mv ?_
 obtain ⟨v17, hv17, hF14⟩ := bind_some' hF13
 refine s_pure [] (ih_m_laws_heldFormS fu (by omega) _ _ _ hv17) ?_
 refine s_as ?_
 refine k_nil (k_seq (awp_seq (awp_region ?_)))
 refine s_mv ?_
 refine s_lt ?_
 refine k_nil (k_seq ?_)
 refine w_cond hF14 ?_ ?_ <;> intro hc18 hF15
 refine awp_seq (awp_region ?_)
 refine s_as ?_
 refine k_nil (k_seq (awp_ret (k_blk_ret (k_seq_ret (k_rnd_ret2 (k_blk_ret (k_seq_ret (k_fin ?_))))))))
 cases hF15
 exact ends_a [] [] Try.results39
 refine awp_skip (k_blk (k_seq (awp_region ?_)))
 refine s_mv ?_
 refine s_add (winc2 hc4 hb5 hn_g2) ?_
 refine s_as ?_
 refine k_nil ?_
 exact s_rn (fu, v17, (g2 + 1)) ⟨by first | omega | (dsimp only; omega), hF15, by first | omega | (dsimp only; omega)⟩
 refine awp_exit (k_seq_exit (k_rnd_exit2 (k_blk_exit (k_seq (awp_seq (awp_region ?_))))))
 refine s_mv ?_
 refine s_as ?_
 refine k_nil (k_seq (awp_ret (k_fin ?_)))
 cases hF2
 exact ends_a [] [] Try.results39
end Go.Abs
