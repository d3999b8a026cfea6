/- A part of the proof: what the functions that the law calls answer, as pure values. -/
import Derived.Test.YtpmhanibecniaaaDoorK65505f5ac27c
import Derived.Test.YtpmhanibecniaaaDoorK976deb583ab2
import Derived.Test.YtpmhanibecniaaaDoorKf4212e55e261
import Derived.Test.YtpmhanibecniaaaDoorKfdafa56d783a
set_option linter.unusedSimpArgs false
set_option linter.unusedVariables false
set_option maxRecDepth 100000
set_option maxHeartbeats 4000000
namespace Go.Abs
open Go.Proofs
theorem m_laws_eqFormS_st (fu : Nat) (ih_m_laws_eqForm : ∀ k, k ≤ fu → m_laws_eqForm_AC k) (ih_m_laws_eqFormS : ∀ k, k ≤ fu → m_laws_eqFormS_AC k) : m_laws_eqFormS_AC (fu + 1) := by
 intro x1 x2 r hF0
 rw [m_laws_eqFormS] at hF0
 refine AC_i [.t (.sc (.bool r))] Tryd.func26 rfl Tryd.ntmps26 ?_
 intro C hC
 refine awp_seq (awp_region ?_)
 refine s_as ?_
 refine k_nil (k_seq (awp_seq (awp_seq (awp_region ?_))))
 refine s_mv ?_
 refine s_lenT yU26 ?_
 refine s_mv ?_
 refine s_lenT yU26 ?_
 refine s_ne ?_
 refine k_nil (k_seq ?_)
 refine w_cond hF0 ?_ ?_ <;> intro hc1 hF1
 refine awp_seq (awp_region ?_)
 refine s_as ?_
 refine k_nil (k_seq (awp_ret (k_seq_ret (k_fin ?_))))
 cases hF1
 exact ends_a [] [] Tryd.results26
 refine awp_skip (k_seq (awp_seq (awp_seq (awp_region ?_))))
 refine s_as ?_
 refine k_nil (k_seq (awp_block ?_))
 refine awp_fr (β := Int) [4, 5, 11, 12, 13, 14, 15, 16, 17, 18, 19, 20, 21, 22, 23, 24, 25, 26] [] [] (fun a => [(5, .t (.sc (.int .i64 a.2)))]) (fun a => []) (fun a => a.1 ≤ fu ∧ m_laws_eqFormS_l1 a.1 x1 x2 a.2 = some r ∧ 0 ≤ a.2) (fu, 0) ⟨Nat.le_refl _, hF1, by simp⟩ ?_
 clear hF1
 rintro ⟨fu, g2⟩ ⟨hl3, hF2, hn_g2⟩
 dsimp only at hl3 hF2 hn_g2 ⊢
 obtain _ | fu := fu
 · rw [m_laws_eqFormS_l1] at hF2; cases hF2
 rw [m_laws_eqFormS_l1] at hF2
 refine awp_seq (awp_seq (awp_region ?_))
 refine s_mv ?_
 refine s_mv ?_
 refine s_lenT yU26 ?_
 refine s_lt ?_
 refine k_nil (k_seq ?_)
 refine w_cond hF2 ?_ ?_ <;> intro hc4 hF3
 refine awp_lenT 0 (fun hb5 => ?_)
 refine awp_skip (k_seq (awp_seq (awp_block (awp_seq ?_))))
 refine awp_draw yMix (by kernel_rfl) ?_
 refine s_mv ?_
 refine s_mv ?_
 obtain ⟨v6, hv6, hF4⟩ := bind_some' hF3
 refine s_ixT Form.row hv6 (Form.row_eq _) yE26 ?_
 refine s_ldN yA28 yS28 ?_
 refine s_mv ?_
 refine s_mv ?_
 obtain ⟨v7, hv7, hF5⟩ := bind_some' hF4
 refine s_ixT Form.row hv7 (Form.row_eq _) yE26 ?_
 refine s_ldN yA28 yS28 ?_
 obtain ⟨v8, hv8, hF6⟩ := bind_some' hF5
 refine s_pure [] (ih_m_laws_eqForm fu (by omega) _ _ _ hv8) ?_
 refine s_not ?_
 refine k_nilD (by kernel_rfl) ?_
 refine k_seq ?_
 refine w_cond hF6 ?_ ?_ <;> intro hc9 hF7
 refine awp_seq (awp_region ?_)
 refine s_as ?_
 refine k_nil (k_seq (awp_ret (k_blk_ret (k_seq_ret (k_rnd_ret2 (k_blk_ret (k_seq_ret (k_fin ?_))))))))
 cases hF7
 exact ends_a [] [] Tryd.results26
 refine awp_skip (k_blk (k_seq (awp_region ?_)))
 refine s_mv ?_
 refine s_add (winc2 hc4 hb5 hn_g2) ?_
 refine s_as ?_
 refine k_nil ?_
 exact s_rn (fu, (g2 + 1)) ⟨by first | omega | (dsimp only; omega), hF7, by first | omega | (dsimp only; omega)⟩
 refine awp_exit (k_seq_exit (k_rnd_exit2 (k_blk_exit (k_seq (awp_seq (awp_region ?_))))))
 refine s_as ?_
 refine k_nil (k_seq (awp_ret (k_fin ?_)))
 cases hF3
 exact ends_a [] [] Tryd.results26
theorem m_laws_eqForm_all (fuel : Nat) : m_laws_eqForm_AC fuel ∧ m_laws_eqFormS_AC fuel := by
 induction fuel using Nat.strongRecOn with
 | _ N ih =>
   cases N with
   | zero => exact ⟨(by intro x1 x2 r h; rw [m_laws_eqForm] at h; cases h), (by intro x1 x2 r h; rw [m_laws_eqFormS] at h; cases h)⟩
   | succ fu => exact ⟨m_laws_eqForm_st fu (fun k hk => (ih k (by omega)).1) (fun k hk => (ih k (by omega)).2), m_laws_eqFormS_st fu (fun k hk => (ih k (by omega)).1) (fun k hk => (ih k (by omega)).2)⟩
theorem m_laws_eqForm_ok (fuel : Nat) : m_laws_eqForm_AC fuel := (m_laws_eqForm_all fuel).1
def m_laws_markIntS_D_AC (fuel : Nat) : Prop := ∀ (x1 : (List Int)) (x2 : Int) (r : (Int × (List Int))), m_laws_markIntS fuel x1 x2 = some r → AC Tryd.prog 27 [.ar 9300, .t (.sc (.int .i64 x2))] (objs [(9300, .arr (x1.map rI) 3 true)]) (.t (.sc (.int .i64 r.1))) (objs [(9300, .arr (r.2.map rI) 3 true)])
theorem m_laws_markIntS_D_ok (fuel : Nat) : m_laws_markIntS_D_AC fuel := by
 intro x1 x2 r hF0
 unfold m_laws_markIntS at hF0
 refine AC_i [.t (.sc (.int .i64 r.1))] Tryd.func27 rfl Tryd.ntmps27 ?_
 intro C hC
 refine awp_seq (awp_region ?_)
 refine s_as ?_
 refine k_nil (k_seq (awp_seq (awp_seq (awp_region ?_))))
 refine s_as ?_
 refine k_nil (k_seq (awp_block ?_))
 refine awp_fr (β := Int × Int × (List Int)) [1, 5, 6, 7, 8, 9, 10, 11, 12, 13, 14, 15, 16, 17] [9300] [] (fun a => [(1, .t (.sc (.int .i64 a.2.1))), (5, .t (.sc (.int .i64 a.2.2.1)))]) (fun a => [(9300, .arr (a.2.2.2.map rI) 3 true)]) (fun a => a.1 ≤ fuel ∧ m_laws_markIntS_l1 a.1  a.2.1 a.2.2.1 a.2.2.2 = some r ∧ 0 ≤ a.2.2.1) (fuel, x2, 0, x1) ⟨Nat.le_refl _, hF0, by simp⟩ ?_
 clear hF0
 rintro ⟨fu, g1, g2, g3⟩ ⟨hl4, hF1, hn_g2⟩
 dsimp only at hl4 hF1 hn_g2 ⊢
 obtain _ | fu := fu
 · rw [m_laws_markIntS_l1] at hF1; cases hF1
 rw [m_laws_markIntS_l1] at hF1
 refine awp_seq (awp_seq (awp_region ?_))
 refine s_mv ?_
 refine s_mv ?_
 refine s_lenA yU25 ?_
 refine s_lt ?_
 refine k_nil (k_seq ?_)
 refine w_cond hF1 ?_ ?_ <;> intro hc5 hF2
 refine awp_lenA 0 9300 (fun hb6 => ?_)
 refine awp_skip (k_seq (awp_seq (awp_block (awp_seq (awp_region ?_)))))
 iterate 3 refine s_mv ?_
 obtain ⟨v7, hv7, hF3⟩ := bind_some' hF2
 refine s_ixA rI hv7 yE25 ?_
 refine s_stA rI g1 hv7 rfl rfl yS3 yS3 ?_
 refine k_nil (k_seq (awp_region ?_))
 refine s_mv ?_
 refine s_add rfl ?_
 refine s_as ?_
 refine k_nil (k_blk (k_seq (awp_region ?_)))
 refine s_mv ?_
 refine s_add (winc2 hc5 hb6 hn_g2) ?_
 refine s_as ?_
 refine k_nil ?_
 exact s_rn (fu, (w64 (g1 + 1)), (g2 + 1), (g3.set g2.toNat g1)) ⟨by first | omega | (dsimp only; omega), hF3, by first | omega | (dsimp only; omega)⟩
 refine awp_exit (k_seq_exit (k_rnd_exit2 (k_blk_exit (k_seq (awp_seq (awp_region ?_))))))
 refine s_mv ?_
 refine s_as ?_
 refine k_nil (k_seq (awp_ret (k_fin ?_)))
 cases hF2
 exact ends_a _ [] Tryd.results27
def m_laws_markText_D_AC (fuel : Nat) : Prop := ∀ (x1 : Int) (r : ByteArray), m_laws_markText fuel x1 = some r → AC Tryd.prog 43 [.t (.sc (.int .i64 x1))] noOb (.t (.sc (.str r))) noOb
theorem m_laws_markText_D_ok (fuel : Nat) : m_laws_markText_D_AC fuel := by
 intro x1 r hF0
 unfold m_laws_markText at hF0
 refine AC_i [.t (.sc (.str r))] Tryd.func43 rfl Tryd.ntmps43 ?_
 intro C hC
 refine awp_seq (awp_region ?_)
 refine s_as ?_
 refine k_nil (k_seq (awp_seq (awp_seq (awp_region ?_))))
 refine s_mv ?_
 refine s_le ?_
 refine k_nil (k_seq ?_)
 refine w_cond hF0 ?_ ?_ <;> intro hc1 hF1
 refine awp_seq (awp_region ?_)
 refine s_as ?_
 refine k_nil (k_seq (awp_ret (k_seq_ret (k_fin ?_))))
 cases hF1
 exact ends_a [] [] Tryd.results43
 refine awp_skip (k_seq (awp_seq (awp_region ?_)))
 refine s_as ?_
 refine k_nil (k_seq (awp_seq (awp_block ?_)))
 refine awp_fr (β := Int × ByteArray) [0, 3, 6, 7, 8, 9, 10, 11, 12, 13, 14, 15, 16, 17] [] [12] (fun a => [(0, .t (.sc (.int .i64 a.2.1))), (3, .t (.sc (.str a.2.2)))]) (fun a => []) (fun a => a.1 ≤ fuel ∧ m_laws_markText_l1 a.1  a.2.1 a.2.2 = some r) (fuel, x1, (⟨#[]⟩ : ByteArray)) ⟨Nat.le_refl _, hF1⟩ ?_
 clear hF1
 rintro ⟨fu, g2, g3⟩ ⟨hl4, hF2⟩
 dsimp only at hl4 hF2 ⊢
 obtain _ | fu := fu
 · rw [m_laws_markText_l1] at hF2; cases hF2
 rw [m_laws_markText_l1] at hF2
 refine awp_seq (awp_seq (awp_region ?_))
 refine s_mv ?_
 refine s_gt ?_
 refine k_nil (k_seq ?_)
 refine w_cond hF2 ?_ ?_ <;> intro hc5 hF3
 refine awp_skip (k_seq (awp_block (awp_seq (awp_region ?_))))
 refine s_mv ?_
 refine s_rem ?_
 refine s_add rfl ?_
 refine s_int yU3 yU5 rfl ?_
 refine s_bs rB [(w8 (w64 (48 + (g2.tmod 10))))] yP22 yR5 ?_
 refine s_bst (l := [(w8 (w64 (48 + (g2.tmod 10))))]) yU22 yU9 yE22 yU5 ?_
 refine s_mv ?_
 obtain ⟨v6, hv6, hF4⟩ := bind_some' hF3
 refine s_cat hv6 ?_
 refine s_as ?_
 refine k_nil (k_seq (awp_region ?_))
 refine s_mv ?_
 refine s_quo rfl ?_
 refine s_as ?_
 refine k_nil (k_blk ?_)
 exact s_rn (fu, (w64 (g2.tdiv 10)), v6) ⟨by first | omega | (dsimp only; omega), hF4⟩
 refine awp_exit (k_seq_exit (k_rnd_exit2 (k_blk_exit (k_seq (awp_seq (awp_region ?_))))))
 refine s_mv ?_
 obtain ⟨v7, hv7, hF4⟩ := bind_some' hF3
 refine s_cat hv7 ?_
 refine s_as ?_
 refine k_nil (k_seq (awp_ret (k_fin ?_)))
 cases hF4
 exact ends_a [] [] Tryd.results43
def m_laws_markFormS_D_AC (fuel : Nat) : Prop := ∀ (x1 : (List Form)) (x2 : Int) (r : (Int × (List Form))), m_laws_markFormS fuel x1 x2 = some r → AC Tryd.prog 28 [.ar 9300, .t (.sc (.int .i64 x2))] (objs [(9300, .dar (x1.map (Form.rowD 3 28)) 28)]) (.t (.sc (.int .i64 r.1))) (objs [(9300, .dar (r.2.map (Form.rowD 3 28)) 28)])
theorem m_laws_markFormS_D_st (fu : Nat) (ih_m_laws_markFormS_D : ∀ k, k ≤ fu → m_laws_markFormS_D_AC k) : m_laws_markFormS_D_AC (fu + 1) := by
 intro x1 x2 r hF0
 rw [m_laws_markFormS] at hF0
 refine AC_i [.t (.sc (.int .i64 r.1))] Tryd.func28 rfl Tryd.ntmps28 ?_
 intro C hC
 refine awp_seq (awp_region ?_)
 refine s_as ?_
 refine k_nil (k_seq (awp_seq (awp_seq (awp_region ?_))))
 refine s_as ?_
 refine k_nil (k_seq (awp_block ?_))
 refine awp_fr (β := Int × Int × (List Form)) [1, 5, 6, 7, 8, 9, 10, 11, 12, 13, 14, 15, 16, 17, 18, 19, 20, 21, 22, 23, 24, 25, 26, 27, 28, 29, 30, 31, 32, 33, 34, 35, 36, 37, 38, 39, 40, 41, 42, 43, 44, 45, 46, 47] [9300] [38, 45] (fun a => [(1, .t (.sc (.int .i64 a.2.1))), (5, .t (.sc (.int .i64 a.2.2.1)))]) (fun a => [(9300, .dar (a.2.2.2.map (Form.rowD 3 28)) 28)]) (fun a => a.1 ≤ fu ∧ m_laws_markFormS_l1 a.1  a.2.1 a.2.2.1 a.2.2.2 = some r) (fu, x2, 0, x1) ⟨Nat.le_refl _, hF0⟩ ?_
 clear hF0
 rintro ⟨fu, g1, g2, g3⟩ ⟨hl4, hF1⟩
 dsimp only at hl4 hF1 ⊢
 obtain _ | fu := fu
 · rw [m_laws_markFormS_l1] at hF1; cases hF1
 rw [m_laws_markFormS_l1] at hF1
 refine awp_seq (awp_seq (awp_region ?_))
 refine s_mv ?_
 refine s_mv ?_
 refine s_lenD yU26 ?_
 refine s_lt ?_
 refine k_nil (k_seq ?_)
 refine w_cond hF1 ?_ ?_ <;> intro hc5 hF2
 refine awp_skip (k_seq (awp_seq (awp_block (awp_seq (awp_region ?_)))))
 iterate 3 refine s_mv ?_
 obtain ⟨v6, hv6, hF3⟩ := bind_some' hF2
 refine s_ixD (Form.rowD 3 28) hv6 yE26 ?_
 refine s_fa yF28_0 ?_
 refine s_stC (q := 9300) (off := 0) (u := .sc (.int .i64 g1)) (Form.rowD 3 28) (Form.mk g1 v6.name v6.n v6.scopes v6.kids) hv6 (by rw [(Form.rowDE _ _ _), (Form.rowDE _ _ _)]; rfl) yS3 yS28 (hw := by rw [(Form.rowDE _ _ _)]; rfl) ?_
 refine k_nil (k_seq (awp_seq (awp_region ?_)))
 refine s_mv ?_
 refine s_add rfl ?_
 refine s_as ?_
 refine k_nil (k_seq (awp_seq (awp_region ?_)))
 iterate 3 refine s_mv ?_
 obtain ⟨v7, hv7, hF4⟩ := bind_some' hF3
 refine s_pure [] (m_laws_markText_D_ok fu _ _ hv7) ?_
 obtain ⟨v8, hv8, hF5⟩ := bind_some' hF4
 refine s_ixD (Form.rowD 3 28) hv8 yE26 ?_
 refine s_fa yF28_1 ?_
 refine s_stC (q := 9300) (off := 1) (u := .sc (.str v7)) (Form.rowD 3 28) (Form.mk v8.kind v7 v8.n v8.scopes v8.kids) hv8 (by rw [(Form.rowDE _ _ _), (Form.rowDE _ _ _)]; rfl) yS9 yS28 (hw := by rw [(Form.rowDE _ _ _)]; rfl) ?_
 refine k_nil (k_seq (awp_seq (awp_region ?_)))
 refine s_mv ?_
 refine s_add rfl ?_
 refine s_as ?_
 refine k_nil (k_seq (awp_seq (awp_region ?_)))
 iterate 3 refine s_mv ?_
 obtain ⟨v9, hv9, hF6⟩ := bind_some' hF5
 refine s_ixD (Form.rowD 3 28) hv9 yE26 ?_
 refine s_fa yF28_2 ?_
 refine s_stC (q := 9300) (off := 2) (u := .sc (.int .i64 (w64 ((w64 (g1 + 1)) + 1)))) (Form.rowD 3 28) (Form.mk v9.kind v9.name (w64 ((w64 (g1 + 1)) + 1)) v9.scopes v9.kids) hv9 (by rw [(Form.rowDE _ _ _), (Form.rowDE _ _ _)]; rfl) yS3 yS28 (hw := by rw [(Form.rowDE _ _ _)]; rfl) ?_
 refine k_nil (k_seq (awp_seq (awp_region ?_)))
 refine s_mv ?_
 refine s_add rfl ?_
 refine s_as ?_
 refine k_nil (k_seq (awp_seq (awp_region ?_)))
 refine s_mv ?_
 refine s_mv ?_
 obtain ⟨v10, hv10, hF7⟩ := bind_some' hF6
 refine s_ixD (Form.rowD 3 28) hv10 yE26 ?_
 refine s_fa yF28_3 ?_
 refine s_ldHA (Form.rowD 3 28) rI v10.scopes plain_rI hv10 yA25 yS28 (hw := by rw [(Form.rowDE _ _ _)]; rfl) ?_
 refine s_mv ?_
 obtain ⟨v11, hv11, hF8⟩ := bind_some' hF7
 refine s_call [(9300, 38)] [] _ _ (m_laws_markIntS_D_ok fu _ _ _ hv11) ?_
 refine s_as ?_
 refine k_nil (k_seq ?_)
 refine awp_jsA 9300 38 [.sc (.int .i64 v10.kind), .sc (.str v10.name), .sc (.int .i64 v10.n), .ow 3 (v11.2.map rI), .ow 28 (v10.kids.map (Form.rowD 3 28))] hv10 (row := (Form.rowD 3 28)) (hj := by rw [(Form.rowDE _ _ _)]; rfl) (hf := by rw [(Form.rowDE _ _ _)]; rfl) ?_
 refine awp_nsH 9300 (row := (Form.rowD 3 28)) (fs := [.sc (.int .i64 v10.kind), .sc (.str v10.name), .sc (.int .i64 v10.n), .ow 3 (v11.2.map rI), .ow 28 (v10.kids.map (Form.rowD 3 28))]) (Form.mk v10.kind v10.name v10.n v11.2 v10.kids) (Form.rowDE _ _ _) ?_
 refine awp_region ?_
 refine s_mv ?_
 refine s_mv ?_
 obtain ⟨v12, hv12, hF9⟩ := bind_some' hF8
 refine s_ixD (Form.rowD 3 28) hv12 yE26 ?_
 refine s_fa yF28_4 ?_
 refine s_ldHD (Form.rowD 3 28) (Form.rowD 3 28) v12.kids hv12 yA26 yS28 (hw := by rw [(Form.rowDE _ _ _)]; rfl) ?_
 refine s_mv ?_
 obtain ⟨v13, hv13, hF10⟩ := bind_some' hF9
 refine s_call [(9300, 45)] [] _ _ (ih_m_laws_markFormS_D fu (by omega) _ _ _ hv13) ?_
 refine s_as ?_
 refine k_nil (k_blk (k_seq ?_))
 refine awp_jsD 9300 45 [.sc (.int .i64 v12.kind), .sc (.str v12.name), .sc (.int .i64 v12.n), .ow 3 (v12.scopes.map rI), .ow 28 (v13.2.map (Form.rowD 3 28))] hv12 (row := (Form.rowD 3 28)) (hj := by rw [(Form.rowDE _ _ _)]; rfl) (hf := by rw [(Form.rowDE _ _ _)]; rfl) ?_
 refine awp_nsH 9300 (row := (Form.rowD 3 28)) (fs := [.sc (.int .i64 v12.kind), .sc (.str v12.name), .sc (.int .i64 v12.n), .ow 3 (v12.scopes.map rI), .ow 28 (v13.2.map (Form.rowD 3 28))]) (Form.mk v12.kind v12.name v12.n v12.scopes v13.2) (Form.rowDE _ _ _) ?_
 refine awp_region ?_
 refine s_mv ?_
 refine s_add rfl ?_
 refine s_as ?_
 refine k_nil ?_
 exact s_rn (fu, v13.1, (w64 (g2 + 1)), (((((g3.set g2.toNat (Form.mk g1 v6.name v6.n v6.scopes v6.kids)).set g2.toNat (Form.mk v8.kind v7 v8.n v8.scopes v8.kids)).set g2.toNat (Form.mk v9.kind v9.name (w64 ((w64 (g1 + 1)) + 1)) v9.scopes v9.kids)).set g2.toNat (Form.mk v10.kind v10.name v10.n v11.2 v10.kids)).set g2.toNat (Form.mk v12.kind v12.name v12.n v12.scopes v13.2))) ⟨by first | omega | (dsimp only; omega), hF10⟩
 refine awp_exit (k_seq_exit (k_rnd_exit2 (k_blk_exit (k_seq (awp_seq (awp_region ?_))))))
 refine s_mv ?_
 refine s_as ?_
 refine k_nil (k_seq (awp_ret (k_fin ?_)))
 cases hF2
 exact ends_a _ [] Tryd.results28
theorem m_laws_markFormS_D_all (fuel : Nat) : m_laws_markFormS_D_AC fuel := by
 induction fuel using Nat.strongRecOn with
 | _ N ih =>
   cases N with
   | zero => exact (by intro x1 x2 r h; rw [m_laws_markFormS] at h; cases h)
   | succ fu => exact m_laws_markFormS_D_st fu (fun k hk => (ih k (by omega)))
theorem m_laws_markFormS_D_ok (fuel : Nat) : m_laws_markFormS_D_AC fuel := (m_laws_markFormS_D_all fuel)
def m_laws_markForm_D_AC (fuel : Nat) : Prop := ∀ (x1 : Form) (x2 : Int) (r : (Int × (List Int) × (List Form))), m_laws_markForm fuel x1 x2 = some r → AC Tryd.prog 11 [.ag [.t (.sc (.int .i64 x1.kind)), .t (.sc (.str x1.name)), .t (.sc (.int .i64 x1.n)), .ar 9303, .ar 9304], .t (.sc (.int .i64 x2))] (objs [(9303, .arr (x1.scopes.map rI) 3 true), (9304, .dar (x1.kids.map (Form.rowD 3 28)) 28)]) (.t (.sc (.int .i64 r.1))) (objs [(9303, .arr (r.2.1.map rI) 3 true), (9304, .dar (r.2.2.map (Form.rowD 3 28)) 28)])
theorem m_laws_markForm_D_ok (fuel : Nat) : m_laws_markForm_D_AC fuel := by
 intro x1 x2 r hF0
 unfold m_laws_markForm at hF0
 refine AC_i [.t (.sc (.int .i64 r.1))] Tryd.func11 rfl Tryd.ntmps11 ?_
 intro C hC
 refine awp_seq (awp_region ?_)
 refine s_box ?_
 refine s_as ?_
 refine k_nil (k_seq (awp_seq (awp_region ?_)))
 refine s_fa yF28_3 ?_
 refine s_ld1 yA25 ?_
 refine s_mv ?_
 obtain ⟨v1, hv1, hF1⟩ := bind_some' hF0
 refine s_call [(9300, 9303)] [] _ _ (m_laws_markIntS_D_ok fuel _ _ _ hv1) ?_
 refine s_as ?_
 refine k_nil (k_seq (awp_seq (awp_region ?_)))
 refine s_fa yF28_4 ?_
 refine s_ld1 yA26 ?_
 refine s_mv ?_
 obtain ⟨v2, hv2, hF2⟩ := bind_some' hF1
 refine s_call [(9300, 9304)] [] _ _ (m_laws_markFormS_D_ok fuel _ _ _ hv2) ?_
 refine s_as ?_
 refine k_nil (k_seq (awp_seq (awp_region ?_)))
 refine s_mv ?_
 refine s_as ?_
 refine k_nil (k_seq (awp_ret (k_fin ?_)))
 cases hF2
 exact ends_a _ [] Tryd.results11
def m_laws_heldIntS_AC (fuel : Nat) : Prop := ∀ (x1 : (List Int)) (x2 : Int) (r : Int), m_laws_heldIntS fuel x1 x2 = some r → AC Tryd.prog 29 [.t (.sl (x1.map rI)), .t (.sc (.int .i64 x2))] noOb (.t (.sc (.int .i64 r))) noOb
theorem m_laws_heldIntS_ok (fuel : Nat) : m_laws_heldIntS_AC fuel := by
 intro x1 x2 r hF0
 unfold m_laws_heldIntS at hF0
 refine AC_i [.t (.sc (.int .i64 r))] Tryd.func29 rfl Tryd.ntmps29 ?_
 intro C hC
 refine awp_seq (awp_region ?_)
 refine s_as ?_
 refine k_nil (k_seq (awp_seq (awp_seq (awp_region ?_))))
 refine s_as ?_
 refine k_nil (k_seq (awp_block ?_))
 refine awp_fr (β := Int × Int) [1, 4, 5, 6, 7, 8, 9, 10, 11, 12, 13, 14, 15, 16, 17, 18, 19] [] [] (fun a => [(1, .t (.sc (.int .i64 a.2.1))), (5, .t (.sc (.int .i64 a.2.2)))]) (fun a => []) (fun a => a.1 ≤ fuel ∧ m_laws_heldIntS_l1 a.1 x1 a.2.1 a.2.2 = some r ∧ 0 ≤ a.2.2) (fuel, x2, 0) ⟨Nat.le_refl _, hF0, by simp⟩ ?_
 clear hF0
 rintro ⟨fu, g1, g2⟩ ⟨hl3, hF1, hn_g2⟩
 dsimp only at hl3 hF1 hn_g2 ⊢
 obtain _ | fu := fu
 · rw [m_laws_heldIntS_l1] at hF1; cases hF1
 rw [m_laws_heldIntS_l1] at hF1
 refine awp_seq (awp_seq (awp_region ?_))
 refine s_mv ?_
 refine s_mv ?_
 refine s_lenT yU25 ?_
 refine s_lt ?_
 refine k_nil (k_seq ?_)
 refine w_cond hF1 ?_ ?_ <;> intro hc4 hF2
 refine awp_lenT 0 (fun hb5 => ?_)
 refine awp_skip (k_seq (awp_seq (awp_block (awp_seq (awp_seq (awp_region ?_))))))
 refine s_mv ?_
 refine s_mv ?_
 obtain ⟨v6, hv6, hF3⟩ := bind_some' hF2
 refine s_ixT rI hv6 rfl yE25 ?_
 refine s_ld1 yA3 ?_
 refine s_mv ?_
 refine s_ne ?_
 refine k_nil (k_seq ?_)
 refine w_cond hF3 ?_ ?_ <;> intro hc7 hF4
 refine awp_seq (awp_region ?_)
 refine s_as ?_
 refine k_nil (k_seq (awp_ret (k_seq_ret (k_blk_ret (k_seq_ret (k_rnd_ret2 (k_blk_ret (k_seq_ret (k_fin ?_)))))))))
 cases hF4
 exact ends_a [] [] Tryd.results29
 refine awp_skip (k_seq (awp_region ?_))
 refine s_mv ?_
 refine s_add rfl ?_
 refine s_as ?_
 refine k_nil (k_blk (k_seq (awp_region ?_)))
 refine s_mv ?_
 refine s_add (winc2 hc4 hb5 hn_g2) ?_
 refine s_as ?_
 refine k_nil ?_
 exact s_rn (fu, (w64 (g1 + 1)), (g2 + 1)) ⟨by first | omega | (dsimp only; omega), hF4, by first | omega | (dsimp only; omega)⟩
 refine awp_exit (k_seq_exit (k_rnd_exit2 (k_blk_exit (k_seq (awp_seq (awp_region ?_))))))
 refine s_mv ?_
 refine s_as ?_
 refine k_nil (k_seq (awp_ret (k_fin ?_)))
 cases hF2
 exact ends_a [] [] Tryd.results29
def m_laws_heldFormS_AC (fuel : Nat) : Prop := ∀ (x1 : (List Form)) (x2 : Int) (r : Int), m_laws_heldFormS fuel x1 x2 = some r → AC Tryd.prog 30 [.t (.sl (x1.map Form.row)), .t (.sc (.int .i64 x2))] noOb (.t (.sc (.int .i64 r))) noOb
theorem m_laws_heldFormS_st (fu : Nat) (ih_m_laws_heldFormS : ∀ k, k ≤ fu → m_laws_heldFormS_AC k) : m_laws_heldFormS_AC (fu + 1) := by
 intro x1 x2 r hF0
 rw [m_laws_heldFormS] at hF0
 refine AC_i [.t (.sc (.int .i64 r))] Tryd.func30 rfl Tryd.ntmps30 ?_
 intro C hC
 refine awp_seq (awp_region ?_)
 refine s_as ?_
 refine k_nil (k_seq (awp_seq (awp_seq (awp_region ?_))))
 refine s_as ?_
 refine k_nil (k_seq (awp_block ?_))
 refine awp_fr (β := Int × Int) [1, 4, 5, 6, 7, 8, 9, 10, 11, 12, 13, 14, 15, 16, 17, 18, 19, 20, 21, 22, 23, 24, 25, 26, 27, 28, 29, 30, 31, 32, 33, 34, 35, 36, 37, 38, 39, 40, 41, 42, 43, 44, 45, 46, 47, 48, 49, 50, 51, 52, 53, 54, 55, 56, 57] [] [] (fun a => [(1, .t (.sc (.int .i64 a.2.1))), (5, .t (.sc (.int .i64 a.2.2)))]) (fun a => []) (fun a => a.1 ≤ fu ∧ m_laws_heldFormS_l1 a.1 x1 a.2.1 a.2.2 = some r ∧ 0 ≤ a.2.2) (fu, x2, 0) ⟨Nat.le_refl _, hF0, by simp⟩ ?_
 clear hF0
 rintro ⟨fu, g1, g2⟩ ⟨hl3, hF1, hn_g2⟩
 dsimp only at hl3 hF1 hn_g2 ⊢
 obtain _ | fu := fu
 · rw [m_laws_heldFormS_l1] at hF1; cases hF1
 rw [m_laws_heldFormS_l1] at hF1
 refine awp_seq (awp_seq (awp_region ?_))
 refine s_mv ?_
 refine s_mv ?_
 refine s_lenT yU26 ?_
 refine s_lt ?_
 refine k_nil (k_seq ?_)
 refine w_cond hF1 ?_ ?_ <;> intro hc4 hF2
 refine awp_lenT 0 (fun hb5 => ?_)
 refine awp_skip (k_seq (awp_seq (awp_block (awp_seq (awp_seq (awp_region ?_))))))
 refine s_mv ?_
 refine s_mv ?_
 obtain ⟨v6, hv6, hF3⟩ := bind_some' hF2
 refine s_ixT Form.row hv6 (Form.row_eq _) yE26 ?_
 refine s_fa yF28_0 ?_
 refine s_ld1 yA3 ?_
 refine s_mv ?_
 refine s_ne ?_
 refine k_nil (k_seq ?_)
 refine w_cond hF3 ?_ ?_ <;> intro hc7 hF4
 refine awp_seq (awp_region ?_)
 refine s_as ?_
 refine k_nil (k_seq (awp_ret (k_seq_ret (k_blk_ret (k_seq_ret (k_rnd_ret2 (k_blk_ret (k_seq_ret (k_fin ?_)))))))))
 cases hF4
 exact ends_a [] [] Tryd.results30
 refine awp_skip (k_seq (awp_seq (awp_region ?_)))
 refine s_mv ?_
 refine s_add rfl ?_
 refine s_as ?_
 refine k_nil (k_seq (awp_seq (awp_seq ?_)))
 refine awp_draw yMix (by kernel_rfl) ?_
 refine s_mv ?_
 refine s_mv ?_
 obtain ⟨v8, hv8, hF5⟩ := bind_some' hF4
 refine s_ixT Form.row hv8 (Form.row_eq _) yE26 ?_
 refine s_fa yF28_1 ?_
 refine s_ld1 yA9 ?_
 refine s_mv ?_
 obtain ⟨v9, hv9, hF6⟩ := bind_some' hF5
 refine s_pure [] (m_laws_markText_D_ok fu _ _ hv9) ?_
 refine s_neS ?_
 refine k_nilD (by kernel_rfl) ?_
 refine k_seq ?_
 refine w_cond hF6 ?_ ?_ <;> intro hc10 hF7
 refine awp_seq (awp_region ?_)
 refine s_as ?_
 refine k_nil (k_seq (awp_ret (k_seq_ret (k_blk_ret (k_seq_ret (k_rnd_ret2 (k_blk_ret (k_seq_ret (k_fin ?_)))))))))
 cases hF7
 exact ends_a [] [] Tryd.results30
 refine awp_skip (k_seq (awp_seq (awp_region ?_)))
 refine s_mv ?_
 refine s_add rfl ?_
 refine s_as ?_
 refine k_nil (k_seq (awp_seq (awp_seq (awp_region ?_))))
 refine s_mv ?_
 refine s_mv ?_
 obtain ⟨v11, hv11, hF8⟩ := bind_some' hF7
 refine s_ixT Form.row hv11 (Form.row_eq _) yE26 ?_
 refine s_fa yF28_2 ?_
 refine s_ld1 yA3 ?_
 refine s_mv ?_
 refine s_ne ?_
 refine k_nil (k_seq ?_)
 refine w_cond hF8 ?_ ?_ <;> intro hc12 hF9
 refine awp_seq (awp_region ?_)
 refine s_as ?_
 refine k_nil (k_seq (awp_ret (k_seq_ret (k_blk_ret (k_seq_ret (k_rnd_ret2 (k_blk_ret (k_seq_ret (k_fin ?_)))))))))
 cases hF9
 exact ends_a [] [] Tryd.results30
 refine awp_skip (k_seq (awp_seq (awp_region ?_)))
 refine s_mv ?_
 refine s_add rfl ?_
 refine s_as ?_
 refine k_nil (k_seq (awp_seq (awp_region ?_)))
 refine s_mv ?_
 refine s_mv ?_
 obtain ⟨v13, hv13, hF10⟩ := bind_some' hF9
 refine s_ixT Form.row hv13 (Form.row_eq _) yE26 ?_
 refine s_fa yF28_3 ?_
 refine s_ld1 yA25 ?_
 refine s_mv ?_
 obtain ⟨v14, hv14, hF11⟩ := bind_some' hF10
 refine s_pure [] (m_laws_heldIntS_ok fu _ _ _ hv14) ?_
 refine s_as ?_
 refine k_nil (k_seq (awp_seq (awp_seq (awp_region ?_))))
 refine s_mv ?_
 refine s_lt ?_
 refine k_nil (k_seq ?_)
 refine w_cond hF11 ?_ ?_ <;> intro hc15 hF12
 refine awp_seq (awp_region ?_)
 refine s_as ?_
 refine k_nil (k_seq (awp_ret (k_seq_ret (k_blk_ret (k_seq_ret (k_rnd_ret2 (k_blk_ret (k_seq_ret (k_fin ?_)))))))))
 cases hF12
 exact ends_a [] [] Tryd.results30
 refine awp_skip (k_seq (awp_seq (awp_region ?_)))
 refine s_mv ?_
 refine s_mv ?_
 obtain ⟨v16, hv16, hF13⟩ := bind_some' hF12
 refine s_ixT Form.row hv16 (Form.row_eq _) yE26 ?_
 refine s_fa yF28_4 ?_
 refine s_ld1 yA26 ?_
 refine s_mv ?_
 obtain ⟨v17, hv17, hF14⟩ := bind_some' hF13
 refine s_pure [] (ih_m_laws_heldFormS fu (by omega) _ _ _ hv17) ?_
 refine s_as ?_
 refine k_nil (k_seq (awp_seq (awp_region ?_)))
 refine s_mv ?_
 refine s_lt ?_
 refine k_nil (k_seq ?_)
 refine w_cond hF14 ?_ ?_ <;> intro hc18 hF15
 refine awp_seq (awp_region ?_)
 refine s_as ?_
 refine k_nil (k_seq (awp_ret (k_blk_ret (k_seq_ret (k_rnd_ret2 (k_blk_ret (k_seq_ret (k_fin ?_))))))))
 cases hF15
 exact ends_a [] [] Tryd.results30
 refine awp_skip (k_blk (k_seq (awp_region ?_)))
 refine s_mv ?_
 refine s_add (winc2 hc4 hb5 hn_g2) ?_
 refine s_as ?_
 refine k_nil ?_
 exact s_rn (fu, v17, (g2 + 1)) ⟨by first | omega | (dsimp only; omega), hF15, by first | omega | (dsimp only; omega)⟩
 refine awp_exit (k_seq_exit (k_rnd_exit2 (k_blk_exit (k_seq (awp_seq (awp_region ?_))))))
 refine s_mv ?_
 refine s_as ?_
 refine k_nil (k_seq (awp_ret (k_fin ?_)))
 cases hF2
 exact ends_a [] [] Tryd.results30
theorem m_laws_heldFormS_all (fuel : Nat) : m_laws_heldFormS_AC fuel := by
 induction fuel using Nat.strongRecOn with
 | _ N ih =>
   cases N with
   | zero => exact (by intro x1 x2 r h; rw [m_laws_heldFormS] at h; cases h)
   | succ fu => exact m_laws_heldFormS_st fu (fun k hk => (ih k (by omega)))
theorem m_laws_heldFormS_ok (fuel : Nat) : m_laws_heldFormS_AC fuel := (m_laws_heldFormS_all fuel)
def m_laws_heldForm_AC (fuel : Nat) : Prop := ∀ (x1 : Form) (x2 : Int) (r : Int), m_laws_heldForm fuel x1 x2 = some r → AC Tryd.prog 12 [.ag [.t (.sc (.int .i64 x1.kind)), .t (.sc (.str x1.name)), .t (.sc (.int .i64 x1.n)), .t (.sl (x1.scopes.map rI)), .t (.sl (x1.kids.map Form.row))], .t (.sc (.int .i64 x2))] noOb (.t (.sc (.int .i64 r))) noOb
theorem m_laws_heldForm_ok (fuel : Nat) : m_laws_heldForm_AC fuel := by
 intro x1 x2 r hF0
 unfold m_laws_heldForm at hF0
 refine AC_i [.t (.sc (.int .i64 r))] Tryd.func12 rfl Tryd.ntmps12 ?_
 intro C hC
 refine awp_seq (awp_region ?_)
 refine s_box ?_
 refine s_as ?_
 refine k_nil (k_seq (awp_seq (awp_region ?_)))
 refine s_fa yF28_3 ?_
 refine s_ld1 yA25 ?_
 refine s_mv ?_
 obtain ⟨v1, hv1, hF1⟩ := bind_some' hF0
 refine s_pure [] (m_laws_heldIntS_ok fuel _ _ _ hv1) ?_
 refine s_as ?_
 refine k_nil (k_seq (awp_seq (awp_seq (awp_region ?_))))
 refine s_mv ?_
 refine s_lt ?_
 refine k_nil (k_seq ?_)
 refine w_cond hF1 ?_ ?_ <;> intro hc2 hF2
 refine awp_seq (awp_region ?_)
 refine s_as ?_
 refine k_nil (k_seq (awp_ret (k_seq_ret (k_fin ?_))))
 cases hF2
 exact ends_a [] [] Tryd.results12
 refine awp_skip (k_seq (awp_seq (awp_region ?_)))
 refine s_fa yF28_4 ?_
 refine s_ld1 yA26 ?_
 refine s_mv ?_
 obtain ⟨v3, hv3, hF3⟩ := bind_some' hF2
 refine s_pure [] (m_laws_heldFormS_ok fuel _ _ _ hv3) ?_
 refine s_as ?_
 refine k_nil (k_seq (awp_seq (awp_seq (awp_region ?_))))
 refine s_mv ?_
 refine s_lt ?_
 refine k_nil (k_seq ?_)
 refine w_cond hF3 ?_ ?_ <;> intro hc4 hF4
 refine awp_seq (awp_region ?_)
 refine s_as ?_
 refine k_nil (k_seq (awp_ret (k_seq_ret (k_fin ?_))))
 cases hF4
 exact ends_a [] [] Tryd.results12
 refine awp_skip (k_seq (awp_seq (awp_region ?_)))
 refine s_mv ?_
 refine s_as ?_
 refine k_nil (k_seq (awp_ret (k_fin ?_)))
 cases hF4
 exact ends_a [] [] Tryd.results12
def m_laws_FnExactParseForm_AC (fuel : Nat) : Prop := ∀ (x1 : ByteArray) (r : Bool), m_laws_FnExactParseForm fuel x1 = some r → AC Tryd.prog 4 [.t (.sc (.str x1))] noOb (.t (.sc (.bool r))) noOb
theorem m_laws_FnExactParseForm_ok (fuel : Nat) : m_laws_FnExactParseForm_AC fuel := by
 intro x1 r hF0
 unfold m_laws_FnExactParseForm at hF0
 refine AC_i [.t (.sc (.bool r))] Tryd.func4 rfl Tryd.ntmps4 ?_
 intro C hC
 refine awp_seq (awp_region ?_)
 refine s_as ?_
 refine k_nil (k_seq (awp_seq (awp_seq (awp_region ?_))))
 refine s_mv ?_
 refine s_lenS yU9 ?_
 refine s_gt ?_
 refine k_nil (k_seq ?_)
 refine w_cond hF0 ?_ ?_ <;> intro hc1 hF1
 refine awp_seq (awp_region ?_)
 refine s_as ?_
 refine k_nil (k_seq (awp_ret (k_seq_ret (k_fin ?_))))
 cases hF1
 exact ends_a [] [] Tryd.results4
 refine awp_skip (k_seq (awp_seq (awp_region ?_)))
 refine s_mv ?_
 obtain ⟨v2, hv2, hF2⟩ := bind_some' hF1
 refine s_pure [] (m_spec_ParseForm_ok fuel _ _ hv2) ?_
 refine s_mv ?_
 refine s_ext ?_
 refine s_ext ?_
 refine s_alloc yZ28 ?_
 refine s_stW yS28 ?_
 refine s_as ?_
 refine k_nil (k_seq (awp_seq (awp_region ?_)))
 refine s_mv ?_
 obtain ⟨v3, hv3, hF3⟩ := bind_some' hF2
 refine s_call [(9203, 2021), (9204, 12021)] [] _ _ (m_impl_ParseForm_D_ok fuel _ _ hv3) ?_
 refine s_mv ?_
 refine s_ext ?_
 refine s_ext ?_
 refine s_alloc yZ28 ?_
 refine s_stW yS28 ?_
 refine s_as ?_
 refine k_nil (k_seq (awp_seq ?_))
 refine awp_jn (α := Nat × Bool) [24, 25, 26, 27, 28, 29, 30, 31, 32] [] [] (fun a => [(32, .t (.sc (.bool a.2)))]) (fun a => []) (fun a => a.1 ≤ fuel ∧ m_laws_FnExactParseForm_j1 a.1 x1 v2 v3 a.2 = some r) ?_ ?_
 refine awp_region ?_
 refine s_ldW yA28 yS28 ?_
 refine s_ldW yA28 yS28 ?_
 obtain ⟨v4, hv4, hF4⟩ := bind_some' hF3
 refine s_call [(9700, 2021), (9701, 12021)] [] [(9700, .arr (v3.1.scopes.map rI) 3 true), (9701, .dar (v3.1.kids.map (Form.rowD 3 28)) 28)] [(9700, .arr (v3.1.scopes.map rI) 3 true), (9701, .dar (v3.1.kids.map (Form.rowD 3 28)) 28)] (ac_lend (args := [.ag [.t (.sc (.int .i64 v3.1.kind)), .t (.sc (.str v3.1.name)), .t (.sc (.int .i64 v3.1.n)), .ar 9700, .ar 9701], .ag [.t (.sc (.int .i64 v2.1.kind)), .t (.sc (.str v2.1.name)), .t (.sc (.int .i64 v2.1.n)), .t (.sl (v2.1.scopes.map rI)), .t (.sl (v2.1.kids.map Form.row))]]) [(9700, .arr (v3.1.scopes.map rI) 3 true), (9701, .dar (v3.1.kids.map (Form.rowD 3 28)) 28)] [] (m_laws_eqForm_ok fuel _ _ _ hv4) rfl (by simp only [V.lendL, V.lend, objs_cons, objs_nil, Nat.reduceEqDiff, reduceIte, if_true, if_false, Form.lendM, Core.lendM, Hit.lendM, Rule.lendM, Bind.lendM, Macro.lendM]; try rfl) (by rfl) (by rfl) (by rfl) (by rfl) (by simp only [List.all_cons, List.all_nil, Ob.flat, flat_rI, flat_rS, Form.flatM, Core.flatM, Hit.flatM, Rule.flatM, Bind.flatM, Macro.flatM, Bool.and_self, Bool.true_and]) (by rfl)) ?_
 refine s_not ?_
 refine s_mv ?_
 refine w_guard _ 28 hF4 ?_ ?_ <;> intro hc5 hF5
 iterate 3 refine r_no rfl ?_
 refine s_pkt ?_
 refine k_nil ?_
 exact s_jn (fuel, true) ⟨by first | omega | (dsimp only; omega), hF5⟩
 refine s_mv ?_
 refine s_mv ?_
 refine s_neB yU4 ?_
 refine s_pkf ?_
 refine k_nil ?_
 exact s_jn (fuel, (decide (v3.2 ≠ v2.2))) ⟨by first | omega | (dsimp only; omega), hF5⟩
 clear hF3
 rintro ⟨fu, g6⟩ ⟨hl7, hF4⟩
 dsimp only at hl7 hF4 ⊢
 obtain _ | fu := fu
 · rw [m_laws_FnExactParseForm_j1] at hF4; cases hF4
 rw [m_laws_FnExactParseForm_j1] at hF4
 refine w_cond hF4 ?_ ?_ <;> intro hc8 hF5
 refine awp_seq (awp_region ?_)
 refine s_as ?_
 refine k_nil (k_seq (awp_ret (k_seq_ret (k_fin ?_))))
 cases hF5
 exact ends_a [] [] Tryd.results4
 refine awp_skip (k_seq (awp_seq (awp_region ?_)))
 refine s_as ?_
 refine k_nil (k_seq (awp_seq (awp_region ?_)))
 refine s_ldW yA28 yS28 ?_
 refine s_mv ?_
 obtain ⟨v9, hv9, hF6⟩ := bind_some' hF5
 refine s_call [(9303, 2021), (9304, 12021)] [] _ _ (m_laws_markForm_D_ok fu _ _ _ hv9) ?_
 refine s_as ?_
 refine k_nil (k_seq (awp_seq (awp_region ?_)))
 refine s_as ?_
 refine k_nil (k_seq (awp_seq (awp_region ?_)))
 refine s_ldW yA28 yS28 ?_
 refine s_mv ?_
 obtain ⟨v10, hv10, hF7⟩ := bind_some' hF6
 refine s_call [(9700, 2021), (9701, 12021)] [] [(9700, .arr (v9.2.1.map rI) 3 true), (9701, .dar (v9.2.2.map (Form.rowD 3 28)) 28)] [(9700, .arr (v9.2.1.map rI) 3 true), (9701, .dar (v9.2.2.map (Form.rowD 3 28)) 28)] (ac_lend (args := [.ag [.t (.sc (.int .i64 v3.1.kind)), .t (.sc (.str v3.1.name)), .t (.sc (.int .i64 v3.1.n)), .ar 9700, .ar 9701], .t (.sc (.int .i64 1))]) [(9700, .arr (v9.2.1.map rI) 3 true), (9701, .dar (v9.2.2.map (Form.rowD 3 28)) 28)] [] (m_laws_heldForm_ok fu _ _ _ hv10) rfl (by simp only [V.lendL, V.lend, objs_cons, objs_nil, Nat.reduceEqDiff, reduceIte, if_true, if_false, Form.lendM, Core.lendM, Hit.lendM, Rule.lendM, Bind.lendM, Macro.lendM]; try rfl) (by rfl) (by rfl) (by rfl) (by rfl) (by simp only [List.all_cons, List.all_nil, Ob.flat, flat_rI, flat_rS, Form.flatM, Core.flatM, Hit.flatM, Rule.flatM, Bind.flatM, Macro.flatM, Bool.and_self, Bool.true_and]) (by rfl)) ?_
 refine s_as ?_
 refine k_nil (k_seq (awp_seq (awp_seq (awp_region ?_))))
 refine s_mv ?_
 refine s_lt ?_
 refine k_nil (k_seq ?_)
 refine w_cond hF7 ?_ ?_ <;> intro hc11 hF8
 refine awp_seq (awp_region ?_)
 refine s_as ?_
 refine k_nil (k_seq (awp_ret (k_seq_ret (k_fin ?_))))
 cases hF8
 exact ends_a [] [] Tryd.results4
 refine awp_skip (k_seq (awp_seq (awp_seq (awp_region ?_))))
 refine s_mv ?_
 refine s_mv ?_
 refine s_ne ?_
 refine k_nil (k_seq ?_)
 refine w_cond hF8 ?_ ?_ <;> intro hc12 hF9
 refine awp_seq (awp_region ?_)
 refine s_as ?_
 refine k_nil (k_seq (awp_ret (k_seq_ret (k_fin ?_))))
 cases hF9
 exact ends_a [] [] Tryd.results4
 refine awp_skip (k_seq (awp_seq (awp_region ?_)))
 refine s_mv ?_
 obtain ⟨v13, hv13, hF10⟩ := bind_some' hF9
 refine s_pure [] (m_impl_ParseForm_ok fu _ _ hv13) ?_
 refine s_mv ?_
 refine s_ext ?_
 refine s_ext ?_
 refine s_alloc yZ28 ?_
 refine s_stW yS28 ?_
 refine s_as ?_
 refine k_nil (k_seq (awp_seq ?_))
 refine awp_jn (α := Nat × Bool) [49, 50, 51, 52, 53, 54, 55, 56, 57] [] [] (fun a => [(57, .t (.sc (.bool a.2)))]) (fun a => []) (fun a => a.1 ≤ fu ∧ m_laws_FnExactParseForm_j2 a.1 v3 v9 a.2 = some r) ?_ ?_
 refine awp_region ?_
 refine s_ldW yA28 yS28 ?_
 refine s_ldW yA28 yS28 ?_
 obtain ⟨v14, hv14, hF11⟩ := bind_some' hF10
 refine s_pure [] (m_laws_eqForm_ok fu _ _ _ hv14) ?_
 refine s_not ?_
 refine s_mv ?_
 refine w_guard _ 53 hF11 ?_ ?_ <;> intro hc15 hF12
 iterate 3 refine r_no rfl ?_
 refine s_pkt ?_
 refine k_nil ?_
 exact s_jn (fu, true) ⟨by first | omega | (dsimp only; omega), hF12⟩
 refine s_mv ?_
 refine s_mv ?_
 refine s_neB yU4 ?_
 refine s_pkf ?_
 refine k_nil ?_
 exact s_jn (fu, (decide (v13.2 ≠ v2.2))) ⟨by first | omega | (dsimp only; omega), hF12⟩
 clear hF10
 rintro ⟨fu, g16⟩ ⟨hl17, hF11⟩
 dsimp only at hl17 hF11 ⊢
 obtain _ | fu := fu
 · rw [m_laws_FnExactParseForm_j2] at hF11; cases hF11
 rw [m_laws_FnExactParseForm_j2] at hF11
 refine w_cond hF11 ?_ ?_ <;> intro hc18 hF12
 refine awp_seq (awp_region ?_)
 refine s_as ?_
 refine k_nil (k_seq (awp_ret (k_seq_ret (k_fin ?_))))
 cases hF12
 exact ends_a [] [] Tryd.results4
 refine awp_skip (k_seq (awp_seq (awp_region ?_)))
 refine s_as ?_
 refine k_nil (k_seq (awp_seq (awp_region ?_)))
 refine s_ldW yA28 yS28 ?_
 refine s_mv ?_
 obtain ⟨v19, hv19, hF13⟩ := bind_some' hF12
 refine s_call [(9700, 2021), (9701, 12021)] [] [(9700, .arr (v9.2.1.map rI) 3 true), (9701, .dar (v9.2.2.map (Form.rowD 3 28)) 28)] [(9700, .arr (v9.2.1.map rI) 3 true), (9701, .dar (v9.2.2.map (Form.rowD 3 28)) 28)] (ac_lend (args := [.ag [.t (.sc (.int .i64 v3.1.kind)), .t (.sc (.str v3.1.name)), .t (.sc (.int .i64 v3.1.n)), .ar 9700, .ar 9701], .t (.sc (.int .i64 1))]) [(9700, .arr (v9.2.1.map rI) 3 true), (9701, .dar (v9.2.2.map (Form.rowD 3 28)) 28)] [] (m_laws_heldForm_ok fu _ _ _ hv19) rfl (by simp only [V.lendL, V.lend, objs_cons, objs_nil, Nat.reduceEqDiff, reduceIte, if_true, if_false, Form.lendM, Core.lendM, Hit.lendM, Rule.lendM, Bind.lendM, Macro.lendM]; try rfl) (by rfl) (by rfl) (by rfl) (by rfl) (by simp only [List.all_cons, List.all_nil, Ob.flat, flat_rI, flat_rS, Form.flatM, Core.flatM, Hit.flatM, Rule.flatM, Bind.flatM, Macro.flatM, Bool.and_self, Bool.true_and]) (by rfl)) ?_
 refine s_as ?_
 refine k_nil (k_seq (awp_seq (awp_seq (awp_region ?_))))
 refine s_mv ?_
 refine s_lt ?_
 refine k_nil (k_seq ?_)
 refine w_cond hF13 ?_ ?_ <;> intro hc20 hF14
 refine awp_seq (awp_region ?_)
 refine s_as ?_
 refine k_nil (k_seq (awp_ret (k_seq_ret (k_fin ?_))))
 cases hF14
 exact ends_a [] [] Tryd.results4
 refine awp_skip (k_seq (awp_seq (awp_seq (awp_region ?_))))
 refine s_mv ?_
 refine s_mv ?_
 refine s_ne ?_
 refine k_nil (k_seq ?_)
 refine w_cond hF14 ?_ ?_ <;> intro hc21 hF15
 refine awp_seq (awp_region ?_)
 refine s_as ?_
 refine k_nil (k_seq (awp_ret (k_seq_ret (k_fin ?_))))
 cases hF15
 exact ends_a [] [] Tryd.results4
 refine awp_skip (k_seq (awp_seq (awp_region ?_)))
 refine s_as ?_
 refine k_nil (k_seq (awp_ret (k_fin ?_)))
 cases hF15
 exact ends_a [] [] Tryd.results4
end Go.Abs
