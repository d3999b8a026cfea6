/- A part of the proof: what the functions that the law calls answer, as pure values. -/
import Derived.Test.YtjjjnhpghhamkaaGreatK35a552f26911
import Derived.Test.YtjjjnhpghhamkaaGreatKc011f3581fd7
import Derived.Test.YtjjjnhpghhamkaaGreatKff06b70fb889
set_option linter.unusedSimpArgs false
set_option linter.unusedVariables false
set_option maxRecDepth 100000
set_option maxHeartbeats 4000000
namespace Go.Abs
open Go.Proofs
def m_spec_l15Open_AC (fuel : Nat) : Prop := ∀ (x1 : (List Int)) (r : l15Rd), m_spec_l15Open fuel x1 = some r → AC Tryz.prog 59 [.t (.sl (x1.map rB))] (objs []) (.rf 10 0) (objs [(10, .box [.t (.sl (r.b.map rB)), .t (.sc (.int .i64 r.p))])])
theorem m_spec_l15Open_ok (fuel : Nat) : m_spec_l15Open_AC fuel := by
 intro x1 r hF0
 unfold m_spec_l15Open at hF0
 refine AC_i [.rf 10 0] Tryz.func59 rfl Tryz.ntmps59 ?_
 intro C hC
 refine awp_seq (awp_region ?_)
 refine s_as ?_
 refine k_nil (k_seq (awp_seq (awp_seq (awp_region ?_))))
 refine s_mv ?_
 refine s_lenT yU22 ?_
 refine s_gt ?_
 refine k_nil (k_seq ?_)
 refine w_cond hF0 ?_ ?_ <;> intro hc1 hF1
 refine awp_lenT 0 (fun hb2 => ?_)
 refine awp_region ?_
 refine s_mv ?_
 obtain ⟨v3, hv3, hF2⟩ := bind_some' hF1
 refine s_sl01 rB (fun _ => rfl) hv3 yU22 yE22 ?_
 refine s_as ?_
 refine k_nil (k_seq (awp_seq (awp_region ?_)))
 refine s_mv ?_
 refine s_bld yZ145 yL145 ?_
 refine s_box ?_
 refine s_as ?_
 refine k_nil (k_seq (awp_ret (k_fin ?_)))
 cases hF2
 exact ends_a _ [] Tryz.results59
 refine awp_skip (k_seq (awp_seq (awp_region ?_)))
 refine s_mv ?_
 refine s_bld yZ145 yL145 ?_
 refine s_box ?_
 refine s_as ?_
 refine k_nil (k_seq (awp_ret (k_fin ?_)))
 cases hF1
 exact ends_a _ [] Tryz.results59
def m_spec_l15Rd_pick_AC (fuel : Nat) : Prop := ∀ (o1 : l15Rd) (x2 : Int) (r : (Int × l15Rd)), m_spec_l15Rd_pick fuel o1 x2 = some r → AC Tryz.prog 60 [.rf 9000 0, .t (.sc (.int .i64 x2))] (objs [(9000, .box [.t (.sl (o1.b.map rB)), .t (.sc (.int .i64 o1.p))])]) (.t (.sc (.int .i64 r.1))) (objs [(9000, .box [.t (.sl (r.2.b.map rB)), .t (.sc (.int .i64 r.2.p))])])
theorem m_spec_l15Rd_pick_ok (fuel : Nat) : m_spec_l15Rd_pick_AC fuel := by
 intro o1 x2 r hF0
 unfold m_spec_l15Rd_pick at hF0
 refine AC_i [.t (.sc (.int .i64 r.1))] Tryz.func60 rfl Tryz.ntmps60 ?_
 intro C hC
 refine awp_seq (awp_region ?_)
 refine s_as ?_
 refine k_nil (k_seq (awp_seq (awp_region ?_)))
 refine s_mv ?_
 refine s_mv ?_
 refine s_nc ?_
 refine s_fa yF145_1 ?_
 refine s_ld1 yA3 ?_
 refine s_add rfl ?_
 refine s_nc ?_
 refine s_fa yF145_1 ?_
 refine s_stP yS3 ?_
 refine k_nil (k_seq (awp_seq (awp_seq (awp_region ?_))))
 refine s_mv ?_
 refine s_lt ?_
 refine s_mv ?_
 refine w_guard _ 17 hF0 ?_ ?_ <;> intro hc1 hF1
 iterate 6 refine r_no rfl ?_
 refine s_pkt ?_
 refine k_nil (k_seq (awp_true rfl (awp_seq (awp_region ?_))))
 refine s_as ?_
 refine k_nil (k_seq (awp_ret (k_seq_ret (k_fin ?_))))
 cases hF1
 exact ends_a _ [] Tryz.results60
 refine s_mv ?_
 refine s_nc ?_
 refine s_fa yF145_0 ?_
 refine s_ld1 yA22 ?_
 refine s_lenT yU22 ?_
 refine s_eq ?_
 refine s_pkf ?_
 refine k_nil (k_seq ?_)
 refine w_cond hF1 ?_ ?_ <;> intro hc2 hF2
 refine awp_seq (awp_region ?_)
 refine s_as ?_
 refine k_nil (k_seq (awp_ret (k_seq_ret (k_fin ?_))))
 cases hF2
 exact ends_a _ [] Tryz.results60
 refine awp_skip (k_seq (awp_seq (awp_region ?_)))
 refine s_mv ?_
 refine s_nc ?_
 refine s_fa yF145_1 ?_
 refine s_ld1 yA3 ?_
 refine s_sub rfl ?_
 refine s_as ?_
 refine k_nil (k_seq (awp_seq (awp_seq (awp_region ?_))))
 refine s_mv ?_
 refine s_mv ?_
 refine s_nc ?_
 refine s_fa yF145_0 ?_
 refine s_ld1 yA22 ?_
 refine s_lenT yU22 ?_
 refine s_lt ?_
 refine k_nil (k_seq ?_)
 refine w_cond hF2 ?_ ?_ <;> intro hc3 hF3
 refine awp_seq (awp_region ?_)
 refine s_mv ?_
 refine s_nc ?_
 refine s_fa yF145_0 ?_
 refine s_ld1 yA22 ?_
 refine s_mv ?_
 obtain ⟨v4, hv4, hF4⟩ := bind_some' hF3
 refine s_ixT rB hv4 rfl yE22 ?_
 refine s_ld1 yA5 ?_
 refine s_int yU5 yU3 rfl ?_
 refine s_mv ?_
 obtain ⟨hk5, hF5⟩ := chk_some hF4
 refine s_rem (h0 := not_zero hk5) ?_
 refine s_as ?_
 refine k_nil (k_seq (awp_ret (k_seq_ret (k_fin ?_))))
 cases hF5
 exact ends_a _ [] Tryz.results60
 refine awp_skip (k_seq (awp_seq ?_))
 refine awp_draw yMix (by kernel_rfl) ?_
 refine s_mv ?_
 refine s_nc ?_
 refine s_fa yF145_0 ?_
 refine s_ld1 yA22 ?_
 refine s_mv ?_
 refine s_mv ?_
 refine s_nc ?_
 refine s_fa yF145_0 ?_
 refine s_ld1 yA22 ?_
 refine s_lenT yU22 ?_
 obtain ⟨hk6, hF4⟩ := chk_some hF3
 refine s_rem (h0 := not_zero hk6) ?_
 obtain ⟨v7, hv7, hF5⟩ := bind_some' hF4
 refine s_ixT rB hv7 rfl yE22 ?_
 refine s_ld1 yA5 ?_
 refine s_int yU5 yU3 rfl ?_
 refine s_mul rfl ?_
 refine s_mv ?_
 refine s_nc ?_
 refine s_fa yF145_0 ?_
 refine s_ld1 yA22 ?_
 refine s_mv ?_
 refine s_mul rfl ?_
 refine s_add rfl ?_
 refine s_mv ?_
 refine s_nc ?_
 refine s_fa yF145_0 ?_
 refine s_ld1 yA22 ?_
 refine s_lenT yU22 ?_
 obtain ⟨hk8, hF6⟩ := chk_some hF5
 refine s_rem (h0 := not_zero hk8) ?_
 obtain ⟨v9, hv9, hF7⟩ := bind_some' hF6
 refine s_ixT rB hv9 rfl yE22 ?_
 refine s_ld1 yA5 ?_
 refine s_int yU5 yU3 rfl ?_
 refine s_mul rfl ?_
 refine s_add rfl ?_
 refine s_mv ?_
 refine s_mul rfl ?_
 refine s_add rfl ?_
 refine s_mv ?_
 refine s_mv ?_
 refine s_nc ?_
 refine s_fa yF145_0 ?_
 refine s_ld1 yA22 ?_
 refine s_lenT yU22 ?_
 obtain ⟨hk10, hF8⟩ := chk_some hF7
 refine s_quo (h0 := not_zero hk10) rfl ?_
 refine s_mul rfl ?_
 refine s_add rfl ?_
 refine s_as ?_
 refine k_nilD (by kernel_rfl) ?_
 refine k_seq (awp_seq (awp_region ?_))
 refine s_mv ?_
 refine s_mv ?_
 refine s_quo rfl ?_
 refine s_xor rfl ?_
 refine s_as ?_
 refine k_nil (k_seq (awp_seq (awp_region ?_)))
 refine s_mv ?_
 refine s_mv ?_
 obtain ⟨hk11, hF9⟩ := chk_some hF8
 refine s_rem (h0 := not_zero hk11) ?_
 refine s_as ?_
 refine k_nil (k_seq (awp_ret (k_fin ?_)))
 cases hF9
 exact ends_a _ [] Tryz.results60
def m_spec_l1Skip_AC (fuel : Nat) : Prop := ∀ (x1 : ByteArray) (x2 : Int) (r : Int), m_spec_l1Skip fuel x1 x2 = some r → AC Tryz.prog 199 [.t (.sc (.str x1)), .t (.sc (.int .i64 x2))] noOb (.t (.sc (.int .i64 r))) noOb
theorem m_spec_l1Skip_ok (fuel : Nat) : m_spec_l1Skip_AC fuel := by
 intro x1 x2 r hF0
 unfold m_spec_l1Skip at hF0
 refine AC_i [.t (.sc (.int .i64 r))] Tryz.func199 rfl Tryz.ntmps199 ?_
 intro C hC
 refine awp_seq (awp_region ?_)
 refine s_as ?_
 refine k_nil (k_seq (awp_seq (awp_block ?_)))
 refine awp_fr (β := Int) [1, 5, 6, 7, 8, 9, 10, 11, 12, 13, 14, 15, 16] [] [] (fun a => [(1, .t (.sc (.int .i64 a.2)))]) (fun a => []) (fun a => a.1 ≤ fuel ∧ m_spec_l1Skip_l1 a.1 x1 a.2 = some r) (fuel, x2) ⟨Nat.le_refl _, hF0⟩ ?_
 clear hF0
 rintro ⟨fu, g1⟩ ⟨hl2, hF1⟩
 dsimp only at hl2 hF1 ⊢
 obtain _ | fu := fu
 · rw [m_spec_l1Skip_l1] at hF1; cases hF1
 rw [m_spec_l1Skip_l1] at hF1
 refine awp_seq (awp_seq (awp_region ?_))
 refine s_mv ?_
 refine s_mv ?_
 refine s_lenS yU9 ?_
 refine s_lt ?_
 refine s_mv ?_
 refine w_guard _ 9 hF1 ?_ ?_ <;> intro hc3 hF2
 refine s_mv ?_
 refine s_mv ?_
 obtain ⟨v4, hv4, hF3⟩ := bind_some' hF2
 refine s_ixS hv4 yU9 ?_
 refine s_eq ?_
 refine s_pkt ?_
 refine k_nil (k_seq ?_)
 refine w_cond hF3 ?_ ?_ <;> intro hc5 hF4
 refine awp_skip (k_seq (awp_block (awp_region ?_)))
 refine s_mv ?_
 refine s_add rfl ?_
 refine s_as ?_
 refine k_nil (k_blk ?_)
 exact s_rn (fu, (w64 (g1 + 1))) ⟨by first | omega | (dsimp only; omega), hF4⟩
 refine awp_exit (k_seq_exit (k_rnd_exit2 (k_blk_exit (k_seq (awp_seq (awp_region ?_))))))
 refine s_mv ?_
 refine s_as ?_
 refine k_nil (k_seq (awp_ret (k_fin ?_)))
 cases hF4
 exact ends_a [] [] Tryz.results199
 iterate 4 refine r_no rfl ?_
 refine s_pkf ?_
 refine k_nil (k_seq (awp_false rfl (awp_exit (k_seq_exit (k_rnd_exit2 (k_blk_exit (k_seq (awp_seq (awp_region ?_)))))))))
 refine s_mv ?_
 refine s_as ?_
 refine k_nil (k_seq (awp_ret (k_fin ?_)))
 cases hF2
 exact ends_a [] [] Tryz.results199
def m_spec_l1Word_AC (fuel : Nat) : Prop := ∀ (x1 : ByteArray) (x2 : Int) (r : Int), m_spec_l1Word fuel x1 x2 = some r → AC Tryz.prog 214 [.t (.sc (.str x1)), .t (.sc (.int .i64 x2))] noOb (.t (.sc (.int .i64 r))) noOb
theorem m_spec_l1Word_ok (fuel : Nat) : m_spec_l1Word_AC fuel := by
 intro x1 x2 r hF0
 unfold m_spec_l1Word at hF0
 refine AC_i [.t (.sc (.int .i64 r))] Tryz.func214 rfl Tryz.ntmps214 ?_
 intro C hC
 refine awp_seq (awp_region ?_)
 refine s_as ?_
 refine k_nil (k_seq (awp_seq (awp_block ?_)))
 refine awp_fr (β := Int) [1, 5, 6, 7, 8, 9, 10, 11, 12, 13, 14, 15, 16, 17, 18, 19, 20, 21, 22, 23, 24, 25, 26, 27, 28, 29, 30, 31, 32, 33, 34] [] [] (fun a => [(1, .t (.sc (.int .i64 a.2)))]) (fun a => []) (fun a => a.1 ≤ fuel ∧ m_spec_l1Word_l1 a.1 x1 a.2 = some r) (fuel, x2) ⟨Nat.le_refl _, hF0⟩ ?_
 clear hF0
 rintro ⟨fu, g1⟩ ⟨hl2, hF1⟩
 dsimp only at hl2 hF1 ⊢
 obtain _ | fu := fu
 · rw [m_spec_l1Word_l1] at hF1; cases hF1
 rw [m_spec_l1Word_l1] at hF1
 refine awp_seq (awp_seq (awp_region ?_))
 refine s_mv ?_
 refine s_mv ?_
 refine s_lenS yU9 ?_
 refine s_lt ?_
 refine s_mv ?_
 refine w_guard _ 9 hF1 ?_ ?_ <;> intro hc3 hF2
 refine s_mv ?_
 refine s_mv ?_
 obtain ⟨v4, hv4, hF3⟩ := bind_some' hF2
 refine s_ixS hv4 yU9 ?_
 refine s_ne ?_
 refine s_pkt ?_
 refine s_mv ?_
 refine w_guard _ 15 hF3 ?_ ?_ <;> intro hc5 hF4
 refine s_mv ?_
 refine s_mv ?_
 obtain ⟨v6, hv6, hF5⟩ := bind_some' hF4
 refine s_ixS hv6 yU9 ?_
 refine s_ne ?_
 refine s_pkt ?_
 refine s_mv ?_
 refine w_guard _ 21 hF5 ?_ ?_ <;> intro hc7 hF6
 refine s_mv ?_
 refine s_mv ?_
 obtain ⟨v8, hv8, hF7⟩ := bind_some' hF6
 refine s_ixS hv8 yU9 ?_
 refine s_ne ?_
 refine s_pkt ?_
 refine s_mv ?_
 refine w_guard _ 27 hF7 ?_ ?_ <;> intro hc9 hF8
 refine s_mv ?_
 refine s_mv ?_
 obtain ⟨v10, hv10, hF9⟩ := bind_some' hF8
 refine s_ixS hv10 yU9 ?_
 refine s_ne ?_
 refine s_pkt ?_
 refine k_nil (k_seq ?_)
 refine w_cond hF9 ?_ ?_ <;> intro hc11 hF10
 refine awp_skip (k_seq (awp_block (awp_region ?_)))
 refine s_mv ?_
 refine s_add rfl ?_
 refine s_as ?_
 refine k_nil (k_blk ?_)
 exact s_rn (fu, (w64 (g1 + 1))) ⟨by first | omega | (dsimp only; omega), hF10⟩
 refine awp_exit (k_seq_exit (k_rnd_exit2 (k_blk_exit (k_seq (awp_seq (awp_region ?_))))))
 refine s_mv ?_
 refine s_as ?_
 refine k_nil (k_seq (awp_ret (k_fin ?_)))
 cases hF10
 exact ends_a [] [] Tryz.results214
 iterate 4 refine r_no rfl ?_
 refine s_pkf ?_
 refine k_nil (k_seq (awp_false rfl (awp_exit (k_seq_exit (k_rnd_exit2 (k_blk_exit (k_seq (awp_seq (awp_region ?_)))))))))
 refine s_mv ?_
 refine s_as ?_
 refine k_nil (k_seq (awp_ret (k_fin ?_)))
 cases hF8
 exact ends_a [] [] Tryz.results214
 iterate 4 refine r_no rfl ?_
 refine s_pkf ?_
 refine s_mv ?_
 iterate 4 refine r_no rfl ?_
 refine s_pkf ?_
 refine k_nil (k_seq (awp_false rfl (awp_exit (k_seq_exit (k_rnd_exit2 (k_blk_exit (k_seq (awp_seq (awp_region ?_)))))))))
 refine s_mv ?_
 refine s_as ?_
 refine k_nil (k_seq (awp_ret (k_fin ?_)))
 cases hF6
 exact ends_a [] [] Tryz.results214
 iterate 4 refine r_no rfl ?_
 refine s_pkf ?_
 refine s_mv ?_
 iterate 4 refine r_no rfl ?_
 refine s_pkf ?_
 refine s_mv ?_
 iterate 4 refine r_no rfl ?_
 refine s_pkf ?_
 refine k_nil (k_seq (awp_false rfl (awp_exit (k_seq_exit (k_rnd_exit2 (k_blk_exit (k_seq (awp_seq (awp_region ?_)))))))))
 refine s_mv ?_
 refine s_as ?_
 refine k_nil (k_seq (awp_ret (k_fin ?_)))
 cases hF4
 exact ends_a [] [] Tryz.results214
 iterate 4 refine r_no rfl ?_
 refine s_pkf ?_
 refine s_mv ?_
 iterate 4 refine r_no rfl ?_
 refine s_pkf ?_
 refine s_mv ?_
 iterate 4 refine r_no rfl ?_
 refine s_pkf ?_
 refine s_mv ?_
 iterate 4 refine r_no rfl ?_
 refine s_pkf ?_
 refine k_nil (k_seq (awp_false rfl (awp_exit (k_seq_exit (k_rnd_exit2 (k_blk_exit (k_seq (awp_seq (awp_region ?_)))))))))
 refine s_mv ?_
 refine s_as ?_
 refine k_nil (k_seq (awp_ret (k_fin ?_)))
 cases hF2
 exact ends_a [] [] Tryz.results214
def m_spec_l15Num_AC (fuel : Nat) : Prop := ∀ (x1 : ByteArray) (r : (Int × Bool)), m_spec_l15Num fuel x1 = some r → AC Tryz.prog 215 [.t (.sc (.str x1))] noOb (.tp [.t (.sc (.int .i64 r.1)), .t (.sc (.bool r.2))]) noOb
theorem m_spec_l15Num_ok (fuel : Nat) : m_spec_l15Num_AC fuel := by
 intro x1 r hF0
 unfold m_spec_l15Num at hF0
 refine AC_i [.t (.sc (.int .i64 r.1)), .t (.sc (.bool r.2))] Tryz.func215 rfl Tryz.ntmps215 ?_
 intro C hC
 refine awp_seq (awp_region ?_)
 refine s_as ?_
 refine s_as ?_
 refine k_nil (k_seq ?_)
 refine awp_jn (α := Nat × Bool) [4, 7, 8, 9, 10, 11, 12, 13, 14] [] [] (fun a => [(4, .t (.sc (.bool a.2)))]) (fun a => []) (fun a => a.1 ≤ fuel ∧ m_spec_l15Num_j1 a.1 x1 a.2 = some r) ?_ ?_
 refine awp_region ?_
 refine s_mv ?_
 refine s_lenS yU9 ?_
 refine s_gt ?_
 refine s_mv ?_
 refine w_guard _ 10 hF0 ?_ ?_ <;> intro hc1 hF1
 refine s_mv ?_
 obtain ⟨v2, hv2, hF2⟩ := bind_some' hF1
 refine s_ixS hv2 yU9 ?_
 refine s_eq ?_
 refine s_pkt ?_
 refine s_as ?_
 refine k_nil ?_
 exact s_jn (fuel, (decide (v2 = 45))) ⟨by first | omega | (dsimp only; omega), hF2⟩
 iterate 3 refine r_no rfl ?_
 refine s_pkf ?_
 refine s_as ?_
 refine k_nil ?_
 exact s_jn (fuel, false) ⟨by first | omega | (dsimp only; omega), hF1⟩
 clear hF0
 rintro ⟨fu, g3⟩ ⟨hl4, hF1⟩
 dsimp only at hl4 hF1 ⊢
 obtain _ | fu := fu
 · rw [m_spec_l15Num_j1] at hF1; cases hF1
 rw [m_spec_l15Num_j1] at hF1
 refine awp_jn (α := Nat × ByteArray) [0, 15, 16, 17] [] [] (fun a => [(0, .t (.sc (.str a.2)))]) (fun a => []) (fun a => a.1 ≤ fu ∧ m_spec_l15Num_j2 a.1 g3 a.2 = some r) ?_ ?_
 refine awp_seq (awp_region ?_)
 refine s_mv ?_
 refine k_nil (k_seq ?_)
 refine w_cond hF1 ?_ ?_ <;> intro hc5 hF2
 refine awp_region ?_
 refine s_mv ?_
 obtain ⟨v6, hv6, hF3⟩ := bind_some' hF2
 refine s_ss10 hv6 yU9 ?_
 refine s_as ?_
 refine k_nil ?_
 exact s_jn (fu, v6) ⟨by first | omega | (dsimp only; omega), hF3⟩
 refine awp_skip ?_
 exact s_jn (fu, x1) ⟨by first | omega | (dsimp only; omega), hF2⟩
 clear hF1
 rintro ⟨fu, g7⟩ ⟨hl8, hF2⟩
 dsimp only at hl8 hF2 ⊢
 obtain _ | fu := fu
 · rw [m_spec_l15Num_j2] at hF2; cases hF2
 rw [m_spec_l15Num_j2] at hF2
 refine awp_jn (α := Nat) [2, 3, 18, 19, 20, 21, 22, 23, 24, 25, 26, 27, 28, 29, 30, 31, 32, 33, 34, 35, 36, 37, 38] [] [] (fun a => []) (fun a => []) (fun a => a ≤ fu ∧ m_spec_l15Num_j3 a g3 g7  = some r) ?_ ?_
 refine awp_seq (awp_region ?_)
 refine s_mv ?_
 refine s_lenS yU9 ?_
 refine s_eq ?_
 refine s_mv ?_
 refine w_guard _ 21 hF2 ?_ ?_ <;> intro hc9 hF3
 iterate 3 refine r_no rfl ?_
 refine s_pkt ?_
 refine s_mv ?_
 iterate 11 refine r_no rfl ?_
 refine s_pkt ?_
 refine k_nil (k_seq (awp_true rfl (awp_seq (awp_region ?_))))
 refine s_as ?_
 refine s_as ?_
 refine k_nil (k_seq (awp_ret (k_jn_ret (k_fin ?_))))
 cases hF3
 exact ends_a [] [] Tryz.results215
 refine s_mv ?_
 refine s_lenS yU9 ?_
 refine s_gt ?_
 refine s_pkf ?_
 refine s_mv ?_
 refine w_guard _ 26 hF3 ?_ ?_ <;> intro hc10 hF4
 iterate 11 refine r_no rfl ?_
 refine s_pkt ?_
 refine k_nil (k_seq (awp_true rfl (awp_seq (awp_region ?_))))
 refine s_as ?_
 refine s_as ?_
 refine k_nil (k_seq (awp_ret (k_jn_ret (k_fin ?_))))
 cases hF4
 exact ends_a [] [] Tryz.results215
 refine s_mv ?_
 obtain ⟨v11, hv11, hF5⟩ := bind_some' hF4
 refine s_ixS hv11 yU9 ?_
 refine s_eq ?_
 refine s_mv ?_
 refine w_guard _ 30 hF5 ?_ ?_ <;> intro hc12 hF6
 refine s_mv ?_
 refine s_lenS yU9 ?_
 refine s_gt ?_
 refine s_mv ?_
 refine w_guard _ 34 hF6 ?_ ?_ <;> intro hc13 hF7
 refine r_no rfl ?_
 refine s_pkt ?_
 refine s_pkt ?_
 refine s_pkf ?_
 refine k_nil (k_seq (awp_true rfl (awp_seq (awp_region ?_))))
 refine s_as ?_
 refine s_as ?_
 refine k_nil (k_seq (awp_ret (k_jn_ret (k_fin ?_))))
 cases hF7
 exact ends_a [] [] Tryz.results215
 refine s_mv ?_
 refine s_pkf ?_
 refine s_pkt ?_
 refine s_pkf ?_
 refine k_nil (k_seq ?_)
 refine w_cond hF7 ?_ ?_ <;> intro hc14 hF8
 refine awp_seq (awp_region ?_)
 refine s_as ?_
 refine s_as ?_
 refine k_nil (k_seq (awp_ret (k_jn_ret (k_fin ?_))))
 cases hF8
 exact ends_a [] [] Tryz.results215
 refine awp_skip ?_
 exact s_jn (fu) ⟨by first | omega | (dsimp only; omega), hF8⟩
 iterate 6 refine r_no rfl ?_
 refine s_pkf ?_
 refine s_pkf ?_
 refine k_nil (k_seq (awp_false rfl (awp_skip ?_)))
 exact s_jn (fu) ⟨by first | omega | (dsimp only; omega), hF6⟩
 clear hF2
 rintro fu ⟨hl15, hF3⟩
 obtain _ | fu := fu
 · rw [m_spec_l15Num_j3] at hF3; cases hF3
 rw [m_spec_l15Num_j3] at hF3
 refine awp_seq (awp_region ?_)
 refine s_as ?_
 refine k_nil (k_seq (awp_seq (awp_seq (awp_region ?_))))
 refine s_as ?_
 refine k_nil (k_seq (awp_block ?_))
 refine awp_fr (β := Int × Int) [2, 3, 5, 6, 39, 40, 41, 42, 43, 44, 45, 46, 47, 48, 49, 50, 51, 52, 53, 54, 55, 56, 57, 58, 59, 60, 61, 62] [] [] (fun a => [(5, .t (.sc (.int .i64 a.2.1))), (6, .t (.sc (.int .i64 a.2.2)))]) (fun a => []) (fun a => a.1 ≤ fu ∧ m_spec_l15Num_l4 a.1 g3 g7 a.2.1 a.2.2 = some r) (fu, 0, 0) ⟨Nat.le_refl _, hF3⟩ ?_
 clear hF3
 rintro ⟨fu, g16, g17⟩ ⟨hl18, hF4⟩
 dsimp only at hl18 hF4 ⊢
 obtain _ | fu := fu
 · rw [m_spec_l15Num_l4] at hF4; cases hF4
 rw [m_spec_l15Num_l4] at hF4
 refine awp_seq (awp_seq (awp_region ?_))
 refine s_mv ?_
 refine s_mv ?_
 refine s_lenS yU9 ?_
 refine s_lt ?_
 refine k_nil (k_seq ?_)
 refine w_cond hF4 ?_ ?_ <;> intro hc19 hF5
 refine awp_skip (k_seq (awp_seq (awp_block (awp_seq ?_))))
 refine awp_jn (α := Nat × Bool) [45, 46, 47, 48, 49, 50, 51, 52, 53, 54] [] [] (fun a => [(54, .t (.sc (.bool a.2)))]) (fun a => []) (fun a => a.1 ≤ fu ∧ m_spec_l15Num_j5 a.1 g3 g7 g16 g17 a.2 = some r) ?_ ?_
 refine awp_region ?_
 refine s_mv ?_
 refine s_mv ?_
 obtain ⟨v20, hv20, hF6⟩ := bind_some' hF5
 refine s_ixS hv20 yU9 ?_
 refine s_lt ?_
 refine s_mv ?_
 refine w_guard _ 49 hF6 ?_ ?_ <;> intro hc21 hF7
 iterate 4 refine r_no rfl ?_
 refine s_pkt ?_
 refine k_nil ?_
 exact s_jn (fu, true) ⟨by first | omega | (dsimp only; omega), hF7⟩
 refine s_mv ?_
 refine s_mv ?_
 obtain ⟨v22, hv22, hF8⟩ := bind_some' hF7
 refine s_ixS hv22 yU9 ?_
 refine s_gt ?_
 refine s_pkf ?_
 refine k_nil ?_
 exact s_jn (fu, (decide (57 < v22))) ⟨by first | omega | (dsimp only; omega), hF8⟩
 clear hF5
 rintro ⟨fu, g23⟩ ⟨hl24, hF6⟩
 dsimp only at hl24 hF6 ⊢
 obtain _ | fu := fu
 · rw [m_spec_l15Num_j5] at hF6; cases hF6
 rw [m_spec_l15Num_j5] at hF6
 refine w_cond hF6 ?_ ?_ <;> intro hc25 hF7
 refine awp_seq (awp_region ?_)
 refine s_as ?_
 refine s_as ?_
 refine k_nil (k_seq (awp_ret (k_seq_ret (k_blk_ret (k_seq_ret (k_rnd_ret2 (k_blk_ret (k_seq_ret (k_fin ?_)))))))))
 cases hF7
 exact ends_a [] [] Tryz.results215
 refine awp_skip (k_seq (awp_region ?_))
 refine s_mv ?_
 refine s_mul rfl ?_
 refine s_mv ?_
 refine s_mv ?_
 obtain ⟨v26, hv26, hF8⟩ := bind_some' hF7
 refine s_ixS hv26 yU9 ?_
 refine s_sub rfl ?_
 refine s_int yU5 yU3 rfl ?_
 refine s_add rfl ?_
 refine s_as ?_
 refine k_nil (k_blk (k_seq (awp_region ?_)))
 refine s_mv ?_
 refine s_add rfl ?_
 refine s_as ?_
 refine k_nil ?_
 exact s_rn (fu, (w64 ((w64 (g16 * 10)) + (w64 (w8 (v26 - 48))))), (w64 (g17 + 1))) ⟨by first | omega | (dsimp only; omega), hF8⟩
 refine awp_exit (k_seq_exit (k_rnd_exit2 (k_blk_exit (k_seq (awp_seq (awp_seq (awp_region ?_)))))))
 refine s_mv ?_
 refine k_nil (k_seq ?_)
 refine w_cond hF5 ?_ ?_ <;> intro hc27 hF6
 refine awp_region ?_
 refine s_mv ?_
 refine s_neg rfl ?_
 refine s_as ?_
 refine k_nil (k_seq (awp_seq (awp_region ?_)))
 refine s_mv ?_
 refine s_as ?_
 refine s_as ?_
 refine k_nil (k_seq (awp_ret (k_fin ?_)))
 cases hF6
 exact ends_a [] [] Tryz.results215
 refine awp_skip (k_seq (awp_seq (awp_region ?_)))
 refine s_mv ?_
 refine s_as ?_
 refine s_as ?_
 refine k_nil (k_seq (awp_ret (k_fin ?_)))
 cases hF6
 exact ends_a [] [] Tryz.results215
def m_spec_l15Cut_AC (fuel : Nat) : Prop := ∀ (x1 : ByteArray) (x2 : Int) (r : (List ByteArray)), m_spec_l15Cut fuel x1 x2 = some r → AC Tryz.prog 220 [.t (.sc (.str x1)), .t (.sc (.int .u8 x2))] noOb (.t (.sl (r.map rS))) noOb
theorem m_spec_l15Cut_ok (fuel : Nat) : m_spec_l15Cut_AC fuel := by
 intro x1 x2 r hF0
 unfold m_spec_l15Cut at hF0
 refine AC_i [.t (.sl (r.map rS))] Tryz.func220 rfl Tryz.ntmps220 ?_
 intro C hC
 refine awp_seq (awp_region ?_)
 refine s_as ?_
 refine k_nil (k_seq (awp_seq (awp_region ?_)))
 refine s_bs rS ([] : List ByteArray) yP36 yR9 ?_
 refine s_as ?_
 refine k_nil (k_seq (awp_seq (awp_region ?_)))
 refine s_as ?_
 refine k_nil (k_seq (awp_seq (awp_seq (awp_region ?_))))
 refine s_as ?_
 refine k_nil (k_seq (awp_block ?_))
 refine awp_mv 5 8 5020 (by conv => lhs; whnf) (by conv => lhs; whnf) rfl ?_
 refine awp_frame2 [5, 6, 7, 9, 10, 11, 12, 13, 14, 15, 16, 17, 18, 19, 20, 21, 22, 23, 24, 25, 26, 27, 28, 29, 30, 31, 32, 33, 34] [5020] [31, 32] [5020] (fun a : Nat × (List ByteArray) × Int × Int => a.1) (fun a : Nat × (List ByteArray) × Int × Int => [(5, .ar 5020), (6, .t (.sc (.int .i64 a.2.2.1))), (7, .t (.sc (.int .i64 a.2.2.2)))]) (fun a : Nat × (List ByteArray) × Int × Int => [(5020, .arr (a.2.1.map rS) 9 true)]) (fun a : Nat × (List ByteArray) × Int × Int => a.1 ≤ fuel ∧ m_spec_l15Cut_l1 a.1 x1 x2 a.2.1 a.2.2.1 a.2.2.2 = some r) (fuel, ([] : List ByteArray), 0, 0) ⟨Nat.le_refl _, hF0⟩ (by rfl) (by rfl) (fun _ => rfl) (hasF_cons (by conv => lhs; whnf) (by rfl) (hasF_cons (by conv => lhs; whnf) (by rfl) (hasF_cons (by conv => lhs; whnf) (by rfl) hasF_nil))) (hasO_cons (by conv => lhs; whnf) (by rfl) hasO_nil) (fresh_C hC rfl) (by repeat (first | exact freshS_args rfl | refine freshS_upd rfl ?_ | refine freshS_frame rfl ?_)) (by repeat (first | exact freshM_no | exact objs_fresh rfl | refine freshM_upd rfl ?_ | refine freshM_frame rfl ?_)) ?_
 clear hF0
 rintro ⟨fu, g1, g2, g3⟩ ⟨hl4, hF1⟩
 dsimp only at hl4 hF1 ⊢
 obtain _ | fu := fu
 · rw [m_spec_l15Cut_l1] at hF1; cases hF1
 rw [m_spec_l15Cut_l1] at hF1
 refine awp_seq (awp_seq (awp_region ?_))
 refine s_mv ?_
 refine s_mv ?_
 refine s_lenS yU9 ?_
 refine s_le ?_
 refine k_nil (k_seq ?_)
 refine w_cond hF1 ?_ ?_ <;> intro hc5 hF2
 refine awp_skip (k_seq (awp_seq (awp_block ?_)))
 refine awp_jn (α := Nat × Bool) [15, 16, 17, 18, 19, 20, 21, 22, 23, 24, 25] [] [] (fun a => [(25, .t (.sc (.bool a.2)))]) (fun a => []) (fun a => a.1 ≤ fu ∧ m_spec_l15Cut_j2 a.1 x1 x2 g1 g2 g3 a.2 = some r) ?_ ?_
 refine awp_region ?_
 refine s_mv ?_
 refine s_mv ?_
 refine s_lenS yU9 ?_
 refine s_eq ?_
 refine s_mv ?_
 refine w_guard _ 19 hF2 ?_ ?_ <;> intro hc6 hF3
 iterate 5 refine r_no rfl ?_
 refine s_pkt ?_
 refine k_nil ?_
 exact s_jn (fu, true) ⟨by first | omega | (dsimp only; omega), hF3⟩
 refine s_mv ?_
 refine s_mv ?_
 obtain ⟨v7, hv7, hF4⟩ := bind_some' hF3
 refine s_ixS hv7 yU9 ?_
 refine s_mv ?_
 refine s_eq ?_
 refine s_pkf ?_
 refine k_nil ?_
 exact s_jn (fu, (decide (v7 = x2))) ⟨by first | omega | (dsimp only; omega), hF4⟩
 clear hF2
 rintro ⟨fu, g8⟩ ⟨hl9, hF3⟩
 dsimp only at hl9 hF3 ⊢
 obtain _ | fu := fu
 · rw [m_spec_l15Cut_j2] at hF3; cases hF3
 rw [m_spec_l15Cut_j2] at hF3
 refine w_cond hF3 ?_ ?_ <;> intro hc10 hF4
 refine awp_seq (awp_region ?_)
 iterate 4 refine s_mv ?_
 obtain ⟨v11, hv11, hF5⟩ := bind_some' hF4
 refine s_ss11 hv11 yU9 ?_
 refine s_bs rS [v11] yP36 yR9 ?_
 obtain ⟨hk12, hF6⟩ := chk_some hF5
 refine s_apT rS (fun _ => rfl) hk12 yP36 ?_
 refine s_as ?_
 refine k_nil (k_seq (awp_region ?_))
 refine s_mv ?_
 refine s_add rfl ?_
 refine s_as ?_
 refine k_nil (k_blk (k_seq (awp_region ?_)))
 refine s_mv ?_
 refine s_add rfl ?_
 refine s_as ?_
 refine k_nil ?_
 exact s_rn (fu, (g1 ++ [v11]), (w64 (g3 + 1)), (w64 (g3 + 1))) ⟨by first | omega | (dsimp only; omega), hF6⟩ [(5020, 32)]
 refine awp_skip (k_blk (k_seq (awp_region ?_)))
 refine s_mv ?_
 refine s_add rfl ?_
 refine s_as ?_
 refine k_nil ?_
 exact s_rn (fu, g1, g2, (w64 (g3 + 1))) ⟨by first | omega | (dsimp only; omega), hF4⟩
 refine awp_exit (k_seq_exit (k_rnd_exit2 (k_blk_exit (k_seq (awp_seq (awp_region ?_))))))
 refine s_mv ?_
 refine s_as ?_
 refine k_nil (k_seq (awp_ret (k_fin ?_)))
 cases hF2
 exact ends_a [] [5020] Tryz.results220
def m_spec_l1Sets_AC (fuel : Nat) : Prop := ∀ (x1 : ByteArray) (x2 : Int) (r : ((List Int) × Int)), m_spec_l1Sets fuel x1 x2 = some r → AC Tryz.prog 216 [.t (.sc (.str x1)), .t (.sc (.int .i64 x2))] noOb (.tp [.t (.sl (r.1.map rI)), .t (.sc (.int .i64 r.2))]) noOb
theorem m_spec_l1Sets_ok (fuel : Nat) : m_spec_l1Sets_AC fuel := by
 intro x1 x2 r hF0
 unfold m_spec_l1Sets at hF0
 refine AC_i [.t (.sl (r.1.map rI)), .t (.sc (.int .i64 r.2))] Tryz.func216 rfl Tryz.ntmps216 ?_
 intro C hC
 refine awp_seq (awp_region ?_)
 refine s_as ?_
 refine s_as ?_
 refine k_nil (k_seq (awp_seq (awp_region ?_)))
 refine s_bs rI ([] : List Int) yP24 yR3 ?_
 refine s_as ?_
 refine k_nil (k_seq (awp_seq ?_))
 refine awp_jn (α := Nat × Bool) [13, 14, 15, 16, 17, 18, 19, 20, 21, 22] [] [] (fun a => [(22, .t (.sc (.bool a.2)))]) (fun a => []) (fun a => a.1 ≤ fuel ∧ m_spec_l1Sets_j1 a.1 x1 x2 a.2 = some r) ?_ ?_
 refine awp_region ?_
 refine s_mv ?_
 refine s_mv ?_
 refine s_lenS yU9 ?_
 refine s_ge ?_
 refine s_mv ?_
 refine w_guard _ 17 hF0 ?_ ?_ <;> intro hc1 hF1
 iterate 4 refine r_no rfl ?_
 refine s_pkt ?_
 refine k_nil ?_
 exact s_jn (fuel, true) ⟨by first | omega | (dsimp only; omega), hF1⟩
 refine s_mv ?_
 refine s_mv ?_
 obtain ⟨v2, hv2, hF2⟩ := bind_some' hF1
 refine s_ixS hv2 yU9 ?_
 refine s_ne ?_
 refine s_pkf ?_
 refine k_nil ?_
 exact s_jn (fuel, (decide (v2 ≠ 123))) ⟨by first | omega | (dsimp only; omega), hF2⟩
 clear hF0
 rintro ⟨fu, g3⟩ ⟨hl4, hF1⟩
 dsimp only at hl4 hF1 ⊢
 obtain _ | fu := fu
 · rw [m_spec_l1Sets_j1] at hF1; cases hF1
 rw [m_spec_l1Sets_j1] at hF1
 refine w_cond hF1 ?_ ?_ <;> intro hc5 hF2
 refine awp_seq (awp_region ?_)
 refine s_mv ?_
 refine s_mv ?_
 refine s_as ?_
 refine s_as ?_
 refine k_nil (k_seq (awp_ret (k_seq_ret (k_fin ?_))))
 cases hF2
 exact ends_a [] [12] Tryz.results216
 refine awp_skip (k_seq (awp_seq (awp_region ?_)))
 refine s_mv ?_
 refine s_as ?_
 refine k_nil (k_seq ?_)
 refine awp_jn (α := Nat × Int) [7, 26, 27, 28, 29, 30, 31, 32, 33, 34, 35, 36, 37] [] [] (fun a => [(7, .t (.sc (.int .i64 a.2)))]) (fun a => []) (fun a => a.1 ≤ fu ∧ m_spec_l1Sets_j2 a.1 x1 x2 a.2 = some r) ?_ ?_
 refine awp_block ?_
 refine awp_fr (β := Int) [7, 26, 27, 28, 29, 30, 31, 32, 33, 34, 35, 36, 37] [] [] (fun a => [(7, .t (.sc (.int .i64 a.2)))]) (fun a => []) (fun a => a.1 ≤ fu ∧ m_spec_l1Sets_l3 a.1 x1 x2 a.2 = some r) (fu, x2) ⟨Nat.le_refl _, hF2⟩ ?_
 clear hF2
 rintro ⟨fu, g6⟩ ⟨hl7, hF3⟩
 dsimp only at hl7 hF3 ⊢
 obtain _ | fu := fu
 · rw [m_spec_l1Sets_l3] at hF3; cases hF3
 rw [m_spec_l1Sets_l3] at hF3
 refine awp_seq (awp_seq (awp_region ?_))
 refine s_mv ?_
 refine s_mv ?_
 refine s_lenS yU9 ?_
 refine s_lt ?_
 refine s_mv ?_
 refine w_guard _ 30 hF3 ?_ ?_ <;> intro hc8 hF4
 refine s_mv ?_
 refine s_mv ?_
 obtain ⟨v9, hv9, hF5⟩ := bind_some' hF4
 refine s_ixS hv9 yU9 ?_
 refine s_ne ?_
 refine s_pkt ?_
 refine k_nil (k_seq ?_)
 refine w_cond hF5 ?_ ?_ <;> intro hc10 hF6
 refine awp_skip (k_seq (awp_block (awp_region ?_)))
 refine s_mv ?_
 refine s_add rfl ?_
 refine s_as ?_
 refine k_nil (k_blk ?_)
 exact s_rn (fu, (w64 (g6 + 1))) ⟨by first | omega | (dsimp only; omega), hF6⟩
 refine awp_exit (k_seq_exit (k_rnd_exit2 (k_blk_exit ?_)))
 exact s_jn (fu, g6) ⟨by first | omega | (dsimp only; omega), hF6⟩
 iterate 4 refine r_no rfl ?_
 refine s_pkf ?_
 refine k_nil (k_seq (awp_false rfl (awp_exit (k_seq_exit (k_rnd_exit2 (k_blk_exit ?_))))))
 exact s_jn (fu, g6) ⟨by first | omega | (dsimp only; omega), hF4⟩
 clear hF2
 rintro ⟨fu, g11⟩ ⟨hl12, hF3⟩
 dsimp only at hl12 hF3 ⊢
 obtain _ | fu := fu
 · rw [m_spec_l1Sets_j2] at hF3; cases hF3
 rw [m_spec_l1Sets_j2] at hF3
 refine awp_seq (awp_seq (awp_region ?_))
 refine s_mv ?_
 refine s_mv ?_
 refine s_lenS yU9 ?_
 refine s_eq ?_
 refine k_nil (k_seq ?_)
 refine w_cond hF3 ?_ ?_ <;> intro hc13 hF4
 refine awp_seq (awp_region ?_)
 refine s_mv ?_
 refine s_as ?_
 refine s_as ?_
 refine k_nil (k_seq (awp_ret (k_seq_ret (k_fin ?_))))
 cases hF4
 exact ends_a [] [12] Tryz.results216
 refine awp_skip (k_seq (awp_seq (awp_region ?_)))
 refine s_mv ?_
 refine s_mv ?_
 refine s_add rfl ?_
 refine s_mv ?_
 obtain ⟨v14, hv14, hF5⟩ := bind_some' hF4
 refine s_ss11 hv14 yU9 ?_
 obtain ⟨v15, hv15, hF6⟩ := bind_some' hF5
 refine s_pure [] (m_spec_l15Cut_ok fu _ _ _ hv15) ?_
 refine s_as ?_
 refine k_nil (k_seq (awp_seq (awp_seq (awp_region ?_))))
 refine s_as ?_
 refine k_nil (k_seq (awp_block ?_))
 refine awp_mv 6 12 5080 (by conv => lhs; whnf) (by conv => lhs; whnf) rfl ?_
 refine awp_frame2 [4, 5, 6, 9, 10, 11, 49, 50, 51, 52, 53, 54, 55, 56, 57, 58, 59, 60, 61, 62, 63, 64, 65, 66, 67, 68, 69, 70, 71, 72, 73] [5080] [72, 73] [5080] (fun a : Nat × (List Int) × Int => a.1) (fun a : Nat × (List Int) × Int => [(6, .ar 5080), (9, .t (.sc (.int .i64 a.2.2)))]) (fun a : Nat × (List Int) × Int => [(5080, .arr (a.2.1.map rI) 3 true)]) (fun a : Nat × (List Int) × Int => a.1 ≤ fu ∧ m_spec_l1Sets_l4 a.1 g11 v15 a.2.1 a.2.2 = some r) (fu, ([] : List Int), 0) ⟨Nat.le_refl _, hF6⟩ (by rfl) (by rfl) (fun _ => rfl) (hasF_cons (by conv => lhs; whnf) (by rfl) (hasF_cons (by conv => lhs; whnf) (by rfl) hasF_nil)) (hasO_cons (by conv => lhs; whnf) (by rfl) hasO_nil) (fresh_C hC rfl) (by repeat (first | exact freshS_args rfl | refine freshS_upd rfl ?_ | refine freshS_frame rfl ?_)) (by repeat (first | exact freshM_no | exact objs_fresh rfl | refine freshM_upd rfl ?_ | refine freshM_frame rfl ?_)) ?_
 clear hF6
 rintro ⟨fu, g16, g17⟩ ⟨hl18, hF7⟩
 dsimp only at hl18 hF7 ⊢
 obtain _ | fu := fu
 · rw [m_spec_l1Sets_l4] at hF7; cases hF7
 rw [m_spec_l1Sets_l4] at hF7
 refine awp_seq ?_
 refine awp_jn (α := Nat × Bool) [49, 50, 51, 52, 53, 54, 55, 56] [] [] (fun a => [(56, .t (.sc (.bool a.2)))]) (fun a => []) (fun a => a.1 ≤ fu ∧ m_spec_l1Sets_j5 a.1 g11 v15 g16 g17 a.2 = some r) ?_ ?_
 refine awp_region ?_
 refine s_mv ?_
 refine s_mv ?_
 refine s_lenT yU36 ?_
 refine s_lt ?_
 refine s_mv ?_
 refine w_guard _ 53 hF7 ?_ ?_ <;> intro hc19 hF8
 refine s_mv ?_
 refine s_le ?_
 refine s_pkt ?_
 refine k_nil ?_
 exact s_jn (fu, (decide (g17 ≤ 24))) ⟨by first | omega | (dsimp only; omega), hF8⟩
 refine r_no rfl (r_no rfl ?_)
 refine s_pkf ?_
 refine k_nil ?_
 exact s_jn (fu, false) ⟨by first | omega | (dsimp only; omega), hF8⟩
 clear hF7
 rintro ⟨fu, g20⟩ ⟨hl21, hF8⟩
 dsimp only at hl21 hF8 ⊢
 obtain _ | fu := fu
 · rw [m_spec_l1Sets_j5] at hF8; cases hF8
 rw [m_spec_l1Sets_j5] at hF8
 refine w_cond hF8 ?_ ?_ <;> intro hc22 hF9
 refine awp_skip (k_seq (awp_seq (awp_block (awp_seq (awp_region ?_)))))
 refine s_mv ?_
 refine s_mv ?_
 obtain ⟨v23, hv23, hF10⟩ := bind_some' hF9
 refine s_ixT rS hv23 rfl yE36 ?_
 refine s_ld1 yA9 ?_
 obtain ⟨v24, hv24, hF11⟩ := bind_some' hF10
 refine s_pure [] (m_spec_l15Num_ok fu _ _ hv24) ?_
 refine s_mv ?_
 refine s_ext ?_
 refine s_ext ?_
 refine s_as ?_
 refine s_as ?_
 refine k_nil (k_seq (awp_seq (awp_seq (awp_region ?_))))
 refine s_mv ?_
 refine s_not ?_
 refine k_nil (k_seq ?_)
 refine w_cond hF11 ?_ ?_ <;> intro hc25 hF12
 refine awp_seq (awp_region ?_)
 refine s_mv ?_
 refine s_as ?_
 refine s_as ?_
 refine k_nil (k_seq (awp_ret (k_seq_ret (k_blk_ret (k_seq_ret (k_rnd_ret2 (k_blk_ret (k_seq_ret (k_fin ?_)))))))))
 cases hF12
 exact ends_a [] [5080] Tryz.results216
 refine awp_skip (k_seq (awp_region ?_))
 refine s_mv ?_
 refine s_mv ?_
 refine s_bs rI [v24.1] yP24 yR3 ?_
 obtain ⟨hk26, hF13⟩ := chk_some hF12
 refine s_apT rI (fun _ => rfl) hk26 yP24 ?_
 refine s_as ?_
 refine k_nil (k_blk (k_seq (awp_region ?_)))
 refine s_mv ?_
 refine s_add rfl ?_
 refine s_as ?_
 refine k_nil ?_
 exact s_rn (fu, (g16 ++ [v24.1]), (w64 (g17 + 1))) ⟨by first | omega | (dsimp only; omega), hF13⟩ [(5080, 73)]
 refine awp_exit (k_seq_exit (k_rnd_exit2 (k_blk_exit (k_seq (awp_seq (awp_region ?_))))))
 refine s_mv ?_
 refine s_mv ?_
 refine s_add rfl ?_
 refine s_as ?_
 refine s_as ?_
 refine k_nil (k_seq (awp_ret (k_fin ?_)))
 cases hF9
 exact ends_a [] [5080] Tryz.results216
def m_spec_l1Atom_AC (fuel : Nat) : Prop := ∀ (x1 : ByteArray) (x2 : Int) (r : (Form × Int)), m_spec_l1Atom fuel x1 x2 = some r → AC Tryz.prog 207 [.t (.sc (.str x1)), .t (.sc (.int .i64 x2))] noOb (.tp [.ag [.t (.sc (.int .i64 r.1.kind)), .t (.sc (.str r.1.name)), .t (.sc (.int .i64 r.1.n)), .t (.sl (r.1.scopes.map rI)), .t (.sl (r.1.kids.map Form.row))], .t (.sc (.int .i64 r.2))]) noOb
theorem m_spec_l1Atom_ok (fuel : Nat) : m_spec_l1Atom_AC fuel := by
 intro x1 x2 r hF0
 unfold m_spec_l1Atom at hF0
 refine AC_i [.ag [.t (.sc (.int .i64 r.1.kind)), .t (.sc (.str r.1.name)), .t (.sc (.int .i64 r.1.n)), .t (.sl (r.1.scopes.map rI)), .t (.sl (r.1.kids.map Form.row))], .t (.sc (.int .i64 r.2))] Tryz.func207 rfl Tryz.ntmps207 ?_
 intro C hC
 refine awp_seq (awp_region ?_)
 refine s_alloc yZ27 ?_
 refine s_as ?_
 refine k_nil (k_seq (awp_seq (awp_region ?_)))
 refine s_mv ?_
 refine s_mv ?_
 obtain ⟨v1, hv1, hF1⟩ := bind_some' hF0
 refine s_pure [] (m_spec_l1Word_ok fuel _ _ _ hv1) ?_
 refine s_as ?_
 refine k_nil (k_seq (awp_seq (awp_region ?_)))
 iterate 3 refine s_mv ?_
 obtain ⟨v2, hv2, hF2⟩ := bind_some' hF1
 refine s_ss11 hv2 yU9 ?_
 refine s_as ?_
 refine k_nil (k_seq (awp_seq (awp_region ?_)))
 refine s_mv ?_
 obtain ⟨v3, hv3, hF3⟩ := bind_some' hF2
 refine s_pure [] (m_spec_l15Num_ok fuel _ _ hv3) ?_
 refine s_mv ?_
 refine s_ext ?_
 refine s_ext ?_
 refine s_as ?_
 refine s_as ?_
 refine k_nil (k_seq (awp_seq (awp_seq (awp_region ?_))))
 refine s_mv ?_
 refine k_nil (k_seq ?_)
 refine w_cond hF3 ?_ ?_ <;> intro hc4 hF4
 refine awp_seq (awp_region ?_)
 refine s_mv ?_
 refine s_bld yZ27 yL27 ?_
 refine s_mv ?_
 refine s_stW yS27 ?_
 refine s_as ?_
 refine k_nil (k_seq (awp_ret (k_seq_ret (k_fin ?_))))
 cases hF4
 exact ends_gen [] [] (by rw [Tryz.results207]; exact (res_agg (by conv => lhs; whnf) (by conv => lhs; whnf) yA27 yS27 rfl (res_tmp (by conv => lhs; whnf) res_nil)))
 refine awp_skip (k_seq (awp_seq (awp_seq (awp_region ?_))))
 refine s_mv ?_
 refine s_eqS ?_
 refine k_nil (k_seq ?_)
 refine w_cond hF4 ?_ ?_ <;> intro hc5 hF5
 refine awp_seq (awp_region ?_)
 refine s_bld yZ27 yL27 ?_
 refine s_stW yS27 ?_
 refine s_as ?_
 refine k_nil (k_seq (awp_ret (k_seq_ret (k_fin ?_))))
 cases hF5
 exact ends_gen [] [] (by rw [Tryz.results207]; exact (res_agg (by conv => lhs; whnf) (by conv => lhs; whnf) yA27 yS27 rfl (res_tmp (by conv => lhs; whnf) res_nil)))
 refine awp_skip (k_seq (awp_seq (awp_region ?_)))
 refine s_mv ?_
 refine s_mv ?_
 obtain ⟨v6, hv6, hF6⟩ := bind_some' hF5
 refine s_pure [] (m_spec_l1Sets_ok fuel _ _ _ hv6) ?_
 refine s_mv ?_
 refine s_ext ?_
 refine s_ext ?_
 refine s_as ?_
 refine s_as ?_
 refine k_nil (k_seq (awp_seq (awp_region ?_)))
 refine s_mv ?_
 refine s_mv ?_
 refine s_bld yZ27 yL27 ?_
 refine s_mv ?_
 refine s_stW yS27 ?_
 refine s_as ?_
 refine k_nil (k_seq (awp_ret (k_fin ?_)))
 cases hF6
 exact ends_gen [] [] (by rw [Tryz.results207]; exact (res_agg (by conv => lhs; whnf) (by conv => lhs; whnf) yA27 yS27 rfl (res_tmp (by conv => lhs; whnf) res_nil)))
def m_spec_l1Read_AC (fuel : Nat) : Prop := ∀ (x1 : ByteArray) (x2 : Int) (x3 : Int) (r : (Form × Int)), m_spec_l1Read fuel x1 x2 x3 = some r → AC Tryz.prog 198 [.t (.sc (.str x1)), .t (.sc (.int .i64 x2)), .t (.sc (.int .i64 x3))] noOb (.tp [.ag [.t (.sc (.int .i64 r.1.kind)), .t (.sc (.str r.1.name)), .t (.sc (.int .i64 r.1.n)), .t (.sl (r.1.scopes.map rI)), .t (.sl (r.1.kids.map Form.row))], .t (.sc (.int .i64 r.2))]) noOb
theorem m_spec_l1Read_st (fu : Nat) (ih_m_spec_l1Read : ∀ k, k ≤ fu → m_spec_l1Read_AC k) : m_spec_l1Read_AC (fu + 1) := by
 intro x1 x2 x3 r hF0
 rw [m_spec_l1Read] at hF0
 refine AC_i [.ag [.t (.sc (.int .i64 r.1.kind)), .t (.sc (.str r.1.name)), .t (.sc (.int .i64 r.1.n)), .t (.sl (r.1.scopes.map rI)), .t (.sl (r.1.kids.map Form.row))], .t (.sc (.int .i64 r.2))] Tryz.func198 rfl Tryz.ntmps198 ?_
 intro C hC
 refine awp_seq (awp_region ?_)
 refine s_alloc yZ27 ?_
 refine s_as ?_
 refine k_nil (k_seq (awp_seq (awp_region ?_)))
 refine s_mv ?_
 refine s_mv ?_
 obtain ⟨v1, hv1, hF1⟩ := bind_some' hF0
 refine s_pure [] (m_spec_l1Skip_ok fu _ _ _ hv1) ?_
 refine s_as ?_
 refine k_nil (k_seq (awp_seq ?_))
 refine awp_jn (α := Nat × Bool) [14, 15, 16, 17, 18, 19, 20, 21] [] [] (fun a => [(21, .t (.sc (.bool a.2)))]) (fun a => []) (fun a => a.1 ≤ fu ∧ m_spec_l1Read_j1 a.1 x1 x3 v1 a.2 = some r) ?_ ?_
 refine awp_region ?_
 refine s_mv ?_
 refine s_mv ?_
 refine s_lenS yU9 ?_
 refine s_ge ?_
 refine s_mv ?_
 refine w_guard _ 18 hF1 ?_ ?_ <;> intro hc2 hF2
 refine r_no rfl (r_no rfl ?_)
 refine s_pkt ?_
 refine k_nil ?_
 exact s_jn (fu, true) ⟨by first | omega | (dsimp only; omega), hF2⟩
 refine s_mv ?_
 refine s_eq ?_
 refine s_pkf ?_
 refine k_nil ?_
 exact s_jn (fu, (decide (x3 = 0))) ⟨by first | omega | (dsimp only; omega), hF2⟩
 clear hF1
 rintro ⟨fu, g3⟩ ⟨hl4, hF2⟩
 dsimp only at hl4 hF2 ⊢
 obtain _ | fu := fu
 · rw [m_spec_l1Read_j1] at hF2; cases hF2
 rw [m_spec_l1Read_j1] at hF2
 refine w_cond hF2 ?_ ?_ <;> intro hc5 hF3
 refine awp_seq (awp_region ?_)
 refine s_bld yZ27 yL27 ?_
 refine s_stW yS27 ?_
 refine s_as ?_
 refine k_nil (k_seq (awp_ret (k_seq_ret (k_fin ?_))))
 cases hF3
 exact ends_gen [] [] (by rw [Tryz.results198]; exact (res_agg (by conv => lhs; whnf) (by conv => lhs; whnf) yA27 yS27 rfl (res_tmp (by conv => lhs; whnf) res_nil)))
 refine awp_skip (k_seq (awp_seq (awp_seq (awp_region ?_))))
 refine s_mv ?_
 refine s_mv ?_
 obtain ⟨v6, hv6, hF4⟩ := bind_some' hF3
 refine s_ixS hv6 yU9 ?_
 refine s_ne ?_
 refine k_nil (k_seq ?_)
 refine w_cond hF4 ?_ ?_ <;> intro hc7 hF5
 refine awp_seq (awp_region ?_)
 refine s_mv ?_
 refine s_mv ?_
 obtain ⟨v8, hv8, hF6⟩ := bind_some' hF5
 refine s_pure [] (m_spec_l1Atom_ok fu _ _ _ hv8) ?_
 refine s_ext ?_
 refine s_ext ?_
 refine s_stW yS27 ?_
 refine s_as ?_
 refine k_nil (k_seq (awp_ret (k_seq_ret (k_fin ?_))))
 cases hF6
 exact ends_gen [] [] (by rw [Tryz.results198]; exact (res_agg (by conv => lhs; whnf) (by conv => lhs; whnf) yA27 yS27 rfl (res_tmp (by conv => lhs; whnf) res_nil)))
 refine awp_skip (k_seq (awp_seq (awp_region ?_)))
 refine s_bld yZ27 yL27 ?_
 refine s_alloc yZ27 ?_
 refine s_stW yS27 ?_
 refine k_nil (k_seq (awp_seq (awp_region ?_)))
 refine s_mv ?_
 refine s_mv ?_
 refine s_add rfl ?_
 obtain ⟨v9, hv9, hF6⟩ := bind_some' hF5
 refine s_pure [] (m_spec_l1Skip_ok fu _ _ _ hv9) ?_
 refine s_as ?_
 refine k_nil (k_seq ?_)
 refine awp_jn (α := Nat × Int × (List Form)) [1, 7, 9, 10, 37, 38, 39, 40, 41, 42, 43, 44, 45, 46, 47, 48, 49, 50, 51, 52, 53, 54, 55, 56, 57, 58, 59, 60, 61, 62, 63, 64, 65, 66, 67, 68, 69, 70, 71, 72] [8, 5060] [] (fun a => [(1, .t (.sc (.int .i64 a.2.1)))]) (fun a => [(8, .box [.t (.sc (.int .i64 3)), .t (.sc (.str (⟨#[]⟩ : ByteArray))), .t (.sc (.int .i64 0)), .nl, .ar 5060]), (5060, .arr (a.2.2.map Form.row) 27 true)]) (fun a => a.1 ≤ fu ∧ m_spec_l1Read_j2 a.1 x1 a.2.1 a.2.2 = some r) ?_ ?_
 refine awp_block ?_
 refine awp_ownB 8 5060 27 [.t (.sc (.int .i64 3)), .t (.sc (.str (⟨#[]⟩ : ByteArray))), .t (.sc (.int .i64 0)), .nl, .ar 5060] yI27.choose_spec ?_
 refine awp_frame2 [1, 7, 9, 10, 37, 38, 39, 40, 41, 42, 43, 44, 45, 46, 47, 48, 49, 50, 51, 52, 53, 54, 55, 56, 57, 58, 59, 60, 61, 62, 63, 64, 65, 66, 67, 68, 69, 70, 71, 72] [8, 5060] [9, 67, 68] [5060] (fun a : Nat × Int × (List Form) => a.1) (fun a : Nat × Int × (List Form) => [(1, .t (.sc (.int .i64 a.2.1)))]) (fun a : Nat × Int × (List Form) => [(8, .box [.t (.sc (.int .i64 3)), .t (.sc (.str (⟨#[]⟩ : ByteArray))), .t (.sc (.int .i64 0)), .nl, .ar 5060]), (5060, .arr (a.2.2.map Form.row) 27 true)]) (fun a : Nat × Int × (List Form) => a.1 ≤ fu ∧ m_spec_l1Read_l3 a.1 x1 x3 a.2.1 a.2.2 = some r) (fu, v9, ([] : List Form)) ⟨Nat.le_refl _, hF6⟩ (by rfl) (by rfl) (fun _ => rfl) (hasF_cons (by conv => lhs; whnf) (by rfl) hasF_nil) (hasO_cons (by conv => lhs; whnf) (by rfl) (hasO_cons (by conv => lhs; whnf) (by rfl) hasO_nil)) (fresh_C hC rfl) (by repeat (first | exact freshS_args rfl | refine freshS_upd rfl ?_ | refine freshS_frame rfl ?_)) (by repeat (first | exact freshM_no | exact objs_fresh rfl | refine freshM_upd rfl ?_ | refine freshM_frame rfl ?_)) ?_
 clear hF6
 rintro ⟨fu, g10, g11⟩ ⟨hl12, hF7⟩
 dsimp only at hl12 hF7 ⊢
 obtain _ | fu := fu
 · rw [m_spec_l1Read_l3] at hF7; cases hF7
 rw [m_spec_l1Read_l3] at hF7
 refine awp_seq ?_
 refine awp_jn (α := Nat × Bool) [37, 38, 39, 40, 41, 42, 43, 44, 45, 46, 47, 48, 49, 50, 51, 52] [] [] (fun a => [(52, .t (.sc (.bool a.2)))]) (fun a => []) (fun a => a.1 ≤ fu ∧ m_spec_l1Read_j4 a.1 x1 x3 g10 g11 a.2 = some r) ?_ ?_
 refine awp_region ?_
 refine s_mv ?_
 refine s_mv ?_
 refine s_lenS yU9 ?_
 refine s_lt ?_
 refine s_mv ?_
 refine w_guard _ 41 hF7 ?_ ?_ <;> intro hc13 hF8
 refine s_mv ?_
 refine s_mv ?_
 obtain ⟨v14, hv14, hF9⟩ := bind_some' hF8
 refine s_ixS hv14 yU9 ?_
 refine s_ne ?_
 refine s_pkt ?_
 refine s_mv ?_
 refine w_guard _ 47 hF9 ?_ ?_ <;> intro hc15 hF10
 refine s_fa yF27_4 ?_
 refine s_ld1 yA25 ?_
 refine s_lenA yU25 ?_
 refine s_lt ?_
 refine s_pkt ?_
 refine k_nil ?_
 exact s_jn (fu, (decide ((g11.length : Int) < 400))) ⟨by first | omega | (dsimp only; omega), hF10⟩
 iterate 4 refine r_no rfl ?_
 refine s_pkf ?_
 refine k_nil ?_
 exact s_jn (fu, false) ⟨by first | omega | (dsimp only; omega), hF10⟩
 iterate 4 refine r_no rfl ?_
 refine s_pkf ?_
 refine s_mv ?_
 iterate 4 refine r_no rfl ?_
 refine s_pkf ?_
 refine k_nil ?_
 exact s_jn (fu, false) ⟨by first | omega | (dsimp only; omega), hF8⟩
 clear hF7
 rintro ⟨fu, g16⟩ ⟨hl17, hF8⟩
 dsimp only at hl17 hF8 ⊢
 obtain _ | fu := fu
 · rw [m_spec_l1Read_j4] at hF8; cases hF8
 rw [m_spec_l1Read_j4] at hF8
 refine w_cond hF8 ?_ ?_ <;> intro hc18 hF9
 refine awp_skip (k_seq (awp_block (awp_seq (awp_region ?_))))
 iterate 3 refine s_mv ?_
 refine s_sub rfl ?_
 obtain ⟨v19, hv19, hF10⟩ := bind_some' hF9
 refine s_pure [] (ih_m_spec_l1Read fu (by omega) _ _ _ _ hv19) ?_
 refine s_mv ?_
 refine s_ext ?_
 refine s_ext ?_
 refine s_alloc yZ27 ?_
 refine s_stW yS27 ?_
 refine s_as ?_
 refine k_nil (k_seq (awp_seq (awp_seq (awp_region ?_))))
 refine s_mv ?_
 refine s_lt ?_
 refine k_nil (k_seq ?_)
 refine w_cond hF10 ?_ ?_ <;> intro hc20 hF11
 refine awp_seq (awp_region ?_)
 refine s_ldW yA27 yS27 ?_
 refine s_stW yS27 ?_
 refine s_as ?_
 refine k_nil (k_seq (awp_ret (k_seq_ret (k_blk_ret (k_rnd_ret2 (k_blk_ret (k_jn_ret (k_fin ?_))))))))
 cases hF11
 exact ends_gen [] [5060] (by rw [Tryz.results198]; exact (res_agg (by conv => lhs; whnf) (by conv => lhs; whnf) yA27 yS27 rfl (res_tmp (by conv => lhs; whnf) res_nil)))
 refine awp_skip (k_seq (awp_seq (awp_region ?_)))
 refine s_fa yF27_4 ?_
 refine s_ld1 yA25 ?_
 refine s_ldW yA27 yS27 ?_
 refine s_bs Form.row [v19.1] yP25 yR27 ?_
 obtain ⟨hk21, hF12⟩ := chk_some hF11
 refine s_apT Form.row (fun y => Form.row_len y) hk21 yP25 ?_
 refine s_fa yF27_4 ?_
 refine s_stP yS25 ?_
 refine k_nil (k_seq (awp_region ?_))
 refine s_mv ?_
 refine s_mv ?_
 obtain ⟨v22, hv22, hF13⟩ := bind_some' hF12
 refine s_pure [] (m_spec_l1Skip_ok fu _ _ _ hv22) ?_
 refine s_as ?_
 refine k_nil (k_blk ?_)
 exact s_rn (fu, v22, (g11 ++ [v19.1])) ⟨by first | omega | (dsimp only; omega), hF13⟩ [(5060, 68)]
 refine awp_exit (k_seq_exit (k_rnd_exit2 (k_blk_exit ?_)))
 exact s_jn (fu, g10, g11) ⟨by first | omega | (dsimp only; omega), hF9⟩
 clear hF6
 rintro ⟨fu, g23, g24⟩ ⟨hl25, hF7⟩
 dsimp only at hl25 hF7 ⊢
 obtain _ | fu := fu
 · rw [m_spec_l1Read_j2] at hF7; cases hF7
 rw [m_spec_l1Read_j2] at hF7
 refine awp_seq ?_
 refine awp_jn (α := Nat × Bool) [73, 74, 75, 76, 77, 78, 79, 80, 81, 82] [] [] (fun a => [(82, .t (.sc (.bool a.2)))]) (fun a => []) (fun a => a.1 ≤ fu ∧ m_spec_l1Read_j5 a.1 g23 g24 a.2 = some r) ?_ ?_
 refine awp_region ?_
 refine s_mv ?_
 refine s_mv ?_
 refine s_lenS yU9 ?_
 refine s_ge ?_
 refine s_mv ?_
 refine w_guard _ 77 hF7 ?_ ?_ <;> intro hc26 hF8
 iterate 4 refine r_no rfl ?_
 refine s_pkt ?_
 refine k_nil ?_
 exact s_jn (fu, true) ⟨by first | omega | (dsimp only; omega), hF8⟩
 refine s_mv ?_
 refine s_mv ?_
 obtain ⟨v27, hv27, hF9⟩ := bind_some' hF8
 refine s_ixS hv27 yU9 ?_
 refine s_ne ?_
 refine s_pkf ?_
 refine k_nil ?_
 exact s_jn (fu, (decide (v27 ≠ 41))) ⟨by first | omega | (dsimp only; omega), hF9⟩
 clear hF7
 rintro ⟨fu, g28⟩ ⟨hl29, hF8⟩
 dsimp only at hl29 hF8 ⊢
 obtain _ | fu := fu
 · rw [m_spec_l1Read_j5] at hF8; cases hF8
 rw [m_spec_l1Read_j5] at hF8
 refine w_cond hF8 ?_ ?_ <;> intro hc30 hF9
 refine awp_seq (awp_region ?_)
 refine s_ldW yA27 yS27 ?_
 refine s_stW yS27 ?_
 refine s_as ?_
 refine k_nil (k_seq (awp_ret (k_seq_ret (k_fin ?_))))
 cases hF9
 exact ends_gen [] [5060] (by rw [Tryz.results198]; exact (res_agg (by conv => lhs; whnf) (by conv => lhs; whnf) yA27 yS27 rfl (res_tmp (by conv => lhs; whnf) res_nil)))
 refine awp_skip (k_seq (awp_seq (awp_region ?_)))
 refine s_ldW yA27 yS27 ?_
 refine s_mv ?_
 refine s_add rfl ?_
 refine s_stW yS27 ?_
 refine s_as ?_
 refine k_nil (k_seq (awp_ret (k_fin ?_)))
 cases hF9
 exact ends_gen [] [5060] (by rw [Tryz.results198]; exact (res_agg (by conv => lhs; whnf) (by conv => lhs; whnf) yA27 yS27 rfl (res_tmp (by conv => lhs; whnf) res_nil)))
end Go.Abs
