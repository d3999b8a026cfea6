/- A part of the proof: what the functions that the law calls answer, as pure values. -/
import Derived.Test.YtpmhanibecniaaaDoorK343b1103bcc9
import Derived.Test.YtpmhanibecniaaaDoorKb096e2819fe8
import Derived.Test.YtpmhanibecniaaaDoorKb1e540662a4f
set_option linter.unusedSimpArgs false
set_option linter.unusedVariables false
set_option maxRecDepth 100000
set_option maxHeartbeats 4000000
namespace Go.Abs
open Go.Proofs
def m_spec_l15Open_AC (fuel : Nat) : Prop := ∀ (x1 : (List Int)) (r : l15Rd), m_spec_l15Open fuel x1 = some r → AC Tryd.prog 13 [.t (.sl (x1.map rB))] (objs []) (.rf 10 0) (objs [(10, .box [.t (.sl (r.b.map rB)), .t (.sc (.int .i64 r.p))])])
theorem m_spec_l15Open_ok (fuel : Nat) : m_spec_l15Open_AC fuel := by
 intro x1 r hF0
 unfold m_spec_l15Open at hF0
 refine AC_i [.rf 10 0] Tryd.func13 rfl Tryd.ntmps13 ?_
 intro C hC
 refine awp_seq (awp_region ?_)
 refine s_as ?_
 refine k_nil (k_seq (awp_seq (awp_seq (awp_region ?_))))
 refine s_mv ?_
 refine s_lenT yU22 ?_
 refine s_gt ?_
 refine k_nil (k_seq ?_)
 refine w_cond hF0 ?_ ?_ <;> intro hc1 hF1
 refine awp_lenT 0 (fun hb2 => ?_)
 refine awp_region ?_
 refine s_mv ?_
 obtain ⟨v3, hv3, hF2⟩ := bind_some' hF1
 refine s_sl01 rB (fun _ => rfl) hv3 yU22 yE22 ?_
 refine s_as ?_
 refine k_nil (k_seq (awp_seq (awp_region ?_)))
 refine s_mv ?_
 refine s_bld yZ56 yL56 ?_
 refine s_box ?_
 refine s_as ?_
 refine k_nil (k_seq (awp_ret (k_fin ?_)))
 cases hF2
 exact ends_a _ [] Tryd.results13
 refine awp_skip (k_seq (awp_seq (awp_region ?_)))
 refine s_mv ?_
 refine s_bld yZ56 yL56 ?_
 refine s_box ?_
 refine s_as ?_
 refine k_nil (k_seq (awp_ret (k_fin ?_)))
 cases hF1
 exact ends_a _ [] Tryd.results13
def m_spec_l15Rd_pick_AC (fuel : Nat) : Prop := ∀ (o1 : l15Rd) (x2 : Int) (r : (Int × l15Rd)), m_spec_l15Rd_pick fuel o1 x2 = some r → AC Tryd.prog 31 [.rf 9000 0, .t (.sc (.int .i64 x2))] (objs [(9000, .box [.t (.sl (o1.b.map rB)), .t (.sc (.int .i64 o1.p))])]) (.t (.sc (.int .i64 r.1))) (objs [(9000, .box [.t (.sl (r.2.b.map rB)), .t (.sc (.int .i64 r.2.p))])])
theorem m_spec_l15Rd_pick_ok (fuel : Nat) : m_spec_l15Rd_pick_AC fuel := by
 intro o1 x2 r hF0
 unfold m_spec_l15Rd_pick at hF0
 refine AC_i [.t (.sc (.int .i64 r.1))] Tryd.func31 rfl Tryd.ntmps31 ?_
 intro C hC
 refine awp_seq (awp_region ?_)
 refine s_as ?_
 refine k_nil (k_seq (awp_seq (awp_region ?_)))
 refine s_mv ?_
 refine s_mv ?_
 refine s_nc ?_
 refine s_fa yF56_1 ?_
 refine s_ld1 yA3 ?_
 refine s_add rfl ?_
 refine s_nc ?_
 refine s_fa yF56_1 ?_
 refine s_stP yS3 ?_
 refine k_nil (k_seq (awp_seq (awp_seq (awp_region ?_))))
 refine s_mv ?_
 refine s_lt ?_
 refine s_mv ?_
 refine w_guard _ 17 hF0 ?_ ?_ <;> intro hc1 hF1
 iterate 6 refine r_no rfl ?_
 refine s_pkt ?_
 refine k_nil (k_seq (awp_true rfl (awp_seq (awp_region ?_))))
 refine s_as ?_
 refine k_nil (k_seq (awp_ret (k_seq_ret (k_fin ?_))))
 cases hF1
 exact ends_a _ [] Tryd.results31
 refine s_mv ?_
 refine s_nc ?_
 refine s_fa yF56_0 ?_
 refine s_ld1 yA22 ?_
 refine s_lenT yU22 ?_
 refine s_eq ?_
 refine s_pkf ?_
 refine k_nil (k_seq ?_)
 refine w_cond hF1 ?_ ?_ <;> intro hc2 hF2
 refine awp_seq (awp_region ?_)
 refine s_as ?_
 refine k_nil (k_seq (awp_ret (k_seq_ret (k_fin ?_))))
 cases hF2
 exact ends_a _ [] Tryd.results31
 refine awp_skip (k_seq (awp_seq (awp_region ?_)))
 refine s_mv ?_
 refine s_nc ?_
 refine s_fa yF56_1 ?_
 refine s_ld1 yA3 ?_
 refine s_sub rfl ?_
 refine s_as ?_
 refine k_nil (k_seq (awp_seq (awp_seq (awp_region ?_))))
 refine s_mv ?_
 refine s_mv ?_
 refine s_nc ?_
 refine s_fa yF56_0 ?_
 refine s_ld1 yA22 ?_
 refine s_lenT yU22 ?_
 refine s_lt ?_
 refine k_nil (k_seq ?_)
 refine w_cond hF2 ?_ ?_ <;> intro hc3 hF3
 refine awp_seq (awp_region ?_)
 refine s_mv ?_
 refine s_nc ?_
 refine s_fa yF56_0 ?_
 refine s_ld1 yA22 ?_
 refine s_mv ?_
 obtain ⟨v4, hv4, hF4⟩ := bind_some' hF3
 refine s_ixT rB hv4 rfl yE22 ?_
 refine s_ld1 yA5 ?_
 refine s_int yU5 yU3 rfl ?_
 refine s_mv ?_
 obtain ⟨hk5, hF5⟩ := chk_some hF4
 refine s_rem (h0 := not_zero hk5) ?_
 refine s_as ?_
 refine k_nil (k_seq (awp_ret (k_seq_ret (k_fin ?_))))
 cases hF5
 exact ends_a _ [] Tryd.results31
 refine awp_skip (k_seq (awp_seq ?_))
 refine awp_draw yMix (by kernel_rfl) ?_
 refine s_mv0 ?_
 refine s_nc ?_
 refine s_fa yF56_0 ?_
 refine s_ld1 yA22 ?_
 refine s_mv ?_
 refine s_mv0 ?_
 refine s_nc ?_
 refine s_fa yF56_0 ?_
 refine s_ld1 yA22 ?_
 refine s_lenT yU22 ?_
 obtain ⟨hk6, hF4⟩ := chk_some hF3
 refine s_rem (h0 := not_zero hk6) ?_
 obtain ⟨v7, hv7, hF5⟩ := bind_some' hF4
 refine s_ixT rB hv7 rfl yE22 ?_
 refine s_ld1 yA5 ?_
 refine s_int yU5 yU3 rfl ?_
 refine s_mul rfl ?_
 refine s_mv0 ?_
 refine s_nc ?_
 refine s_fa yF56_0 ?_
 refine s_ld1 yA22 ?_
 refine s_mv ?_
 refine s_mul rfl ?_
 refine s_add rfl ?_
 refine s_mv0 ?_
 refine s_nc ?_
 refine s_fa yF56_0 ?_
 refine s_ld1 yA22 ?_
 refine s_lenT yU22 ?_
 obtain ⟨hk8, hF6⟩ := chk_some hF5
 refine s_rem (h0 := not_zero hk8) ?_
 obtain ⟨v9, hv9, hF7⟩ := bind_some' hF6
 refine s_ixT rB hv9 rfl yE22 ?_
 refine s_ld1 yA5 ?_
 refine s_int yU5 yU3 rfl ?_
 refine s_mul rfl ?_
 refine s_add rfl ?_
 refine s_mv ?_
 refine s_mul rfl ?_
 refine s_add rfl ?_
 refine s_mv ?_
 refine s_mv0 ?_
 refine s_nc ?_
 refine s_fa yF56_0 ?_
 refine s_ld1 yA22 ?_
 refine s_lenT yU22 ?_
 obtain ⟨hk10, hF8⟩ := chk_some hF7
 refine s_quo (h0 := not_zero hk10) rfl ?_
 refine s_mul rfl ?_
 refine s_add rfl ?_
 refine s_as ?_
 refine k_nilD (by kernel_rfl) ?_
 refine k_seq (awp_seq (awp_region ?_))
 refine s_mv ?_
 refine s_mv ?_
 refine s_quo rfl ?_
 refine s_xor rfl ?_
 refine s_as ?_
 refine k_nil (k_seq (awp_seq (awp_region ?_)))
 refine s_mv ?_
 refine s_mv ?_
 obtain ⟨hk11, hF9⟩ := chk_some hF8
 refine s_rem (h0 := not_zero hk11) ?_
 refine s_as ?_
 refine k_nil (k_seq (awp_ret (k_fin ?_)))
 cases hF9
 exact ends_a _ [] Tryd.results31
def m_spec_l15Rd_of_AC (fuel : Nat) : Prop := ∀ (o1 : l15Rd) (x2 : (List ByteArray)) (r : (ByteArray × l15Rd)), m_spec_l15Rd_of fuel o1 x2 = some r → AC Tryd.prog 15 [.rf 9000 0, .t (.sl (x2.map rS))] (objs [(9000, .box [.t (.sl (o1.b.map rB)), .t (.sc (.int .i64 o1.p))])]) (.t (.sc (.str r.1))) (objs [(9000, .box [.t (.sl (r.2.b.map rB)), .t (.sc (.int .i64 r.2.p))])])
theorem m_spec_l15Rd_of_ok (fuel : Nat) : m_spec_l15Rd_of_AC fuel := by
 intro o1 x2 r hF0
 unfold m_spec_l15Rd_of at hF0
 refine AC_i [.t (.sc (.str r.1))] Tryd.func15 rfl Tryd.ntmps15 ?_
 intro C hC
 refine awp_seq (awp_region ?_)
 refine s_as ?_
 refine k_nil (k_seq (awp_seq (awp_region ?_)))
 iterate 3 refine s_mv ?_
 refine s_lenT yU38 ?_
 obtain ⟨v1, hv1, hF1⟩ := bind_some' hF0
 refine s_call [(9000, 9000)] [] _ _ (m_spec_l15Rd_pick_ok fuel _ _ _ hv1) ?_
 obtain ⟨v2, hv2, hF2⟩ := bind_some' hF1
 refine s_ixT rS hv2 rfl yE38 ?_
 refine s_ld1 yA9 ?_
 refine s_as ?_
 refine k_nil (k_seq (awp_ret (k_fin ?_)))
 cases hF2
 exact ends_a _ [] Tryd.results15
def m_spec_l1Bend_AC (fuel : Nat) : Prop := ∀ (o1 : l15Rd) (x2 : ByteArray) (x3 : (List ByteArray)) (r : (ByteArray × l15Rd)), m_spec_l1Bend fuel o1 x2 x3 = some r → AC Tryd.prog 14 [.rf 9000 0, .t (.sc (.str x2)), .t (.sl (x3.map rS))] (objs [(9000, .box [.t (.sl (o1.b.map rB)), .t (.sc (.int .i64 o1.p))])]) (.t (.sc (.str r.1))) (objs [(9000, .box [.t (.sl (r.2.b.map rB)), .t (.sc (.int .i64 r.2.p))])])
theorem m_spec_l1Bend_ok (fuel : Nat) : m_spec_l1Bend_AC fuel := by
 intro o1 x2 x3 r hF0
 unfold m_spec_l1Bend at hF0
 refine AC_i [.t (.sc (.str r.1))] Tryd.func14 rfl Tryd.ntmps14 ?_
 intro C hC
 refine awp_seq (awp_region ?_)
 refine s_as ?_
 refine k_nil (k_seq (awp_seq ?_))
 refine awp_jn (α := Nat × Bool × (List Int) × Int) [8, 9, 10, 11, 12, 13, 14, 15] [9000] [] (fun a => [(15, .t (.sc (.bool a.2.1)))]) (fun a => [(9000, .box [.t (.sl (a.2.2.1.map rB)), .t (.sc (.int .i64 a.2.2.2))])]) (fun a => a.1 ≤ fuel ∧ m_spec_l1Bend_j1 a.1 x2 x3 a.2.1 a.2.2.1 a.2.2.2 = some r) ?_ ?_
 refine awp_region ?_
 refine s_mv ?_
 refine s_lenS yU9 ?_
 refine s_eq ?_
 refine s_mv ?_
 refine w_guard _ 11 hF0 ?_ ?_ <;> intro hc1 hF1
 iterate 3 refine r_no rfl ?_
 refine s_pkt ?_
 refine k_nil ?_
 exact s_jn (fuel, true, o1.b, o1.p) ⟨by first | omega | (dsimp only; omega), hF1⟩
 refine s_mv ?_
 obtain ⟨v2, hv2, hF2⟩ := bind_some' hF1
 refine s_call [(9000, 9000)] [] _ _ (m_spec_l15Rd_pick_ok fuel _ _ _ hv2) ?_
 refine s_eq ?_
 refine s_pkf ?_
 refine k_nil ?_
 exact s_jn (fuel, (decide (v2.1 = 0)), v2.2.b, v2.2.p) ⟨by first | omega | (dsimp only; omega), hF2⟩
 clear hF0
 rintro ⟨fu, g3, g4, g5⟩ ⟨hl6, hF1⟩
 dsimp only at hl6 hF1 ⊢
 obtain _ | fu := fu
 · rw [m_spec_l1Bend_j1] at hF1; cases hF1
 rw [m_spec_l1Bend_j1] at hF1
 refine w_cond hF1 ?_ ?_ <;> intro hc7 hF2
 refine awp_seq (awp_region ?_)
 refine s_mv ?_
 refine s_as ?_
 refine k_nil (k_seq (awp_ret (k_seq_ret (k_fin ?_))))
 cases hF2
 exact ends_a _ [] Tryd.results14
 refine awp_skip (k_seq (awp_seq (awp_region ?_)))
 refine s_mv ?_
 refine s_mv ?_
 refine s_lenS yU9 ?_
 obtain ⟨v8, hv8, hF3⟩ := bind_some' hF2
 refine s_call [(9000, 9000)] [] _ _ (m_spec_l15Rd_pick_ok fu _ _ _ hv8) ?_
 refine s_as ?_
 refine k_nil (k_seq (awp_seq ?_))
 refine awp_draw yMix (by kernel_rfl) ?_
 refine s_mv ?_
 refine s_mv ?_
 obtain ⟨v9, hv9, hF4⟩ := bind_some' hF3
 refine s_ss01 hv9 yU9 ?_
 refine s_mv0 ?_
 refine s_mv ?_
 obtain ⟨v10, hv10, hF5⟩ := bind_some' hF4
 refine s_call [(9000, 9000)] [] _ _ (m_spec_l15Rd_of_ok fu _ _ _ hv10) ?_
 obtain ⟨v11, hv11, hF6⟩ := bind_some' hF5
 refine s_cat hv11 ?_
 refine s_mv ?_
 refine s_mv ?_
 refine s_mv0 ?_
 obtain ⟨v12, hv12, hF7⟩ := bind_some' hF6
 refine s_call [(9000, 9000)] [] _ _ (m_spec_l15Rd_pick_ok fu _ _ _ hv12) ?_
 refine s_add rfl ?_
 obtain ⟨v13, hv13, hF8⟩ := bind_some' hF7
 refine s_ss10 hv13 yU9 ?_
 obtain ⟨v14, hv14, hF9⟩ := bind_some' hF8
 refine s_cat hv14 ?_
 refine s_as ?_
 refine k_nilD (by kernel_rfl) ?_
 refine k_seq (awp_ret (k_fin ?_))
 cases hF9
 exact ends_a _ [] Tryd.results14
def m_spec_DrawNameValid_AC (fuel : Nat) : Prop := ∀ (x1 : (List Int)) (r : ByteArray), m_spec_DrawNameValid fuel x1 = some r → AC Tryd.prog 5 [.t (.sl (x1.map rB))] noOb (.t (.sc (.str r))) noOb
theorem m_spec_DrawNameValid_ok (fuel : Nat) : m_spec_DrawNameValid_AC fuel := by
 intro x1 r hF0
 unfold m_spec_DrawNameValid at hF0
 refine AC_i [.t (.sc (.str r))] Tryd.func5 rfl Tryd.ntmps5 ?_
 intro C hC
 refine awp_seq (awp_region ?_)
 refine s_as ?_
 refine k_nil (k_seq (awp_seq (awp_region ?_)))
 refine s_mv ?_
 obtain ⟨v1, hv1, hF1⟩ := bind_some' hF0
 refine s_call [(10, 5)] [] _ _ (m_spec_l15Open_ok fuel _ _ hv1) ?_
 refine s_as ?_
 refine k_nil (k_seq (awp_seq (awp_region ?_)))
 refine s_mv ?_
 refine s_mv ?_
 refine s_bs rS [(⟨#[97]⟩ : ByteArray), (⟨#[108, 101, 116, 45, 115, 121, 110, 116, 97, 120]⟩ : ByteArray), (⟨#[46, 46, 46]⟩ : ByteArray), (⟨#[95]⟩ : ByteArray), (⟨#[120, 49]⟩ : ByteArray), (⟨#[108, 97, 109, 98, 100, 97]⟩ : ByteArray), (⟨#[97, 98, 99, 100, 101, 102, 103, 104, 105, 106, 107, 108]⟩ : ByteArray), (⟨#[43]⟩ : ByteArray)] yP38 yR9 ?_
 obtain ⟨v2, hv2, hF2⟩ := bind_some' hF1
 refine s_call [(9000, 5)] [8] _ _ (m_spec_l15Rd_of_ok fuel _ _ _ hv2) ?_
 refine s_bs rS [(⟨#[]⟩ : ByteArray), (⟨#[49]⟩ : ByteArray), (⟨#[65]⟩ : ByteArray), (⟨#[46]⟩ : ByteArray), (⟨#[45]⟩ : ByteArray), (⟨#[95]⟩ : ByteArray)] yP38 yR9 ?_
 obtain ⟨v3, hv3, hF3⟩ := bind_some' hF2
 refine s_call [(9000, 5)] [10] _ _ (m_spec_l1Bend_ok fuel _ _ _ _ hv3) ?_
 refine s_as ?_
 refine k_nil (k_seq (awp_ret (k_fin ?_)))
 cases hF3
 exact ends_a [] [] Tryd.results5
def m_strings_IndexByte_AC (fuel : Nat) : Prop := ∀ (x1 : ByteArray) (x2 : Int) (r : Int), m_strings_IndexByte fuel x1 x2 = some r → AC Tryd.prog 16 [.t (.sc (.str x1)), .t (.sc (.int .u8 x2))] noOb (.t (.sc (.int .i64 r))) noOb
theorem m_strings_IndexByte_ok (fuel : Nat) : m_strings_IndexByte_AC fuel := by
 intro x1 x2 r h
 obtain rfl := Option.some.inj h
 exact ac_two (a := .str x1) (b := .int .u8 x2) (r := .int .i64 _) ⟨_, Tryd.func16, by kernel_rfl, by kernel_rfl⟩ (fun w => Tryd.strings_IndexByte x1 x2 w)
def m_impl_within_AC (fuel : Nat) : Prop := ∀ (x1 : Int) (x2 : Int) (x3 : Int) (r : Bool), m_impl_within fuel x1 x2 x3 = some r → AC Tryd.prog 17 [.t (.sc (.int .i64 x1)), .t (.sc (.int .i64 x2)), .t (.sc (.int .i64 x3))] noOb (.t (.sc (.bool r))) noOb
theorem m_impl_within_ok (fuel : Nat) : m_impl_within_AC fuel := by
 intro x1 x2 x3 r hF0
 unfold m_impl_within at hF0
 refine AC_i [.t (.sc (.bool r))] Tryd.func17 rfl Tryd.ntmps17 ?_
 intro C hC
 refine awp_seq (awp_region ?_)
 refine s_as ?_
 refine k_nil (k_seq (awp_seq (awp_region ?_)))
 refine s_mv ?_
 refine s_mv ?_
 refine s_ge ?_
 refine s_mv ?_
 refine w_guard _ 10 hF0 ?_ ?_ <;> intro hc1 hF1
 refine s_mv ?_
 refine s_mv ?_
 refine s_le ?_
 refine s_pkt ?_
 refine s_as ?_
 refine k_nil (k_seq (awp_ret (k_fin ?_)))
 cases hF1
 exact ends_a [] [] Tryd.results17
 iterate 3 refine r_no rfl ?_
 refine s_pkf ?_
 refine s_as ?_
 refine k_nil (k_seq (awp_ret (k_fin ?_)))
 cases hF1
 exact ends_a [] [] Tryd.results17
def m_impl_NameValid_AC (fuel : Nat) : Prop := ∀ (x1 : ByteArray) (r : Bool), m_impl_NameValid fuel x1 = some r → AC Tryd.prog 6 [.t (.sc (.str x1))] noOb (.t (.sc (.bool r))) noOb
theorem m_impl_NameValid_ok (fuel : Nat) : m_impl_NameValid_AC fuel := by
 intro x1 r hF0
 unfold m_impl_NameValid at hF0
 refine AC_i [.t (.sc (.bool r))] Tryd.func6 rfl Tryd.ntmps6 ?_
 intro C hC
 refine awp_seq (awp_region ?_)
 refine s_as ?_
 refine k_nil (k_seq (awp_seq (awp_seq (awp_region ?_))))
 refine s_mv ?_
 refine s_eqS ?_
 refine s_mv ?_
 refine w_guard _ 7 hF0 ?_ ?_ <;> intro hc1 hF1
 refine r_no rfl (r_no rfl ?_)
 refine s_pkt ?_
 refine k_nil (k_seq (awp_true rfl (awp_seq (awp_region ?_))))
 refine s_as ?_
 refine k_nil (k_seq (awp_ret (k_seq_ret (k_fin ?_))))
 cases hF1
 exact ends_a [] [] Tryd.results6
 refine s_mv ?_
 refine s_eqS ?_
 refine s_pkf ?_
 refine k_nil (k_seq ?_)
 refine w_cond hF1 ?_ ?_ <;> intro hc2 hF2
 refine awp_seq (awp_region ?_)
 refine s_as ?_
 refine k_nil (k_seq (awp_ret (k_seq_ret (k_fin ?_))))
 cases hF2
 exact ends_a [] [] Tryd.results6
 refine awp_skip (k_seq (awp_seq (awp_seq (awp_region ?_))))
 refine s_as ?_
 refine k_nil (k_seq (awp_block ?_))
 refine awp_fr (β := Int) [2, 3, 4, 11, 12, 13, 14, 15, 16, 17, 18, 19, 20, 21, 22, 23, 24, 25, 26, 27, 28, 29, 30, 31, 32, 33, 34, 35, 36, 37, 38, 39, 40, 41, 42, 43, 44, 45, 46] [] [] (fun a => [(3, .t (.sc (.int .i64 a.2)))]) (fun a => []) (fun a => a.1 ≤ fuel ∧ m_impl_NameValid_l1 a.1 x1 a.2 = some r) (fuel, 0) ⟨Nat.le_refl _, hF2⟩ ?_
 clear hF2
 rintro ⟨fu, g3⟩ ⟨hl4, hF3⟩
 dsimp only at hl4 hF3 ⊢
 obtain _ | fu := fu
 · rw [m_impl_NameValid_l1] at hF3; cases hF3
 rw [m_impl_NameValid_l1] at hF3
 refine awp_seq (awp_seq (awp_region ?_))
 refine s_mv ?_
 refine s_mv ?_
 refine s_lenS yU9 ?_
 refine s_lt ?_
 refine k_nil (k_seq ?_)
 refine w_cond hF3 ?_ ?_ <;> intro hc5 hF4
 refine awp_skip (k_seq (awp_seq (awp_block (awp_seq (awp_region ?_)))))
 refine s_mv ?_
 refine s_mv ?_
 obtain ⟨v6, hv6, hF5⟩ := bind_some' hF4
 refine s_ixS hv6 yU9 ?_
 refine s_as ?_
 refine k_nil (k_seq (awp_block (awp_seq (awp_region ?_))))
 refine s_mv ?_
 refine s_ge ?_
 refine s_mv ?_
 refine w_guard _ 23 hF5 ?_ ?_ <;> intro hc7 hF6
 refine s_mv ?_
 refine s_le ?_
 refine s_pkt ?_
 refine s_mv ?_
 refine w_guard _ 27 hF6 ?_ ?_ <;> intro hc8 hF7
 iterate 3 refine r_no rfl ?_
 refine s_pkt ?_
 refine s_as ?_
 refine k_nil (k_seq (awp_true rfl (awp_skip (k_blk (k_blk (k_seq (awp_region ?_)))))))
 refine s_mv ?_
 refine s_add rfl ?_
 refine s_as ?_
 refine k_nil ?_
 exact s_rn (fu, (w64 (g3 + 1))) ⟨by first | omega | (dsimp only; omega), hF7⟩
 refine s_mv ?_
 obtain ⟨v9, hv9, hF8⟩ := bind_some' hF7
 refine s_pure [] (m_strings_IndexByte_ok fu _ _ _ hv9) ?_
 refine s_ge ?_
 refine s_pkf ?_
 refine s_as ?_
 refine k_nil (k_seq ?_)
 refine w_cond hF8 ?_ ?_ <;> intro hc10 hF9
 refine awp_skip (k_blk (k_blk (k_seq (awp_region ?_))))
 refine s_mv ?_
 refine s_add rfl ?_
 refine s_as ?_
 refine k_nil ?_
 exact s_rn (fu, (w64 (g3 + 1))) ⟨by first | omega | (dsimp only; omega), hF9⟩
 refine awp_seq (awp_region ?_)
 refine s_mv ?_
 refine s_gt ?_
 refine s_mv ?_
 refine w_guard _ 35 hF9 ?_ ?_ <;> intro hc11 hF10
 refine s_mv ?_
 refine s_ge ?_
 refine s_mv ?_
 refine w_guard _ 38 hF10 ?_ ?_ <;> intro hc12 hF11
 refine s_mv ?_
 refine s_le ?_
 refine s_pkt ?_
 refine s_mv ?_
 refine w_guard _ 42 hF11 ?_ ?_ <;> intro hc13 hF12
 refine r_no rfl (r_no rfl ?_)
 refine s_pkt ?_
 refine s_pkt ?_
 refine s_as ?_
 refine k_nil (k_seq (awp_true rfl (awp_skip (k_blk (k_blk (k_seq (awp_region ?_)))))))
 refine s_mv ?_
 refine s_add rfl ?_
 refine s_as ?_
 refine k_nil ?_
 exact s_rn (fu, (w64 (g3 + 1))) ⟨by first | omega | (dsimp only; omega), hF12⟩
 refine s_mv ?_
 refine s_eq ?_
 refine s_pkf ?_
 refine s_pkt ?_
 refine s_as ?_
 refine k_nil (k_seq ?_)
 refine w_cond hF12 ?_ ?_ <;> intro hc14 hF13
 refine awp_skip (k_blk (k_blk (k_seq (awp_region ?_))))
 refine s_mv ?_
 refine s_add rfl ?_
 refine s_as ?_
 refine k_nil ?_
 exact s_rn (fu, (w64 (g3 + 1))) ⟨by first | omega | (dsimp only; omega), hF13⟩
 refine awp_seq (awp_region ?_)
 refine s_as ?_
 refine k_nil (k_seq (awp_ret (k_blk_ret (k_blk_ret (k_seq_ret (k_rnd_ret2 (k_blk_ret (k_seq_ret (k_fin ?_)))))))))
 cases hF13
 exact ends_a [] [] Tryd.results6
 refine r_no rfl (r_no rfl ?_)
 refine s_pkf ?_
 refine s_mv ?_
 refine s_mv ?_
 refine s_eq ?_
 refine s_pkf ?_
 refine s_pkt ?_
 refine s_as ?_
 refine k_nil (k_seq ?_)
 refine w_cond hF11 ?_ ?_ <;> intro hc15 hF12
 refine awp_skip (k_blk (k_blk (k_seq (awp_region ?_))))
 refine s_mv ?_
 refine s_add rfl ?_
 refine s_as ?_
 refine k_nil ?_
 exact s_rn (fu, (w64 (g3 + 1))) ⟨by first | omega | (dsimp only; omega), hF12⟩
 refine awp_seq (awp_region ?_)
 refine s_as ?_
 refine k_nil (k_seq (awp_ret (k_blk_ret (k_blk_ret (k_seq_ret (k_rnd_ret2 (k_blk_ret (k_seq_ret (k_fin ?_)))))))))
 cases hF12
 exact ends_a [] [] Tryd.results6
 iterate 10 refine r_no rfl ?_
 refine s_pkf ?_
 refine s_as ?_
 refine k_nil (k_seq (awp_false rfl (awp_seq (awp_region ?_))))
 refine s_as ?_
 refine k_nil (k_seq (awp_ret (k_blk_ret (k_blk_ret (k_seq_ret (k_rnd_ret2 (k_blk_ret (k_seq_ret (k_fin ?_)))))))))
 cases hF10
 exact ends_a [] [] Tryd.results6
 refine r_no rfl (r_no rfl ?_)
 refine s_pkf ?_
 refine s_mv ?_
 refine s_mv ?_
 obtain ⟨v16, hv16, hF7⟩ := bind_some' hF6
 refine s_pure [] (m_strings_IndexByte_ok fu _ _ _ hv16) ?_
 refine s_ge ?_
 refine s_pkf ?_
 refine s_as ?_
 refine k_nil (k_seq ?_)
 refine w_cond hF7 ?_ ?_ <;> intro hc17 hF8
 refine awp_skip (k_blk (k_blk (k_seq (awp_region ?_))))
 refine s_mv ?_
 refine s_add rfl ?_
 refine s_as ?_
 refine k_nil ?_
 exact s_rn (fu, (w64 (g3 + 1))) ⟨by first | omega | (dsimp only; omega), hF8⟩
 refine awp_seq (awp_region ?_)
 refine s_mv ?_
 refine s_gt ?_
 refine s_mv ?_
 refine w_guard _ 35 hF8 ?_ ?_ <;> intro hc18 hF9
 refine s_mv ?_
 refine s_ge ?_
 refine s_mv ?_
 refine w_guard _ 38 hF9 ?_ ?_ <;> intro hc19 hF10
 refine s_mv ?_
 refine s_le ?_
 refine s_pkt ?_
 refine s_mv ?_
 refine w_guard _ 42 hF10 ?_ ?_ <;> intro hc20 hF11
 refine r_no rfl (r_no rfl ?_)
 refine s_pkt ?_
 refine s_pkt ?_
 refine s_as ?_
 refine k_nil (k_seq (awp_true rfl (awp_skip (k_blk (k_blk (k_seq (awp_region ?_)))))))
 refine s_mv ?_
 refine s_add rfl ?_
 refine s_as ?_
 refine k_nil ?_
 exact s_rn (fu, (w64 (g3 + 1))) ⟨by first | omega | (dsimp only; omega), hF11⟩
 refine s_mv ?_
 refine s_eq ?_
 refine s_pkf ?_
 refine s_pkt ?_
 refine s_as ?_
 refine k_nil (k_seq ?_)
 refine w_cond hF11 ?_ ?_ <;> intro hc21 hF12
 refine awp_skip (k_blk (k_blk (k_seq (awp_region ?_))))
 refine s_mv ?_
 refine s_add rfl ?_
 refine s_as ?_
 refine k_nil ?_
 exact s_rn (fu, (w64 (g3 + 1))) ⟨by first | omega | (dsimp only; omega), hF12⟩
 refine awp_seq (awp_region ?_)
 refine s_as ?_
 refine k_nil (k_seq (awp_ret (k_blk_ret (k_blk_ret (k_seq_ret (k_rnd_ret2 (k_blk_ret (k_seq_ret (k_fin ?_)))))))))
 cases hF12
 exact ends_a [] [] Tryd.results6
 refine r_no rfl (r_no rfl ?_)
 refine s_pkf ?_
 refine s_mv ?_
 refine s_mv ?_
 refine s_eq ?_
 refine s_pkf ?_
 refine s_pkt ?_
 refine s_as ?_
 refine k_nil (k_seq ?_)
 refine w_cond hF10 ?_ ?_ <;> intro hc22 hF11
 refine awp_skip (k_blk (k_blk (k_seq (awp_region ?_))))
 refine s_mv ?_
 refine s_add rfl ?_
 refine s_as ?_
 refine k_nil ?_
 exact s_rn (fu, (w64 (g3 + 1))) ⟨by first | omega | (dsimp only; omega), hF11⟩
 refine awp_seq (awp_region ?_)
 refine s_as ?_
 refine k_nil (k_seq (awp_ret (k_blk_ret (k_blk_ret (k_seq_ret (k_rnd_ret2 (k_blk_ret (k_seq_ret (k_fin ?_)))))))))
 cases hF11
 exact ends_a [] [] Tryd.results6
 iterate 10 refine r_no rfl ?_
 refine s_pkf ?_
 refine s_as ?_
 refine k_nil (k_seq (awp_false rfl (awp_seq (awp_region ?_))))
 refine s_as ?_
 refine k_nil (k_seq (awp_ret (k_blk_ret (k_blk_ret (k_seq_ret (k_rnd_ret2 (k_blk_ret (k_seq_ret (k_fin ?_)))))))))
 cases hF9
 exact ends_a [] [] Tryd.results6
 refine awp_exit (k_seq_exit (k_rnd_exit2 (k_blk_exit (k_seq (awp_seq (awp_region ?_))))))
 refine s_mv ?_
 refine s_lenS yU9 ?_
 obtain ⟨v23, hv23, hF5⟩ := bind_some' hF4
 refine s_pure [] (m_impl_within_ok fu _ _ _ _ hv23) ?_
 refine s_as ?_
 refine k_nil (k_seq (awp_ret (k_fin ?_)))
 cases hF5
 exact ends_a [] [] Tryd.results6
def m_strings_TrimLeft_AC (fuel : Nat) : Prop := ∀ (x1 : ByteArray) (x2 : ByteArray) (r : ByteArray), m_strings_TrimLeft fuel x1 x2 = some r → AC Tryd.prog 38 [.t (.sc (.str x1)), .t (.sc (.str x2))] noOb (.t (.sc (.str r))) noOb
theorem m_strings_TrimLeft_ok (fuel : Nat) : m_strings_TrimLeft_AC fuel := by
 intro x1 x2 r h
 obtain ⟨h0, h⟩ := chk_some h
 obtain rfl := Option.some.inj h
 obtain rfl := of_decide_eq_true h0
 exact ac_two (a := .str x1) (b := .str _) (r := .str _) ⟨_, Tryd.func38, by kernel_rfl, by kernel_rfl⟩ (fun w => Tryd.strings_TrimLeft_one x1 32 (by decide) w)
def m_impl_scan_blanks_AC (fuel : Nat) : Prop := ∀ (o1 : scan) (r : (Bool × scan)), m_impl_scan_blanks fuel o1 = some r → AC Tryd.prog 19 [.rf 9000 0] (objs [(9000, .box [.t (.sc (.str o1.s)), .t (.sc (.bool o1.bad))])]) (.t (.sc (.bool r.1))) (objs [(9000, .box [.t (.sc (.str r.2.s)), .t (.sc (.bool r.2.bad))])])
theorem m_impl_scan_blanks_ok (fuel : Nat) : m_impl_scan_blanks_AC fuel := by
 intro o1 r hF0
 unfold m_impl_scan_blanks at hF0
 refine AC_i [.t (.sc (.bool r.1))] Tryd.func19 rfl Tryd.ntmps19 ?_
 intro C hC
 refine awp_seq (awp_region ?_)
 refine s_as ?_
 refine k_nil (k_seq (awp_seq (awp_region ?_)))
 refine s_mv ?_
 refine s_nc ?_
 refine s_fa yF43_0 ?_
 refine s_ld1 yA9 ?_
 obtain ⟨v1, hv1, hF1⟩ := bind_some' hF0
 refine s_pure [] (m_strings_TrimLeft_ok fuel _ _ _ hv1) ?_
 refine s_as ?_
 refine k_nil (k_seq (awp_seq (awp_region ?_)))
 refine s_mv ?_
 refine s_lenS yU9 ?_
 refine s_mv ?_
 refine s_nc ?_
 refine s_fa yF43_0 ?_
 refine s_ld1 yA9 ?_
 refine s_lenS yU9 ?_
 refine s_lt ?_
 refine s_as ?_
 refine k_nil (k_seq (awp_seq (awp_region ?_)))
 refine s_mv ?_
 refine s_mv ?_
 refine s_nc ?_
 refine s_fa yF43_0 ?_
 refine s_stP yS9 ?_
 refine k_nil (k_seq (awp_seq (awp_region ?_)))
 refine s_mv ?_
 refine s_as ?_
 refine k_nil (k_seq (awp_ret (k_fin ?_)))
 cases hF1
 exact ends_a _ [] Tryd.results19
def m_strings_IndexAny_AC (fuel : Nat) : Prop := ∀ (x1 : ByteArray) (x2 : ByteArray) (r : Int), m_strings_IndexAny fuel x1 x2 = some r → AC Tryd.prog 45 [.t (.sc (.str x1)), .t (.sc (.str x2))] noOb (.t (.sc (.int .i64 r))) noOb
open Go.Proofs Go.RowKit Go.Sort Go.Lib in
theorem idx_rune_valid (r : Int) (h1 : 128 ≤ r) (h2 : r ≤ 2147483647) (w : World) :
   Calls Tryd.prog 74 #[.int .i32 r] w fun e w' => e = .returned (.bool (Utf8.valid r)) ∧ w' = w := by
 have hv : Utf8.valid r = ((decide (r < 55296)) || (decide (57343 < r) && decide (r ≤ 1114111))) := by
   unfold Utf8.valid
   rw [Bool.eq_iff_iff]; simp; omega
 rw [hv]
 go_enter Tryd.func74, Tryd.ntmps74
 go_wp2
 all_goals go_ret
 · rename_i g1 g2
   exact ⟨by rw [decide_eq_true g2]; rfl, rfl⟩
 · rename_i g1 g2 g3 g4
   exact ⟨by rw [decide_eq_true g3, decide_eq_true g4, Bool.and_true, Bool.or_true]; rfl, rfl⟩
 · rename_i g1 g2 g3 g4
   exact ⟨by rw [decide_eq_false (show ¬ r < 55296 by omega), decide_eq_false (show ¬ r ≤ 1114111 by omega), Bool.and_false]; rfl, rfl⟩
 · rename_i g1 g2 g3
   exact ⟨by rw [decide_eq_false (show ¬ r < 55296 by omega), decide_eq_false (show ¬ 57343 < r by omega)]; rfl, rfl⟩
open Go.Proofs Go.RowKit Go.Sort Go.Lib in
theorem idx_rune (r : Int) (h1 : 128 ≤ r) (h2 : r ≤ 2147483647) (w : World) :
   Calls Tryd.prog 60 #[.string ⟨#[32, 40, 41, 123, 125]⟩, .int .i32 r] w fun e w' => e = .returned (.int .i64 (-1)) ∧ Below w.heap.size w w' := by
 by_cases hE : r = 65533
 · subst hE
   go_enter Tryd.func60, Tryd.ntmps60
   go_wp2
   go_loopg [5, 6] 5 (fun g _ _ wx => ∃ i : Nat, i + g = 5 ∧ wx = w.iter ⟨#[32, 40, 41, 123, 125]⟩ i)
   case atStart => exact ⟨0, by omega, rfl⟩
   case round =>
     obtain ⟨i, hi, rfl⟩ := hrel
     cases gk with
     | zero =>
       obtain rfl : i = 5 := by omega
       have hnx := fun ty => run_next_end (P := Tryd.prog) w ⟨#[32, 40, 41, 123, 125]⟩ 5 ty (by decide)
       go_wp2
       go_ret
       exact ⟨rfl, below_iter w _ 5⟩
     | succ g =>
       have h5 : i = 0 ∨ i = 1 ∨ i = 2 ∨ i = 3 ∨ i = 4 := by omega
       have hnx := fun ty => run_next_any (P := Tryd.prog) w ⟨#[32, 40, 41, 123, 125]⟩ i ty (by show i < 5; omega)
       rcases h5 with rfl | rfl | rfl | rfl | rfl
       all_goals
         rw [show Utf8.decode ⟨#[32, 40, 41, 123, 125]⟩ _ = _ from rfl] at hnx
       all_goals go_wp2
       all_goals go_roundg g
       all_goals first | omega | exact ⟨1, by omega, rfl⟩ | exact ⟨2, by omega, rfl⟩ | exact ⟨3, by omega, rfl⟩ | exact ⟨4, by omega, rfl⟩ | exact ⟨5, by omega, rfl⟩
 · cases hv : Utf8.valid r with
   | false =>
     have hw := fun w => idx_rune_valid r h1 h2 w
     rw [hv] at hw
     go_enter Tryd.func60, Tryd.ntmps60
     go_wp2_with (first | (go_at_call 74; refine (hw _).mono ?_; rintro e w1 ⟨rfl, rfl⟩) | go_in)
     go_ret
     exact ⟨rfl, Below.refl _ _⟩
   | true =>
     have hw := fun w => idx_rune_valid r h1 h2 w
     rw [hv] at hw
     have hiB2 : ∀ (k : Nat) (b : UInt8), 128 ≤ b.toNat → ∀ w, Calls Tryd.prog 16 #[.string ((⟨#[32, 40, 41, 123, 125]⟩ : ByteArray).extract k 5), .int .u8 (b.toNat : Int)] w fun e w' => e = .returned (.int .i64 (-1)) ∧ w' = w := fun k b hb w => by
       have h := Tryd.strings_IndexByte ((⟨#[32, 40, 41, 123, 125]⟩ : ByteArray).extract k 5) (b.toNat : Int) w
       rw [idx_high _ _ (fun x hx => by
         rw [ByteArray.data_extract, Array.toList_extract] at hx
         have hx := List.mem_of_mem_drop (List.mem_of_mem_take (show x ∈ ((⟨#[32, 40, 41, 123, 125]⟩ : ByteArray).data.toList.drop k).take (5 - k) from hx))
         simp at hx
         rcases hx with rfl | rfl | rfl | rfl | rfl <;> decide) (by simpa using hb)] at h
       exact h
     rcases enc_cases r h1 hv with ⟨a, b, he, hb⟩ | ⟨a, b, c, he, hb⟩ | ⟨a, b, c, d, he, hb⟩
     · go_enter Tryd.func60, Tryd.ntmps60
       go_wp2_with (first | (go_at_call 74; refine (hw _).mono ?_; rintro e w1 ⟨rfl, rfl⟩) | go_in)
       · go_step3
         go_wp2
         go_loopg [9, 10] 1 (fun g i _ wx => i = .int .i64 1 ∧ wx = w1)
         case atStart => exact ⟨rfl, rfl⟩
         case round =>
           obtain ⟨rfl, rfl⟩ := hrel
           have hn1 : ¬ (40 : Int) = (b.toNat : Int) := by omega
           go_wp2
           go_step3
           go_wp2
           go_quiet (fail)
           go_wp2
           · rename_i hne
             have hw2 : IntKind.i64.wrap 2 = 2 := by decide
             have hw3 : IntKind.i64.wrap (1 + 1) = 2 := by decide
             refine wp_region_quiet_lit (by kernel_rfl) (by kernel_rfl) ?_
             have hiB1 := hiB2 2 b hb
             repeat (quiet_step ((go_at_call 16; exact (hiB1 _).mono fun _ _ h => ⟨h.1, _, h.2⟩)))
             refine wpQuiet_nil ?_
             intro _ hw'
             obtain ⟨nq2, rfl⟩ := hw'
             go_wp2
             simp only [Exit.noGoto, Exit.inBlock, Exit.then]
             go_ret
             exact ⟨rfl, below_drewN wr _⟩
           · rename_i hne K1 ha
             exfalso
             have e1 : (40 : Int) = (b.toNat : Int) := by simp only [bne_eq_false_iff_eq] at hne; exact hne
             exact hn1 e1
     · go_enter Tryd.func60, Tryd.ntmps60
       go_wp2_with (first | (go_at_call 74; refine (hw _).mono ?_; rintro e w1 ⟨rfl, rfl⟩) | go_in)
       · go_step3
         go_wp2
         go_loopg [9, 10] 1 (fun g i _ wx => i = .int .i64 2 ∧ wx = w1)
         case atStart => exact ⟨rfl, rfl⟩
         case round =>
           obtain ⟨rfl, rfl⟩ := hrel
           have hn1 : ¬ (41 : Int) = (c.toNat : Int) := by omega
           go_wp2
           go_step3
           go_wp2
           go_quiet (fail)
           go_wp2
           · rename_i hne
             have hw2 : IntKind.i64.wrap 3 = 3 := by decide
             have hw3 : IntKind.i64.wrap (2 + 1) = 3 := by decide
             refine wp_region_quiet_lit (by kernel_rfl) (by kernel_rfl) ?_
             have hiB1 := hiB2 3 c hb
             repeat (quiet_step ((go_at_call 16; exact (hiB1 _).mono fun _ _ h => ⟨h.1, _, h.2⟩)))
             refine wpQuiet_nil ?_
             intro _ hw'
             obtain ⟨nq2, rfl⟩ := hw'
             go_wp2
             simp only [Exit.noGoto, Exit.inBlock, Exit.then]
             go_ret
             exact ⟨rfl, below_drewN wr _⟩
           · rename_i hne K1 ha
             exfalso
             have e1 : (41 : Int) = (c.toNat : Int) := by simp only [bne_eq_false_iff_eq] at hne; exact hne
             exact hn1 e1
     · go_enter Tryd.func60, Tryd.ntmps60
       go_wp2_with (first | (go_at_call 74; refine (hw _).mono ?_; rintro e w1 ⟨rfl, rfl⟩) | go_in)
       · go_step3
         go_wp2
         go_loopg [9, 10] 1 (fun g i _ wx => i = .int .i64 3 ∧ wx = w1)
         case atStart => exact ⟨rfl, rfl⟩
         case round =>
           obtain ⟨rfl, rfl⟩ := hrel
           have hn1 : ¬ (123 : Int) = (d.toNat : Int) := by omega
           go_wp2
           go_step3
           go_wp2
           go_quiet (fail)
           go_wp2
           · rename_i hne
             have hw2 : IntKind.i64.wrap 4 = 4 := by decide
             have hw3 : IntKind.i64.wrap (3 + 1) = 4 := by decide
             refine wp_region_quiet_lit (by kernel_rfl) (by kernel_rfl) ?_
             have hiB1 := hiB2 4 d hb
             repeat (quiet_step ((go_at_call 16; exact (hiB1 _).mono fun _ _ h => ⟨h.1, _, h.2⟩)))
             refine wpQuiet_nil ?_
             intro _ hw'
             obtain ⟨nq2, rfl⟩ := hw'
             go_wp2
             simp only [Exit.noGoto, Exit.inBlock, Exit.then]
             go_ret
             exact ⟨rfl, below_drewN wr _⟩
           · rename_i hne K1 ha
             exfalso
             have e1 : (123 : Int) = (d.toNat : Int) := by simp only [bne_eq_false_iff_eq] at hne; exact hne
             exact hn1 e1
open Go.Proofs Go.RowKit Go.Sort Go.Lib in
theorem idx_any_short (s : ByteArray) (h8 : s.size ≤ 8) (w : World) :
   Calls Tryd.prog 45 #[.string s, .string ⟨#[32, 40, 41, 123, 125]⟩] w fun e w' => e = .returned (.int .i64 (Lib.indexAny s.data.toList [32, 40, 41, 123, 125])) ∧ Below w.heap.size w w' := by
 have h8z : decide ((8 : Int) < (s.size : Int)) = false := decide_eq_false (by omega)
 go_enter Tryd.func45, Tryd.ntmps45
 go_wp2_with (go_at_call 61; refine (Tryd.strings_shouldUseASCIISet _ _).mono ?_; rintro e w' ⟨rfl, hw⟩; rw [hw, h8z])
 go_loopg [9, 10] s.size (fun g _ _ wx => ∃ i : Nat, i + g = s.size ∧ wx.heap[w.heap.size]? = some (.stringIter s i) ∧ Below w.heap.size w wx ∧ Lib.NoAny s.data.toList [32, 40, 41, 123, 125] i)
 case atStart => exact ⟨0, by omega, World.iter_heap w s 0, below_iter w s 0, Lib.NoAny.zero _ _⟩
 case round =>
   obtain ⟨i, hig, hk, hb, hno⟩ := hrel
   have HN : Aside (Lib.NoAny s.data.toList [32, 40, 41, 123, 125] i) := hno
   clear hno
   cases gk with
   | zero =>
     obtain rfl : i = s.size := by omega
     have hnx := fun ty => run_next_end_at (P := Tryd.prog) wr w.heap.size s s.size ty hk (Nat.lt_irrefl _)
     go_wp2
     go_ret
     exact ⟨by rw [Lib.indexAny_none (by rw [← Lib.size_eq]; exact HN.out)]; rfl, hb⟩
   | succ g =>
     have hi : i < s.size := by omega
     obtain ⟨x, hx⟩ : ∃ x : UInt8, s[i]'hi = x := ⟨_, rfl⟩
     have hxl : s.data.toList[i]? = some x := by rw [← hx]; exact Lib.data_getElem? s i hi
     have Hx : Aside (s.data.toList[i]? = some x) := hxl
     have hnx := fun ty => run_next_any_at (P := Tryd.prog) wr w.heap.size s i ty hk hi
     have hk2 := fun p => iterAt_heap wr w.heap.size s i p hk
     have hb2 := fun p => below_iterAt hb (Nat.le_refl w.heap.size) s p
     by_cases hx128 : x.toNat < 128
     · rw [decode_ascii s i hi (by rw [hx]; exact hx128), hx] at hnx
       clear hxl hx
       have hcon := Lib.contains_iff_indexByte [32, 40, 41, 123, 125] x
       have hback : ((x.toNat : Int)).toNat.toUInt8 = x := by simp
       cases hin : ([32, 40, 41, 123, 125] : List UInt8).contains x
       · rw [hin] at hcon
         have hlt : ¬ ((0 : Int) ≤ Lib.indexByte [32, 40, 41, 123, 125] x) := of_decide_eq_false hcon.symm
         clear hcon
         have hR : ∀ w, Calls Tryd.prog 60 #[.string ⟨#[32, 40, 41, 123, 125]⟩, .int .i32 (x.toNat : Int)] w fun e w' => e = .returned (.int .i64 (Lib.indexByte [32, 40, 41, 123, 125] x)) ∧ w' = w := fun w => by
           have := Tryd.strings_IndexRune_ascii ⟨#[32, 40, 41, 123, 125]⟩ (x.toNat : Int) w (by omega) (by omega)
           rw [hback] at this; exact this
         go_wp2_with (go_at_call 60; refine (hR _).mono ?_; rintro e w' ⟨rfl, hw⟩; rw [hw])
         go_roundg g
         case measure => omega
         case rel => exact ⟨i + 1, by omega, hk2 _, hb2 _, HN.out.succ Hx.out hin⟩
       · rw [hin] at hcon
         have hge : (0 : Int) ≤ Lib.indexByte [32, 40, 41, 123, 125] x := of_decide_eq_true hcon.symm
         clear hcon
         have hR : ∀ w, Calls Tryd.prog 60 #[.string ⟨#[32, 40, 41, 123, 125]⟩, .int .i32 (x.toNat : Int)] w fun e w' => e = .returned (.int .i64 (Lib.indexByte [32, 40, 41, 123, 125] x)) ∧ w' = w := fun w => by
           have := Tryd.strings_IndexRune_ascii ⟨#[32, 40, 41, 123, 125]⟩ (x.toNat : Int) w (by omega) (by omega)
           rw [hback] at this; exact this
         go_wp2_with (go_at_call 60; refine (hR _).mono ?_; rintro e w' ⟨rfl, hw⟩; rw [hw])
         go_ret
         exact ⟨by rw [Lib.indexAny_hit HN.out Hx.out hin]; rfl, hb2 _⟩
     · have hhigh := decode_high s i hi (by rw [hx]; omega)
       have hle := decode_le s i
       have HC : Aside (∀ j, j < (Utf8.decode s i).2 → ∃ hj : i + j < s.size, 128 ≤ (s[i + j]'hj).toNat) := decode_cont s i hi (by rw [hx]; omega)
       have hsz : i + (Utf8.decode s i).2 ≤ s.size := by
         obtain ⟨hj, _⟩ := HC.out ((Utf8.decode s i).2 - 1) (by omega)
         omega
       clear hxl hx
       generalize Utf8.decode s i = dc at hnx hhigh hle HC hsz
       obtain ⟨rn, wd⟩ := dc
       dsimp only at hnx hhigh hle HC hsz
       have hR := fun w => idx_rune (rn : Int) (by omega) (by omega) w
       go_wp2_with (go_at_call 60; refine (hR _).mono ?_; rintro e w' ⟨rfl, hw⟩)
       go_roundg (s.size - (i + wd))
       case measure => omega
       case rel =>
         refine ⟨i + wd, by omega, ?_, ?_, noAny_on HN.out HC.out⟩
         · rw [hw.block _ ?_]
           · exact hk2 _
           · exact (Array.getElem?_eq_some_iff.1 (hk2 (i + wd))).1
         · exact (hb2 (i + wd)).trans ⟨hw.os, hw.tape, hw.output, hw.size, fun k hk3 => hw.block k (Nat.lt_of_lt_of_le hk3 (by rw [iterAt_size]; exact hb.size))⟩
theorem m_strings_IndexAny_ok (fuel : Nat) : m_strings_IndexAny_AC fuel := by
 intro x1 x2 r h
 obtain ⟨h0, h⟩ := chk_some h
 obtain ⟨h1, h⟩ := chk_some h
 obtain rfl := Option.some.inj h
 obtain rfl := of_decide_eq_true h1
 have h0 := of_decide_eq_true h0
 refine ac_two_b (a := .str x1) (b := .str _) (r := .int .i64 _) ⟨_, Tryd.func45, by kernel_rfl, by kernel_rfl⟩ (fun w _ => ?_)
 by_cases h8 : x1.size ≤ 8
 · exact idx_any_short x1 h8 w
 · have hz : (Tryd.prog.info? 81).map (fun i => (i.zero, i.size)) = some (some (.agg (Array.replicate 256 (.bool false))), 256) := by kernel_rfl
   refine (Tryd.strings_IndexAny_long (zero_of_info hz).1 x1 _ w (by decide) (by omega) h0 (by decide) (asc_all (l := [32, 40, 41, 123, 125]) (by decide))).mono fun e w' q => ⟨q.1, ?_⟩
   rw [q.2]
   exact below_alloc2 w _ _
def m_impl_scan_word_AC (fuel : Nat) : Prop := ∀ (o1 : scan) (r : (ByteArray × scan)), m_impl_scan_word fuel o1 = some r → AC Tryd.prog 33 [.rf 9000 0] (objs [(9000, .box [.t (.sc (.str o1.s)), .t (.sc (.bool o1.bad))])]) (.t (.sc (.str r.1))) (objs [(9000, .box [.t (.sc (.str r.2.s)), .t (.sc (.bool r.2.bad))])])
theorem m_impl_scan_word_ok (fuel : Nat) : m_impl_scan_word_AC fuel := by
 intro o1 r hF0
 unfold m_impl_scan_word at hF0
 refine AC_i [.t (.sc (.str r.1))] Tryd.func33 rfl Tryd.ntmps33 ?_
 intro C hC
 refine awp_seq (awp_region ?_)
 refine s_as ?_
 refine k_nil (k_seq (awp_seq (awp_region ?_)))
 refine s_mv ?_
 refine s_nc ?_
 refine s_fa yF43_0 ?_
 refine s_ld1 yA9 ?_
 obtain ⟨v1, hv1, hF1⟩ := bind_some' hF0
 refine s_pure [] (m_strings_IndexAny_ok fuel _ _ _ hv1) ?_
 refine s_as ?_
 refine k_nil (k_seq ?_)
 refine awp_jn (α := Nat × Int) [3, 10, 11, 12, 13, 14, 15, 16] [] [] (fun a => [(3, .t (.sc (.int .i64 a.2)))]) (fun a => []) (fun a => a.1 ≤ fuel ∧ m_impl_scan_word_j1 a.1 o1 a.2 = some r) ?_ ?_
 refine awp_seq (awp_region ?_)
 refine s_mv ?_
 refine s_lt ?_
 refine k_nil (k_seq ?_)
 refine w_cond hF1 ?_ ?_ <;> intro hc2 hF2
 refine awp_region ?_
 refine s_mv ?_
 refine s_nc ?_
 refine s_fa yF43_0 ?_
 refine s_ld1 yA9 ?_
 refine s_lenS yU9 ?_
 refine s_as ?_
 refine k_nil ?_
 exact s_jn (fuel, (o1.s.size : Int)) ⟨by first | omega | (dsimp only; omega), hF2⟩
 refine awp_skip ?_
 exact s_jn (fuel, v1) ⟨by first | omega | (dsimp only; omega), hF2⟩
 clear hF1
 rintro ⟨fu, g3⟩ ⟨hl4, hF2⟩
 dsimp only at hl4 hF2 ⊢
 obtain _ | fu := fu
 · rw [m_impl_scan_word_j1] at hF2; cases hF2
 rw [m_impl_scan_word_j1] at hF2
 refine awp_seq (awp_region ?_)
 refine s_mv ?_
 refine s_nc ?_
 refine s_fa yF43_0 ?_
 refine s_ld1 yA9 ?_
 refine s_mv ?_
 obtain ⟨v5, hv5, hF3⟩ := bind_some' hF2
 refine s_ss01 hv5 yU9 ?_
 refine s_as ?_
 refine k_nil (k_seq (awp_seq (awp_region ?_)))
 refine s_mv ?_
 refine s_mv ?_
 refine s_nc ?_
 refine s_fa yF43_0 ?_
 refine s_ld1 yA9 ?_
 refine s_mv ?_
 obtain ⟨v6, hv6, hF4⟩ := bind_some' hF3
 refine s_ss10 hv6 yU9 ?_
 refine s_nc ?_
 refine s_fa yF43_0 ?_
 refine s_stP yS9 ?_
 refine k_nil (k_seq (awp_seq (awp_region ?_)))
 refine s_mv ?_
 refine s_as ?_
 refine k_nil (k_seq (awp_ret (k_fin ?_)))
 cases hF4
 exact ends_a _ [] Tryd.results33
def m_impl_number_AC (fuel : Nat) : Prop := ∀ (x1 : ByteArray) (x2 : Int) (r : Int × Bool), m_impl_number fuel x1 x2 = some r → AC Tryd.prog 34 [.t (.sc (.str x1)), .t (.sc (.int .i64 x2))] noOb (.tp [.t (.sc (.int .i64 r.1)), .t (.sc (.bool r.2))]) noOb
open Go.Sort Go.RowKit in
theorem number_walk (s : ByteArray) (most : Int) (w : World) (hs : s.size ≤ 140737488355328) (ht : TabW Tryd.prog w) :
   Calls Tryd.prog 34 #[.string s, .int .i64 most] w fun e w' => e = .returned (match Lib.atoiAll s.data.toList with
     | .ok v => .tuple #[.int .i64 v, .bool ((decide ((⟨(Lib.itoa v).toArray⟩ : ByteArray) = s)) && ((decide (0 ≤ v)) && decide (v ≤ most)))]
     | .range => .tuple #[.int .i64 (Lib.atoiSat s.data.toList), .bool false]
     | _ => .tuple #[.int .i64 0, .bool false]) ∧ Below w.heap.size w w' := by
 rcases h : Lib.atoiAll s.data.toList with v | _ | _
 · obtain ⟨b1, b2⟩ := atoiAll_in h
   have cA := Tryd.strconv_Atoi_ok s (by omega) v h w
   go_enter Tryd.func34, Tryd.ntmps34
   go_wp2_with (go_at_call 46; go_fit cA; rintro e w1 ⟨rfl, hw⟩)
   have hb1 : Below w.heap.size w w1 := by
     rcases hw with rfl | ⟨t, rfl⟩
     · exact Below.refl _ _
     · exact Lib.bytesWorld_below _ _ _
   clear hw cA
   have cI := Tryd.strconv_Itoa v b1 b2 w1 ((ht.below hb1).tabIs (by kernel_rfl))
   go_fit cI
   rintro e w2 ⟨rfl, k, os, rfl⟩
   have hb2 : Below w.heap.size w (grow (w1.drewN k) os) := hb1.trans (below_grow w.heap.size hb1.size k os)
   clear cI
   go_wp2
   · rename_i h1 h2
     go_ret2
     have e1 : (⟨(Lib.itoa v).toArray⟩ : ByteArray) = s := by rw [h1, Lib.toList_data]
     exact ⟨by rw [decide_eq_true e1, decide_eq_true h2]; rfl, hb2⟩
   · rename_i h1 h2
     go_ret2
     exact ⟨by rw [decide_eq_false (show ¬ 0 ≤ v by omega), Bool.false_and, Bool.and_false]; rfl, hb2⟩
   · rename_i h1
     go_ret2
     have e1 : ¬ (⟨(Lib.itoa v).toArray⟩ : ByteArray) = s := fun e => h1 (by rw [← e, Lib.toList_data])
     exact ⟨by rw [decide_eq_false e1, Bool.false_and]; rfl, hb2⟩
 · obtain ⟨t, p, hv⟩ := ht.errSyntax (by kernel_rfl)
   have cA := Tryd.strconv_Atoi_syntax_var s (by omega) h t p w hv
   go_enter Tryd.func34, Tryd.ntmps34
   go_wp2_with (go_at_call 46; go_fit cA; rintro e w1 ⟨N, rfl, hN0, hN, hb⟩)
   go_ret2
   exact ⟨rfl, hb⟩
 · obtain ⟨t, p, hv⟩ := ht.errRange (by kernel_rfl)
   have cA := Tryd.strconv_Atoi_range_var s (by omega) h t p w hv
   go_enter Tryd.func34, Tryd.ntmps34
   go_wp2_with (go_at_call 46; go_fit cA; rintro e w1 ⟨N, rfl, hN0, hN, hb⟩)
   go_ret2
   exact ⟨rfl, hb⟩
end Go.Abs
