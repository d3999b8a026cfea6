/- The functions answer what their mirrors answer. -/
import Derived.Test.YtpkelhmjemcogaaMirT1
import Derived.Test.YtpkelhmjemcogaaProg
set_option maxHeartbeats 4000000
set_option linter.unusedVariables false
namespace Go.Abs
open Go.Proofs
theorem yU22 : Try.prog.underlying 22 = some (.slice 5) := by kernel_rfl
theorem yZ29 : zcells Try.prog 29 = some [.t (.sc (.int .i64 0)), .t (.sc (.int .i64 0)), .t (.sc (.str ⟨#[]⟩)), .t (.sc (.int .i64 0)), .nl, .t (.sc (.int .i64 0)), .t (.sc (.str ⟨#[]⟩)), .t (.sc (.int .i64 0)), .nl, .nl, .nl] := by kernel_rfl
theorem yE22 : elOf Try.prog 22 = some (5, 1) := by kernel_rfl
theorem yZ71 : zcells Try.prog 71 = some [.nl, .t (.sc (.int .i64 0))] := by kernel_rfl
theorem yL71 : placesOf Try.prog 71 = some [(0, 1), (1, 1)] := by kernel_rfl
theorem yP23 : apOf Try.prog 23 = some (3, 8, 1) := by kernel_rfl
theorem yR3 : zrow Try.prog 3 = some [(.sc (.int .i64 0))] := by kernel_rfl
theorem yU23 : Try.prog.underlying 23 = some (.slice 3) := by kernel_rfl
theorem yF71_1 : fldOf Try.prog 71 1 = some (1, 3) := by kernel_rfl
theorem yA3 : aggOf Try.prog 3 = some false := by kernel_rfl
theorem yS3 : szOf Try.prog 3 = some 1 := by kernel_rfl
theorem yF71_0 : fldOf Try.prog 71 0 = some (0, 22) := by kernel_rfl
theorem yA22 : aggOf Try.prog 22 = some false := by kernel_rfl
theorem yA5 : aggOf Try.prog 5 = some false := by kernel_rfl
theorem yU5 : Try.prog.underlying 5 = some (.int .u8) := by kernel_rfl
theorem yU3 : Try.prog.underlying 3 = some (.int .i64) := by kernel_rfl
theorem yMix : Try.prog.follows .mixedOrders = true := by kernel_rfl
theorem yE23 : elOf Try.prog 23 = some (3, 1) := by kernel_rfl
theorem yL29 : placesOf Try.prog 29 = some [(0, 1), (1, 1), (2, 1), (3, 1), (4, 1), (5, 5), (10, 1)] := by kernel_rfl
theorem yS29 : szOf Try.prog 29 = some 11 := by kernel_rfl
theorem yA29 : aggOf Try.prog 29 = some true := by kernel_rfl
theorem yZ26 : zcells Try.prog 26 = some [.t (.sc (.int .i64 0)), .t (.sc (.str ⟨#[]⟩)), .t (.sc (.int .i64 0)), .nl, .nl] := by kernel_rfl
theorem yL26 : placesOf Try.prog 26 = some [(0, 1), (1, 1), (2, 1), (3, 1), (4, 1)] := by kernel_rfl
theorem yS26 : szOf Try.prog 26 = some 5 := by kernel_rfl
theorem yA26 : aggOf Try.prog 26 = some true := by kernel_rfl
theorem yP31 : apOf Try.prog 31 = some (9, 16, 1) := by kernel_rfl
theorem yR9 : zrow Try.prog 9 = some [(.sc (.str ⟨#[]⟩))] := by kernel_rfl
theorem yU31 : Try.prog.underlying 31 = some (.slice 9) := by kernel_rfl
theorem yE31 : elOf Try.prog 31 = some (9, 1) := by kernel_rfl
theorem yA9 : aggOf Try.prog 9 = some false := by kernel_rfl
theorem yF26_4 : fldOf Try.prog 26 4 = some (4, 24) := by kernel_rfl
theorem yA24 : aggOf Try.prog 24 = some false := by kernel_rfl
theorem yP24 : apOf Try.prog 24 = some (26, 80, 5) := by kernel_rfl
theorem yR26 : zrow Try.prog 26 = some [(.sc (.int .i64 0)), (.sc (.str ⟨#[]⟩)), (.sc (.int .i64 0)), .sl [], .sl []] := by kernel_rfl
theorem yS24 : szOf Try.prog 24 = some 1 := by kernel_rfl
theorem yI26 : ∃ x, Try.prog.info? 26 = some x := ⟨_, rfl⟩
theorem yF29_0 : fldOf Try.prog 29 0 = some (0, 3) := by kernel_rfl
theorem yF29_4 : fldOf Try.prog 29 4 = some (4, 23) := by kernel_rfl
theorem yA23 : aggOf Try.prog 23 = some false := by kernel_rfl
theorem yS23 : szOf Try.prog 23 = some 1 := by kernel_rfl
theorem yF29_6 : fldOf Try.prog 29 6 = some (10, 27) := by kernel_rfl
theorem yA27 : aggOf Try.prog 27 = some false := by kernel_rfl
theorem yP27 : apOf Try.prog 27 = some (29, 168, 11) := by kernel_rfl
theorem yR29 : zrow Try.prog 29 = some [(.sc (.int .i64 0)), (.sc (.int .i64 0)), (.sc (.str ⟨#[]⟩)), (.sc (.int .i64 0)), .sl [], (.sc (.int .i64 0)), (.sc (.str ⟨#[]⟩)), (.sc (.int .i64 0)), .sl [], .sl [], .sl []] := by kernel_rfl
theorem yS27 : szOf Try.prog 27 = some 1 := by kernel_rfl
theorem yI29 : ∃ x, Try.prog.info? 29 = some x := ⟨_, rfl⟩
theorem yI3 : ∃ x, Try.prog.info? 3 = some x := ⟨_, rfl⟩
theorem yF29_1 : fldOf Try.prog 29 1 = some (1, 3) := by kernel_rfl
theorem yF29_2 : fldOf Try.prog 29 2 = some (2, 9) := by kernel_rfl
theorem yF29_3 : fldOf Try.prog 29 3 = some (3, 3) := by kernel_rfl
theorem yF29_5 : fldOf Try.prog 29 5 = some (5, 26) := by kernel_rfl
theorem yF26_0 : fldOf Try.prog 26 0 = some (0, 3) := by kernel_rfl
theorem yF26_1 : fldOf Try.prog 26 1 = some (1, 9) := by kernel_rfl
theorem yF26_2 : fldOf Try.prog 26 2 = some (2, 3) := by kernel_rfl
theorem yF26_3 : fldOf Try.prog 26 3 = some (3, 23) := by kernel_rfl
theorem yU24 : Try.prog.underlying 24 = some (.slice 26) := by kernel_rfl
theorem yE24 : elOf Try.prog 24 = some (26, 5) := by kernel_rfl
theorem yU27 : Try.prog.underlying 27 = some (.slice 29) := by kernel_rfl
theorem yE27 : elOf Try.prog 27 = some (29, 11) := by kernel_rfl
theorem yS9 : szOf Try.prog 9 = some 1 := by kernel_rfl
theorem yI9 : ∃ x, Try.prog.info? 9 = some x := ⟨_, rfl⟩
def m_spec_l15Open_AC (fuel : Nat) : Prop := ∀ (x1 : (List Int)) (r : l15Rd), m_spec_l15Open fuel x1 = some r → AC Try.prog 36 [.t (.sl (x1.map rB))] (objs []) (.rf 10 0) (objs [(10, .box [.t (.sl (r.b.map rB)), .t (.sc (.int .i64 r.p))])])
theorem m_spec_l15Open_ok (fuel : Nat) : m_spec_l15Open_AC fuel := by
  intro x1 r hF0
  unfold m_spec_l15Open at hF0
  refine AC_intro (rs := [.rf 10 0]) Try.func36 rfl (by kernel_rfl) (by simp [Try.ntmps36]) (keep_all rfl) ?_
  intro C hC
  rw [Try.ntmps36]
  refine awp_seq ?_
  refine awp_region ?_
  refine s_as ?_
  refine k_nil ?_
  refine k_seq ?_
  refine awp_seq ?_
  refine awp_seq ?_
  refine awp_region ?_
  refine s_mv ?_
  refine s_lenT yU22 ?_
  refine s_gt ?_
  refine k_nil ?_
  refine k_seq ?_
  refine w_cond hF0 (fun hc1 hF1 => ?_) (fun hc1 hF1 => ?_) <;> clear hF0
  refine awp_lenT 0 (fun hb2 => ?_)
  refine awp_region ?_
  refine s_mv ?_
  replace hF1 := bind_some' hF1
  obtain ⟨v3, hv3, hF2⟩ := hF1
  refine s_sl01 rB (fun _ => rfl) hv3 yU22 yE22 ?_
  refine s_as ?_
  refine k_nil ?_
  refine k_seq ?_
  refine awp_seq ?_
  refine awp_region ?_
  refine s_mv ?_
  refine s_bld yZ71 yL71 ?_
  refine s_box ?_
  refine s_as ?_
  refine k_nil ?_
  refine k_seq ?_
  refine awp_ret ?_
  refine k_fin ?_
  obtain rfl := Option.some.inj hF2
  exact ends_gen _ [] (by rw [Try.results36]; exact (res_tmp (by conv => lhs; whnf) res_nil))
  refine awp_skip ?_
  refine k_seq ?_
  refine awp_seq ?_
  refine awp_region ?_
  refine s_mv ?_
  refine s_bld yZ71 yL71 ?_
  refine s_box ?_
  refine s_as ?_
  refine k_nil ?_
  refine k_seq ?_
  refine awp_ret ?_
  refine k_fin ?_
  obtain rfl := Option.some.inj hF1
  exact ends_gen _ [] (by rw [Try.results36]; exact (res_tmp (by conv => lhs; whnf) res_nil))
def m_spec_l15Rd_pick_AC (fuel : Nat) : Prop := ∀ (o1 : l15Rd) (x2 : Int) (r : (Int × l15Rd)), m_spec_l15Rd_pick fuel o1 x2 = some r → AC Try.prog 39 [.rf 9000 0, .t (.sc (.int .i64 x2))] (objs [(9000, .box [.t (.sl (o1.b.map rB)), .t (.sc (.int .i64 o1.p))])]) (.t (.sc (.int .i64 r.1))) (objs [(9000, .box [.t (.sl (r.2.b.map rB)), .t (.sc (.int .i64 r.2.p))])])
theorem m_spec_l15Rd_pick_ok (fuel : Nat) : m_spec_l15Rd_pick_AC fuel := by
  intro o1 x2 r hF0
  unfold m_spec_l15Rd_pick at hF0
  refine AC_intro (rs := [.t (.sc (.int .i64 r.1))]) Try.func39 rfl (by kernel_rfl) (by simp [Try.ntmps39]) (keep_all rfl) ?_
  intro C hC
  rw [Try.ntmps39]
  refine awp_seq ?_
  refine awp_region ?_
  refine s_as ?_
  refine k_nil ?_
  refine k_seq ?_
  refine awp_seq ?_
  refine awp_region ?_
  refine s_mv ?_
  refine s_mv ?_
  refine s_nc ?_
  refine s_fa yF71_1 ?_
  refine s_ld1 yA3 ?_
  refine s_add rfl ?_
  refine s_nc ?_
  refine s_fa yF71_1 ?_
  refine s_stP yS3 ?_
  refine k_nil ?_
  refine k_seq ?_
  refine awp_seq ?_
  refine awp_seq ?_
  refine awp_region ?_
  refine s_mv ?_
  refine s_lt ?_
  refine s_mv ?_
  refine w_guard _ 17 hF0 (fun hc1 hF1 => ?_) (fun hc1 hF1 => ?_) <;> clear hF0
  refine r_no rfl ?_
  refine r_no rfl ?_
  refine r_no rfl ?_
  refine r_no rfl ?_
  refine r_no rfl ?_
  refine r_no rfl ?_
  refine s_pkt ?_
  refine k_nil ?_
  refine k_seq ?_
  refine awp_true rfl ?_
  refine awp_seq ?_
  refine awp_region ?_
  refine s_as ?_
  refine k_nil ?_
  refine k_seq ?_
  refine awp_ret ?_
  refine k_seq_ret ?_
  refine k_fin ?_
  obtain rfl := Option.some.inj hF1
  exact ends_gen _ [] (by rw [Try.results39]; exact (res_tmp (by conv => lhs; whnf) res_nil))
  refine s_mv ?_
  refine s_nc ?_
  refine s_fa yF71_0 ?_
  refine s_ld1 yA22 ?_
  refine s_lenT yU22 ?_
  refine s_eq ?_
  refine s_pkf ?_
  refine k_nil ?_
  refine k_seq ?_
  refine w_cond hF1 (fun hc2 hF2 => ?_) (fun hc2 hF2 => ?_) <;> clear hF1
  refine awp_seq ?_
  refine awp_region ?_
  refine s_as ?_
  refine k_nil ?_
  refine k_seq ?_
  refine awp_ret ?_
  refine k_seq_ret ?_
  refine k_fin ?_
  obtain rfl := Option.some.inj hF2
  exact ends_gen _ [] (by rw [Try.results39]; exact (res_tmp (by conv => lhs; whnf) res_nil))
  refine awp_skip ?_
  refine k_seq ?_
  refine awp_seq ?_
  refine awp_region ?_
  refine s_mv ?_
  refine s_nc ?_
  refine s_fa yF71_1 ?_
  refine s_ld1 yA3 ?_
  refine s_sub rfl ?_
  refine s_as ?_
  refine k_nil ?_
  refine k_seq ?_
  refine awp_seq ?_
  refine awp_seq ?_
  refine awp_region ?_
  refine s_mv ?_
  refine s_mv ?_
  refine s_nc ?_
  refine s_fa yF71_0 ?_
  refine s_ld1 yA22 ?_
  refine s_lenT yU22 ?_
  refine s_lt ?_
  refine k_nil ?_
  refine k_seq ?_
  refine w_cond hF2 (fun hc3 hF3 => ?_) (fun hc3 hF3 => ?_) <;> clear hF2
  refine awp_seq ?_
  refine awp_region ?_
  refine s_mv ?_
  refine s_nc ?_
  refine s_fa yF71_0 ?_
  refine s_ld1 yA22 ?_
  refine s_mv ?_
  replace hF3 := bind_some' hF3
  obtain ⟨v4, hv4, hF4⟩ := hF3
  refine s_ixT rB hv4 rfl yE22 ?_
  refine s_ld1 yA5 ?_
  refine s_int yU5 yU3 rfl ?_
  refine s_mv ?_
  obtain ⟨hk5, hF5⟩ := chk_some hF4
  refine s_rem (h0 := not_zero hk5) ?_
  refine s_as ?_
  refine k_nil ?_
  refine k_seq ?_
  refine awp_ret ?_
  refine k_seq_ret ?_
  refine k_fin ?_
  obtain rfl := Option.some.inj hF5
  exact ends_gen _ [] (by rw [Try.results39]; exact (res_tmp (by conv => lhs; whnf) res_nil))
  refine awp_skip ?_
  refine k_seq ?_
  refine awp_seq ?_
  refine awp_draw yMix (by kernel_rfl) ?_
  refine s_mv ?_
  refine s_nc ?_
  refine s_fa yF71_0 ?_
  refine s_ld1 yA22 ?_
  refine s_mv ?_
  refine s_mv ?_
  refine s_nc ?_
  refine s_fa yF71_0 ?_
  refine s_ld1 yA22 ?_
  refine s_lenT yU22 ?_
  obtain ⟨hk6, hF4⟩ := chk_some hF3
  refine s_rem (h0 := not_zero hk6) ?_
  replace hF4 := bind_some' hF4
  obtain ⟨v7, hv7, hF5⟩ := hF4
  refine s_ixT rB hv7 rfl yE22 ?_
  refine s_ld1 yA5 ?_
  refine s_int yU5 yU3 rfl ?_
  refine s_mul rfl ?_
  refine s_mv ?_
  refine s_nc ?_
  refine s_fa yF71_0 ?_
  refine s_ld1 yA22 ?_
  refine s_mv ?_
  refine s_mul rfl ?_
  refine s_add rfl ?_
  refine s_mv ?_
  refine s_nc ?_
  refine s_fa yF71_0 ?_
  refine s_ld1 yA22 ?_
  refine s_lenT yU22 ?_
  obtain ⟨hk8, hF6⟩ := chk_some hF5
  refine s_rem (h0 := not_zero hk8) ?_
  replace hF6 := bind_some' hF6
  obtain ⟨v9, hv9, hF7⟩ := hF6
  refine s_ixT rB hv9 rfl yE22 ?_
  refine s_ld1 yA5 ?_
  refine s_int yU5 yU3 rfl ?_
  refine s_mul rfl ?_
  refine s_add rfl ?_
  refine s_mv ?_
  refine s_mul rfl ?_
  refine s_add rfl ?_
  refine s_mv ?_
  refine s_mv ?_
  refine s_nc ?_
  refine s_fa yF71_0 ?_
  refine s_ld1 yA22 ?_
  refine s_lenT yU22 ?_
  obtain ⟨hk10, hF8⟩ := chk_some hF7
  refine s_quo (h0 := not_zero hk10) rfl ?_
  refine s_mul rfl ?_
  refine s_add rfl ?_
  refine s_as ?_
  refine k_nilD (by kernel_rfl) ?_
  refine k_seq ?_
  refine awp_seq ?_
  refine awp_region ?_
  refine s_mv ?_
  refine s_mv ?_
  refine s_quo rfl ?_
  refine s_xor rfl ?_
  refine s_as ?_
  refine k_nil ?_
  refine k_seq ?_
  refine awp_seq ?_
  refine awp_region ?_
  refine s_mv ?_
  refine s_mv ?_
  obtain ⟨hk11, hF9⟩ := chk_some hF8
  refine s_rem (h0 := not_zero hk11) ?_
  refine s_as ?_
  refine k_nil ?_
  refine k_seq ?_
  refine awp_ret ?_
  refine k_fin ?_
  obtain rfl := Option.some.inj hF9
  exact ends_gen _ [] (by rw [Try.results39]; exact (res_tmp (by conv => lhs; whnf) res_nil))
def m_spec_l15Rd_num_AC (fuel : Nat) : Prop := ∀ (o1 : l15Rd) (x2 : (List Int)) (r : (Int × l15Rd)), m_spec_l15Rd_num fuel o1 x2 = some r → AC Try.prog 38 [.rf 9000 0, .t (.sl (x2.map rI))] (objs [(9000, .box [.t (.sl (o1.b.map rB)), .t (.sc (.int .i64 o1.p))])]) (.t (.sc (.int .i64 r.1))) (objs [(9000, .box [.t (.sl (r.2.b.map rB)), .t (.sc (.int .i64 r.2.p))])])
theorem m_spec_l15Rd_num_ok (fuel : Nat) : m_spec_l15Rd_num_AC fuel := by
  intro o1 x2 r hF0
  unfold m_spec_l15Rd_num at hF0
  refine AC_intro (rs := [.t (.sc (.int .i64 r.1))]) Try.func38 rfl (by kernel_rfl) (by simp [Try.ntmps38]) (keep_all rfl) ?_
  intro C hC
  rw [Try.ntmps38]
  refine awp_seq ?_
  refine awp_region ?_
  refine s_as ?_
  refine k_nil ?_
  refine k_seq ?_
  refine awp_seq ?_
  refine awp_region ?_
  refine s_mv ?_
  refine s_mv ?_
  refine s_mv ?_
  refine s_lenT yU23 ?_
  replace hF0 := bind_some' hF0
  obtain ⟨v1, hv1, hF1⟩ := hF0
  refine s_call [(9000, 9000)] [] _ _ (m_spec_l15Rd_pick_ok fuel _ _ _ hv1) ?_
  replace hF1 := bind_some' hF1
  obtain ⟨v2, hv2, hF2⟩ := hF1
  refine s_ixT rI hv2 rfl yE23 ?_
  refine s_ld1 yA3 ?_
  refine s_as ?_
  refine k_nil ?_
  refine k_seq ?_
  refine awp_ret ?_
  refine k_fin ?_
  obtain rfl := Option.some.inj hF2
  exact ends_gen _ [] (by rw [Try.results38]; exact (res_tmp (by conv => lhs; whnf) res_nil))
def m_spec_l15Rd_of_AC (fuel : Nat) : Prop := ∀ (o1 : l15Rd) (x2 : (List ByteArray)) (r : (ByteArray × l15Rd)), m_spec_l15Rd_of fuel o1 x2 = some r → AC Try.prog 50 [.rf 9000 0, .t (.sl (x2.map rS))] (objs [(9000, .box [.t (.sl (o1.b.map rB)), .t (.sc (.int .i64 o1.p))])]) (.t (.sc (.str r.1))) (objs [(9000, .box [.t (.sl (r.2.b.map rB)), .t (.sc (.int .i64 r.2.p))])])
theorem m_spec_l15Rd_of_ok (fuel : Nat) : m_spec_l15Rd_of_AC fuel := by
  intro o1 x2 r hF0
  unfold m_spec_l15Rd_of at hF0
  refine AC_intro (rs := [.t (.sc (.str r.1))]) Try.func50 rfl (by kernel_rfl) (by simp [Try.ntmps50]) (keep_all rfl) ?_
  intro C hC
  rw [Try.ntmps50]
  refine awp_seq ?_
  refine awp_region ?_
  refine s_as ?_
  refine k_nil ?_
  refine k_seq ?_
  refine awp_seq ?_
  refine awp_region ?_
  refine s_mv ?_
  refine s_mv ?_
  refine s_mv ?_
  refine s_lenT yU31 ?_
  replace hF0 := bind_some' hF0
  obtain ⟨v1, hv1, hF1⟩ := hF0
  refine s_call [(9000, 9000)] [] _ _ (m_spec_l15Rd_pick_ok fuel _ _ _ hv1) ?_
  replace hF1 := bind_some' hF1
  obtain ⟨v2, hv2, hF2⟩ := hF1
  refine s_ixT rS hv2 rfl yE31 ?_
  refine s_ld1 yA9 ?_
  refine s_as ?_
  refine k_nil ?_
  refine k_seq ?_
  refine awp_ret ?_
  refine k_fin ?_
  obtain rfl := Option.some.inj hF2
  exact ends_gen _ [] (by rw [Try.results50]; exact (res_tmp (by conv => lhs; whnf) res_nil))
def m_spec_l1Name_AC (fuel : Nat) : Prop := ∀ (x1 : ByteArray) (r : Form), m_spec_l1Name fuel x1 = some r → AC Try.prog 54 [.t (.sc (.str x1))] noOb (.ag [.t (.sc (.int .i64 r.kind)), .t (.sc (.str r.name)), .t (.sc (.int .i64 r.n)), .t (.sl (r.scopes.map rI)), .t (.sl (r.kids.map Form.row))]) noOb
theorem m_spec_l1Name_ok (fuel : Nat) : m_spec_l1Name_AC fuel := by
  intro x1 r hF0
  unfold m_spec_l1Name at hF0
  refine AC_intro (rs := [.ag [.t (.sc (.int .i64 r.kind)), .t (.sc (.str r.name)), .t (.sc (.int .i64 r.n)), .t (.sl (r.scopes.map rI)), .t (.sl (r.kids.map Form.row))]]) Try.func54 rfl (by kernel_rfl) (by simp [Try.ntmps54]) (by simp [noOb]) ?_
  intro C hC
  rw [Try.ntmps54]
  refine awp_seq ?_
  refine awp_region ?_
  refine s_alloc yZ26 ?_
  refine k_nil ?_
  refine k_seq ?_
  refine awp_seq ?_
  refine awp_region ?_
  refine s_mv ?_
  refine s_bld yZ26 yL26 ?_
  refine s_stW yS26 ?_
  refine k_nil ?_
  refine k_seq ?_
  refine awp_ret ?_
  refine k_fin ?_
  obtain rfl := Option.some.inj hF0
  exact ends_gen [] [] (by rw [Try.results54]; exact (res_agg (by conv => lhs; whnf) (by conv => lhs; whnf) yA26 yS26 rfl res_nil))
def m_spec_l1Some_AC (fuel : Nat) : Prop := ∀ (o1 : l15Rd) (x2 : Int) (r : (Form × l15Rd)), m_spec_l1Some fuel o1 x2 = some r → AC Try.prog 49 [.rf 9000 0, .t (.sc (.int .i64 x2))] (objs [(9000, .box [.t (.sl (o1.b.map rB)), .t (.sc (.int .i64 o1.p))])]) (.ag [.t (.sc (.int .i64 r.1.kind)), .t (.sc (.str r.1.name)), .t (.sc (.int .i64 r.1.n)), .t (.sl (r.1.scopes.map rI)), .t (.sl (r.1.kids.map Form.row))]) (objs [(9000, .box [.t (.sl (r.2.b.map rB)), .t (.sc (.int .i64 r.2.p))])])
theorem m_spec_l1Some_st (fu : Nat) (ih_m_spec_l1Some : ∀ k, k ≤ fu → m_spec_l1Some_AC k) : m_spec_l1Some_AC (fu + 1) := by
  intro o1 x2 r hF0
  rw [m_spec_l1Some] at hF0
  refine AC_intro (rs := [.ag [.t (.sc (.int .i64 r.1.kind)), .t (.sc (.str r.1.name)), .t (.sc (.int .i64 r.1.n)), .t (.sl (r.1.scopes.map rI)), .t (.sl (r.1.kids.map Form.row))]]) Try.func49 rfl (by kernel_rfl) (by simp [Try.ntmps49]) (keep_all rfl) ?_
  intro C hC
  rw [Try.ntmps49]
  refine awp_seq ?_
  refine awp_region ?_
  refine s_alloc yZ26 ?_
  refine k_nil ?_
  refine k_seq ?_
  refine awp_seq ?_
  refine awp_seq ?_
  refine awp_region ?_
  refine s_mv ?_
  refine s_eq ?_
  refine s_mv ?_
  refine w_guard _ 9 hF0 (fun hc1 hF1 => ?_) (fun hc1 hF1 => ?_) <;> clear hF0
  refine r_no rfl ?_
  refine r_no rfl ?_
  refine r_no rfl ?_
  refine s_pkt ?_
  refine k_nil ?_
  refine k_seq ?_
  refine awp_true rfl ?_
  refine awp_seq ?_
  refine awp_seq ?_
  refine awp_region ?_
  refine s_mv ?_
  replace hF1 := bind_some' hF1
  obtain ⟨v2, hv2, hF2⟩ := hF1
  refine s_call [(9000, 9000)] [] _ _ (m_spec_l15Rd_pick_ok fu _ _ _ hv2) ?_
  refine s_eq ?_
  refine k_nil ?_
  refine k_seq ?_
  refine w_cond hF2 (fun hc3 hF3 => ?_) (fun hc3 hF3 => ?_) <;> clear hF2
  refine awp_seq ?_
  refine awp_region ?_
  refine s_mv ?_
  refine s_bs rI [0, 1, 2, 7, 42, 999] yP23 yR3 ?_
  replace hF3 := bind_some' hF3
  obtain ⟨v4, hv4, hF4⟩ := hF3
  refine s_call [(9000, 9000)] [18] _ _ (m_spec_l15Rd_num_ok fu _ _ _ hv4) ?_
  refine s_bld yZ26 yL26 ?_
  refine s_stW yS26 ?_
  refine k_nil ?_
  refine k_seq ?_
  refine awp_ret ?_
  refine k_seq_ret ?_
  refine k_seq_ret ?_
  refine k_fin ?_
  obtain rfl := Option.some.inj hF4
  exact ends_gen _ [] (by rw [Try.results49]; exact (res_agg (by conv => lhs; whnf) (by conv => lhs; whnf) yA26 yS26 rfl res_nil))
  refine awp_skip ?_
  refine k_seq ?_
  refine awp_seq ?_
  refine awp_region ?_
  refine s_mv ?_
  refine s_bs rS [(⟨#[97]⟩ : ByteArray), (⟨#[98]⟩ : ByteArray), (⟨#[120]⟩ : ByteArray), (⟨#[121]⟩ : ByteArray), (⟨#[102]⟩ : ByteArray), (⟨#[105, 102]⟩ : ByteArray), (⟨#[108, 101, 116]⟩ : ByteArray), (⟨#[43]⟩ : ByteArray)] yP31 yR9 ?_
  replace hF3 := bind_some' hF3
  obtain ⟨v5, hv5, hF4⟩ := hF3
  refine s_call [(9000, 9000)] [22] _ _ (m_spec_l15Rd_of_ok fu _ _ _ hv5) ?_
  replace hF4 := bind_some' hF4
  obtain ⟨v6, hv6, hF5⟩ := hF4
  refine s_pure [] (m_spec_l1Name_ok fu _ _ hv6) ?_
  refine s_stW yS26 ?_
  refine k_nil ?_
  refine k_seq ?_
  refine awp_ret ?_
  refine k_seq_ret ?_
  refine k_fin ?_
  obtain rfl := Option.some.inj hF5
  exact ends_gen _ [] (by rw [Try.results49]; exact (res_agg (by conv => lhs; whnf) (by conv => lhs; whnf) yA26 yS26 rfl res_nil))
  refine s_mv ?_
  replace hF1 := bind_some' hF1
  obtain ⟨v7, hv7, hF2⟩ := hF1
  refine s_call [(9000, 9000)] [] _ _ (m_spec_l15Rd_pick_ok fu _ _ _ hv7) ?_
  refine s_eq ?_
  refine s_pkf ?_
  refine k_nil ?_
  refine k_seq ?_
  refine w_cond hF2 (fun hc8 hF3 => ?_) (fun hc8 hF3 => ?_) <;> clear hF2
  refine awp_seq ?_
  refine awp_seq ?_
  refine awp_region ?_
  refine s_mv ?_
  replace hF3 := bind_some' hF3
  obtain ⟨v9, hv9, hF4⟩ := hF3
  refine s_call [(9000, 9000)] [] _ _ (m_spec_l15Rd_pick_ok fu _ _ _ hv9) ?_
  refine s_eq ?_
  refine k_nil ?_
  refine k_seq ?_
  refine w_cond hF4 (fun hc10 hF5 => ?_) (fun hc10 hF5 => ?_) <;> clear hF4
  refine awp_seq ?_
  refine awp_region ?_
  refine s_mv ?_
  refine s_bs rI [0, 1, 2, 7, 42, 999] yP23 yR3 ?_
  replace hF5 := bind_some' hF5
  obtain ⟨v11, hv11, hF6⟩ := hF5
  refine s_call [(9000, 9000)] [18] _ _ (m_spec_l15Rd_num_ok fu _ _ _ hv11) ?_
  refine s_bld yZ26 yL26 ?_
  refine s_stW yS26 ?_
  refine k_nil ?_
  refine k_seq ?_
  refine awp_ret ?_
  refine k_seq_ret ?_
  refine k_seq_ret ?_
  refine k_fin ?_
  obtain rfl := Option.some.inj hF6
  exact ends_gen _ [] (by rw [Try.results49]; exact (res_agg (by conv => lhs; whnf) (by conv => lhs; whnf) yA26 yS26 rfl res_nil))
  refine awp_skip ?_
  refine k_seq ?_
  refine awp_seq ?_
  refine awp_region ?_
  refine s_mv ?_
  refine s_bs rS [(⟨#[97]⟩ : ByteArray), (⟨#[98]⟩ : ByteArray), (⟨#[120]⟩ : ByteArray), (⟨#[121]⟩ : ByteArray), (⟨#[102]⟩ : ByteArray), (⟨#[105, 102]⟩ : ByteArray), (⟨#[108, 101, 116]⟩ : ByteArray), (⟨#[43]⟩ : ByteArray)] yP31 yR9 ?_
  replace hF5 := bind_some' hF5
  obtain ⟨v12, hv12, hF6⟩ := hF5
  refine s_call [(9000, 9000)] [22] _ _ (m_spec_l15Rd_of_ok fu _ _ _ hv12) ?_
  replace hF6 := bind_some' hF6
  obtain ⟨v13, hv13, hF7⟩ := hF6
  refine s_pure [] (m_spec_l1Name_ok fu _ _ hv13) ?_
  refine s_stW yS26 ?_
  refine k_nil ?_
  refine k_seq ?_
  refine awp_ret ?_
  refine k_seq_ret ?_
  refine k_fin ?_
  obtain rfl := Option.some.inj hF7
  exact ends_gen _ [] (by rw [Try.results49]; exact (res_agg (by conv => lhs; whnf) (by conv => lhs; whnf) yA26 yS26 rfl res_nil))
  refine awp_skip ?_
  refine k_seq ?_
  refine awp_seq ?_
  refine awp_region ?_
  refine s_bld yZ26 yL26 ?_
  refine s_alloc yZ26 ?_
  refine s_stW yS26 ?_
  refine k_nil ?_
  refine k_seq ?_
  refine awp_seq ?_
  refine awp_seq ?_
  refine awp_region ?_
  refine s_mv ?_
  replace hF3 := bind_some' hF3
  obtain ⟨v14, hv14, hF4⟩ := hF3
  refine s_call [(9000, 9000)] [] _ _ (m_spec_l15Rd_pick_ok fu _ _ _ hv14) ?_
  refine s_as ?_
  refine k_nil ?_
  refine k_seq ?_
  refine awp_block ?_
  refine awp_ownB 5 5020 26 [.t (.sc (.int .i64 3)), .t (.sc (.str (⟨#[]⟩ : ByteArray))), .t (.sc (.int .i64 0)), .nl, .ar 5020] yI26.choose_spec ?_
  refine awp_frame2 [6, 28, 29, 30, 31, 32, 33, 34, 35, 36, 37, 38, 39, 40] [5, 5020, 9000] [38, 39] [5020] (fun a : Nat × Int × (List Int) × Int × (List Form) => a.1) (fun a : Nat × Int × (List Int) × Int × (List Form) => [(6, .t (.sc (.int .i64 a.2.1)))]) (fun a : Nat × Int × (List Int) × Int × (List Form) => [(5, .box [.t (.sc (.int .i64 3)), .t (.sc (.str (⟨#[]⟩ : ByteArray))), .t (.sc (.int .i64 0)), .nl, .ar 5020]), (5020, .arr (a.2.2.2.2.map Form.row) 26 true), (9000, .box [.t (.sl (a.2.2.1.map rB)), .t (.sc (.int .i64 a.2.2.2.1))])]) (fun a : Nat × Int × (List Int) × Int × (List Form) => a.1 ≤ fu ∧ m_spec_l1Some_l1 a.1 x2 a.2.1 a.2.2.1 a.2.2.2.1 a.2.2.2.2 = some r) (fu, v14.1, v14.2.b, v14.2.p, ([] : List Form)) ⟨Nat.le_refl _, hF4⟩ (by rfl) (by rfl) (fun _ => rfl) (hasF_cons (by conv => lhs; whnf) (by rfl) hasF_nil) (hasO_cons (by conv => lhs; whnf) (by rfl) (hasO_cons (by conv => lhs; whnf) (by rfl) (hasO_cons (by conv => lhs; whnf) (by rfl) hasO_nil))) (fresh_C hC rfl) (by repeat (first | exact freshS_args rfl | refine freshS_upd rfl ?_ | refine freshS_frame rfl ?_)) (by repeat (first | exact freshM_no | exact objs_fresh rfl | refine freshM_upd rfl ?_ | refine freshM_frame rfl ?_)) ?_
  clear hF4
  rintro ⟨fu, g15, g16, g17, g18⟩ ⟨hl19, hF5⟩
  dsimp only at hl19 hF5 ⊢
  obtain _ | fu := fu
  · rw [m_spec_l1Some_l1] at hF5; cases hF5
  rw [m_spec_l1Some_l1] at hF5
  refine awp_seq ?_
  refine awp_seq ?_
  refine awp_region ?_
  refine s_mv ?_
  refine s_gt ?_
  refine k_nil ?_
  refine k_seq ?_
  refine w_cond hF5 (fun hc20 hF6 => ?_) (fun hc20 hF6 => ?_) <;> clear hF5
  refine awp_skip ?_
  refine k_seq ?_
  refine awp_seq ?_
  refine awp_block ?_
  refine awp_draw yMix (by kernel_rfl) ?_
  refine s_fa yF26_4 ?_
  refine s_ld1 yA24 ?_
  refine s_mv ?_
  refine s_mv ?_
  refine s_sub rfl ?_
  replace hF6 := bind_some' hF6
  obtain ⟨v21, hv21, hF7⟩ := hF6
  refine s_call [(9000, 9000)] [] _ _ (ih_m_spec_l1Some fu (by omega) _ _ _ hv21) ?_
  refine s_bs Form.row [v21.1] yP24 yR26 ?_
  obtain ⟨hk22, hF8⟩ := chk_some hF7
  refine s_apT Form.row (fun y => Form.row_len y) hk22 yP24 ?_
  refine s_fa yF26_4 ?_
  refine s_stP yS24 ?_
  refine k_nilD (by kernel_rfl) ?_
  refine k_blk ?_
  refine k_seq ?_
  refine awp_region ?_
  refine s_mv ?_
  refine s_sub rfl ?_
  refine s_as ?_
  refine k_nil ?_
  exact s_rnd2 (fu, (w64 (g15 - 1)), v21.2.b, v21.2.p, (g18 ++ [v21.1])) [(5020, 39)] ⟨by first | omega | (dsimp only; omega), hF8⟩ (hasR_cons (by conv => lhs; whnf) (by rfl) rfl trivial) (hasQ_cons (by conv => lhs; whnf) (by rfl) rfl (hasQ_cons (by conv => lhs; whnf) (by rfl) rfl (hasQ_cons (by conv => lhs; whnf) (by rfl) rfl trivial)))
  refine awp_exit ?_
  refine k_seq_exit ?_
  refine k_rnd_exit2 ?_
  refine k_blk_exit ?_
  refine k_seq ?_
  refine awp_seq ?_
  refine awp_region ?_
  refine s_ldW yA26 yS26 ?_
  refine s_stW yS26 ?_
  refine k_nil ?_
  refine k_seq ?_
  refine awp_ret ?_
  refine k_fin ?_
  obtain rfl := Option.some.inj hF6
  exact ends_gen _ [5020] (by rw [Try.results49]; exact (res_agg (by conv => lhs; whnf) (by conv => lhs; whnf) yA26 yS26 rfl res_nil))
theorem m_spec_l1Some_all (fuel : Nat) : m_spec_l1Some_AC fuel := by
  induction fuel using Nat.strongRecOn with
  | _ N ih =>
    cases N with
    | zero => exact (by intro o1 x2 r h; rw [m_spec_l1Some] at h; cases h)
    | succ fu => exact m_spec_l1Some_st fu (fun k hk => (ih k (by omega)))
theorem m_spec_l1Some_ok (fuel : Nat) : m_spec_l1Some_AC fuel := (m_spec_l1Some_all fuel)
def m_spec_l6Some_AC (fuel : Nat) : Prop := ∀ (o1 : l15Rd) (x2 : (List Int)) (x3 : Int) (x4 : Int) (r : (Core × Int × l15Rd)), m_spec_l6Some fuel o1 x2 x3 x4 = some r → AC Try.prog 37 [.rf 9000 0, .t (.sl (x2.map rI)), .t (.sc (.int .i64 x3)), .t (.sc (.int .i64 x4))] (objs [(9000, .box [.t (.sl (o1.b.map rB)), .t (.sc (.int .i64 o1.p))])]) (.tp [.ag [.t (.sc (.int .i64 r.1.kind)), .t (.sc (.int .i64 r.1.id)), .t (.sc (.str r.1.name)), .t (.sc (.int .i64 r.1.n)), .t (.sl (r.1.ids.map rI)), .t (.sc (.int .i64 r.1.data.kind)), .t (.sc (.str r.1.data.name)), .t (.sc (.int .i64 r.1.data.n)), .t (.sl (r.1.data.scopes.map rI)), .t (.sl (r.1.data.kids.map Form.row)), .t (.sl (r.1.kids.map Core.row))], .t (.sc (.int .i64 r.2.1))]) (objs [(9000, .box [.t (.sl (r.2.2.b.map rB)), .t (.sc (.int .i64 r.2.2.p))])])
theorem m_spec_l6Some_st (fu : Nat) (ih_m_spec_l6Some : ∀ k, k ≤ fu → m_spec_l6Some_AC k) : m_spec_l6Some_AC (fu + 1) := by
  intro o1 x2 x3 x4 r hF0
  rw [m_spec_l6Some] at hF0
  refine AC_intro (rs := [.ag [.t (.sc (.int .i64 r.1.kind)), .t (.sc (.int .i64 r.1.id)), .t (.sc (.str r.1.name)), .t (.sc (.int .i64 r.1.n)), .t (.sl (r.1.ids.map rI)), .t (.sc (.int .i64 r.1.data.kind)), .t (.sc (.str r.1.data.name)), .t (.sc (.int .i64 r.1.data.n)), .t (.sl (r.1.data.scopes.map rI)), .t (.sl (r.1.data.kids.map Form.row)), .t (.sl (r.1.kids.map Core.row))], .t (.sc (.int .i64 r.2.1))]) Try.func37 rfl (by kernel_rfl) (by simp [Try.ntmps37]) (keep_all rfl) ?_
  intro C hC
  rw [Try.ntmps37]
  refine awp_seq ?_
  refine awp_region ?_
  refine s_alloc yZ29 ?_
  refine s_as ?_
  refine k_nil ?_
  refine k_seq ?_
  refine awp_seq ?_
  refine awp_seq ?_
  refine awp_region ?_
  refine s_mv ?_
  refine s_eq ?_
  refine s_mv ?_
  refine w_guard _ 18 hF0 (fun hc1 hF1 => ?_) (fun hc1 hF1 => ?_) <;> clear hF0
  refine r_no rfl ?_
  refine r_no rfl ?_
  refine r_no rfl ?_
  refine s_pkt ?_
  refine k_nil ?_
  refine k_seq ?_
  refine awp_true rfl ?_
  refine awp_seq ?_
  refine awp_seq ?_
  refine awp_region ?_
  refine s_mv ?_
  refine s_lenT yU23 ?_
  refine s_gt ?_
  refine s_mv ?_
  refine w_guard _ 26 hF1 (fun hc2 hF2 => ?_) (fun hc2 hF2 => ?_) <;> clear hF1
  refine s_mv ?_
  replace hF2 := bind_some' hF2
  obtain ⟨v3, hv3, hF3⟩ := hF2
  refine s_call [(9000, 9000)] [] _ _ (m_spec_l15Rd_pick_ok fu _ _ _ hv3) ?_
  refine s_gt ?_
  refine s_pkt ?_
  refine k_nil ?_
  refine k_seq ?_
  refine w_cond hF3 (fun hc4 hF4 => ?_) (fun hc4 hF4 => ?_) <;> clear hF3
  refine awp_seq ?_
  refine awp_region ?_
  refine s_mv ?_
  refine s_mv ?_
  refine s_mv ?_
  refine s_lenT yU23 ?_
  replace hF4 := bind_some' hF4
  obtain ⟨v5, hv5, hF5⟩ := hF4
  refine s_call [(9000, 9000)] [] _ _ (m_spec_l15Rd_pick_ok fu _ _ _ hv5) ?_
  replace hF5 := bind_some' hF5
  obtain ⟨v6, hv6, hF6⟩ := hF5
  refine s_ixT rI hv6 rfl yE23 ?_
  refine s_ld1 yA3 ?_
  refine s_bld yZ29 yL29 ?_
  refine s_mv ?_
  refine s_stW yS29 ?_
  refine s_as ?_
  refine k_nil ?_
  refine k_seq ?_
  refine awp_ret ?_
  refine k_seq_ret ?_
  refine k_seq_ret ?_
  refine k_fin ?_
  obtain rfl := Option.some.inj hF6
  exact ends_gen _ [] (by rw [Try.results37]; exact (res_agg (by conv => lhs; whnf) (by conv => lhs; whnf) yA29 yS29 rfl (res_tmp (by conv => lhs; whnf) res_nil)))
  refine awp_skip ?_
  refine k_seq ?_
  refine awp_seq ?_
  refine awp_seq ?_
  refine awp_region ?_
  refine s_mv ?_
  replace hF4 := bind_some' hF4
  obtain ⟨v7, hv7, hF5⟩ := hF4
  refine s_call [(9000, 9000)] [] _ _ (m_spec_l15Rd_pick_ok fu _ _ _ hv7) ?_
  refine k_nil ?_
  refine k_seq ?_
  refine awp_block ?_
  refine awp_seq ?_
  refine awp_region ?_
  refine s_eq ?_
  refine s_as ?_
  refine k_nil ?_
  refine k_seq ?_
  refine w_cond hF5 (fun hc8 hF6 => ?_) (fun hc8 hF6 => ?_) <;> clear hF5
  refine awp_seq ?_
  refine awp_region ?_
  refine s_mv ?_
  replace hF6 := bind_some' hF6
  obtain ⟨v9, hv9, hF7⟩ := hF6
  refine s_call [(9000, 9000)] [] _ _ (m_spec_l1Some_ok fu _ _ _ hv9) ?_
  refine s_bld yZ29 yL29 ?_
  refine s_mv ?_
  refine s_stW yS29 ?_
  refine s_as ?_
  refine k_nil ?_
  refine k_seq ?_
  refine awp_ret ?_
  refine k_blk_ret ?_
  refine k_seq_ret ?_
  refine k_seq_ret ?_
  refine k_fin ?_
  obtain rfl := Option.some.inj hF7
  exact ends_gen _ [] (by rw [Try.results37]; exact (res_agg (by conv => lhs; whnf) (by conv => lhs; whnf) yA29 yS29 rfl (res_tmp (by conv => lhs; whnf) res_nil)))
  refine awp_seq ?_
  refine awp_region ?_
  refine s_eq ?_
  refine s_as ?_
  refine k_nil ?_
  refine k_seq ?_
  refine w_cond hF6 (fun hc10 hF7 => ?_) (fun hc10 hF7 => ?_) <;> clear hF6
  refine awp_seq ?_
  refine awp_region ?_
  refine s_mv ?_
  refine s_bs rS [(⟨#[102]⟩ : ByteArray), (⟨#[43]⟩ : ByteArray), (⟨#[108, 105, 115, 116]⟩ : ByteArray)] yP31 yR9 ?_
  replace hF7 := bind_some' hF7
  obtain ⟨v11, hv11, hF8⟩ := hF7
  refine s_call [(9000, 9000)] [51] _ _ (m_spec_l15Rd_of_ok fu _ _ _ hv11) ?_
  refine s_bld yZ29 yL29 ?_
  refine s_mv ?_
  refine s_stW yS29 ?_
  refine s_as ?_
  refine k_nil ?_
  refine k_seq ?_
  refine awp_ret ?_
  refine k_blk_ret ?_
  refine k_seq_ret ?_
  refine k_seq_ret ?_
  refine k_fin ?_
  obtain rfl := Option.some.inj hF8
  exact ends_gen _ [] (by rw [Try.results37]; exact (res_agg (by conv => lhs; whnf) (by conv => lhs; whnf) yA29 yS29 rfl (res_tmp (by conv => lhs; whnf) res_nil)))
  refine awp_skip ?_
  refine k_blk ?_
  refine k_seq ?_
  refine awp_seq ?_
  refine awp_region ?_
  refine s_mv ?_
  refine s_bs rI [0, 1, 5, 42] yP23 yR3 ?_
  replace hF7 := bind_some' hF7
  obtain ⟨v12, hv12, hF8⟩ := hF7
  refine s_call [(9000, 9000)] [56] _ _ (m_spec_l15Rd_num_ok fu _ _ _ hv12) ?_
  refine s_bld yZ29 yL29 ?_
  refine s_mv ?_
  refine s_stW yS29 ?_
  refine s_as ?_
  refine k_nil ?_
  refine k_seq ?_
  refine awp_ret ?_
  refine k_seq_ret ?_
  refine k_fin ?_
  obtain rfl := Option.some.inj hF8
  exact ends_gen _ [] (by rw [Try.results37]; exact (res_agg (by conv => lhs; whnf) (by conv => lhs; whnf) yA29 yS29 rfl (res_tmp (by conv => lhs; whnf) res_nil)))
  refine r_no rfl ?_
  refine r_no rfl ?_
  refine r_no rfl ?_
  refine s_pkf ?_
  refine k_nil ?_
  refine k_seq ?_
  refine awp_false rfl ?_
  refine awp_skip ?_
  refine k_seq ?_
  refine awp_seq ?_
  refine awp_seq ?_
  refine awp_region ?_
  refine s_mv ?_
  replace hF2 := bind_some' hF2
  obtain ⟨v13, hv13, hF3⟩ := hF2
  refine s_call [(9000, 9000)] [] _ _ (m_spec_l15Rd_pick_ok fu _ _ _ hv13) ?_
  refine k_nil ?_
  refine k_seq ?_
  refine awp_block ?_
  refine awp_seq ?_
  refine awp_region ?_
  refine s_eq ?_
  refine s_as ?_
  refine k_nil ?_
  refine k_seq ?_
  refine w_cond hF3 (fun hc14 hF4 => ?_) (fun hc14 hF4 => ?_) <;> clear hF3
  refine awp_seq ?_
  refine awp_region ?_
  refine s_mv ?_
  replace hF4 := bind_some' hF4
  obtain ⟨v15, hv15, hF5⟩ := hF4
  refine s_call [(9000, 9000)] [] _ _ (m_spec_l1Some_ok fu _ _ _ hv15) ?_
  refine s_bld yZ29 yL29 ?_
  refine s_mv ?_
  refine s_stW yS29 ?_
  refine s_as ?_
  refine k_nil ?_
  refine k_seq ?_
  refine awp_ret ?_
  refine k_blk_ret ?_
  refine k_seq_ret ?_
  refine k_seq_ret ?_
  refine k_fin ?_
  obtain rfl := Option.some.inj hF5
  exact ends_gen _ [] (by rw [Try.results37]; exact (res_agg (by conv => lhs; whnf) (by conv => lhs; whnf) yA29 yS29 rfl (res_tmp (by conv => lhs; whnf) res_nil)))
  refine awp_seq ?_
  refine awp_region ?_
  refine s_eq ?_
  refine s_as ?_
  refine k_nil ?_
  refine k_seq ?_
  refine w_cond hF4 (fun hc16 hF5 => ?_) (fun hc16 hF5 => ?_) <;> clear hF4
  refine awp_seq ?_
  refine awp_region ?_
  refine s_mv ?_
  refine s_bs rS [(⟨#[102]⟩ : ByteArray), (⟨#[43]⟩ : ByteArray), (⟨#[108, 105, 115, 116]⟩ : ByteArray)] yP31 yR9 ?_
  replace hF5 := bind_some' hF5
  obtain ⟨v17, hv17, hF6⟩ := hF5
  refine s_call [(9000, 9000)] [51] _ _ (m_spec_l15Rd_of_ok fu _ _ _ hv17) ?_
  refine s_bld yZ29 yL29 ?_
  refine s_mv ?_
  refine s_stW yS29 ?_
  refine s_as ?_
  refine k_nil ?_
  refine k_seq ?_
  refine awp_ret ?_
  refine k_blk_ret ?_
  refine k_seq_ret ?_
  refine k_seq_ret ?_
  refine k_fin ?_
  obtain rfl := Option.some.inj hF6
  exact ends_gen _ [] (by rw [Try.results37]; exact (res_agg (by conv => lhs; whnf) (by conv => lhs; whnf) yA29 yS29 rfl (res_tmp (by conv => lhs; whnf) res_nil)))
  refine awp_skip ?_
  refine k_blk ?_
  refine k_seq ?_
  refine awp_seq ?_
  refine awp_region ?_
  refine s_mv ?_
  refine s_bs rI [0, 1, 5, 42] yP23 yR3 ?_
  replace hF5 := bind_some' hF5
  obtain ⟨v18, hv18, hF6⟩ := hF5
  refine s_call [(9000, 9000)] [56] _ _ (m_spec_l15Rd_num_ok fu _ _ _ hv18) ?_
  refine s_bld yZ29 yL29 ?_
  refine s_mv ?_
  refine s_stW yS29 ?_
  refine s_as ?_
  refine k_nil ?_
  refine k_seq ?_
  refine awp_ret ?_
  refine k_seq_ret ?_
  refine k_fin ?_
  obtain rfl := Option.some.inj hF6
  exact ends_gen _ [] (by rw [Try.results37]; exact (res_agg (by conv => lhs; whnf) (by conv => lhs; whnf) yA29 yS29 rfl (res_tmp (by conv => lhs; whnf) res_nil)))
  refine s_mv ?_
  replace hF1 := bind_some' hF1
  obtain ⟨v19, hv19, hF2⟩ := hF1
  refine s_call [(9000, 9000)] [] _ _ (m_spec_l15Rd_pick_ok fu _ _ _ hv19) ?_
  refine s_eq ?_
  refine s_pkf ?_
  refine k_nil ?_
  refine k_seq ?_
  refine w_cond hF2 (fun hc20 hF3 => ?_) (fun hc20 hF3 => ?_) <;> clear hF2
  refine awp_seq ?_
  refine awp_seq ?_
  refine awp_region ?_
  refine s_mv ?_
  refine s_lenT yU23 ?_
  refine s_gt ?_
  refine s_mv ?_
  refine w_guard _ 26 hF3 (fun hc21 hF4 => ?_) (fun hc21 hF4 => ?_) <;> clear hF3
  refine s_mv ?_
  replace hF4 := bind_some' hF4
  obtain ⟨v22, hv22, hF5⟩ := hF4
  refine s_call [(9000, 9000)] [] _ _ (m_spec_l15Rd_pick_ok fu _ _ _ hv22) ?_
  refine s_gt ?_
  refine s_pkt ?_
  refine k_nil ?_
  refine k_seq ?_
  refine w_cond hF5 (fun hc23 hF6 => ?_) (fun hc23 hF6 => ?_) <;> clear hF5
  refine awp_seq ?_
  refine awp_region ?_
  refine s_mv ?_
  refine s_mv ?_
  refine s_mv ?_
  refine s_lenT yU23 ?_
  replace hF6 := bind_some' hF6
  obtain ⟨v24, hv24, hF7⟩ := hF6
  refine s_call [(9000, 9000)] [] _ _ (m_spec_l15Rd_pick_ok fu _ _ _ hv24) ?_
  replace hF7 := bind_some' hF7
  obtain ⟨v25, hv25, hF8⟩ := hF7
  refine s_ixT rI hv25 rfl yE23 ?_
  refine s_ld1 yA3 ?_
  refine s_bld yZ29 yL29 ?_
  refine s_mv ?_
  refine s_stW yS29 ?_
  refine s_as ?_
  refine k_nil ?_
  refine k_seq ?_
  refine awp_ret ?_
  refine k_seq_ret ?_
  refine k_seq_ret ?_
  refine k_fin ?_
  obtain rfl := Option.some.inj hF8
  exact ends_gen _ [] (by rw [Try.results37]; exact (res_agg (by conv => lhs; whnf) (by conv => lhs; whnf) yA29 yS29 rfl (res_tmp (by conv => lhs; whnf) res_nil)))
  refine awp_skip ?_
  refine k_seq ?_
  refine awp_seq ?_
  refine awp_seq ?_
  refine awp_region ?_
  refine s_mv ?_
  replace hF6 := bind_some' hF6
  obtain ⟨v26, hv26, hF7⟩ := hF6
  refine s_call [(9000, 9000)] [] _ _ (m_spec_l15Rd_pick_ok fu _ _ _ hv26) ?_
  refine k_nil ?_
  refine k_seq ?_
  refine awp_block ?_
  refine awp_seq ?_
  refine awp_region ?_
  refine s_eq ?_
  refine s_as ?_
  refine k_nil ?_
  refine k_seq ?_
  refine w_cond hF7 (fun hc27 hF8 => ?_) (fun hc27 hF8 => ?_) <;> clear hF7
  refine awp_seq ?_
  refine awp_region ?_
  refine s_mv ?_
  replace hF8 := bind_some' hF8
  obtain ⟨v28, hv28, hF9⟩ := hF8
  refine s_call [(9000, 9000)] [] _ _ (m_spec_l1Some_ok fu _ _ _ hv28) ?_
  refine s_bld yZ29 yL29 ?_
  refine s_mv ?_
  refine s_stW yS29 ?_
  refine s_as ?_
  refine k_nil ?_
  refine k_seq ?_
  refine awp_ret ?_
  refine k_blk_ret ?_
  refine k_seq_ret ?_
  refine k_seq_ret ?_
  refine k_fin ?_
  obtain rfl := Option.some.inj hF9
  exact ends_gen _ [] (by rw [Try.results37]; exact (res_agg (by conv => lhs; whnf) (by conv => lhs; whnf) yA29 yS29 rfl (res_tmp (by conv => lhs; whnf) res_nil)))
  refine awp_seq ?_
  refine awp_region ?_
  refine s_eq ?_
  refine s_as ?_
  refine k_nil ?_
  refine k_seq ?_
  refine w_cond hF8 (fun hc29 hF9 => ?_) (fun hc29 hF9 => ?_) <;> clear hF8
  refine awp_seq ?_
  refine awp_region ?_
  refine s_mv ?_
  refine s_bs rS [(⟨#[102]⟩ : ByteArray), (⟨#[43]⟩ : ByteArray), (⟨#[108, 105, 115, 116]⟩ : ByteArray)] yP31 yR9 ?_
  replace hF9 := bind_some' hF9
  obtain ⟨v30, hv30, hF10⟩ := hF9
  refine s_call [(9000, 9000)] [51] _ _ (m_spec_l15Rd_of_ok fu _ _ _ hv30) ?_
  refine s_bld yZ29 yL29 ?_
  refine s_mv ?_
  refine s_stW yS29 ?_
  refine s_as ?_
  refine k_nil ?_
  refine k_seq ?_
  refine awp_ret ?_
  refine k_blk_ret ?_
  refine k_seq_ret ?_
  refine k_seq_ret ?_
  refine k_fin ?_
  obtain rfl := Option.some.inj hF10
  exact ends_gen _ [] (by rw [Try.results37]; exact (res_agg (by conv => lhs; whnf) (by conv => lhs; whnf) yA29 yS29 rfl (res_tmp (by conv => lhs; whnf) res_nil)))
  refine awp_skip ?_
  refine k_blk ?_
  refine k_seq ?_
  refine awp_seq ?_
  refine awp_region ?_
  refine s_mv ?_
  refine s_bs rI [0, 1, 5, 42] yP23 yR3 ?_
  replace hF9 := bind_some' hF9
  obtain ⟨v31, hv31, hF10⟩ := hF9
  refine s_call [(9000, 9000)] [56] _ _ (m_spec_l15Rd_num_ok fu _ _ _ hv31) ?_
  refine s_bld yZ29 yL29 ?_
  refine s_mv ?_
  refine s_stW yS29 ?_
  refine s_as ?_
  refine k_nil ?_
  refine k_seq ?_
  refine awp_ret ?_
  refine k_seq_ret ?_
  refine k_fin ?_
  obtain rfl := Option.some.inj hF10
  exact ends_gen _ [] (by rw [Try.results37]; exact (res_agg (by conv => lhs; whnf) (by conv => lhs; whnf) yA29 yS29 rfl (res_tmp (by conv => lhs; whnf) res_nil)))
  refine r_no rfl ?_
  refine r_no rfl ?_
  refine r_no rfl ?_
  refine s_pkf ?_
  refine k_nil ?_
  refine k_seq ?_
  refine awp_false rfl ?_
  refine awp_skip ?_
  refine k_seq ?_
  refine awp_seq ?_
  refine awp_seq ?_
  refine awp_region ?_
  refine s_mv ?_
  replace hF4 := bind_some' hF4
  obtain ⟨v32, hv32, hF5⟩ := hF4
  refine s_call [(9000, 9000)] [] _ _ (m_spec_l15Rd_pick_ok fu _ _ _ hv32) ?_
  refine k_nil ?_
  refine k_seq ?_
  refine awp_block ?_
  refine awp_seq ?_
  refine awp_region ?_
  refine s_eq ?_
  refine s_as ?_
  refine k_nil ?_
  refine k_seq ?_
  refine w_cond hF5 (fun hc33 hF6 => ?_) (fun hc33 hF6 => ?_) <;> clear hF5
  refine awp_seq ?_
  refine awp_region ?_
  refine s_mv ?_
  replace hF6 := bind_some' hF6
  obtain ⟨v34, hv34, hF7⟩ := hF6
  refine s_call [(9000, 9000)] [] _ _ (m_spec_l1Some_ok fu _ _ _ hv34) ?_
  refine s_bld yZ29 yL29 ?_
  refine s_mv ?_
  refine s_stW yS29 ?_
  refine s_as ?_
  refine k_nil ?_
  refine k_seq ?_
  refine awp_ret ?_
  refine k_blk_ret ?_
  refine k_seq_ret ?_
  refine k_seq_ret ?_
  refine k_fin ?_
  obtain rfl := Option.some.inj hF7
  exact ends_gen _ [] (by rw [Try.results37]; exact (res_agg (by conv => lhs; whnf) (by conv => lhs; whnf) yA29 yS29 rfl (res_tmp (by conv => lhs; whnf) res_nil)))
  refine awp_seq ?_
  refine awp_region ?_
  refine s_eq ?_
  refine s_as ?_
  refine k_nil ?_
  refine k_seq ?_
  refine w_cond hF6 (fun hc35 hF7 => ?_) (fun hc35 hF7 => ?_) <;> clear hF6
  refine awp_seq ?_
  refine awp_region ?_
  refine s_mv ?_
  refine s_bs rS [(⟨#[102]⟩ : ByteArray), (⟨#[43]⟩ : ByteArray), (⟨#[108, 105, 115, 116]⟩ : ByteArray)] yP31 yR9 ?_
  replace hF7 := bind_some' hF7
  obtain ⟨v36, hv36, hF8⟩ := hF7
  refine s_call [(9000, 9000)] [51] _ _ (m_spec_l15Rd_of_ok fu _ _ _ hv36) ?_
  refine s_bld yZ29 yL29 ?_
  refine s_mv ?_
  refine s_stW yS29 ?_
  refine s_as ?_
  refine k_nil ?_
  refine k_seq ?_
  refine awp_ret ?_
  refine k_blk_ret ?_
  refine k_seq_ret ?_
  refine k_seq_ret ?_
  refine k_fin ?_
  obtain rfl := Option.some.inj hF8
  exact ends_gen _ [] (by rw [Try.results37]; exact (res_agg (by conv => lhs; whnf) (by conv => lhs; whnf) yA29 yS29 rfl (res_tmp (by conv => lhs; whnf) res_nil)))
  refine awp_skip ?_
  refine k_blk ?_
  refine k_seq ?_
  refine awp_seq ?_
  refine awp_region ?_
  refine s_mv ?_
  refine s_bs rI [0, 1, 5, 42] yP23 yR3 ?_
  replace hF7 := bind_some' hF7
  obtain ⟨v37, hv37, hF8⟩ := hF7
  refine s_call [(9000, 9000)] [56] _ _ (m_spec_l15Rd_num_ok fu _ _ _ hv37) ?_
  refine s_bld yZ29 yL29 ?_
  refine s_mv ?_
  refine s_stW yS29 ?_
  refine s_as ?_
  refine k_nil ?_
  refine k_seq ?_
  refine awp_ret ?_
  refine k_seq_ret ?_
  refine k_fin ?_
  obtain rfl := Option.some.inj hF8
  exact ends_gen _ [] (by rw [Try.results37]; exact (res_agg (by conv => lhs; whnf) (by conv => lhs; whnf) yA29 yS29 rfl (res_tmp (by conv => lhs; whnf) res_nil)))
  refine awp_skip ?_
  refine k_seq ?_
  refine awp_seq ?_
  refine awp_region ?_
  refine s_mv ?_
  refine s_bs rI [6, 5, 7, 5] yP23 yR3 ?_
  replace hF3 := bind_some' hF3
  obtain ⟨v38, hv38, hF4⟩ := hF3
  refine s_call [(9000, 9000)] [61] _ _ (m_spec_l15Rd_num_ok fu _ _ _ hv38) ?_
  refine s_bld yZ29 yL29 ?_
  refine s_alloc yZ29 ?_
  refine s_stW yS29 ?_
  refine k_nil ?_
  refine k_seq ?_
  refine awp_seq ?_
  refine awp_region ?_
  refine s_as ?_
  refine k_nil ?_
  refine k_seq ?_
  refine awp_seq ?_
  refine awp_seq ?_
  refine awp_region ?_
  refine s_fa yF29_0 ?_
  refine s_ld1 yA3 ?_
  refine k_nil ?_
  refine k_seq ?_
  refine awp_block ?_
  refine awp_seq ?_
  refine awp_region ?_
  refine s_eq ?_
  refine s_as ?_
  refine k_nil ?_
  refine k_seq ?_
  refine w_cond hF4 (fun hc39 hF5 => ?_) (fun hc39 hF5 => ?_) <;> clear hF4
  refine awp_seq ?_
  refine awp_region ?_
  refine s_as ?_
  refine k_nil ?_
  refine k_seq ?_
  refine awp_seq ?_
  refine awp_region ?_
  refine s_mv ?_
  refine s_bs rI [1, 2, 0] yP23 yR3 ?_
  replace hF5 := bind_some' hF5
  obtain ⟨v40, hv40, hF6⟩ := hF5
  refine s_call [(9000, 9000)] [69] _ _ (m_spec_l15Rd_num_ok fu _ _ _ hv40) ?_
  refine s_as ?_
  refine k_nil ?_
  refine k_seq ?_
  refine awp_block ?_
  refine awp_ownB 10 5020 3 [.t (.sc (.int .i64 v38.1)), .t (.sc (.int .i64 0)), .t (.sc (.str (⟨#[]⟩ : ByteArray))), .t (.sc (.int .i64 0)), .ar 5020, .t (.sc (.int .i64 0)), .t (.sc (.str (⟨#[]⟩ : ByteArray))), .t (.sc (.int .i64 0)), .nl, .nl, .nl] yI3.choose_spec ?_
  refine awp_frame2 [1, 3, 12, 71, 72, 73, 74, 75, 76, 77, 78, 79, 80, 81, 82, 83, 84, 85, 86, 87, 88, 89, 90, 91] [10, 5020, 9000] [77, 83, 84, 86, 88, 90, 91] [5020] (fun a : Nat × (List Int) × Int × Int × (List Int) × Int × (List Int) => a.1) (fun a : Nat × (List Int) × Int × Int × (List Int) × Int × (List Int) => [(1, .t (.sl (a.2.1.map rI))), (3, .t (.sc (.int .i64 a.2.2.1))), (12, .t (.sc (.int .i64 a.2.2.2.1)))]) (fun a : Nat × (List Int) × Int × Int × (List Int) × Int × (List Int) => [(10, .box [.t (.sc (.int .i64 v38.1)), .t (.sc (.int .i64 0)), .t (.sc (.str (⟨#[]⟩ : ByteArray))), .t (.sc (.int .i64 0)), .ar 5020, .t (.sc (.int .i64 0)), .t (.sc (.str (⟨#[]⟩ : ByteArray))), .t (.sc (.int .i64 0)), .nl, .nl, .nl]), (5020, .arr (a.2.2.2.2.2.2.map rI) 3 true), (9000, .box [.t (.sl (a.2.2.2.2.1.map rB)), .t (.sc (.int .i64 a.2.2.2.2.2.1))])]) (fun a : Nat × (List Int) × Int × Int × (List Int) × Int × (List Int) => a.1 ≤ fu ∧ m_spec_l6Some_l1 a.1 x3 v38 a.2.1 a.2.2.1 a.2.2.2.1 a.2.2.2.2.1 a.2.2.2.2.2.1 a.2.2.2.2.2.2 = some r) (fu, x2, x4, v40.1, v40.2.b, v40.2.p, ([] : List Int)) ⟨Nat.le_refl _, hF6⟩ (by rfl) (by rfl) (fun _ => rfl) (hasF_cons (by conv => lhs; whnf) (by rfl) (hasF_cons (by conv => lhs; whnf) (by rfl) (hasF_cons (by conv => lhs; whnf) (by rfl) hasF_nil))) (hasO_cons (by conv => lhs; whnf) (by rfl) (hasO_cons (by conv => lhs; whnf) (by rfl) (hasO_cons (by conv => lhs; whnf) (by rfl) hasO_nil))) (fresh_C hC rfl) (by repeat (first | exact freshS_args rfl | refine freshS_upd rfl ?_ | refine freshS_frame rfl ?_)) (by repeat (first | exact freshM_no | exact objs_fresh rfl | refine freshM_upd rfl ?_ | refine freshM_frame rfl ?_)) ?_
  clear hF6
  rintro ⟨fu, g41, g42, g43, g44, g45, g46⟩ ⟨hl47, hF7⟩
  dsimp only at hl47 hF7 ⊢
  obtain _ | fu := fu
  · rw [m_spec_l6Some_l1] at hF7; cases hF7
  rw [m_spec_l6Some_l1] at hF7
  refine awp_seq ?_
  refine awp_seq ?_
  refine awp_region ?_
  refine s_mv ?_
  refine s_gt ?_
  refine k_nil ?_
  refine k_seq ?_
  refine w_cond hF7 (fun hc48 hF8 => ?_) (fun hc48 hF8 => ?_) <;> clear hF7
  refine awp_skip ?_
  refine k_seq ?_
  refine awp_seq ?_
  refine awp_block ?_
  refine awp_seq ?_
  refine awp_region ?_
  refine s_mv ?_
  refine s_mv ?_
  refine s_bs rI [1, 2, 5] yP23 yR3 ?_
  replace hF8 := bind_some' hF8
  obtain ⟨v49, hv49, hF9⟩ := hF8
  refine s_call [(9000, 9000)] [77] _ _ (m_spec_l15Rd_num_ok fu _ _ _ hv49) ?_
  refine s_add rfl ?_
  refine s_as ?_
  refine k_nil ?_
  refine k_seq ?_
  refine awp_seq ?_
  refine awp_region ?_
  refine s_fa yF29_4 ?_
  refine s_ld1 yA23 ?_
  refine s_mv ?_
  refine s_bs rI [(w64 (g42 + v49.1))] yP23 yR3 ?_
  obtain ⟨hk50, hF10⟩ := chk_some hF9
  refine s_apT rI (fun _ => rfl) hk50 yP23 ?_
  refine s_fa yF29_4 ?_
  refine s_stP yS23 ?_
  refine k_nil ?_
  refine k_seq ?_
  refine awp_region ?_
  refine s_bs rI ([] : List Int) yP23 yR3 ?_
  refine s_mv ?_
  obtain ⟨hk51, hF11⟩ := chk_some hF10
  refine s_apT rI (fun _ => rfl) hk51 yP23 ?_
  refine s_mv ?_
  refine s_bs rI [(w64 (g42 + v49.1))] yP23 yR3 ?_
  obtain ⟨hk52, hF12⟩ := chk_some hF11
  refine s_apT rI (fun _ => rfl) hk52 yP23 ?_
  refine s_as ?_
  refine k_nil ?_
  refine k_blk ?_
  refine k_seq ?_
  refine awp_pz 1 ?_
  refine awp_region ?_
  refine s_mv ?_
  refine s_sub rfl ?_
  refine s_as ?_
  refine k_nil ?_
  exact s_rnd2 (fu, ((([] : List Int) ++ g41) ++ [(w64 (g42 + v49.1))]), (w64 (g42 + v49.1)), (w64 (g43 - 1)), v49.2.b, v49.2.p, (g46 ++ [(w64 (g42 + v49.1))])) [(5020, 84)] ⟨by first | omega | (dsimp only; omega), hF12⟩ (hasR_cons (by conv => lhs; whnf) (by rfl) rfl (hasR_cons (by conv => lhs; whnf) (by rfl) rfl (hasR_cons (by conv => lhs; whnf) (by rfl) rfl trivial))) (hasQ_cons (by conv => lhs; whnf) (by rfl) rfl (hasQ_cons (by conv => lhs; whnf) (by rfl) rfl (hasQ_cons (by conv => lhs; whnf) (by rfl) rfl trivial)))
  refine awp_exit ?_
  refine k_seq_exit ?_
  refine k_rnd_exit2 ?_
  refine k_blk_exit ?_
  refine k_blk ?_
  refine k_seq ?_
  refine awp_seq ?_
  refine awp_seq ?_
  refine awp_region ?_
  refine s_as ?_
  refine k_nil ?_
  refine k_seq ?_
  refine awp_block ?_
  refine awp_ownB 10 5040 29 [.t (.sc (.int .i64 v38.1)), .t (.sc (.int .i64 0)), .t (.sc (.str (⟨#[]⟩ : ByteArray))), .t (.sc (.int .i64 0)), .ar 5020, .t (.sc (.int .i64 0)), .t (.sc (.str (⟨#[]⟩ : ByteArray))), .t (.sc (.int .i64 0)), .nl, .nl, .ar 5040] yI29.choose_spec ?_
  refine awp_frame2 [3, 13, 14, 15, 97, 98, 99, 100, 101, 102, 103, 104, 105, 106, 107, 108, 109, 110, 111, 112, 113, 114, 115, 116, 117] [10, 5040, 9000] [14, 115, 116] [5040] (fun a : Nat × Int × Int × (List Int) × Int × (List Core) => a.1) (fun a : Nat × Int × Int × (List Int) × Int × (List Core) => [(3, .t (.sc (.int .i64 a.2.1))), (13, .t (.sc (.int .i64 a.2.2.1)))]) (fun a : Nat × Int × Int × (List Int) × Int × (List Core) => [(10, .box [.t (.sc (.int .i64 v38.1)), .t (.sc (.int .i64 0)), .t (.sc (.str (⟨#[]⟩ : ByteArray))), .t (.sc (.int .i64 0)), .ar 5020, .t (.sc (.int .i64 0)), .t (.sc (.str (⟨#[]⟩ : ByteArray))), .t (.sc (.int .i64 0)), .nl, .nl, .ar 5040]), (5040, .arr (a.2.2.2.2.2.map Core.row) 29 true), (9000, .box [.t (.sl (a.2.2.2.1.map rB)), .t (.sc (.int .i64 a.2.2.2.2.1))])]) (fun a : Nat × Int × Int × (List Int) × Int × (List Core) => a.1 ≤ fu ∧ m_spec_l6Some_l2 a.1 x3 v38 g41 g46 a.2.1 a.2.2.1 a.2.2.2.1 a.2.2.2.2.1 a.2.2.2.2.2 = some r) (fu, g42, 0, g44, g45, ([] : List Core)) ⟨Nat.le_refl _, hF8⟩ (by rfl) (by rfl) (fun _ => rfl) (hasF_cons (by conv => lhs; whnf) (by rfl) (hasF_cons (by conv => lhs; whnf) (by rfl) hasF_nil)) (hasO_cons (by conv => lhs; whnf) (by rfl) (hasO_cons (by conv => lhs; whnf) (by rfl) (hasO_cons (by conv => lhs; whnf) (by rfl) hasO_nil))) (fresh_C hC rfl) (by repeat (first | exact freshS_args rfl | refine freshS_upd rfl ?_ | refine freshS_frame rfl ?_)) (by repeat (first | exact freshM_no | exact objs_fresh rfl | refine freshM_upd rfl ?_ | refine freshM_frame rfl ?_)) ?_
  clear hF8
  rintro ⟨fu, g53, g54, g55, g56, g57⟩ ⟨hl58, hF9⟩
  dsimp only at hl58 hF9 ⊢
  obtain _ | fu := fu
  · rw [m_spec_l6Some_l2] at hF9; cases hF9
  rw [m_spec_l6Some_l2] at hF9
  refine awp_seq ?_
  refine awp_seq ?_
  refine awp_region ?_
  refine s_mv ?_
  refine s_mv ?_
  refine s_lt ?_
  refine k_nil ?_
  refine k_seq ?_
  refine w_cond hF9 (fun hc59 hF10 => ?_) (fun hc59 hF10 => ?_) <;> clear hF9
  refine awp_skip ?_
  refine k_seq ?_
  refine awp_seq ?_
  refine awp_block ?_
  refine awp_seq ?_
  refine awp_region ?_
  refine s_mv ?_
  refine s_mv ?_
  refine s_mv ?_
  refine s_sub rfl ?_
  refine s_mv ?_
  replace hF10 := bind_some' hF10
  obtain ⟨v60, hv60, hF11⟩ := hF10
  refine s_call [(9000, 9000)] [] _ _ (ih_m_spec_l6Some fu (by omega) _ _ _ _ _ hv60) ?_
  refine s_mv ?_
  refine s_ext ?_
  refine s_ext ?_
  refine s_alloc yZ29 ?_
  refine s_stW yS29 ?_
  refine s_as ?_
  refine k_nil ?_
  refine k_seq ?_
  refine awp_seq ?_
  refine awp_region ?_
  refine s_mv ?_
  refine s_as ?_
  refine k_nil ?_
  refine k_seq ?_
  refine awp_region ?_
  refine s_fa yF29_6 ?_
  refine s_ld1 yA27 ?_
  refine s_ldW yA29 yS29 ?_
  refine s_bs Core.row [v60.1] yP27 yR29 ?_
  obtain ⟨hk61, hF12⟩ := chk_some hF11
  refine s_apT Core.row (fun y => Core.row_len y) hk61 yP27 ?_
  refine s_fa yF29_6 ?_
  refine s_stP yS27 ?_
  refine k_nil ?_
  refine k_blk ?_
  refine k_seq ?_
  refine awp_region ?_
  refine s_mv ?_
  refine s_add rfl ?_
  refine s_as ?_
  refine k_nil ?_
  exact s_rnd2 (fu, v60.2.1, (w64 (g54 + 1)), v60.2.2.b, v60.2.2.p, (g57 ++ [v60.1])) [(5040, 116)] ⟨by first | omega | (dsimp only; omega), hF12⟩ (hasR_cons (by conv => lhs; whnf) (by rfl) rfl (hasR_cons (by conv => lhs; whnf) (by rfl) rfl trivial)) (hasQ_cons (by conv => lhs; whnf) (by rfl) rfl (hasQ_cons (by conv => lhs; whnf) (by rfl) rfl (hasQ_cons (by conv => lhs; whnf) (by rfl) rfl trivial)))
  refine awp_exit ?_
  refine k_seq_exit ?_
  refine k_rnd_exit2 ?_
  refine k_blk_exit ?_
  refine k_seq ?_
  refine awp_seq ?_
  refine awp_region ?_
  refine s_ldW yA29 yS29 ?_
  refine s_mv ?_
  refine s_stW yS29 ?_
  refine s_as ?_
  refine k_nil ?_
  refine k_seq ?_
  refine awp_ret ?_
  refine k_fin ?_
  obtain rfl := Option.some.inj hF10
  exact ends_gen _ [5020, 5040] (by rw [Try.results37]; exact (res_agg (by conv => lhs; whnf) (by conv => lhs; whnf) yA29 yS29 rfl (res_tmp (by conv => lhs; whnf) res_nil)))
  refine awp_seq ?_
  refine awp_region ?_
  refine s_eq ?_
  refine s_as ?_
  refine k_nil ?_
  refine k_seq ?_
  refine w_cond hF5 (fun hc62 hF6 => ?_) (fun hc62 hF6 => ?_) <;> clear hF5
  refine awp_region ?_
  refine s_mv ?_
  refine s_bs rI [2, 1, 3] yP23 yR3 ?_
  replace hF6 := bind_some' hF6
  obtain ⟨v63, hv63, hF7⟩ := hF6
  refine s_call [(9000, 9000)] [95] _ _ (m_spec_l15Rd_num_ok fu _ _ _ hv63) ?_
  refine s_as ?_
  refine k_nil ?_
  refine k_blk ?_
  refine k_seq ?_
  refine awp_seq ?_
  refine awp_seq ?_
  refine awp_region ?_
  refine s_as ?_
  refine k_nil ?_
  refine k_seq ?_
  refine awp_block ?_
  refine awp_ownB 10 5060 29 [.t (.sc (.int .i64 v38.1)), .t (.sc (.int .i64 0)), .t (.sc (.str (⟨#[]⟩ : ByteArray))), .t (.sc (.int .i64 0)), .nl, .t (.sc (.int .i64 0)), .t (.sc (.str (⟨#[]⟩ : ByteArray))), .t (.sc (.int .i64 0)), .nl, .nl, .ar 5060] yI29.choose_spec ?_
  refine awp_frame2 [3, 13, 14, 15, 97, 98, 99, 100, 101, 102, 103, 104, 105, 106, 107, 108, 109, 110, 111, 112, 113, 114, 115, 116, 117] [10, 5060, 9000] [14, 115, 116] [5060] (fun a : Nat × Int × Int × (List Int) × Int × (List Core) => a.1) (fun a : Nat × Int × Int × (List Int) × Int × (List Core) => [(3, .t (.sc (.int .i64 a.2.1))), (13, .t (.sc (.int .i64 a.2.2.1)))]) (fun a : Nat × Int × Int × (List Int) × Int × (List Core) => [(10, .box [.t (.sc (.int .i64 v38.1)), .t (.sc (.int .i64 0)), .t (.sc (.str (⟨#[]⟩ : ByteArray))), .t (.sc (.int .i64 0)), .nl, .t (.sc (.int .i64 0)), .t (.sc (.str (⟨#[]⟩ : ByteArray))), .t (.sc (.int .i64 0)), .nl, .nl, .ar 5060]), (5060, .arr (a.2.2.2.2.2.map Core.row) 29 true), (9000, .box [.t (.sl (a.2.2.2.1.map rB)), .t (.sc (.int .i64 a.2.2.2.2.1))])]) (fun a : Nat × Int × Int × (List Int) × Int × (List Core) => a.1 ≤ fu ∧ m_spec_l6Some_l3 a.1 x2 x3 v38 v63 a.2.1 a.2.2.1 a.2.2.2.1 a.2.2.2.2.1 a.2.2.2.2.2 = some r) (fu, x4, 0, v63.2.b, v63.2.p, ([] : List Core)) ⟨Nat.le_refl _, hF7⟩ (by rfl) (by rfl) (fun _ => rfl) (hasF_cons (by conv => lhs; whnf) (by rfl) (hasF_cons (by conv => lhs; whnf) (by rfl) hasF_nil)) (hasO_cons (by conv => lhs; whnf) (by rfl) (hasO_cons (by conv => lhs; whnf) (by rfl) (hasO_cons (by conv => lhs; whnf) (by rfl) hasO_nil))) (fresh_C hC rfl) (by repeat (first | exact freshS_args rfl | refine freshS_upd rfl ?_ | refine freshS_frame rfl ?_)) (by repeat (first | exact freshM_no | exact objs_fresh rfl | refine freshM_upd rfl ?_ | refine freshM_frame rfl ?_)) ?_
  clear hF7
  rintro ⟨fu, g64, g65, g66, g67, g68⟩ ⟨hl69, hF8⟩
  dsimp only at hl69 hF8 ⊢
  obtain _ | fu := fu
  · rw [m_spec_l6Some_l3] at hF8; cases hF8
  rw [m_spec_l6Some_l3] at hF8
  refine awp_seq ?_
  refine awp_seq ?_
  refine awp_region ?_
  refine s_mv ?_
  refine s_mv ?_
  refine s_lt ?_
  refine k_nil ?_
  refine k_seq ?_
  refine w_cond hF8 (fun hc70 hF9 => ?_) (fun hc70 hF9 => ?_) <;> clear hF8
  refine awp_skip ?_
  refine k_seq ?_
  refine awp_seq ?_
  refine awp_block ?_
  refine awp_seq ?_
  refine awp_region ?_
  refine s_mv ?_
  refine s_mv ?_
  refine s_mv ?_
  refine s_sub rfl ?_
  refine s_mv ?_
  replace hF9 := bind_some' hF9
  obtain ⟨v71, hv71, hF10⟩ := hF9
  refine s_call [(9000, 9000)] [] _ _ (ih_m_spec_l6Some fu (by omega) _ _ _ _ _ hv71) ?_
  refine s_mv ?_
  refine s_ext ?_
  refine s_ext ?_
  refine s_alloc yZ29 ?_
  refine s_stW yS29 ?_
  refine s_as ?_
  refine k_nil ?_
  refine k_seq ?_
  refine awp_seq ?_
  refine awp_region ?_
  refine s_mv ?_
  refine s_as ?_
  refine k_nil ?_
  refine k_seq ?_
  refine awp_region ?_
  refine s_fa yF29_6 ?_
  refine s_ld1 yA27 ?_
  refine s_ldW yA29 yS29 ?_
  refine s_bs Core.row [v71.1] yP27 yR29 ?_
  obtain ⟨hk72, hF11⟩ := chk_some hF10
  refine s_apT Core.row (fun y => Core.row_len y) hk72 yP27 ?_
  refine s_fa yF29_6 ?_
  refine s_stP yS27 ?_
  refine k_nil ?_
  refine k_blk ?_
  refine k_seq ?_
  refine awp_region ?_
  refine s_mv ?_
  refine s_add rfl ?_
  refine s_as ?_
  refine k_nil ?_
  exact s_rnd2 (fu, v71.2.1, (w64 (g65 + 1)), v71.2.2.b, v71.2.2.p, (g68 ++ [v71.1])) [(5060, 116)] ⟨by first | omega | (dsimp only; omega), hF11⟩ (hasR_cons (by conv => lhs; whnf) (by rfl) rfl (hasR_cons (by conv => lhs; whnf) (by rfl) rfl trivial)) (hasQ_cons (by conv => lhs; whnf) (by rfl) rfl (hasQ_cons (by conv => lhs; whnf) (by rfl) rfl (hasQ_cons (by conv => lhs; whnf) (by rfl) rfl trivial)))
  refine awp_exit ?_
  refine k_seq_exit ?_
  refine k_rnd_exit2 ?_
  refine k_blk_exit ?_
  refine k_seq ?_
  refine awp_seq ?_
  refine awp_region ?_
  refine s_ldW yA29 yS29 ?_
  refine s_mv ?_
  refine s_stW yS29 ?_
  refine s_as ?_
  refine k_nil ?_
  refine k_seq ?_
  refine awp_ret ?_
  refine k_fin ?_
  obtain rfl := Option.some.inj hF9
  exact ends_gen _ [5060] (by rw [Try.results37]; exact (res_agg (by conv => lhs; whnf) (by conv => lhs; whnf) yA29 yS29 rfl (res_tmp (by conv => lhs; whnf) res_nil)))
  refine awp_skip ?_
  refine k_blk ?_
  refine k_seq ?_
  refine awp_seq ?_
  refine awp_seq ?_
  refine awp_region ?_
  refine s_as ?_
  refine k_nil ?_
  refine k_seq ?_
  refine awp_block ?_
  refine awp_ownB 10 5080 29 [.t (.sc (.int .i64 v38.1)), .t (.sc (.int .i64 0)), .t (.sc (.str (⟨#[]⟩ : ByteArray))), .t (.sc (.int .i64 0)), .nl, .t (.sc (.int .i64 0)), .t (.sc (.str (⟨#[]⟩ : ByteArray))), .t (.sc (.int .i64 0)), .nl, .nl, .ar 5080] yI29.choose_spec ?_
  refine awp_frame2 [3, 13, 14, 15, 97, 98, 99, 100, 101, 102, 103, 104, 105, 106, 107, 108, 109, 110, 111, 112, 113, 114, 115, 116, 117] [10, 5080, 9000] [14, 115, 116] [5080] (fun a : Nat × Int × Int × (List Int) × Int × (List Core) => a.1) (fun a : Nat × Int × Int × (List Int) × Int × (List Core) => [(3, .t (.sc (.int .i64 a.2.1))), (13, .t (.sc (.int .i64 a.2.2.1)))]) (fun a : Nat × Int × Int × (List Int) × Int × (List Core) => [(10, .box [.t (.sc (.int .i64 v38.1)), .t (.sc (.int .i64 0)), .t (.sc (.str (⟨#[]⟩ : ByteArray))), .t (.sc (.int .i64 0)), .nl, .t (.sc (.int .i64 0)), .t (.sc (.str (⟨#[]⟩ : ByteArray))), .t (.sc (.int .i64 0)), .nl, .nl, .ar 5080]), (5080, .arr (a.2.2.2.2.2.map Core.row) 29 true), (9000, .box [.t (.sl (a.2.2.2.1.map rB)), .t (.sc (.int .i64 a.2.2.2.2.1))])]) (fun a : Nat × Int × Int × (List Int) × Int × (List Core) => a.1 ≤ fu ∧ m_spec_l6Some_l4 a.1 x2 x3 v38 a.2.1 a.2.2.1 a.2.2.2.1 a.2.2.2.2.1 a.2.2.2.2.2 = some r) (fu, x4, 0, v38.2.b, v38.2.p, ([] : List Core)) ⟨Nat.le_refl _, hF6⟩ (by rfl) (by rfl) (fun _ => rfl) (hasF_cons (by conv => lhs; whnf) (by rfl) (hasF_cons (by conv => lhs; whnf) (by rfl) hasF_nil)) (hasO_cons (by conv => lhs; whnf) (by rfl) (hasO_cons (by conv => lhs; whnf) (by rfl) (hasO_cons (by conv => lhs; whnf) (by rfl) hasO_nil))) (fresh_C hC rfl) (by repeat (first | exact freshS_args rfl | refine freshS_upd rfl ?_ | refine freshS_frame rfl ?_)) (by repeat (first | exact freshM_no | exact objs_fresh rfl | refine freshM_upd rfl ?_ | refine freshM_frame rfl ?_)) ?_
  clear hF6
  rintro ⟨fu, g73, g74, g75, g76, g77⟩ ⟨hl78, hF7⟩
  dsimp only at hl78 hF7 ⊢
  obtain _ | fu := fu
  · rw [m_spec_l6Some_l4] at hF7; cases hF7
  rw [m_spec_l6Some_l4] at hF7
  refine awp_seq ?_
  refine awp_seq ?_
  refine awp_region ?_
  refine s_mv ?_
  refine s_mv ?_
  refine s_lt ?_
  refine k_nil ?_
  refine k_seq ?_
  refine w_cond hF7 (fun hc79 hF8 => ?_) (fun hc79 hF8 => ?_) <;> clear hF7
  refine awp_skip ?_
  refine k_seq ?_
  refine awp_seq ?_
  refine awp_block ?_
  refine awp_seq ?_
  refine awp_region ?_
  refine s_mv ?_
  refine s_mv ?_
  refine s_mv ?_
  refine s_sub rfl ?_
  refine s_mv ?_
  replace hF8 := bind_some' hF8
  obtain ⟨v80, hv80, hF9⟩ := hF8
  refine s_call [(9000, 9000)] [] _ _ (ih_m_spec_l6Some fu (by omega) _ _ _ _ _ hv80) ?_
  refine s_mv ?_
  refine s_ext ?_
  refine s_ext ?_
  refine s_alloc yZ29 ?_
  refine s_stW yS29 ?_
  refine s_as ?_
  refine k_nil ?_
  refine k_seq ?_
  refine awp_seq ?_
  refine awp_region ?_
  refine s_mv ?_
  refine s_as ?_
  refine k_nil ?_
  refine k_seq ?_
  refine awp_region ?_
  refine s_fa yF29_6 ?_
  refine s_ld1 yA27 ?_
  refine s_ldW yA29 yS29 ?_
  refine s_bs Core.row [v80.1] yP27 yR29 ?_
  obtain ⟨hk81, hF10⟩ := chk_some hF9
  refine s_apT Core.row (fun y => Core.row_len y) hk81 yP27 ?_
  refine s_fa yF29_6 ?_
  refine s_stP yS27 ?_
  refine k_nil ?_
  refine k_blk ?_
  refine k_seq ?_
  refine awp_region ?_
  refine s_mv ?_
  refine s_add rfl ?_
  refine s_as ?_
  refine k_nil ?_
  exact s_rnd2 (fu, v80.2.1, (w64 (g74 + 1)), v80.2.2.b, v80.2.2.p, (g77 ++ [v80.1])) [(5080, 116)] ⟨by first | omega | (dsimp only; omega), hF10⟩ (hasR_cons (by conv => lhs; whnf) (by rfl) rfl (hasR_cons (by conv => lhs; whnf) (by rfl) rfl trivial)) (hasQ_cons (by conv => lhs; whnf) (by rfl) rfl (hasQ_cons (by conv => lhs; whnf) (by rfl) rfl (hasQ_cons (by conv => lhs; whnf) (by rfl) rfl trivial)))
  refine awp_exit ?_
  refine k_seq_exit ?_
  refine k_rnd_exit2 ?_
  refine k_blk_exit ?_
  refine k_seq ?_
  refine awp_seq ?_
  refine awp_region ?_
  refine s_ldW yA29 yS29 ?_
  refine s_mv ?_
  refine s_stW yS29 ?_
  refine s_as ?_
  refine k_nil ?_
  refine k_seq ?_
  refine awp_ret ?_
  refine k_fin ?_
  obtain rfl := Option.some.inj hF8
  exact ends_gen _ [5080] (by rw [Try.results37]; exact (res_agg (by conv => lhs; whnf) (by conv => lhs; whnf) yA29 yS29 rfl (res_tmp (by conv => lhs; whnf) res_nil)))
theorem m_spec_l6Some_all (fuel : Nat) : m_spec_l6Some_AC fuel := by
  induction fuel using Nat.strongRecOn with
  | _ N ih =>
    cases N with
    | zero => exact (by intro o1 x2 x3 x4 r h; rw [m_spec_l6Some] at h; cases h)
    | succ fu => exact m_spec_l6Some_st fu (fun k hk => (ih k (by omega)))
theorem m_spec_l6Some_ok (fuel : Nat) : m_spec_l6Some_AC fuel := (m_spec_l6Some_all fuel)
def m_spec_l1Copy_AC (fuel : Nat) : Prop := ∀ (x1 : Form) (r : Form), m_spec_l1Copy fuel x1 = some r → AC Try.prog 55 [.ag [.t (.sc (.int .i64 x1.kind)), .t (.sc (.str x1.name)), .t (.sc (.int .i64 x1.n)), .t (.sl (x1.scopes.map rI)), .t (.sl (x1.kids.map Form.row))]] noOb (.ag [.t (.sc (.int .i64 r.kind)), .t (.sc (.str r.name)), .t (.sc (.int .i64 r.n)), .t (.sl (r.scopes.map rI)), .t (.sl (r.kids.map Form.row))]) noOb
theorem m_spec_l1Copy_st (fu : Nat) (ih_m_spec_l1Copy : ∀ k, k ≤ fu → m_spec_l1Copy_AC k) : m_spec_l1Copy_AC (fu + 1) := by
  intro x1 r hF0
  rw [m_spec_l1Copy] at hF0
  refine AC_intro (rs := [.ag [.t (.sc (.int .i64 r.kind)), .t (.sc (.str r.name)), .t (.sc (.int .i64 r.n)), .t (.sl (r.scopes.map rI)), .t (.sl (r.kids.map Form.row))]]) Try.func55 rfl (by kernel_rfl) (by simp [Try.ntmps55]) (by simp [noOb]) ?_
  intro C hC
  rw [Try.ntmps55]
  refine awp_seq ?_
  refine awp_region ?_
  refine s_box ?_
  refine s_alloc yZ26 ?_
  refine k_nil ?_
  refine k_seq ?_
  refine awp_seq ?_
  refine awp_draw yMix (by kernel_rfl) ?_
  refine s_fa yF26_0 ?_
  refine s_ld1 yA3 ?_
  refine s_fa yF26_1 ?_
  refine s_ld1 yA9 ?_
  refine s_fa yF26_2 ?_
  refine s_ld1 yA3 ?_
  refine s_bs rI ([] : List Int) yP23 yR3 ?_
  refine s_fa yF26_3 ?_
  refine s_ld1 yA23 ?_
  obtain ⟨hk1, hF1⟩ := chk_some hF0
  refine s_apT rI (fun _ => rfl) hk1 yP23 ?_
  refine s_bld yZ26 yL26 ?_
  refine s_alloc yZ26 ?_
  refine s_stW yS26 ?_
  refine k_nilD (by kernel_rfl) ?_
  refine k_seq ?_
  refine awp_seq ?_
  refine awp_seq ?_
  refine awp_region ?_
  refine s_as ?_
  refine k_nil ?_
  refine k_seq ?_
  refine awp_block ?_
  refine awp_ownB 3 5020 26 [.t (.sc (.int .i64 x1.kind)), .t (.sc (.str x1.name)), .t (.sc (.int .i64 x1.n)), .ar 14, .ar 5020] yI26.choose_spec ?_
  refine awp_frame2 [4, 16, 17, 18, 19, 20, 21, 22, 23, 24, 25, 26, 27, 28, 29, 30, 31, 32, 33] [3, 5020] [31, 32] [5020] (fun a : Nat × Int × (List Form) => a.1) (fun a : Nat × Int × (List Form) => [(4, .t (.sc (.int .i64 a.2.1)))]) (fun a : Nat × Int × (List Form) => [(3, .box [.t (.sc (.int .i64 x1.kind)), .t (.sc (.str x1.name)), .t (.sc (.int .i64 x1.n)), .ar 14, .ar 5020]), (5020, .arr (a.2.2.map Form.row) 26 true)]) (fun a : Nat × Int × (List Form) => a.1 ≤ fu ∧ m_spec_l1Copy_l1 a.1 x1 a.2.1 a.2.2 = some r ∧ 0 ≤ a.2.1) (fu, 0, ([] : List Form)) ⟨Nat.le_refl _, hF1, by simp⟩ (by rfl) (by rfl) (fun _ => rfl) (hasF_cons (by conv => lhs; whnf) (by rfl) hasF_nil) (hasO_cons (by conv => lhs; whnf) (by rfl) (hasO_cons (by conv => lhs; whnf) (by rfl) hasO_nil)) (fresh_C hC rfl) (by repeat (first | exact freshS_args rfl | refine freshS_upd rfl ?_ | refine freshS_frame rfl ?_)) (by repeat (first | exact freshM_no | exact objs_fresh rfl | refine freshM_upd rfl ?_ | refine freshM_frame rfl ?_)) ?_
  clear hF1
  rintro ⟨fu, g2, g3⟩ ⟨hl4, hF2, hn_g2⟩
  dsimp only at hl4 hF2 hn_g2 ⊢
  obtain _ | fu := fu
  · rw [m_spec_l1Copy_l1] at hF2; cases hF2
  rw [m_spec_l1Copy_l1] at hF2
  refine awp_seq ?_
  refine awp_seq ?_
  refine awp_region ?_
  refine s_mv ?_
  refine s_fa yF26_4 ?_
  refine s_ld1 yA24 ?_
  refine s_lenT yU24 ?_
  refine s_lt ?_
  refine k_nil ?_
  refine k_seq ?_
  refine w_cond hF2 (fun hc5 hF3 => ?_) (fun hc5 hF3 => ?_) <;> clear hF2
  refine awp_lenT 18 (fun hb6 => ?_)
  refine awp_skip ?_
  refine k_seq ?_
  refine awp_seq ?_
  refine awp_block ?_
  refine awp_draw yMix (by kernel_rfl) ?_
  refine s_fa yF26_4 ?_
  refine s_ld1 yA24 ?_
  refine s_fa yF26_4 ?_
  refine s_ld1 yA24 ?_
  refine s_mv ?_
  replace hF3 := bind_some' hF3
  obtain ⟨v7, hv7, hF4⟩ := hF3
  refine s_ixT Form.row hv7 (Form.row_eq _) yE24 ?_
  refine s_ldN yA26 yS26 ?_
  replace hF4 := bind_some' hF4
  obtain ⟨v8, hv8, hF5⟩ := hF4
  refine s_pure [] (ih_m_spec_l1Copy fu (by omega) _ _ hv8) ?_
  refine s_bs Form.row [v8] yP24 yR26 ?_
  obtain ⟨hk9, hF6⟩ := chk_some hF5
  refine s_apT Form.row (fun y => Form.row_len y) hk9 yP24 ?_
  refine s_fa yF26_4 ?_
  refine s_stP yS24 ?_
  refine k_nilD (by kernel_rfl) ?_
  refine k_blk ?_
  refine k_seq ?_
  refine awp_region ?_
  refine s_mv ?_
  refine s_add (winc2 hc5 hb6 hn_g2) ?_
  refine s_as ?_
  refine k_nil ?_
  exact s_rnd2 (fu, (g2 + 1), (g3 ++ [v8])) [(5020, 32)] ⟨by first | omega | (dsimp only; omega), hF6, by first | omega | (dsimp only; omega)⟩ (hasR_cons (by conv => lhs; whnf) (by rfl) rfl trivial) (hasQ_cons (by conv => lhs; whnf) (by rfl) rfl (hasQ_cons (by conv => lhs; whnf) (by rfl) rfl trivial))
  refine awp_exit ?_
  refine k_seq_exit ?_
  refine k_rnd_exit2 ?_
  refine k_blk_exit ?_
  refine k_seq ?_
  refine awp_seq ?_
  refine awp_region ?_
  refine s_ldW yA26 yS26 ?_
  refine s_stW yS26 ?_
  refine k_nil ?_
  refine k_seq ?_
  refine awp_ret ?_
  refine k_fin ?_
  obtain rfl := Option.some.inj hF3
  exact ends_gen [] [14, 5020] (by rw [Try.results55]; exact (res_agg (by conv => lhs; whnf) (by conv => lhs; whnf) yA26 yS26 rfl res_nil))
theorem m_spec_l1Copy_all (fuel : Nat) : m_spec_l1Copy_AC fuel := by
  induction fuel using Nat.strongRecOn with
  | _ N ih =>
    cases N with
    | zero => exact (by intro x1 r h; rw [m_spec_l1Copy] at h; cases h)
    | succ fu => exact m_spec_l1Copy_st fu (fun k hk => (ih k (by omega)))
theorem m_spec_l1Copy_ok (fuel : Nat) : m_spec_l1Copy_AC fuel := (m_spec_l1Copy_all fuel)
def m_spec_l6Copy_AC (fuel : Nat) : Prop := ∀ (x1 : Core) (r : Core), m_spec_l6Copy fuel x1 = some r → AC Try.prog 51 [.ag [.t (.sc (.int .i64 x1.kind)), .t (.sc (.int .i64 x1.id)), .t (.sc (.str x1.name)), .t (.sc (.int .i64 x1.n)), .t (.sl (x1.ids.map rI)), .t (.sc (.int .i64 x1.data.kind)), .t (.sc (.str x1.data.name)), .t (.sc (.int .i64 x1.data.n)), .t (.sl (x1.data.scopes.map rI)), .t (.sl (x1.data.kids.map Form.row)), .t (.sl (x1.kids.map Core.row))]] (objs []) (.ag [.t (.sc (.int .i64 r.kind)), .t (.sc (.int .i64 r.id)), .t (.sc (.str r.name)), .t (.sc (.int .i64 r.n)), .ar 9204, .t (.sc (.int .i64 r.data.kind)), .t (.sc (.str r.data.name)), .t (.sc (.int .i64 r.data.n)), .t (.sl (r.data.scopes.map rI)), .t (.sl (r.data.kids.map Form.row)), .ar 9210]) (objs [(9204, .arr (r.ids.map rI) 3 true), (9210, .arr (r.kids.map Core.row) 29 true)])
theorem m_spec_l6Copy_st (fu : Nat) (ih_m_spec_l6Copy : ∀ k, k ≤ fu → m_spec_l6Copy_AC k) : m_spec_l6Copy_AC (fu + 1) := by
  intro x1 r hF0
  rw [m_spec_l6Copy] at hF0
  refine AC_intro (rs := [.ag [.t (.sc (.int .i64 r.kind)), .t (.sc (.int .i64 r.id)), .t (.sc (.str r.name)), .t (.sc (.int .i64 r.n)), .ar 9204, .t (.sc (.int .i64 r.data.kind)), .t (.sc (.str r.data.name)), .t (.sc (.int .i64 r.data.n)), .t (.sl (r.data.scopes.map rI)), .t (.sl (r.data.kids.map Form.row)), .ar 9210]]) Try.func51 rfl (by kernel_rfl) (by simp [Try.ntmps51]) (keep_all rfl) ?_
  intro C hC
  rw [Try.ntmps51]
  refine awp_seq ?_
  refine awp_region ?_
  refine s_box ?_
  refine s_alloc yZ29 ?_
  refine k_nil ?_
  refine k_seq ?_
  refine awp_seq ?_
  refine awp_draw yMix (by kernel_rfl) ?_
  refine s_fa yF29_0 ?_
  refine s_ld1 yA3 ?_
  refine s_fa yF29_1 ?_
  refine s_ld1 yA3 ?_
  refine s_fa yF29_2 ?_
  refine s_ld1 yA9 ?_
  refine s_fa yF29_3 ?_
  refine s_ld1 yA3 ?_
  refine s_bs rI ([] : List Int) yP23 yR3 ?_
  refine s_fa yF29_4 ?_
  refine s_ld1 yA23 ?_
  obtain ⟨hk1, hF1⟩ := chk_some hF0
  refine s_apT rI (fun _ => rfl) hk1 yP23 ?_
  refine s_fa yF29_5 ?_
  refine s_ldN yA26 yS26 ?_
  replace hF1 := bind_some' hF1
  obtain ⟨v2, hv2, hF2⟩ := hF1
  refine s_pure [] (m_spec_l1Copy_ok fu _ _ hv2) ?_
  refine s_bld yZ29 yL29 ?_
  refine s_alloc yZ29 ?_
  refine s_stW yS29 ?_
  refine k_nilD (by kernel_rfl) ?_
  refine k_seq ?_
  refine awp_seq ?_
  refine awp_seq ?_
  refine awp_region ?_
  refine s_as ?_
  refine k_nil ?_
  refine k_seq ?_
  refine awp_block ?_
  refine awp_ownB 3 5020 29 [.t (.sc (.int .i64 x1.kind)), .t (.sc (.int .i64 x1.id)), .t (.sc (.str x1.name)), .t (.sc (.int .i64 x1.n)), .ar 16, .t (.sc (.int .i64 v2.kind)), .t (.sc (.str v2.name)), .t (.sc (.int .i64 v2.n)), .t (.sl (v2.scopes.map rI)), .t (.sl (v2.kids.map Form.row)), .ar 5020] yI29.choose_spec ?_
  refine awp_frame2 [4, 21, 22, 23, 24, 25, 26, 27, 28, 29, 30, 31, 32, 33, 34, 35, 36, 37, 38] [3, 5020] [36, 37, 2035, 12035] [5020] (fun a : Nat × Int × (List Core) => a.1) (fun a : Nat × Int × (List Core) => [(4, .t (.sc (.int .i64 a.2.1)))]) (fun a : Nat × Int × (List Core) => [(3, .box [.t (.sc (.int .i64 x1.kind)), .t (.sc (.int .i64 x1.id)), .t (.sc (.str x1.name)), .t (.sc (.int .i64 x1.n)), .ar 16, .t (.sc (.int .i64 v2.kind)), .t (.sc (.str v2.name)), .t (.sc (.int .i64 v2.n)), .t (.sl (v2.scopes.map rI)), .t (.sl (v2.kids.map Form.row)), .ar 5020]), (5020, .arr (a.2.2.map Core.row) 29 true)]) (fun a : Nat × Int × (List Core) => a.1 ≤ fu ∧ m_spec_l6Copy_l1 a.1 x1 v2 a.2.1 a.2.2 = some r ∧ 0 ≤ a.2.1) (fu, 0, ([] : List Core)) ⟨Nat.le_refl _, hF2, by simp⟩ (by rfl) (by rfl) (fun _ => rfl) (hasF_cons (by conv => lhs; whnf) (by rfl) hasF_nil) (hasO_cons (by conv => lhs; whnf) (by rfl) (hasO_cons (by conv => lhs; whnf) (by rfl) hasO_nil)) (fresh_C hC rfl) (by repeat (first | exact freshS_args rfl | refine freshS_upd rfl ?_ | refine freshS_frame rfl ?_)) (by repeat (first | exact freshM_no | exact objs_fresh rfl | refine freshM_upd rfl ?_ | refine freshM_frame rfl ?_)) ?_
  clear hF2
  rintro ⟨fu, g3, g4⟩ ⟨hl5, hF3, hn_g3⟩
  dsimp only at hl5 hF3 hn_g3 ⊢
  obtain _ | fu := fu
  · rw [m_spec_l6Copy_l1] at hF3; cases hF3
  rw [m_spec_l6Copy_l1] at hF3
  refine awp_seq ?_
  refine awp_seq ?_
  refine awp_region ?_
  refine s_mv ?_
  refine s_fa yF29_6 ?_
  refine s_ld1 yA27 ?_
  refine s_lenT yU27 ?_
  refine s_lt ?_
  refine k_nil ?_
  refine k_seq ?_
  refine w_cond hF3 (fun hc6 hF4 => ?_) (fun hc6 hF4 => ?_) <;> clear hF3
  refine awp_lenT 23 (fun hb7 => ?_)
  refine awp_skip ?_
  refine k_seq ?_
  refine awp_seq ?_
  refine awp_block ?_
  refine awp_draw yMix (by kernel_rfl) ?_
  refine s_fa yF29_6 ?_
  refine s_ld1 yA27 ?_
  refine s_fa yF29_6 ?_
  refine s_ld1 yA27 ?_
  refine s_mv ?_
  replace hF4 := bind_some' hF4
  obtain ⟨v8, hv8, hF5⟩ := hF4
  refine s_ixT Core.row hv8 (Core.row_eq _) yE27 ?_
  refine s_ldN yA29 yS29 ?_
  replace hF5 := bind_some' hF5
  obtain ⟨v9, hv9, hF6⟩ := hF5
  refine s_call [(9204, 2035), (9210, 12035)] [] _ _ (ih_m_spec_l6Copy fu (by omega) _ _ hv9) ?_
  refine s_bs Core.row [v9] yP27 yR29 ?_
  obtain ⟨hk10, hF7⟩ := chk_some hF6
  refine s_apT Core.row (fun y => Core.row_len y) hk10 yP27 ?_
  refine s_fa yF29_6 ?_
  refine s_stP yS27 ?_
  refine k_nilD (by kernel_rfl) ?_
  refine k_blk ?_
  refine k_seq ?_
  refine awp_region ?_
  refine s_mv ?_
  refine s_add (winc2 hc6 hb7 hn_g3) ?_
  refine s_as ?_
  refine k_nil ?_
  exact s_rnd2 (fu, (g3 + 1), (g4 ++ [v9])) [(5020, 37)] ⟨by first | omega | (dsimp only; omega), hF7, by first | omega | (dsimp only; omega)⟩ (hasR_cons (by conv => lhs; whnf) (by rfl) rfl trivial) (hasQ_cons (by conv => lhs; whnf) (by rfl) rfl (hasQ_cons (by conv => lhs; whnf) (by rfl) rfl trivial))
  refine awp_exit ?_
  refine k_seq_exit ?_
  refine k_rnd_exit2 ?_
  refine k_blk_exit ?_
  refine k_seq ?_
  refine awp_seq ?_
  refine awp_region ?_
  refine s_ldW yA29 yS29 ?_
  refine s_stW yS29 ?_
  refine k_nil ?_
  refine k_seq ?_
  refine awp_mvB 2 16 9204 [.t (.sc (.int .i64 x1.kind)), .t (.sc (.int .i64 x1.id)), .t (.sc (.str x1.name)), .t (.sc (.int .i64 x1.n)), .ar 9204, .t (.sc (.int .i64 v2.kind)), .t (.sc (.str v2.name)), .t (.sc (.int .i64 v2.n)), .t (.sl (v2.scopes.map rI)), .t (.sl (v2.kids.map Form.row)), .ar 5020] ?_
  refine awp_mvB 2 5020 9210 [.t (.sc (.int .i64 x1.kind)), .t (.sc (.int .i64 x1.id)), .t (.sc (.str x1.name)), .t (.sc (.int .i64 x1.n)), .ar 9204, .t (.sc (.int .i64 v2.kind)), .t (.sc (.str v2.name)), .t (.sc (.int .i64 v2.n)), .t (.sl (v2.scopes.map rI)), .t (.sl (v2.kids.map Form.row)), .ar 9210] ?_
  refine awp_ret ?_
  refine k_fin ?_
  obtain rfl := Option.some.inj hF4
  exact ends_gen _ [] (by rw [Try.results51]; exact (res_agg (by conv => lhs; whnf) (by conv => lhs; whnf) yA29 yS29 rfl res_nil))
theorem m_spec_l6Copy_all (fuel : Nat) : m_spec_l6Copy_AC fuel := by
  induction fuel using Nat.strongRecOn with
  | _ N ih =>
    cases N with
    | zero => exact (by intro x1 r h; rw [m_spec_l6Copy] at h; cases h)
    | succ fu => exact m_spec_l6Copy_st fu (fun k hk => (ih k (by omega)))
theorem m_spec_l6Copy_ok (fuel : Nat) : m_spec_l6Copy_AC fuel := (m_spec_l6Copy_all fuel)
def m_spec_l6Mutate_AC (fuel : Nat) : Prop := ∀ (o1 : l15Rd) (x2 : Core) (r : (Core × l15Rd)), m_spec_l6Mutate fuel o1 x2 = some r → AC Try.prog 40 [.rf 9000 0, .ag [.t (.sc (.int .i64 x2.kind)), .t (.sc (.int .i64 x2.id)), .t (.sc (.str x2.name)), .t (.sc (.int .i64 x2.n)), .t (.sl (x2.ids.map rI)), .t (.sc (.int .i64 x2.data.kind)), .t (.sc (.str x2.data.name)), .t (.sc (.int .i64 x2.data.n)), .t (.sl (x2.data.scopes.map rI)), .t (.sl (x2.data.kids.map Form.row)), .t (.sl (x2.kids.map Core.row))]] (objs [(9000, .box [.t (.sl (o1.b.map rB)), .t (.sc (.int .i64 o1.p))])]) (.ag [.t (.sc (.int .i64 r.1.kind)), .t (.sc (.int .i64 r.1.id)), .t (.sc (.str r.1.name)), .t (.sc (.int .i64 r.1.n)), .t (.sl (r.1.ids.map rI)), .t (.sc (.int .i64 r.1.data.kind)), .t (.sc (.str r.1.data.name)), .t (.sc (.int .i64 r.1.data.n)), .t (.sl (r.1.data.scopes.map rI)), .t (.sl (r.1.data.kids.map Form.row)), .t (.sl (r.1.kids.map Core.row))]) (objs [(9000, .box [.t (.sl (r.2.b.map rB)), .t (.sc (.int .i64 r.2.p))])])
theorem m_spec_l6Mutate_st (fu : Nat) (ih_m_spec_l6Mutate : ∀ k, k ≤ fu → m_spec_l6Mutate_AC k) : m_spec_l6Mutate_AC (fu + 1) := by
  intro o1 x2 r hF0
  rw [m_spec_l6Mutate] at hF0
  refine AC_intro (rs := [.ag [.t (.sc (.int .i64 r.1.kind)), .t (.sc (.int .i64 r.1.id)), .t (.sc (.str r.1.name)), .t (.sc (.int .i64 r.1.n)), .t (.sl (r.1.ids.map rI)), .t (.sc (.int .i64 r.1.data.kind)), .t (.sc (.str r.1.data.name)), .t (.sc (.int .i64 r.1.data.n)), .t (.sl (r.1.data.scopes.map rI)), .t (.sl (r.1.data.kids.map Form.row)), .t (.sl (r.1.kids.map Core.row))]]) Try.func40 rfl (by kernel_rfl) (by simp [Try.ntmps40]) (keep_all rfl) ?_
  intro C hC
  rw [Try.ntmps40]
  refine awp_seq ?_
  refine awp_region ?_
  refine s_box ?_
  refine s_alloc yZ29 ?_
  refine k_nil ?_
  refine k_seq ?_
  refine awp_seq ?_
  refine awp_region ?_
  refine s_ldW yA29 yS29 ?_
  replace hF0 := bind_some' hF0
  obtain ⟨v1, hv1, hF1⟩ := hF0
  refine s_call [(9204, 2008), (9210, 12008)] [] _ _ (m_spec_l6Copy_ok fu _ _ hv1) ?_
  refine s_alloc yZ29 ?_
  refine s_stW yS29 ?_
  refine k_nil ?_
  refine k_seq ?_
  refine awp_seq ?_
  refine awp_seq ?_
  refine awp_region ?_
  refine s_fa yF29_6 ?_
  refine s_ld1 yA27 ?_
  refine s_lenA yU27 ?_
  refine s_gt ?_
  refine s_mv ?_
  refine w_guard _ 13 hF1 (fun hc2 hF2 => ?_) (fun hc2 hF2 => ?_) <;> clear hF1
  refine s_mv ?_
  replace hF2 := bind_some' hF2
  obtain ⟨v3, hv3, hF3⟩ := hF2
  refine s_call [(9000, 9000)] [] _ _ (m_spec_l15Rd_pick_ok fu _ _ _ hv3) ?_
  refine s_gt ?_
  refine s_pkt ?_
  refine k_nil ?_
  refine k_seq ?_
  refine w_cond hF3 (fun hc4 hF4 => ?_) (fun hc4 hF4 => ?_) <;> clear hF3
  refine awp_seq ?_
  refine awp_region ?_
  refine s_mv ?_
  refine s_fa yF29_6 ?_
  refine s_ld1 yA27 ?_
  refine s_lenA yU27 ?_
  replace hF4 := bind_some' hF4
  obtain ⟨v5, hv5, hF5⟩ := hF4
  refine s_call [(9000, 9000)] [] _ _ (m_spec_l15Rd_pick_ok fu _ _ _ hv5) ?_
  refine s_as ?_
  refine k_nil ?_
  refine k_seq ?_
  refine awp_seq ?_
  refine awp_draw yMix (by kernel_rfl) ?_
  refine s_fa yF29_6 ?_
  refine s_ld1 yA27 ?_
  refine s_mv ?_
  refine s_mv ?_
  refine s_fa yF29_6 ?_
  refine s_ld1 yA27 ?_
  refine s_mv ?_
  replace hF5 := bind_some' hF5
  obtain ⟨v6, hv6, hF6⟩ := hF5
  refine s_ixA Core.row hv6 yE27 ?_
  refine s_lAN Core.row hv6 (Core.row_eq _) yA29 yS29 ?_
  replace hF6 := bind_some' hF6
  obtain ⟨v7, hv7, hF7⟩ := hF6
  refine s_call [(9000, 9000)] [] _ _ (ih_m_spec_l6Mutate fu (by omega) _ _ _ hv7) ?_
  replace hF7 := bind_some' hF7
  obtain ⟨v8, hv8, hF8⟩ := hF7
  refine s_ixA Core.row hv8 yE27 ?_
  refine s_stA Core.row v7.1 hv8 (Core.row_eq _) (Core.row_eq _) yS29 yS29 ?_
  refine k_nilD (by kernel_rfl) ?_
  refine k_seq ?_
  refine awp_seq ?_
  refine awp_region ?_
  refine s_ldW yA29 yS29 ?_
  refine s_stW yS29 ?_
  refine k_nil ?_
  refine k_seq ?_
  refine awp_ret ?_
  refine k_seq_ret ?_
  refine k_fin ?_
  obtain rfl := Option.some.inj hF8
  exact ends_gen _ [2008, 12008] (by rw [Try.results40]; exact (res_agg (by conv => lhs; whnf) (by conv => lhs; whnf) yA29 yS29 rfl res_nil))
  refine awp_skip ?_
  refine k_seq ?_
  refine awp_seq ?_
  refine awp_seq ?_
  refine awp_region ?_
  refine s_mv ?_
  replace hF4 := bind_some' hF4
  obtain ⟨v9, hv9, hF5⟩ := hF4
  refine s_call [(9000, 9000)] [] _ _ (m_spec_l15Rd_pick_ok fu _ _ _ hv9) ?_
  refine k_nil ?_
  refine k_seq ?_
  refine awp_block ?_
  refine awp_seq ?_
  refine awp_region ?_
  refine s_eq ?_
  refine s_as ?_
  refine k_nil ?_
  refine k_seq ?_
  refine w_cond hF5 (fun hc10 hF6 => ?_) (fun hc10 hF6 => ?_) <;> clear hF5
  refine awp_region ?_
  refine s_mv ?_
  refine s_bs rI [0, 8, 3, 6] yP23 yR3 ?_
  replace hF6 := bind_some' hF6
  obtain ⟨v11, hv11, hF7⟩ := hF6
  refine s_call [(9000, 9000)] [40] _ _ (m_spec_l15Rd_num_ok fu _ _ _ hv11) ?_
  refine s_fa yF29_0 ?_
  refine s_stP yS3 ?_
  refine k_nil ?_
  refine k_blk ?_
  refine k_seq ?_
  refine awp_seq ?_
  refine awp_region ?_
  refine s_ldW yA29 yS29 ?_
  refine s_stW yS29 ?_
  refine k_nil ?_
  refine k_seq ?_
  refine awp_ret ?_
  refine k_fin ?_
  obtain rfl := Option.some.inj hF7
  exact ends_gen _ [2008, 12008] (by rw [Try.results40]; exact (res_agg (by conv => lhs; whnf) (by conv => lhs; whnf) yA29 yS29 rfl res_nil))
  refine awp_seq ?_
  refine awp_region ?_
  refine s_eq ?_
  refine s_as ?_
  refine k_nil ?_
  refine k_seq ?_
  refine w_cond hF6 (fun hc12 hF7 => ?_) (fun hc12 hF7 => ?_) <;> clear hF6
  refine awp_region ?_
  refine s_mv ?_
  refine s_bs rI [0, 1, 1000, 2] yP23 yR3 ?_
  replace hF7 := bind_some' hF7
  obtain ⟨v13, hv13, hF8⟩ := hF7
  refine s_call [(9000, 9000)] [46] _ _ (m_spec_l15Rd_num_ok fu _ _ _ hv13) ?_
  refine s_fa yF29_1 ?_
  refine s_stP yS3 ?_
  refine k_nil ?_
  refine k_blk ?_
  refine k_seq ?_
  refine awp_seq ?_
  refine awp_region ?_
  refine s_ldW yA29 yS29 ?_
  refine s_stW yS29 ?_
  refine k_nil ?_
  refine k_seq ?_
  refine awp_ret ?_
  refine k_fin ?_
  obtain rfl := Option.some.inj hF8
  exact ends_gen _ [2008, 12008] (by rw [Try.results40]; exact (res_agg (by conv => lhs; whnf) (by conv => lhs; whnf) yA29 yS29 rfl res_nil))
  refine awp_seq ?_
  refine awp_region ?_
  refine s_eq ?_
  refine s_as ?_
  refine k_nil ?_
  refine k_seq ?_
  refine w_cond hF7 (fun hc14 hF8 => ?_) (fun hc14 hF8 => ?_) <;> clear hF7
  refine awp_draw yMix (by kernel_rfl) ?_
  refine s_fa yF29_4 ?_
  refine s_ld1 yA23 ?_
  refine s_mv ?_
  refine s_bs rI [1, 900, 0] yP23 yR3 ?_
  replace hF8 := bind_some' hF8
  obtain ⟨v15, hv15, hF9⟩ := hF8
  refine s_call [(9000, 9000)] [54] _ _ (m_spec_l15Rd_num_ok fu _ _ _ hv15) ?_
  refine s_bs rI [v15.1] yP23 yR3 ?_
  obtain ⟨hk16, hF10⟩ := chk_some hF9
  refine s_apT rI (fun _ => rfl) hk16 yP23 ?_
  refine s_fa yF29_4 ?_
  refine s_stP yS23 ?_
  refine k_nilD (by kernel_rfl) ?_
  refine k_blk ?_
  refine k_seq ?_
  refine awp_seq ?_
  refine awp_region ?_
  refine s_ldW yA29 yS29 ?_
  refine s_stW yS29 ?_
  refine k_nil ?_
  refine k_seq ?_
  refine awp_ret ?_
  refine k_fin ?_
  obtain rfl := Option.some.inj hF10
  exact ends_gen _ [57, 12008] (by rw [Try.results40]; exact (res_agg (by conv => lhs; whnf) (by conv => lhs; whnf) yA29 yS29 rfl res_nil))
  refine awp_seq ?_
  refine awp_region ?_
  refine s_eq ?_
  refine s_as ?_
  refine k_nil ?_
  refine k_seq ?_
  refine w_cond hF8 (fun hc17 hF9 => ?_) (fun hc17 hF9 => ?_) <;> clear hF8
  refine awp_region ?_
  refine s_mv ?_
  refine s_bs rS [(⟨#[]⟩ : ByteArray), (⟨#[103]⟩ : ByteArray), (⟨#[65]⟩ : ByteArray)] yP31 yR9 ?_
  replace hF9 := bind_some' hF9
  obtain ⟨v18, hv18, hF10⟩ := hF9
  refine s_call [(9000, 9000)] [62] _ _ (m_spec_l15Rd_of_ok fu _ _ _ hv18) ?_
  refine s_fa yF29_2 ?_
  refine s_stP yS9 ?_
  refine k_nil ?_
  refine k_blk ?_
  refine k_seq ?_
  refine awp_seq ?_
  refine awp_region ?_
  refine s_ldW yA29 yS29 ?_
  refine s_stW yS29 ?_
  refine k_nil ?_
  refine k_seq ?_
  refine awp_ret ?_
  refine k_fin ?_
  obtain rfl := Option.some.inj hF10
  exact ends_gen _ [2008, 12008] (by rw [Try.results40]; exact (res_agg (by conv => lhs; whnf) (by conv => lhs; whnf) yA29 yS29 rfl res_nil))
  refine awp_skip ?_
  refine k_blk ?_
  refine k_seq ?_
  refine awp_seq ?_
  refine awp_region ?_
  refine s_ldW yA29 yS29 ?_
  refine s_stW yS29 ?_
  refine k_nil ?_
  refine k_seq ?_
  refine awp_ret ?_
  refine k_fin ?_
  obtain rfl := Option.some.inj hF9
  exact ends_gen _ [2008, 12008] (by rw [Try.results40]; exact (res_agg (by conv => lhs; whnf) (by conv => lhs; whnf) yA29 yS29 rfl res_nil))
  refine r_no rfl ?_
  refine r_no rfl ?_
  refine r_no rfl ?_
  refine s_pkf ?_
  refine k_nil ?_
  refine k_seq ?_
  refine awp_false rfl ?_
  refine awp_skip ?_
  refine k_seq ?_
  refine awp_seq ?_
  refine awp_seq ?_
  refine awp_region ?_
  refine s_mv ?_
  replace hF2 := bind_some' hF2
  obtain ⟨v19, hv19, hF3⟩ := hF2
  refine s_call [(9000, 9000)] [] _ _ (m_spec_l15Rd_pick_ok fu _ _ _ hv19) ?_
  refine k_nil ?_
  refine k_seq ?_
  refine awp_block ?_
  refine awp_seq ?_
  refine awp_region ?_
  refine s_eq ?_
  refine s_as ?_
  refine k_nil ?_
  refine k_seq ?_
  refine w_cond hF3 (fun hc20 hF4 => ?_) (fun hc20 hF4 => ?_) <;> clear hF3
  refine awp_region ?_
  refine s_mv ?_
  refine s_bs rI [0, 8, 3, 6] yP23 yR3 ?_
  replace hF4 := bind_some' hF4
  obtain ⟨v21, hv21, hF5⟩ := hF4
  refine s_call [(9000, 9000)] [40] _ _ (m_spec_l15Rd_num_ok fu _ _ _ hv21) ?_
  refine s_fa yF29_0 ?_
  refine s_stP yS3 ?_
  refine k_nil ?_
  refine k_blk ?_
  refine k_seq ?_
  refine awp_seq ?_
  refine awp_region ?_
  refine s_ldW yA29 yS29 ?_
  refine s_stW yS29 ?_
  refine k_nil ?_
  refine k_seq ?_
  refine awp_ret ?_
  refine k_fin ?_
  obtain rfl := Option.some.inj hF5
  exact ends_gen _ [2008, 12008] (by rw [Try.results40]; exact (res_agg (by conv => lhs; whnf) (by conv => lhs; whnf) yA29 yS29 rfl res_nil))
  refine awp_seq ?_
  refine awp_region ?_
  refine s_eq ?_
  refine s_as ?_
  refine k_nil ?_
  refine k_seq ?_
  refine w_cond hF4 (fun hc22 hF5 => ?_) (fun hc22 hF5 => ?_) <;> clear hF4
  refine awp_region ?_
  refine s_mv ?_
  refine s_bs rI [0, 1, 1000, 2] yP23 yR3 ?_
  replace hF5 := bind_some' hF5
  obtain ⟨v23, hv23, hF6⟩ := hF5
  refine s_call [(9000, 9000)] [46] _ _ (m_spec_l15Rd_num_ok fu _ _ _ hv23) ?_
  refine s_fa yF29_1 ?_
  refine s_stP yS3 ?_
  refine k_nil ?_
  refine k_blk ?_
  refine k_seq ?_
  refine awp_seq ?_
  refine awp_region ?_
  refine s_ldW yA29 yS29 ?_
  refine s_stW yS29 ?_
  refine k_nil ?_
  refine k_seq ?_
  refine awp_ret ?_
  refine k_fin ?_
  obtain rfl := Option.some.inj hF6
  exact ends_gen _ [2008, 12008] (by rw [Try.results40]; exact (res_agg (by conv => lhs; whnf) (by conv => lhs; whnf) yA29 yS29 rfl res_nil))
  refine awp_seq ?_
  refine awp_region ?_
  refine s_eq ?_
  refine s_as ?_
  refine k_nil ?_
  refine k_seq ?_
  refine w_cond hF5 (fun hc24 hF6 => ?_) (fun hc24 hF6 => ?_) <;> clear hF5
  refine awp_draw yMix (by kernel_rfl) ?_
  refine s_fa yF29_4 ?_
  refine s_ld1 yA23 ?_
  refine s_mv ?_
  refine s_bs rI [1, 900, 0] yP23 yR3 ?_
  replace hF6 := bind_some' hF6
  obtain ⟨v25, hv25, hF7⟩ := hF6
  refine s_call [(9000, 9000)] [54] _ _ (m_spec_l15Rd_num_ok fu _ _ _ hv25) ?_
  refine s_bs rI [v25.1] yP23 yR3 ?_
  obtain ⟨hk26, hF8⟩ := chk_some hF7
  refine s_apT rI (fun _ => rfl) hk26 yP23 ?_
  refine s_fa yF29_4 ?_
  refine s_stP yS23 ?_
  refine k_nilD (by kernel_rfl) ?_
  refine k_blk ?_
  refine k_seq ?_
  refine awp_seq ?_
  refine awp_region ?_
  refine s_ldW yA29 yS29 ?_
  refine s_stW yS29 ?_
  refine k_nil ?_
  refine k_seq ?_
  refine awp_ret ?_
  refine k_fin ?_
  obtain rfl := Option.some.inj hF8
  exact ends_gen _ [57, 12008] (by rw [Try.results40]; exact (res_agg (by conv => lhs; whnf) (by conv => lhs; whnf) yA29 yS29 rfl res_nil))
  refine awp_seq ?_
  refine awp_region ?_
  refine s_eq ?_
  refine s_as ?_
  refine k_nil ?_
  refine k_seq ?_
  refine w_cond hF6 (fun hc27 hF7 => ?_) (fun hc27 hF7 => ?_) <;> clear hF6
  refine awp_region ?_
  refine s_mv ?_
  refine s_bs rS [(⟨#[]⟩ : ByteArray), (⟨#[103]⟩ : ByteArray), (⟨#[65]⟩ : ByteArray)] yP31 yR9 ?_
  replace hF7 := bind_some' hF7
  obtain ⟨v28, hv28, hF8⟩ := hF7
  refine s_call [(9000, 9000)] [62] _ _ (m_spec_l15Rd_of_ok fu _ _ _ hv28) ?_
  refine s_fa yF29_2 ?_
  refine s_stP yS9 ?_
  refine k_nil ?_
  refine k_blk ?_
  refine k_seq ?_
  refine awp_seq ?_
  refine awp_region ?_
  refine s_ldW yA29 yS29 ?_
  refine s_stW yS29 ?_
  refine k_nil ?_
  refine k_seq ?_
  refine awp_ret ?_
  refine k_fin ?_
  obtain rfl := Option.some.inj hF8
  exact ends_gen _ [2008, 12008] (by rw [Try.results40]; exact (res_agg (by conv => lhs; whnf) (by conv => lhs; whnf) yA29 yS29 rfl res_nil))
  refine awp_skip ?_
  refine k_blk ?_
  refine k_seq ?_
  refine awp_seq ?_
  refine awp_region ?_
  refine s_ldW yA29 yS29 ?_
  refine s_stW yS29 ?_
  refine k_nil ?_
  refine k_seq ?_
  refine awp_ret ?_
  refine k_fin ?_
  obtain rfl := Option.some.inj hF7
  exact ends_gen _ [2008, 12008] (by rw [Try.results40]; exact (res_agg (by conv => lhs; whnf) (by conv => lhs; whnf) yA29 yS29 rfl res_nil))
theorem m_spec_l6Mutate_all (fuel : Nat) : m_spec_l6Mutate_AC fuel := by
  induction fuel using Nat.strongRecOn with
  | _ N ih =>
    cases N with
    | zero => exact (by intro o1 x2 r h; rw [m_spec_l6Mutate] at h; cases h)
    | succ fu => exact m_spec_l6Mutate_st fu (fun k hk => (ih k (by omega)))
theorem m_spec_l6Mutate_ok (fuel : Nat) : m_spec_l6Mutate_AC fuel := (m_spec_l6Mutate_all fuel)
def m_spec_l6Draw_AC (fuel : Nat) : Prop := ∀ (x1 : (List Int)) (r : Core), m_spec_l6Draw fuel x1 = some r → AC Try.prog 20 [.t (.sl (x1.map rB))] noOb (.ag [.t (.sc (.int .i64 r.kind)), .t (.sc (.int .i64 r.id)), .t (.sc (.str r.name)), .t (.sc (.int .i64 r.n)), .t (.sl (r.ids.map rI)), .t (.sc (.int .i64 r.data.kind)), .t (.sc (.str r.data.name)), .t (.sc (.int .i64 r.data.n)), .t (.sl (r.data.scopes.map rI)), .t (.sl (r.data.kids.map Form.row)), .t (.sl (r.kids.map Core.row))]) noOb
theorem m_spec_l6Draw_ok (fuel : Nat) : m_spec_l6Draw_AC fuel := by
  intro x1 r hF0
  unfold m_spec_l6Draw at hF0
  refine AC_intro (rs := [.ag [.t (.sc (.int .i64 r.kind)), .t (.sc (.int .i64 r.id)), .t (.sc (.str r.name)), .t (.sc (.int .i64 r.n)), .t (.sl (r.ids.map rI)), .t (.sc (.int .i64 r.data.kind)), .t (.sc (.str r.data.name)), .t (.sc (.int .i64 r.data.n)), .t (.sl (r.data.scopes.map rI)), .t (.sl (r.data.kids.map Form.row)), .t (.sl (r.kids.map Core.row))]]) Try.func20 rfl (by kernel_rfl) (by simp [Try.ntmps20]) (by simp [noOb]) ?_
  intro C hC
  rw [Try.ntmps20]
  refine awp_seq ?_
  refine awp_region ?_
  refine s_alloc yZ29 ?_
  refine k_nil ?_
  refine k_seq ?_
  refine awp_seq ?_
  refine awp_region ?_
  refine s_mv ?_
  replace hF0 := bind_some' hF0
  obtain ⟨v1, hv1, hF1⟩ := hF0
  refine s_call [(10, 7)] [] _ _ (m_spec_l15Open_ok fuel _ _ hv1) ?_
  refine s_as ?_
  refine k_nil ?_
  refine k_seq ?_
  refine awp_seq ?_
  refine awp_region ?_
  refine s_mv ?_
  refine s_bs rI ([] : List Int) yP23 yR3 ?_
  refine s_mv ?_
  refine s_bs rI [3, 4, 2] yP23 yR3 ?_
  replace hF1 := bind_some' hF1
  obtain ⟨v2, hv2, hF2⟩ := hF1
  refine s_call [(9000, 7)] [12] _ _ (m_spec_l15Rd_num_ok fuel _ _ _ hv2) ?_
  replace hF2 := bind_some' hF2
  obtain ⟨v3, hv3, hF3⟩ := hF2
  refine s_call [(9000, 7)] [10] _ _ (m_spec_l6Some_ok fuel _ _ _ _ _ hv3) ?_
  refine s_mv ?_
  refine s_ext ?_
  refine s_ext ?_
  refine s_alloc yZ29 ?_
  refine s_stW yS29 ?_
  refine s_as ?_
  refine k_nil ?_
  refine k_seq ?_
  refine awp_seq ?_
  refine awp_seq ?_
  refine awp_region ?_
  refine s_mv ?_
  replace hF3 := bind_some' hF3
  obtain ⟨v4, hv4, hF4⟩ := hF3
  refine s_call [(9000, 7)] [] _ _ (m_spec_l15Rd_pick_ok fuel _ _ _ hv4) ?_
  refine s_eq ?_
  refine k_nil ?_
  refine k_seq ?_
  refine w_cond hF4 (fun hc5 hF5 => ?_) (fun hc5 hF5 => ?_) <;> clear hF4
  refine awp_seq ?_
  refine awp_region ?_
  refine s_mv ?_
  refine s_mv ?_
  refine s_ldW yA29 yS29 ?_
  replace hF5 := bind_some' hF5
  obtain ⟨v6, hv6, hF6⟩ := hF5
  refine s_call [(9000, 7)] [] _ _ (m_spec_l6Mutate_ok fuel _ _ _ hv6) ?_
  replace hF6 := bind_some' hF6
  obtain ⟨v7, hv7, hF7⟩ := hF6
  refine s_call [(9000, 7)] [] _ _ (m_spec_l6Mutate_ok fuel _ _ _ hv7) ?_
  refine s_stW yS29 ?_
  refine k_nil ?_
  refine k_seq ?_
  refine awp_ret ?_
  refine k_seq_ret ?_
  refine k_fin ?_
  obtain rfl := Option.some.inj hF7
  exact ends_gen [] [] (by rw [Try.results20]; exact (res_agg (by conv => lhs; whnf) (by conv => lhs; whnf) yA29 yS29 rfl res_nil))
  refine awp_skip ?_
  refine k_seq ?_
  refine awp_seq ?_
  refine awp_region ?_
  refine s_ldW yA29 yS29 ?_
  refine s_stW yS29 ?_
  refine k_nil ?_
  refine k_seq ?_
  refine awp_ret ?_
  refine k_fin ?_
  obtain rfl := Option.some.inj hF5
  exact ends_gen [] [] (by rw [Try.results20]; exact (res_agg (by conv => lhs; whnf) (by conv => lhs; whnf) yA29 yS29 rfl res_nil))
def m_spec_DrawCoreSize_AC (fuel : Nat) : Prop := ∀ (x1 : (List Int)) (r : Core), m_spec_DrawCoreSize fuel x1 = some r → AC Try.prog 11 [.t (.sl (x1.map rB))] noOb (.ag [.t (.sc (.int .i64 r.kind)), .t (.sc (.int .i64 r.id)), .t (.sc (.str r.name)), .t (.sc (.int .i64 r.n)), .t (.sl (r.ids.map rI)), .t (.sc (.int .i64 r.data.kind)), .t (.sc (.str r.data.name)), .t (.sc (.int .i64 r.data.n)), .t (.sl (r.data.scopes.map rI)), .t (.sl (r.data.kids.map Form.row)), .t (.sl (r.kids.map Core.row))]) noOb
theorem m_spec_DrawCoreSize_ok (fuel : Nat) : m_spec_DrawCoreSize_AC fuel := by
  intro x1 r hF0
  unfold m_spec_DrawCoreSize at hF0
  refine AC_intro (rs := [.ag [.t (.sc (.int .i64 r.kind)), .t (.sc (.int .i64 r.id)), .t (.sc (.str r.name)), .t (.sc (.int .i64 r.n)), .t (.sl (r.ids.map rI)), .t (.sc (.int .i64 r.data.kind)), .t (.sc (.str r.data.name)), .t (.sc (.int .i64 r.data.n)), .t (.sl (r.data.scopes.map rI)), .t (.sl (r.data.kids.map Form.row)), .t (.sl (r.kids.map Core.row))]]) Try.func11 rfl (by kernel_rfl) (by simp [Try.ntmps11]) (by simp [noOb]) ?_
  intro C hC
  rw [Try.ntmps11]
  refine awp_seq ?_
  refine awp_region ?_
  refine s_alloc yZ29 ?_
  refine k_nil ?_
  refine k_seq ?_
  refine awp_seq ?_
  refine awp_region ?_
  refine s_mv ?_
  replace hF0 := bind_some' hF0
  obtain ⟨v1, hv1, hF1⟩ := hF0
  refine s_pure [] (m_spec_l6Draw_ok fuel _ _ hv1) ?_
  refine s_stW yS29 ?_
  refine k_nil ?_
  refine k_seq ?_
  refine awp_ret ?_
  refine k_fin ?_
  obtain rfl := Option.some.inj hF1
  exact ends_gen [] [] (by rw [Try.results11]; exact (res_agg (by conv => lhs; whnf) (by conv => lhs; whnf) yA29 yS29 rfl res_nil))
def m_impl_CoreSize_AC (fuel : Nat) : Prop := ∀ (x1 : Core) (r : Int), m_impl_CoreSize fuel x1 = some r → AC Try.prog 12 [.ag [.t (.sc (.int .i64 x1.kind)), .t (.sc (.int .i64 x1.id)), .t (.sc (.str x1.name)), .t (.sc (.int .i64 x1.n)), .t (.sl (x1.ids.map rI)), .t (.sc (.int .i64 x1.data.kind)), .t (.sc (.str x1.data.name)), .t (.sc (.int .i64 x1.data.n)), .t (.sl (x1.data.scopes.map rI)), .t (.sl (x1.data.kids.map Form.row)), .t (.sl (x1.kids.map Core.row))]] noOb (.t (.sc (.int .i64 r))) noOb
theorem m_impl_CoreSize_st (fu : Nat) (ih_m_impl_CoreSize : ∀ k, k ≤ fu → m_impl_CoreSize_AC k) : m_impl_CoreSize_AC (fu + 1) := by
  intro x1 r hF0
  rw [m_impl_CoreSize] at hF0
  refine AC_intro (rs := [.t (.sc (.int .i64 r))]) Try.func12 rfl (by kernel_rfl) (by simp [Try.ntmps12]) (by simp [noOb]) ?_
  intro C hC
  rw [Try.ntmps12]
  refine awp_seq ?_
  refine awp_region ?_
  refine s_box ?_
  refine s_as ?_
  refine k_nil ?_
  refine k_seq ?_
  refine awp_seq ?_
  refine awp_region ?_
  refine s_as ?_
  refine k_nil ?_
  refine k_seq ?_
  refine awp_seq ?_
  refine awp_seq ?_
  refine awp_region ?_
  refine s_fa yF29_6 ?_
  refine s_ld1 yA27 ?_
  refine s_lenT yU27 ?_
  refine s_mv ?_
  refine k_nil ?_
  refine k_seq ?_
  refine awp_block ?_
  refine awp_frame2 [3, 5, 9, 10, 11, 12, 13, 14, 15, 16, 17] [] [5] [] (fun a : Nat × Int × Int => a.1) (fun a : Nat × Int × Int => [(3, .t (.sc (.int .i64 a.2.1))), (9, .t (.sc (.int .i64 a.2.2)))]) (fun a : Nat × Int × Int => []) (fun a : Nat × Int × Int => a.1 ≤ fu ∧ m_impl_CoreSize_l1 a.1 x1 a.2.1 a.2.2 = some r ∧ 0 ≤ a.2.2) (fu, 1, 0) ⟨Nat.le_refl _, hF0, by simp⟩ (by rfl) (by rfl) (fun _ => rfl) (hasF_cons (by conv => lhs; whnf) (by rfl) (hasF_cons (by conv => lhs; whnf) (by rfl) hasF_nil)) hasO_nil (fun _ h => by cases h) freshS_nil freshM_nil ?_
  clear hF0
  rintro ⟨fu, g1, g2⟩ ⟨hl3, hF1, hn_g2⟩
  dsimp only at hl3 hF1 hn_g2 ⊢
  obtain _ | fu := fu
  · rw [m_impl_CoreSize_l1] at hF1; cases hF1
  rw [m_impl_CoreSize_l1] at hF1
  refine awp_seq ?_
  refine awp_region ?_
  refine s_lt ?_
  refine k_nil ?_
  refine k_seq ?_
  refine awp_seq ?_
  refine w_cond hF1 (fun hc4 hF2 => ?_) (fun hc4 hF2 => ?_) <;> clear hF1
  refine awp_lenT 7 (fun hb5 => ?_)
  refine awp_skip ?_
  refine k_seq ?_
  refine awp_seq ?_
  refine awp_block ?_
  refine awp_seq ?_
  refine awp_region ?_
  replace hF2 := bind_some' hF2
  obtain ⟨v6, hv6, hF3⟩ := hF2
  refine s_ixT Core.row hv6 (Core.row_eq _) yE27 ?_
  refine s_ldN yA29 yS29 ?_
  refine s_alloc yZ29 ?_
  refine s_stW yS29 ?_
  refine k_nil ?_
  refine k_seq ?_
  refine awp_region ?_
  refine s_mv ?_
  refine s_ldW yA29 yS29 ?_
  replace hF3 := bind_some' hF3
  obtain ⟨v7, hv7, hF4⟩ := hF3
  refine s_pure [] (ih_m_impl_CoreSize fu (by omega) _ _ hv7) ?_
  refine s_add rfl ?_
  refine s_as ?_
  refine k_nil ?_
  refine k_blk ?_
  refine k_seq ?_
  refine awp_region ?_
  refine s_add (winc2 hc4 hb5 hn_g2) ?_
  refine s_mv ?_
  refine k_nil ?_
  exact s_rnd2 (fu, (w64 (g1 + v7)), (g2 + 1)) [] ⟨by first | omega | (dsimp only; omega), hF4, by first | omega | (dsimp only; omega)⟩ (hasR_cons (by conv => lhs; whnf) (by rfl) rfl (hasR_cons (by conv => lhs; whnf) (by rfl) rfl trivial)) trivial
  refine awp_exit ?_
  refine k_seq_exit ?_
  refine k_rnd_exit2 ?_
  refine k_blk_exit ?_
  refine k_seq ?_
  refine awp_seq ?_
  refine awp_region ?_
  refine s_mv ?_
  refine s_as ?_
  refine k_nil ?_
  refine k_seq ?_
  refine awp_ret ?_
  refine k_fin ?_
  obtain rfl := Option.some.inj hF2
  exact ends_gen [] [] (by rw [Try.results12]; exact (res_tmp (by conv => lhs; whnf) res_nil))
theorem m_impl_CoreSize_all (fuel : Nat) : m_impl_CoreSize_AC fuel := by
  induction fuel using Nat.strongRecOn with
  | _ N ih =>
    cases N with
    | zero => exact (by intro x1 r h; rw [m_impl_CoreSize] at h; cases h)
    | succ fu => exact m_impl_CoreSize_st fu (fun k hk => (ih k (by omega)))
theorem m_impl_CoreSize_ok (fuel : Nat) : m_impl_CoreSize_AC fuel := (m_impl_CoreSize_all fuel)
def m_spec_l6Count_AC (fuel : Nat) : Prop := ∀ (x1 : Core) (r : Int), m_spec_l6Count fuel x1 = some r → AC Try.prog 23 [.ag [.t (.sc (.int .i64 x1.kind)), .t (.sc (.int .i64 x1.id)), .t (.sc (.str x1.name)), .t (.sc (.int .i64 x1.n)), .t (.sl (x1.ids.map rI)), .t (.sc (.int .i64 x1.data.kind)), .t (.sc (.str x1.data.name)), .t (.sc (.int .i64 x1.data.n)), .t (.sl (x1.data.scopes.map rI)), .t (.sl (x1.data.kids.map Form.row)), .t (.sl (x1.kids.map Core.row))]] noOb (.t (.sc (.int .i64 r))) noOb
theorem m_spec_l6Count_st (fu : Nat) (ih_m_spec_l6Count : ∀ k, k ≤ fu → m_spec_l6Count_AC k) : m_spec_l6Count_AC (fu + 1) := by
  intro x1 r hF0
  rw [m_spec_l6Count] at hF0
  refine AC_intro (rs := [.t (.sc (.int .i64 r))]) Try.func23 rfl (by kernel_rfl) (by simp [Try.ntmps23]) (by simp [noOb]) ?_
  intro C hC
  rw [Try.ntmps23]
  refine awp_seq ?_
  refine awp_region ?_
  refine s_box ?_
  refine s_as ?_
  refine k_nil ?_
  refine k_seq ?_
  refine awp_seq ?_
  refine awp_region ?_
  refine s_as ?_
  refine k_nil ?_
  refine k_seq ?_
  refine awp_seq ?_
  refine awp_seq ?_
  refine awp_region ?_
  refine s_as ?_
  refine k_nil ?_
  refine k_seq ?_
  refine awp_block ?_
  refine awp_frame2 [3, 4, 5, 6, 7, 8, 9, 10, 11, 12, 13, 14, 15, 16, 17, 18, 19] [] [] [] (fun a : Nat × Int × Int => a.1) (fun a : Nat × Int × Int => [(3, .t (.sc (.int .i64 a.2.1))), (4, .t (.sc (.int .i64 a.2.2)))]) (fun a : Nat × Int × Int => []) (fun a : Nat × Int × Int => a.1 ≤ fu ∧ m_spec_l6Count_l1 a.1 x1 a.2.1 a.2.2 = some r ∧ 0 ≤ a.2.2) (fu, 1, 0) ⟨Nat.le_refl _, hF0, by simp⟩ (by rfl) (by rfl) (fun _ => rfl) (hasF_cons (by conv => lhs; whnf) (by rfl) (hasF_cons (by conv => lhs; whnf) (by rfl) hasF_nil)) hasO_nil (fun _ h => by cases h) freshS_nil freshM_nil ?_
  clear hF0
  rintro ⟨fu, g1, g2⟩ ⟨hl3, hF1, hn_g2⟩
  dsimp only at hl3 hF1 hn_g2 ⊢
  obtain _ | fu := fu
  · rw [m_spec_l6Count_l1] at hF1; cases hF1
  rw [m_spec_l6Count_l1] at hF1
  refine awp_seq ?_
  refine awp_seq ?_
  refine awp_region ?_
  refine s_mv ?_
  refine s_fa yF29_6 ?_
  refine s_ld1 yA27 ?_
  refine s_lenT yU27 ?_
  refine s_lt ?_
  refine k_nil ?_
  refine k_seq ?_
  refine w_cond hF1 (fun hc4 hF2 => ?_) (fun hc4 hF2 => ?_) <;> clear hF1
  refine awp_lenT 7 (fun hb5 => ?_)
  refine awp_skip ?_
  refine k_seq ?_
  refine awp_seq ?_
  refine awp_block ?_
  refine awp_region ?_
  refine s_mv ?_
  refine s_fa yF29_6 ?_
  refine s_ld1 yA27 ?_
  refine s_mv ?_
  replace hF2 := bind_some' hF2
  obtain ⟨v6, hv6, hF3⟩ := hF2
  refine s_ixT Core.row hv6 (Core.row_eq _) yE27 ?_
  refine s_ldN yA29 yS29 ?_
  replace hF3 := bind_some' hF3
  obtain ⟨v7, hv7, hF4⟩ := hF3
  refine s_pure [] (ih_m_spec_l6Count fu (by omega) _ _ hv7) ?_
  refine s_add rfl ?_
  refine s_as ?_
  refine k_nil ?_
  refine k_blk ?_
  refine k_seq ?_
  refine awp_region ?_
  refine s_mv ?_
  refine s_add (winc2 hc4 hb5 hn_g2) ?_
  refine s_as ?_
  refine k_nil ?_
  exact s_rnd2 (fu, (w64 (g1 + v7)), (g2 + 1)) [] ⟨by first | omega | (dsimp only; omega), hF4, by first | omega | (dsimp only; omega)⟩ (hasR_cons (by conv => lhs; whnf) (by rfl) rfl (hasR_cons (by conv => lhs; whnf) (by rfl) rfl trivial)) trivial
  refine awp_exit ?_
  refine k_seq_exit ?_
  refine k_rnd_exit2 ?_
  refine k_blk_exit ?_
  refine k_seq ?_
  refine awp_seq ?_
  refine awp_region ?_
  refine s_mv ?_
  refine s_as ?_
  refine k_nil ?_
  refine k_seq ?_
  refine awp_ret ?_
  refine k_fin ?_
  obtain rfl := Option.some.inj hF2
  exact ends_gen [] [] (by rw [Try.results23]; exact (res_tmp (by conv => lhs; whnf) res_nil))
theorem m_spec_l6Count_all (fuel : Nat) : m_spec_l6Count_AC fuel := by
  induction fuel using Nat.strongRecOn with
  | _ N ih =>
    cases N with
    | zero => exact (by intro x1 r h; rw [m_spec_l6Count] at h; cases h)
    | succ fu => exact m_spec_l6Count_st fu (fun k hk => (ih k (by omega)))
theorem m_spec_l6Count_ok (fuel : Nat) : m_spec_l6Count_AC fuel := (m_spec_l6Count_all fuel)
def m_spec_CoreSize_AC (fuel : Nat) : Prop := ∀ (x1 : Core) (r : Int), m_spec_CoreSize fuel x1 = some r → AC Try.prog 13 [.ag [.t (.sc (.int .i64 x1.kind)), .t (.sc (.int .i64 x1.id)), .t (.sc (.str x1.name)), .t (.sc (.int .i64 x1.n)), .t (.sl (x1.ids.map rI)), .t (.sc (.int .i64 x1.data.kind)), .t (.sc (.str x1.data.name)), .t (.sc (.int .i64 x1.data.n)), .t (.sl (x1.data.scopes.map rI)), .t (.sl (x1.data.kids.map Form.row)), .t (.sl (x1.kids.map Core.row))]] noOb (.t (.sc (.int .i64 r))) noOb
theorem m_spec_CoreSize_ok (fuel : Nat) : m_spec_CoreSize_AC fuel := by
  intro x1 r hF0
  unfold m_spec_CoreSize at hF0
  refine AC_intro (rs := [.t (.sc (.int .i64 r))]) Try.func13 rfl (by kernel_rfl) (by simp [Try.ntmps13]) (by simp [noOb]) ?_
  intro C hC
  rw [Try.ntmps13]
  refine awp_seq ?_
  refine awp_region ?_
  refine s_box ?_
  refine s_as ?_
  refine k_nil ?_
  refine k_seq ?_
  refine awp_seq ?_
  refine awp_region ?_
  refine s_ldW yA29 yS29 ?_
  replace hF0 := bind_some' hF0
  obtain ⟨v1, hv1, hF1⟩ := hF0
  refine s_pure [] (m_spec_l6Count_ok fuel _ _ hv1) ?_
  refine s_as ?_
  refine k_nil ?_
  refine k_seq ?_
  refine awp_ret ?_
  refine k_fin ?_
  obtain rfl := Option.some.inj hF1
  exact ends_gen [] [] (by rw [Try.results13]; exact (res_tmp (by conv => lhs; whnf) res_nil))
def m_slices_Index_string_string_AC (fuel : Nat) : Prop := ∀ (x1 : (List ByteArray)) (x2 : ByteArray) (r : Int), m_slices_Index_string_string fuel x1 x2 = some r → AC Try.prog 52 [.t (.sl (x1.map rS)), .t (.sc (.str x2))] noOb (.t (.sc (.int .i64 r))) noOb
theorem m_slices_Index_string_string_ok (fuel : Nat) : m_slices_Index_string_string_AC fuel := by
  intro x1 x2 r hF0
  unfold m_slices_Index_string_string at hF0
  refine AC_intro (rs := [.t (.sc (.int .i64 r))]) Try.func52 rfl (by kernel_rfl) (by simp [Try.ntmps52]) (by simp [noOb]) ?_
  intro C hC
  rw [Try.ntmps52]
  refine awp_seq ?_
  refine awp_region ?_
  refine s_as ?_
  refine k_nil ?_
  refine k_seq ?_
  refine awp_seq ?_
  refine awp_seq ?_
  refine awp_region ?_
  refine s_mv ?_
  refine s_lenT yU31 ?_
  refine s_mv ?_
  refine k_nil ?_
  refine k_seq ?_
  refine awp_block ?_
  refine awp_frame2 [4, 5, 8, 9, 10, 11, 12, 13, 14, 15, 16, 17, 18] [] [] [] (fun a : Nat × Int => a.1) (fun a : Nat × Int => [(4, .t (.sc (.int .i64 0))), (8, .t (.sc (.int .i64 a.2)))]) (fun a : Nat × Int => []) (fun a : Nat × Int => a.1 ≤ fuel ∧ m_slices_Index_string_string_l1 a.1 x1 x2 a.2 = some r ∧ 0 ≤ a.2) (fuel, 0) ⟨Nat.le_refl _, hF0, by simp⟩ (by rfl) (by rfl) (fun _ => rfl) (hasF_cons (by conv => lhs; whnf) (by rfl) (hasF_cons (by conv => lhs; whnf) (by rfl) hasF_nil)) hasO_nil (fun _ h => by cases h) freshS_nil freshM_nil ?_
  clear hF0
  rintro ⟨fu, g1⟩ ⟨hl2, hF1, hn_g1⟩
  dsimp only at hl2 hF1 hn_g1 ⊢
  obtain _ | fu := fu
  · rw [m_slices_Index_string_string_l1] at hF1; cases hF1
  rw [m_slices_Index_string_string_l1] at hF1
  refine awp_seq ?_
  refine awp_region ?_
  refine s_lt ?_
  refine k_nil ?_
  refine k_seq ?_
  refine awp_seq ?_
  refine w_cond hF1 (fun hc3 hF2 => ?_) (fun hc3 hF2 => ?_) <;> clear hF1
  refine awp_lenT 0 (fun hb4 => ?_)
  refine awp_skip ?_
  refine k_seq ?_
  refine awp_seq ?_
  refine awp_block ?_
  refine awp_seq ?_
  refine awp_region ?_
  refine s_mv ?_
  refine s_as ?_
  refine k_nil ?_
  refine k_seq ?_
  refine awp_seq ?_
  refine awp_region ?_
  refine s_mv ?_
  refine s_mv ?_
  refine s_mv ?_
  replace hF2 := bind_some' hF2
  obtain ⟨v5, hv5, hF3⟩ := hF2
  refine s_ixT rS hv5 rfl yE31 ?_
  refine s_ld1 yA9 ?_
  refine s_eqS ?_
  refine k_nil ?_
  refine k_seq ?_
  refine w_cond hF3 (fun hc6 hF4 => ?_) (fun hc6 hF4 => ?_) <;> clear hF3
  refine awp_seq ?_
  refine awp_region ?_
  refine s_mv ?_
  refine s_as ?_
  refine k_nil ?_
  refine k_seq ?_
  refine awp_ret ?_
  refine k_blk_ret ?_
  refine k_seq_ret ?_
  refine k_rnd_ret2 ?_
  refine k_blk_ret ?_
  refine k_seq_ret ?_
  refine k_fin ?_
  obtain rfl := Option.some.inj hF4
  exact ends_gen [] [] (by rw [Try.results52]; exact (res_tmp (by conv => lhs; whnf) res_nil))
  refine awp_skip ?_
  refine k_blk ?_
  refine k_seq ?_
  refine awp_region ?_
  refine s_add (winc2 hc3 hb4 hn_g1) ?_
  refine s_mv ?_
  refine k_nil ?_
  exact s_rnd2 (fu, (g1 + 1)) [] ⟨by first | omega | (dsimp only; omega), hF4, by first | omega | (dsimp only; omega)⟩ (hasR_cons (by conv => lhs; whnf) (by rfl) rfl (hasR_cons (by conv => lhs; whnf) (by rfl) rfl trivial)) trivial
  refine awp_exit ?_
  refine k_seq_exit ?_
  refine k_rnd_exit2 ?_
  refine k_blk_exit ?_
  refine k_seq ?_
  refine awp_seq ?_
  refine awp_region ?_
  refine s_as ?_
  refine k_nil ?_
  refine k_seq ?_
  refine awp_ret ?_
  refine k_fin ?_
  obtain rfl := Option.some.inj hF2
  exact ends_gen [] [] (by rw [Try.results52]; exact (res_tmp (by conv => lhs; whnf) res_nil))
def m_slices_Contains_string_string_AC (fuel : Nat) : Prop := ∀ (x1 : (List ByteArray)) (x2 : ByteArray) (r : Bool), m_slices_Contains_string_string fuel x1 x2 = some r → AC Try.prog 41 [.t (.sl (x1.map rS)), .t (.sc (.str x2))] noOb (.t (.sc (.bool r))) noOb
theorem m_slices_Contains_string_string_ok (fuel : Nat) : m_slices_Contains_string_string_AC fuel := by
  intro x1 x2 r hF0
  unfold m_slices_Contains_string_string at hF0
  refine AC_intro (rs := [.t (.sc (.bool r))]) Try.func41 rfl (by kernel_rfl) (by simp [Try.ntmps41]) (by simp [noOb]) ?_
  intro C hC
  rw [Try.ntmps41]
  refine awp_seq ?_
  refine awp_region ?_
  refine s_as ?_
  refine k_nil ?_
  refine k_seq ?_
  refine awp_seq ?_
  refine awp_region ?_
  refine s_mv ?_
  refine s_mv ?_
  replace hF0 := bind_some' hF0
  obtain ⟨v1, hv1, hF1⟩ := hF0
  refine s_pure [] (m_slices_Index_string_string_ok fuel _ _ _ hv1) ?_
  refine s_ge ?_
  refine s_as ?_
  refine k_nil ?_
  refine k_seq ?_
  refine awp_ret ?_
  refine k_fin ?_
  obtain rfl := Option.some.inj hF1
  exact ends_gen [] [] (by rw [Try.results41]; exact (res_tmp (by conv => lhs; whnf) res_nil))
def m_impl_freeOf_f_AC (fuel : Nat) : Prop := ∀ (x1 : Core) (x2 : (List ByteArray)) (r : (List ByteArray)), m_impl_freeOf_f fuel x1 x2 = some r → AC Try.prog 21 [.ag [.t (.sc (.int .i64 x1.kind)), .t (.sc (.int .i64 x1.id)), .t (.sc (.str x1.name)), .t (.sc (.int .i64 x1.n)), .t (.sl (x1.ids.map rI)), .t (.sc (.int .i64 x1.data.kind)), .t (.sc (.str x1.data.name)), .t (.sc (.int .i64 x1.data.n)), .t (.sl (x1.data.scopes.map rI)), .t (.sl (x1.data.kids.map Form.row)), .t (.sl (x1.kids.map Core.row))], .ar 9301] (objs [(9301, .arr (x2.map rS) 9 false)]) (.ar 9200) (objs [(9301, .dead), (9200, .arr (r.map rS) 9 false)])
theorem m_impl_freeOf_f_st (fu : Nat) (ih_m_impl_freeOf_f : ∀ k, k ≤ fu → m_impl_freeOf_f_AC k) : m_impl_freeOf_f_AC (fu + 1) := by
  intro x1 x2 r hF0
  rw [m_impl_freeOf_f] at hF0
  refine AC_intro (rs := [.ar 9200]) Try.func21 rfl (by kernel_rfl) (by simp [Try.ntmps21]) (keep_all rfl) ?_
  intro C hC
  rw [Try.ntmps21]
  refine awp_seq ?_
  refine awp_region ?_
  refine s_box ?_
  refine s_as ?_
  refine k_nil ?_
  refine k_seq ?_
  refine awp_seq ?_
  refine awp_seq ?_
  refine awp_region ?_
  refine s_fa yF29_0 ?_
  refine s_ld1 yA3 ?_
  refine s_eq ?_
  refine s_mv ?_
  refine w_guard _ 10 hF0 (fun hc1 hF1 => ?_) (fun hc1 hF1 => ?_) <;> clear hF0
  refine s_mv ?_
  refine s_fa yF29_2 ?_
  refine s_ld1 yA9 ?_
  replace hF1 := bind_some' hF1
  obtain ⟨v2, hv2, hF2⟩ := hF1
  refine s_pure [9301] (m_slices_Contains_string_string_ok fu _ _ _ hv2) ?_
  refine s_not ?_
  refine s_pkt ?_
  refine k_nil ?_
  refine k_seq ?_
  refine w_cond hF2 (fun hc3 hF3 => ?_) (fun hc3 hF3 => ?_) <;> clear hF2
  refine awp_region ?_
  refine s_mv ?_
  refine s_fa yF29_2 ?_
  refine s_ld1 yA9 ?_
  refine s_bs rS [x1.name] yP31 yR9 ?_
  obtain ⟨hk4, hF4⟩ := chk_some hF3
  refine s_apF rS (fun _ => rfl) hk4 yP31 ?_
  refine s_as ?_
  refine k_nil ?_
  refine k_seq ?_
  refine awp_seq ?_
  refine awp_seq ?_
  refine awp_region ?_
  refine s_fa yF29_6 ?_
  refine s_ld1 yA27 ?_
  refine s_lenT yU27 ?_
  refine s_mv ?_
  refine k_nil ?_
  refine k_seq ?_
  refine awp_block ?_
  refine awp_mv 1 21 5020 (by conv => lhs; whnf) (by conv => lhs; whnf) rfl ?_
  refine awp_frame2 [1, 6, 25, 26, 27, 28, 29, 30, 31, 32] [5020] [6, 12031] [5020] (fun a : Nat × (List ByteArray) × Int => a.1) (fun a : Nat × (List ByteArray) × Int => [(1, .ar 5020), (25, .t (.sc (.int .i64 a.2.2)))]) (fun a : Nat × (List ByteArray) × Int => [(5020, .arr (a.2.1.map rS) 9 false)]) (fun a : Nat × (List ByteArray) × Int => a.1 ≤ fu ∧ m_impl_freeOf_f_l1 a.1 x1 a.2.1 a.2.2 = some r ∧ 0 ≤ a.2.2) (fu, (x2 ++ [x1.name]), 0) ⟨Nat.le_refl _, hF4, by simp⟩ (by rfl) (by rfl) (fun _ => rfl) (hasF_cons (by conv => lhs; whnf) (by rfl) (hasF_cons (by conv => lhs; whnf) (by rfl) hasF_nil)) (hasO_cons (by conv => lhs; whnf) (by rfl) hasO_nil) (fresh_C hC rfl) (by repeat (first | exact freshS_args rfl | refine freshS_upd rfl ?_ | refine freshS_frame rfl ?_)) (by repeat (first | exact freshM_no | exact objs_fresh rfl | refine freshM_upd rfl ?_ | refine freshM_frame rfl ?_)) ?_
  clear hF4
  rintro ⟨fu, g5, g6⟩ ⟨hl7, hF5, hn_g6⟩
  dsimp only at hl7 hF5 hn_g6 ⊢
  obtain _ | fu := fu
  · rw [m_impl_freeOf_f_l1] at hF5; cases hF5
  rw [m_impl_freeOf_f_l1] at hF5
  refine awp_seq ?_
  refine awp_region ?_
  refine s_lt ?_
  refine k_nil ?_
  refine k_seq ?_
  refine awp_seq ?_
  refine w_cond hF5 (fun hc8 hF6 => ?_) (fun hc8 hF6 => ?_) <;> clear hF5
  refine awp_lenT 23 (fun hb9 => ?_)
  refine awp_skip ?_
  refine k_seq ?_
  refine awp_seq ?_
  refine awp_block ?_
  refine awp_seq ?_
  refine awp_region ?_
  replace hF6 := bind_some' hF6
  obtain ⟨v10, hv10, hF7⟩ := hF6
  refine s_ixT Core.row hv10 (Core.row_eq _) yE27 ?_
  refine s_ldN yA29 yS29 ?_
  refine s_alloc yZ29 ?_
  refine s_stW yS29 ?_
  refine k_nil ?_
  refine k_seq ?_
  refine awp_region ?_
  refine s_ldW yA29 yS29 ?_
  refine s_mv ?_
  replace hF7 := bind_some' hF7
  obtain ⟨v11, hv11, hF8⟩ := hF7
  refine s_call [(9301, 5020), (9200, 12031)] [] _ _ (ih_m_impl_freeOf_f fu (by omega) _ _ _ hv11) ?_
  refine s_as ?_
  refine k_nil ?_
  refine k_blk ?_
  refine k_seq ?_
  refine awp_region ?_
  refine s_add (winc2 hc8 hb9 hn_g6) ?_
  refine s_mv ?_
  refine k_nil ?_
  exact s_rnd2 (fu, v11, (g6 + 1)) [(5020, 12031)] ⟨by first | omega | (dsimp only; omega), hF8, by first | omega | (dsimp only; omega)⟩ (hasR_cons (by conv => lhs; whnf) (by rfl) rfl (hasR_cons (by conv => lhs; whnf) (by rfl) rfl trivial)) (hasQ_cons (by conv => lhs; whnf) (by rfl) rfl trivial)
  refine awp_exit ?_
  refine k_seq_exit ?_
  refine k_rnd_exit2 ?_
  refine k_blk_exit ?_
  refine k_seq ?_
  refine awp_seq ?_
  refine awp_region ?_
  refine s_mv ?_
  refine s_as ?_
  refine k_nil ?_
  refine k_seq ?_
  refine awp_mv 4 5020 9200 (by conv => lhs; whnf) (by conv => lhs; whnf) rfl ?_
  refine awp_kill 9301 rfl ?_
  refine awp_ret ?_
  refine k_fin ?_
  obtain rfl := Option.some.inj hF6
  exact ends_gen _ [] (by rw [Try.results21]; exact (res_tmp (by conv => lhs; whnf) res_nil))
  refine awp_skip ?_
  refine k_seq ?_
  refine awp_seq ?_
  refine awp_seq ?_
  refine awp_region ?_
  refine s_fa yF29_6 ?_
  refine s_ld1 yA27 ?_
  refine s_lenT yU27 ?_
  refine s_mv ?_
  refine k_nil ?_
  refine k_seq ?_
  refine awp_block ?_
  refine awp_mv 1 9301 5040 (by conv => lhs; whnf) (by conv => lhs; whnf) rfl ?_
  refine awp_frame2 [1, 6, 25, 26, 27, 28, 29, 30, 31, 32] [5040] [6, 12031] [5040] (fun a : Nat × (List ByteArray) × Int => a.1) (fun a : Nat × (List ByteArray) × Int => [(1, .ar 5040), (25, .t (.sc (.int .i64 a.2.2)))]) (fun a : Nat × (List ByteArray) × Int => [(5040, .arr (a.2.1.map rS) 9 false)]) (fun a : Nat × (List ByteArray) × Int => a.1 ≤ fu ∧ m_impl_freeOf_f_l1 a.1 x1 a.2.1 a.2.2 = some r ∧ 0 ≤ a.2.2) (fu, x2, 0) ⟨Nat.le_refl _, hF3, by simp⟩ (by rfl) (by rfl) (fun _ => rfl) (hasF_cons (by conv => lhs; whnf) (by rfl) (hasF_cons (by conv => lhs; whnf) (by rfl) hasF_nil)) (hasO_cons (by conv => lhs; whnf) (by rfl) hasO_nil) (fresh_C hC rfl) (by repeat (first | exact freshS_args rfl | refine freshS_upd rfl ?_ | refine freshS_frame rfl ?_)) (by repeat (first | exact freshM_no | exact objs_fresh rfl | refine freshM_upd rfl ?_ | refine freshM_frame rfl ?_)) ?_
  clear hF3
  rintro ⟨fu, g12, g13⟩ ⟨hl14, hF4, hn_g13⟩
  dsimp only at hl14 hF4 hn_g13 ⊢
  obtain _ | fu := fu
  · rw [m_impl_freeOf_f_l1] at hF4; cases hF4
  rw [m_impl_freeOf_f_l1] at hF4
  refine awp_seq ?_
  refine awp_region ?_
  refine s_lt ?_
  refine k_nil ?_
  refine k_seq ?_
  refine awp_seq ?_
  refine w_cond hF4 (fun hc15 hF5 => ?_) (fun hc15 hF5 => ?_) <;> clear hF4
  refine awp_lenT 23 (fun hb16 => ?_)
  refine awp_skip ?_
  refine k_seq ?_
  refine awp_seq ?_
  refine awp_block ?_
  refine awp_seq ?_
  refine awp_region ?_
  replace hF5 := bind_some' hF5
  obtain ⟨v17, hv17, hF6⟩ := hF5
  refine s_ixT Core.row hv17 (Core.row_eq _) yE27 ?_
  refine s_ldN yA29 yS29 ?_
  refine s_alloc yZ29 ?_
  refine s_stW yS29 ?_
  refine k_nil ?_
  refine k_seq ?_
  refine awp_region ?_
  refine s_ldW yA29 yS29 ?_
  refine s_mv ?_
  replace hF6 := bind_some' hF6
  obtain ⟨v18, hv18, hF7⟩ := hF6
  refine s_call [(9301, 5040), (9200, 12031)] [] _ _ (ih_m_impl_freeOf_f fu (by omega) _ _ _ hv18) ?_
  refine s_as ?_
  refine k_nil ?_
  refine k_blk ?_
  refine k_seq ?_
  refine awp_region ?_
  refine s_add (winc2 hc15 hb16 hn_g13) ?_
  refine s_mv ?_
  refine k_nil ?_
  exact s_rnd2 (fu, v18, (g13 + 1)) [(5040, 12031)] ⟨by first | omega | (dsimp only; omega), hF7, by first | omega | (dsimp only; omega)⟩ (hasR_cons (by conv => lhs; whnf) (by rfl) rfl (hasR_cons (by conv => lhs; whnf) (by rfl) rfl trivial)) (hasQ_cons (by conv => lhs; whnf) (by rfl) rfl trivial)
  refine awp_exit ?_
  refine k_seq_exit ?_
  refine k_rnd_exit2 ?_
  refine k_blk_exit ?_
  refine k_seq ?_
  refine awp_seq ?_
  refine awp_region ?_
  refine s_mv ?_
  refine s_as ?_
  refine k_nil ?_
  refine k_seq ?_
  refine awp_mv 4 5040 9200 (by conv => lhs; whnf) (by conv => lhs; whnf) rfl ?_
  refine awp_ret ?_
  refine k_fin ?_
  obtain rfl := Option.some.inj hF5
  exact ends_gen _ [] (by rw [Try.results21]; exact (res_tmp (by conv => lhs; whnf) res_nil))
  refine r_no rfl ?_
  refine r_no rfl ?_
  refine r_no rfl ?_
  refine r_no rfl ?_
  refine r_no rfl ?_
  refine s_pkf ?_
  refine k_nil ?_
  refine k_seq ?_
  refine awp_false rfl ?_
  refine awp_skip ?_
  refine k_seq ?_
  refine awp_seq ?_
  refine awp_seq ?_
  refine awp_region ?_
  refine s_fa yF29_6 ?_
  refine s_ld1 yA27 ?_
  refine s_lenT yU27 ?_
  refine s_mv ?_
  refine k_nil ?_
  refine k_seq ?_
  refine awp_block ?_
  refine awp_mv 1 9301 5060 (by conv => lhs; whnf) (by conv => lhs; whnf) rfl ?_
  refine awp_frame2 [1, 6, 25, 26, 27, 28, 29, 30, 31, 32] [5060] [6, 12031] [5060] (fun a : Nat × (List ByteArray) × Int => a.1) (fun a : Nat × (List ByteArray) × Int => [(1, .ar 5060), (25, .t (.sc (.int .i64 a.2.2)))]) (fun a : Nat × (List ByteArray) × Int => [(5060, .arr (a.2.1.map rS) 9 false)]) (fun a : Nat × (List ByteArray) × Int => a.1 ≤ fu ∧ m_impl_freeOf_f_l1 a.1 x1 a.2.1 a.2.2 = some r ∧ 0 ≤ a.2.2) (fu, x2, 0) ⟨Nat.le_refl _, hF1, by simp⟩ (by rfl) (by rfl) (fun _ => rfl) (hasF_cons (by conv => lhs; whnf) (by rfl) (hasF_cons (by conv => lhs; whnf) (by rfl) hasF_nil)) (hasO_cons (by conv => lhs; whnf) (by rfl) hasO_nil) (fresh_C hC rfl) (by repeat (first | exact freshS_args rfl | refine freshS_upd rfl ?_ | refine freshS_frame rfl ?_)) (by repeat (first | exact freshM_no | exact objs_fresh rfl | refine freshM_upd rfl ?_ | refine freshM_frame rfl ?_)) ?_
  clear hF1
  rintro ⟨fu, g19, g20⟩ ⟨hl21, hF2, hn_g20⟩
  dsimp only at hl21 hF2 hn_g20 ⊢
  obtain _ | fu := fu
  · rw [m_impl_freeOf_f_l1] at hF2; cases hF2
  rw [m_impl_freeOf_f_l1] at hF2
  refine awp_seq ?_
  refine awp_region ?_
  refine s_lt ?_
  refine k_nil ?_
  refine k_seq ?_
  refine awp_seq ?_
  refine w_cond hF2 (fun hc22 hF3 => ?_) (fun hc22 hF3 => ?_) <;> clear hF2
  refine awp_lenT 23 (fun hb23 => ?_)
  refine awp_skip ?_
  refine k_seq ?_
  refine awp_seq ?_
  refine awp_block ?_
  refine awp_seq ?_
  refine awp_region ?_
  replace hF3 := bind_some' hF3
  obtain ⟨v24, hv24, hF4⟩ := hF3
  refine s_ixT Core.row hv24 (Core.row_eq _) yE27 ?_
  refine s_ldN yA29 yS29 ?_
  refine s_alloc yZ29 ?_
  refine s_stW yS29 ?_
  refine k_nil ?_
  refine k_seq ?_
  refine awp_region ?_
  refine s_ldW yA29 yS29 ?_
  refine s_mv ?_
  replace hF4 := bind_some' hF4
  obtain ⟨v25, hv25, hF5⟩ := hF4
  refine s_call [(9301, 5060), (9200, 12031)] [] _ _ (ih_m_impl_freeOf_f fu (by omega) _ _ _ hv25) ?_
  refine s_as ?_
  refine k_nil ?_
  refine k_blk ?_
  refine k_seq ?_
  refine awp_region ?_
  refine s_add (winc2 hc22 hb23 hn_g20) ?_
  refine s_mv ?_
  refine k_nil ?_
  exact s_rnd2 (fu, v25, (g20 + 1)) [(5060, 12031)] ⟨by first | omega | (dsimp only; omega), hF5, by first | omega | (dsimp only; omega)⟩ (hasR_cons (by conv => lhs; whnf) (by rfl) rfl (hasR_cons (by conv => lhs; whnf) (by rfl) rfl trivial)) (hasQ_cons (by conv => lhs; whnf) (by rfl) rfl trivial)
  refine awp_exit ?_
  refine k_seq_exit ?_
  refine k_rnd_exit2 ?_
  refine k_blk_exit ?_
  refine k_seq ?_
  refine awp_seq ?_
  refine awp_region ?_
  refine s_mv ?_
  refine s_as ?_
  refine k_nil ?_
  refine k_seq ?_
  refine awp_mv 4 5060 9200 (by conv => lhs; whnf) (by conv => lhs; whnf) rfl ?_
  refine awp_ret ?_
  refine k_fin ?_
  obtain rfl := Option.some.inj hF3
  exact ends_gen _ [] (by rw [Try.results21]; exact (res_tmp (by conv => lhs; whnf) res_nil))
theorem m_impl_freeOf_f_all (fuel : Nat) : m_impl_freeOf_f_AC fuel := by
  induction fuel using Nat.strongRecOn with
  | _ N ih =>
    cases N with
    | zero => exact (by intro x1 x2 r h; rw [m_impl_freeOf_f] at h; cases h)
    | succ fu => exact m_impl_freeOf_f_st fu (fun k hk => (ih k (by omega)))
theorem m_impl_freeOf_f_ok (fuel : Nat) : m_impl_freeOf_f_AC fuel := (m_impl_freeOf_f_all fuel)
def m_impl_freeOf_AC (fuel : Nat) : Prop := ∀ (x1 : Core) (x2 : (List ByteArray)) (r : (List ByteArray)), m_impl_freeOf fuel x1 x2 = some r → AC Try.prog 21 [.ag [.t (.sc (.int .i64 x1.kind)), .t (.sc (.int .i64 x1.id)), .t (.sc (.str x1.name)), .t (.sc (.int .i64 x1.n)), .t (.sl (x1.ids.map rI)), .t (.sc (.int .i64 x1.data.kind)), .t (.sc (.str x1.data.name)), .t (.sc (.int .i64 x1.data.n)), .t (.sl (x1.data.scopes.map rI)), .t (.sl (x1.data.kids.map Form.row)), .t (.sl (x1.kids.map Core.row))], .ar 9301] (objs [(9301, .arr (x2.map rS) 9 true)]) (.ar 9200) (objs [(9301, .dead), (9200, .arr (r.map rS) 9 false)])
theorem m_impl_freeOf_ok (fuel : Nat) : m_impl_freeOf_AC fuel := by
  intro x1 x2 r hF0
  unfold m_impl_freeOf at hF0
  refine AC_intro (rs := [.ar 9200]) Try.func21 rfl (by kernel_rfl) (by simp [Try.ntmps21]) (keep_all rfl) ?_
  intro C hC
  rw [Try.ntmps21]
  refine awp_seq ?_
  refine awp_region ?_
  refine s_box ?_
  refine s_as ?_
  refine k_nil ?_
  refine k_seq ?_
  refine awp_seq ?_
  refine awp_seq ?_
  refine awp_region ?_
  refine s_fa yF29_0 ?_
  refine s_ld1 yA3 ?_
  refine s_eq ?_
  refine s_mv ?_
  refine w_guard _ 10 hF0 (fun hc1 hF1 => ?_) (fun hc1 hF1 => ?_) <;> clear hF0
  refine s_mv ?_
  refine s_fa yF29_2 ?_
  refine s_ld1 yA9 ?_
  replace hF1 := bind_some' hF1
  obtain ⟨v2, hv2, hF2⟩ := hF1
  refine s_pure [9301] (m_slices_Contains_string_string_ok fuel _ _ _ hv2) ?_
  refine s_not ?_
  refine s_pkt ?_
  refine k_nil ?_
  refine k_seq ?_
  refine w_cond hF2 (fun hc3 hF3 => ?_) (fun hc3 hF3 => ?_) <;> clear hF2
  refine awp_region ?_
  refine s_mv ?_
  refine s_fa yF29_2 ?_
  refine s_ld1 yA9 ?_
  refine s_bs rS [x1.name] yP31 yR9 ?_
  obtain ⟨hk4, hF4⟩ := chk_some hF3
  refine s_apF rS (fun _ => rfl) hk4 yP31 ?_
  refine s_as ?_
  refine k_nil ?_
  refine k_seq ?_
  refine awp_seq ?_
  refine awp_seq ?_
  refine awp_region ?_
  refine s_fa yF29_6 ?_
  refine s_ld1 yA27 ?_
  refine s_lenT yU27 ?_
  refine s_mv ?_
  refine k_nil ?_
  refine k_seq ?_
  refine awp_block ?_
  refine awp_mv 1 21 5020 (by conv => lhs; whnf) (by conv => lhs; whnf) rfl ?_
  refine awp_frame2 [1, 6, 25, 26, 27, 28, 29, 30, 31, 32] [5020] [6, 12031] [5020] (fun a : Nat × (List ByteArray) × Int => a.1) (fun a : Nat × (List ByteArray) × Int => [(1, .ar 5020), (25, .t (.sc (.int .i64 a.2.2)))]) (fun a : Nat × (List ByteArray) × Int => [(5020, .arr (a.2.1.map rS) 9 false)]) (fun a : Nat × (List ByteArray) × Int => a.1 ≤ fuel ∧ m_impl_freeOf_f_l1 a.1 x1 a.2.1 a.2.2 = some r ∧ 0 ≤ a.2.2) (fuel, (x2 ++ [x1.name]), 0) ⟨Nat.le_refl _, hF4, by simp⟩ (by rfl) (by rfl) (fun _ => rfl) (hasF_cons (by conv => lhs; whnf) (by rfl) (hasF_cons (by conv => lhs; whnf) (by rfl) hasF_nil)) (hasO_cons (by conv => lhs; whnf) (by rfl) hasO_nil) (fresh_C hC rfl) (by repeat (first | exact freshS_args rfl | refine freshS_upd rfl ?_ | refine freshS_frame rfl ?_)) (by repeat (first | exact freshM_no | exact objs_fresh rfl | refine freshM_upd rfl ?_ | refine freshM_frame rfl ?_)) ?_
  clear hF4
  rintro ⟨fu, g5, g6⟩ ⟨hl7, hF5, hn_g6⟩
  dsimp only at hl7 hF5 hn_g6 ⊢
  obtain _ | fu := fu
  · rw [m_impl_freeOf_f_l1] at hF5; cases hF5
  rw [m_impl_freeOf_f_l1] at hF5
  refine awp_seq ?_
  refine awp_region ?_
  refine s_lt ?_
  refine k_nil ?_
  refine k_seq ?_
  refine awp_seq ?_
  refine w_cond hF5 (fun hc8 hF6 => ?_) (fun hc8 hF6 => ?_) <;> clear hF5
  refine awp_lenT 23 (fun hb9 => ?_)
  refine awp_skip ?_
  refine k_seq ?_
  refine awp_seq ?_
  refine awp_block ?_
  refine awp_seq ?_
  refine awp_region ?_
  replace hF6 := bind_some' hF6
  obtain ⟨v10, hv10, hF7⟩ := hF6
  refine s_ixT Core.row hv10 (Core.row_eq _) yE27 ?_
  refine s_ldN yA29 yS29 ?_
  refine s_alloc yZ29 ?_
  refine s_stW yS29 ?_
  refine k_nil ?_
  refine k_seq ?_
  refine awp_region ?_
  refine s_ldW yA29 yS29 ?_
  refine s_mv ?_
  replace hF7 := bind_some' hF7
  obtain ⟨v11, hv11, hF8⟩ := hF7
  refine s_call [(9301, 5020), (9200, 12031)] [] _ _ (m_impl_freeOf_f_ok fu _ _ _ hv11) ?_
  refine s_as ?_
  refine k_nil ?_
  refine k_blk ?_
  refine k_seq ?_
  refine awp_region ?_
  refine s_add (winc2 hc8 hb9 hn_g6) ?_
  refine s_mv ?_
  refine k_nil ?_
  exact s_rnd2 (fu, v11, (g6 + 1)) [(5020, 12031)] ⟨by first | omega | (dsimp only; omega), hF8, by first | omega | (dsimp only; omega)⟩ (hasR_cons (by conv => lhs; whnf) (by rfl) rfl (hasR_cons (by conv => lhs; whnf) (by rfl) rfl trivial)) (hasQ_cons (by conv => lhs; whnf) (by rfl) rfl trivial)
  refine awp_exit ?_
  refine k_seq_exit ?_
  refine k_rnd_exit2 ?_
  refine k_blk_exit ?_
  refine k_seq ?_
  refine awp_seq ?_
  refine awp_region ?_
  refine s_mv ?_
  refine s_as ?_
  refine k_nil ?_
  refine k_seq ?_
  refine awp_mv 4 5020 9200 (by conv => lhs; whnf) (by conv => lhs; whnf) rfl ?_
  refine awp_kill 9301 rfl ?_
  refine awp_ret ?_
  refine k_fin ?_
  obtain rfl := Option.some.inj hF6
  exact ends_gen _ [] (by rw [Try.results21]; exact (res_tmp (by conv => lhs; whnf) res_nil))
  refine awp_skip ?_
  refine k_seq ?_
  refine awp_seq ?_
  refine awp_seq ?_
  refine awp_region ?_
  refine s_fa yF29_6 ?_
  refine s_ld1 yA27 ?_
  refine s_lenT yU27 ?_
  refine s_mv ?_
  refine k_nil ?_
  refine k_seq ?_
  refine awp_block ?_
  refine awp_mv 1 9301 5040 (by conv => lhs; whnf) (by conv => lhs; whnf) rfl ?_
  refine awp_frame2 [1, 6, 25, 26, 27, 28, 29, 30, 31, 32] [5040] [6, 12031] [5040] (fun a : Nat × (List ByteArray) × Int => a.1) (fun a : Nat × (List ByteArray) × Int => [(1, .ar 5040), (25, .t (.sc (.int .i64 a.2.2)))]) (fun a : Nat × (List ByteArray) × Int => [(5040, .arr (a.2.1.map rS) 9 false)]) (fun a : Nat × (List ByteArray) × Int => a.1 ≤ fuel ∧ m_impl_freeOf_f_l1 a.1 x1 a.2.1 a.2.2 = some r ∧ 0 ≤ a.2.2) (fuel, x2, 0) ⟨Nat.le_refl _, hF3, by simp⟩ (by rfl) (by rfl) (fun _ => rfl) (hasF_cons (by conv => lhs; whnf) (by rfl) (hasF_cons (by conv => lhs; whnf) (by rfl) hasF_nil)) (hasO_cons (by conv => lhs; whnf) (by rfl) hasO_nil) (fresh_C hC rfl) (by repeat (first | exact freshS_args rfl | refine freshS_upd rfl ?_ | refine freshS_frame rfl ?_)) (by repeat (first | exact freshM_no | exact objs_fresh rfl | refine freshM_upd rfl ?_ | refine freshM_frame rfl ?_)) ?_
  clear hF3
  rintro ⟨fu, g12, g13⟩ ⟨hl14, hF4, hn_g13⟩
  dsimp only at hl14 hF4 hn_g13 ⊢
  obtain _ | fu := fu
  · rw [m_impl_freeOf_f_l1] at hF4; cases hF4
  rw [m_impl_freeOf_f_l1] at hF4
  refine awp_seq ?_
  refine awp_region ?_
  refine s_lt ?_
  refine k_nil ?_
  refine k_seq ?_
  refine awp_seq ?_
  refine w_cond hF4 (fun hc15 hF5 => ?_) (fun hc15 hF5 => ?_) <;> clear hF4
  refine awp_lenT 23 (fun hb16 => ?_)
  refine awp_skip ?_
  refine k_seq ?_
  refine awp_seq ?_
  refine awp_block ?_
  refine awp_seq ?_
  refine awp_region ?_
  replace hF5 := bind_some' hF5
  obtain ⟨v17, hv17, hF6⟩ := hF5
  refine s_ixT Core.row hv17 (Core.row_eq _) yE27 ?_
  refine s_ldN yA29 yS29 ?_
  refine s_alloc yZ29 ?_
  refine s_stW yS29 ?_
  refine k_nil ?_
  refine k_seq ?_
  refine awp_region ?_
  refine s_ldW yA29 yS29 ?_
  refine s_mv ?_
  replace hF6 := bind_some' hF6
  obtain ⟨v18, hv18, hF7⟩ := hF6
  refine s_call [(9301, 5040), (9200, 12031)] [] _ _ (m_impl_freeOf_f_ok fu _ _ _ hv18) ?_
  refine s_as ?_
  refine k_nil ?_
  refine k_blk ?_
  refine k_seq ?_
  refine awp_region ?_
  refine s_add (winc2 hc15 hb16 hn_g13) ?_
  refine s_mv ?_
  refine k_nil ?_
  exact s_rnd2 (fu, v18, (g13 + 1)) [(5040, 12031)] ⟨by first | omega | (dsimp only; omega), hF7, by first | omega | (dsimp only; omega)⟩ (hasR_cons (by conv => lhs; whnf) (by rfl) rfl (hasR_cons (by conv => lhs; whnf) (by rfl) rfl trivial)) (hasQ_cons (by conv => lhs; whnf) (by rfl) rfl trivial)
  refine awp_exit ?_
  refine k_seq_exit ?_
  refine k_rnd_exit2 ?_
  refine k_blk_exit ?_
  refine k_seq ?_
  refine awp_seq ?_
  refine awp_region ?_
  refine s_mv ?_
  refine s_as ?_
  refine k_nil ?_
  refine k_seq ?_
  refine awp_mv 4 5040 9200 (by conv => lhs; whnf) (by conv => lhs; whnf) rfl ?_
  refine awp_ret ?_
  refine k_fin ?_
  obtain rfl := Option.some.inj hF5
  exact ends_gen _ [] (by rw [Try.results21]; exact (res_tmp (by conv => lhs; whnf) res_nil))
  refine r_no rfl ?_
  refine r_no rfl ?_
  refine r_no rfl ?_
  refine r_no rfl ?_
  refine r_no rfl ?_
  refine s_pkf ?_
  refine k_nil ?_
  refine k_seq ?_
  refine awp_false rfl ?_
  refine awp_skip ?_
  refine k_seq ?_
  refine awp_seq ?_
  refine awp_seq ?_
  refine awp_region ?_
  refine s_fa yF29_6 ?_
  refine s_ld1 yA27 ?_
  refine s_lenT yU27 ?_
  refine s_mv ?_
  refine k_nil ?_
  refine k_seq ?_
  refine awp_block ?_
  refine awp_mv 1 9301 5060 (by conv => lhs; whnf) (by conv => lhs; whnf) rfl ?_
  refine awp_frz 5060 (by conv => lhs; whnf) ?_
  refine awp_frame2 [1, 6, 25, 26, 27, 28, 29, 30, 31, 32] [5060] [6, 12031] [5060] (fun a : Nat × (List ByteArray) × Int => a.1) (fun a : Nat × (List ByteArray) × Int => [(1, .ar 5060), (25, .t (.sc (.int .i64 a.2.2)))]) (fun a : Nat × (List ByteArray) × Int => [(5060, .arr (a.2.1.map rS) 9 false)]) (fun a : Nat × (List ByteArray) × Int => a.1 ≤ fuel ∧ m_impl_freeOf_f_l1 a.1 x1 a.2.1 a.2.2 = some r ∧ 0 ≤ a.2.2) (fuel, x2, 0) ⟨Nat.le_refl _, hF1, by simp⟩ (by rfl) (by rfl) (fun _ => rfl) (hasF_cons (by conv => lhs; whnf) (by rfl) (hasF_cons (by conv => lhs; whnf) (by rfl) hasF_nil)) (hasO_cons (by conv => lhs; whnf) (by rfl) hasO_nil) (fresh_C hC rfl) (by repeat (first | exact freshS_args rfl | refine freshS_upd rfl ?_ | refine freshS_frame rfl ?_)) (by repeat (first | exact freshM_no | exact objs_fresh rfl | refine freshM_upd rfl ?_ | refine freshM_frame rfl ?_)) ?_
  clear hF1
  rintro ⟨fu, g19, g20⟩ ⟨hl21, hF2, hn_g20⟩
  dsimp only at hl21 hF2 hn_g20 ⊢
  obtain _ | fu := fu
  · rw [m_impl_freeOf_f_l1] at hF2; cases hF2
  rw [m_impl_freeOf_f_l1] at hF2
  refine awp_seq ?_
  refine awp_region ?_
  refine s_lt ?_
  refine k_nil ?_
  refine k_seq ?_
  refine awp_seq ?_
  refine w_cond hF2 (fun hc22 hF3 => ?_) (fun hc22 hF3 => ?_) <;> clear hF2
  refine awp_lenT 23 (fun hb23 => ?_)
  refine awp_skip ?_
  refine k_seq ?_
  refine awp_seq ?_
  refine awp_block ?_
  refine awp_seq ?_
  refine awp_region ?_
  replace hF3 := bind_some' hF3
  obtain ⟨v24, hv24, hF4⟩ := hF3
  refine s_ixT Core.row hv24 (Core.row_eq _) yE27 ?_
  refine s_ldN yA29 yS29 ?_
  refine s_alloc yZ29 ?_
  refine s_stW yS29 ?_
  refine k_nil ?_
  refine k_seq ?_
  refine awp_region ?_
  refine s_ldW yA29 yS29 ?_
  refine s_mv ?_
  replace hF4 := bind_some' hF4
  obtain ⟨v25, hv25, hF5⟩ := hF4
  refine s_call [(9301, 5060), (9200, 12031)] [] _ _ (m_impl_freeOf_f_ok fu _ _ _ hv25) ?_
  refine s_as ?_
  refine k_nil ?_
  refine k_blk ?_
  refine k_seq ?_
  refine awp_region ?_
  refine s_add (winc2 hc22 hb23 hn_g20) ?_
  refine s_mv ?_
  refine k_nil ?_
  exact s_rnd2 (fu, v25, (g20 + 1)) [(5060, 12031)] ⟨by first | omega | (dsimp only; omega), hF5, by first | omega | (dsimp only; omega)⟩ (hasR_cons (by conv => lhs; whnf) (by rfl) rfl (hasR_cons (by conv => lhs; whnf) (by rfl) rfl trivial)) (hasQ_cons (by conv => lhs; whnf) (by rfl) rfl trivial)
  refine awp_exit ?_
  refine k_seq_exit ?_
  refine k_rnd_exit2 ?_
  refine k_blk_exit ?_
  refine k_seq ?_
  refine awp_seq ?_
  refine awp_region ?_
  refine s_mv ?_
  refine s_as ?_
  refine k_nil ?_
  refine k_seq ?_
  refine awp_mv 4 5060 9200 (by conv => lhs; whnf) (by conv => lhs; whnf) rfl ?_
  refine awp_ret ?_
  refine k_fin ?_
  obtain rfl := Option.some.inj hF3
  exact ends_gen _ [] (by rw [Try.results21]; exact (res_tmp (by conv => lhs; whnf) res_nil))
def m_impl_freeOf_n_AC (fuel : Nat) : Prop := ∀ (x1 : Core) (r : (List ByteArray)), m_impl_freeOf_n fuel x1 = some r → AC Try.prog 21 [.ag [.t (.sc (.int .i64 x1.kind)), .t (.sc (.int .i64 x1.id)), .t (.sc (.str x1.name)), .t (.sc (.int .i64 x1.n)), .t (.sl (x1.ids.map rI)), .t (.sc (.int .i64 x1.data.kind)), .t (.sc (.str x1.data.name)), .t (.sc (.int .i64 x1.data.n)), .t (.sl (x1.data.scopes.map rI)), .t (.sl (x1.data.kids.map Form.row)), .t (.sl (x1.kids.map Core.row))], .nl] (objs []) (.ar 9200) (objs [(9200, .arr (r.map rS) 9 false)])
theorem m_impl_freeOf_n_ok (fuel : Nat) : m_impl_freeOf_n_AC fuel := by
  intro x1 r hF0
  unfold m_impl_freeOf_n at hF0
  refine AC_intro (rs := [.ar 9200]) Try.func21 rfl (by kernel_rfl) (by simp [Try.ntmps21]) (keep_all rfl) ?_
  intro C hC
  rw [Try.ntmps21]
  refine awp_seq ?_
  refine awp_region ?_
  refine s_box ?_
  refine s_as ?_
  refine k_nil ?_
  refine k_seq ?_
  refine awp_seq ?_
  refine awp_seq ?_
  refine awp_region ?_
  refine s_fa yF29_0 ?_
  refine s_ld1 yA3 ?_
  refine s_eq ?_
  refine s_mv ?_
  refine w_guard _ 10 hF0 (fun hc1 hF1 => ?_) (fun hc1 hF1 => ?_) <;> clear hF0
  refine s_mv ?_
  refine s_fa yF29_2 ?_
  refine s_ld1 yA9 ?_
  replace hF1 := bind_some' hF1
  obtain ⟨v2, hv2, hF2⟩ := hF1
  refine s_pure [] (m_slices_Contains_string_string_ok fuel _ _ _ hv2) ?_
  refine s_not ?_
  refine s_pkt ?_
  refine k_nil ?_
  refine k_seq ?_
  refine w_cond hF2 (fun hc3 hF3 => ?_) (fun hc3 hF3 => ?_) <;> clear hF2
  refine awp_region ?_
  refine s_mv ?_
  refine s_fa yF29_2 ?_
  refine s_ld1 yA9 ?_
  refine s_bs rS [x1.name] yP31 yR9 ?_
  obtain ⟨hk4, hF4⟩ := chk_some hF3
  refine s_apN rS (fun _ => rfl) hk4 yP31 ?_
  refine s_as ?_
  refine k_nil ?_
  refine k_seq ?_
  refine awp_seq ?_
  refine awp_seq ?_
  refine awp_region ?_
  refine s_fa yF29_6 ?_
  refine s_ld1 yA27 ?_
  refine s_lenT yU27 ?_
  refine s_mv ?_
  refine k_nil ?_
  refine k_seq ?_
  refine awp_block ?_
  refine awp_mv 1 21 5020 (by conv => lhs; whnf) (by conv => lhs; whnf) rfl ?_
  refine awp_frz 5020 (by conv => lhs; whnf) ?_
  refine awp_frame2 [1, 6, 25, 26, 27, 28, 29, 30, 31, 32] [5020] [6, 12031] [5020] (fun a : Nat × (List ByteArray) × Int => a.1) (fun a : Nat × (List ByteArray) × Int => [(1, .ar 5020), (25, .t (.sc (.int .i64 a.2.2)))]) (fun a : Nat × (List ByteArray) × Int => [(5020, .arr (a.2.1.map rS) 9 false)]) (fun a : Nat × (List ByteArray) × Int => a.1 ≤ fuel ∧ m_impl_freeOf_f_l1 a.1 x1 a.2.1 a.2.2 = some r ∧ 0 ≤ a.2.2) (fuel, [x1.name], 0) ⟨Nat.le_refl _, hF4, by simp⟩ (by rfl) (by rfl) (fun _ => rfl) (hasF_cons (by conv => lhs; whnf) (by rfl) (hasF_cons (by conv => lhs; whnf) (by rfl) hasF_nil)) (hasO_cons (by conv => lhs; whnf) (by rfl) hasO_nil) (fresh_C hC rfl) (by repeat (first | exact freshS_args rfl | refine freshS_upd rfl ?_ | refine freshS_frame rfl ?_)) (by repeat (first | exact freshM_no | exact objs_fresh rfl | refine freshM_upd rfl ?_ | refine freshM_frame rfl ?_)) ?_
  clear hF4
  rintro ⟨fu, g5, g6⟩ ⟨hl7, hF5, hn_g6⟩
  dsimp only at hl7 hF5 hn_g6 ⊢
  obtain _ | fu := fu
  · rw [m_impl_freeOf_f_l1] at hF5; cases hF5
  rw [m_impl_freeOf_f_l1] at hF5
  refine awp_seq ?_
  refine awp_region ?_
  refine s_lt ?_
  refine k_nil ?_
  refine k_seq ?_
  refine awp_seq ?_
  refine w_cond hF5 (fun hc8 hF6 => ?_) (fun hc8 hF6 => ?_) <;> clear hF5
  refine awp_lenT 23 (fun hb9 => ?_)
  refine awp_skip ?_
  refine k_seq ?_
  refine awp_seq ?_
  refine awp_block ?_
  refine awp_seq ?_
  refine awp_region ?_
  replace hF6 := bind_some' hF6
  obtain ⟨v10, hv10, hF7⟩ := hF6
  refine s_ixT Core.row hv10 (Core.row_eq _) yE27 ?_
  refine s_ldN yA29 yS29 ?_
  refine s_alloc yZ29 ?_
  refine s_stW yS29 ?_
  refine k_nil ?_
  refine k_seq ?_
  refine awp_region ?_
  refine s_ldW yA29 yS29 ?_
  refine s_mv ?_
  replace hF7 := bind_some' hF7
  obtain ⟨v11, hv11, hF8⟩ := hF7
  refine s_call [(9301, 5020), (9200, 12031)] [] _ _ (m_impl_freeOf_f_ok fu _ _ _ hv11) ?_
  refine s_as ?_
  refine k_nil ?_
  refine k_blk ?_
  refine k_seq ?_
  refine awp_region ?_
  refine s_add (winc2 hc8 hb9 hn_g6) ?_
  refine s_mv ?_
  refine k_nil ?_
  exact s_rnd2 (fu, v11, (g6 + 1)) [(5020, 12031)] ⟨by first | omega | (dsimp only; omega), hF8, by first | omega | (dsimp only; omega)⟩ (hasR_cons (by conv => lhs; whnf) (by rfl) rfl (hasR_cons (by conv => lhs; whnf) (by rfl) rfl trivial)) (hasQ_cons (by conv => lhs; whnf) (by rfl) rfl trivial)
  refine awp_exit ?_
  refine k_seq_exit ?_
  refine k_rnd_exit2 ?_
  refine k_blk_exit ?_
  refine k_seq ?_
  refine awp_seq ?_
  refine awp_region ?_
  refine s_mv ?_
  refine s_as ?_
  refine k_nil ?_
  refine k_seq ?_
  refine awp_mv 4 5020 9200 (by conv => lhs; whnf) (by conv => lhs; whnf) rfl ?_
  refine awp_ret ?_
  refine k_fin ?_
  obtain rfl := Option.some.inj hF6
  exact ends_gen _ [] (by rw [Try.results21]; exact (res_tmp (by conv => lhs; whnf) res_nil))
  refine awp_skip ?_
  refine k_seq ?_
  refine awp_seq ?_
  refine awp_seq ?_
  refine awp_region ?_
  refine s_fa yF29_6 ?_
  refine s_ld1 yA27 ?_
  refine s_lenT yU27 ?_
  refine s_mv ?_
  refine k_nil ?_
  refine k_seq ?_
  refine awp_block ?_
  refine awp_own 1 5040 9 yI9.choose_spec ?_
  refine awp_frz 5040 (by conv => lhs; whnf) ?_
  refine awp_frame2 [1, 6, 25, 26, 27, 28, 29, 30, 31, 32] [5040] [6, 12031] [5040] (fun a : Nat × (List ByteArray) × Int => a.1) (fun a : Nat × (List ByteArray) × Int => [(1, .ar 5040), (25, .t (.sc (.int .i64 a.2.2)))]) (fun a : Nat × (List ByteArray) × Int => [(5040, .arr (a.2.1.map rS) 9 false)]) (fun a : Nat × (List ByteArray) × Int => a.1 ≤ fuel ∧ m_impl_freeOf_f_l1 a.1 x1 a.2.1 a.2.2 = some r ∧ 0 ≤ a.2.2) (fuel, ([] : List ByteArray), 0) ⟨Nat.le_refl _, hF3, by simp⟩ (by rfl) (by rfl) (fun _ => rfl) (hasF_cons (by conv => lhs; whnf) (by rfl) (hasF_cons (by conv => lhs; whnf) (by rfl) hasF_nil)) (hasO_cons (by conv => lhs; whnf) (by rfl) hasO_nil) (fresh_C hC rfl) (by repeat (first | exact freshS_args rfl | refine freshS_upd rfl ?_ | refine freshS_frame rfl ?_)) (by repeat (first | exact freshM_no | exact objs_fresh rfl | refine freshM_upd rfl ?_ | refine freshM_frame rfl ?_)) ?_
  clear hF3
  rintro ⟨fu, g12, g13⟩ ⟨hl14, hF4, hn_g13⟩
  dsimp only at hl14 hF4 hn_g13 ⊢
  obtain _ | fu := fu
  · rw [m_impl_freeOf_f_l1] at hF4; cases hF4
  rw [m_impl_freeOf_f_l1] at hF4
  refine awp_seq ?_
  refine awp_region ?_
  refine s_lt ?_
  refine k_nil ?_
  refine k_seq ?_
  refine awp_seq ?_
  refine w_cond hF4 (fun hc15 hF5 => ?_) (fun hc15 hF5 => ?_) <;> clear hF4
  refine awp_lenT 23 (fun hb16 => ?_)
  refine awp_skip ?_
  refine k_seq ?_
  refine awp_seq ?_
  refine awp_block ?_
  refine awp_seq ?_
  refine awp_region ?_
  replace hF5 := bind_some' hF5
  obtain ⟨v17, hv17, hF6⟩ := hF5
  refine s_ixT Core.row hv17 (Core.row_eq _) yE27 ?_
  refine s_ldN yA29 yS29 ?_
  refine s_alloc yZ29 ?_
  refine s_stW yS29 ?_
  refine k_nil ?_
  refine k_seq ?_
  refine awp_region ?_
  refine s_ldW yA29 yS29 ?_
  refine s_mv ?_
  replace hF6 := bind_some' hF6
  obtain ⟨v18, hv18, hF7⟩ := hF6
  refine s_call [(9301, 5040), (9200, 12031)] [] _ _ (m_impl_freeOf_f_ok fu _ _ _ hv18) ?_
  refine s_as ?_
  refine k_nil ?_
  refine k_blk ?_
  refine k_seq ?_
  refine awp_region ?_
  refine s_add (winc2 hc15 hb16 hn_g13) ?_
  refine s_mv ?_
  refine k_nil ?_
  exact s_rnd2 (fu, v18, (g13 + 1)) [(5040, 12031)] ⟨by first | omega | (dsimp only; omega), hF7, by first | omega | (dsimp only; omega)⟩ (hasR_cons (by conv => lhs; whnf) (by rfl) rfl (hasR_cons (by conv => lhs; whnf) (by rfl) rfl trivial)) (hasQ_cons (by conv => lhs; whnf) (by rfl) rfl trivial)
  refine awp_exit ?_
  refine k_seq_exit ?_
  refine k_rnd_exit2 ?_
  refine k_blk_exit ?_
  refine k_seq ?_
  refine awp_seq ?_
  refine awp_region ?_
  refine s_mv ?_
  refine s_as ?_
  refine k_nil ?_
  refine k_seq ?_
  refine awp_mv 4 5040 9200 (by conv => lhs; whnf) (by conv => lhs; whnf) rfl ?_
  refine awp_ret ?_
  refine k_fin ?_
  obtain rfl := Option.some.inj hF5
  exact ends_gen _ [] (by rw [Try.results21]; exact (res_tmp (by conv => lhs; whnf) res_nil))
  refine r_no rfl ?_
  refine r_no rfl ?_
  refine r_no rfl ?_
  refine r_no rfl ?_
  refine r_no rfl ?_
  refine s_pkf ?_
  refine k_nil ?_
  refine k_seq ?_
  refine awp_false rfl ?_
  refine awp_skip ?_
  refine k_seq ?_
  refine awp_seq ?_
  refine awp_seq ?_
  refine awp_region ?_
  refine s_fa yF29_6 ?_
  refine s_ld1 yA27 ?_
  refine s_lenT yU27 ?_
  refine s_mv ?_
  refine k_nil ?_
  refine k_seq ?_
  refine awp_block ?_
  refine awp_own 1 5060 9 yI9.choose_spec ?_
  refine awp_frz 5060 (by conv => lhs; whnf) ?_
  refine awp_frame2 [1, 6, 25, 26, 27, 28, 29, 30, 31, 32] [5060] [6, 12031] [5060] (fun a : Nat × (List ByteArray) × Int => a.1) (fun a : Nat × (List ByteArray) × Int => [(1, .ar 5060), (25, .t (.sc (.int .i64 a.2.2)))]) (fun a : Nat × (List ByteArray) × Int => [(5060, .arr (a.2.1.map rS) 9 false)]) (fun a : Nat × (List ByteArray) × Int => a.1 ≤ fuel ∧ m_impl_freeOf_f_l1 a.1 x1 a.2.1 a.2.2 = some r ∧ 0 ≤ a.2.2) (fuel, ([] : List ByteArray), 0) ⟨Nat.le_refl _, hF1, by simp⟩ (by rfl) (by rfl) (fun _ => rfl) (hasF_cons (by conv => lhs; whnf) (by rfl) (hasF_cons (by conv => lhs; whnf) (by rfl) hasF_nil)) (hasO_cons (by conv => lhs; whnf) (by rfl) hasO_nil) (fresh_C hC rfl) (by repeat (first | exact freshS_args rfl | refine freshS_upd rfl ?_ | refine freshS_frame rfl ?_)) (by repeat (first | exact freshM_no | exact objs_fresh rfl | refine freshM_upd rfl ?_ | refine freshM_frame rfl ?_)) ?_
  clear hF1
  rintro ⟨fu, g19, g20⟩ ⟨hl21, hF2, hn_g20⟩
  dsimp only at hl21 hF2 hn_g20 ⊢
  obtain _ | fu := fu
  · rw [m_impl_freeOf_f_l1] at hF2; cases hF2
  rw [m_impl_freeOf_f_l1] at hF2
  refine awp_seq ?_
  refine awp_region ?_
  refine s_lt ?_
  refine k_nil ?_
  refine k_seq ?_
  refine awp_seq ?_
  refine w_cond hF2 (fun hc22 hF3 => ?_) (fun hc22 hF3 => ?_) <;> clear hF2
  refine awp_lenT 23 (fun hb23 => ?_)
  refine awp_skip ?_
  refine k_seq ?_
  refine awp_seq ?_
  refine awp_block ?_
  refine awp_seq ?_
  refine awp_region ?_
  replace hF3 := bind_some' hF3
  obtain ⟨v24, hv24, hF4⟩ := hF3
  refine s_ixT Core.row hv24 (Core.row_eq _) yE27 ?_
  refine s_ldN yA29 yS29 ?_
  refine s_alloc yZ29 ?_
  refine s_stW yS29 ?_
  refine k_nil ?_
  refine k_seq ?_
  refine awp_region ?_
  refine s_ldW yA29 yS29 ?_
  refine s_mv ?_
  replace hF4 := bind_some' hF4
  obtain ⟨v25, hv25, hF5⟩ := hF4
  refine s_call [(9301, 5060), (9200, 12031)] [] _ _ (m_impl_freeOf_f_ok fu _ _ _ hv25) ?_
  refine s_as ?_
  refine k_nil ?_
  refine k_blk ?_
  refine k_seq ?_
  refine awp_region ?_
  refine s_add (winc2 hc22 hb23 hn_g20) ?_
  refine s_mv ?_
  refine k_nil ?_
  exact s_rnd2 (fu, v25, (g20 + 1)) [(5060, 12031)] ⟨by first | omega | (dsimp only; omega), hF5, by first | omega | (dsimp only; omega)⟩ (hasR_cons (by conv => lhs; whnf) (by rfl) rfl (hasR_cons (by conv => lhs; whnf) (by rfl) rfl trivial)) (hasQ_cons (by conv => lhs; whnf) (by rfl) rfl trivial)
  refine awp_exit ?_
  refine k_seq_exit ?_
  refine k_rnd_exit2 ?_
  refine k_blk_exit ?_
  refine k_seq ?_
  refine awp_seq ?_
  refine awp_region ?_
  refine s_mv ?_
  refine s_as ?_
  refine k_nil ?_
  refine k_seq ?_
  refine awp_mv 4 5060 9200 (by conv => lhs; whnf) (by conv => lhs; whnf) rfl ?_
  refine awp_ret ?_
  refine k_fin ?_
  obtain rfl := Option.some.inj hF3
  exact ends_gen _ [] (by rw [Try.results21]; exact (res_tmp (by conv => lhs; whnf) res_nil))
def m_impl_FreeOf_AC (fuel : Nat) : Prop := ∀ (x1 : Core) (r : (List ByteArray)), m_impl_FreeOf fuel x1 = some r → AC Try.prog 8 [.ag [.t (.sc (.int .i64 x1.kind)), .t (.sc (.int .i64 x1.id)), .t (.sc (.str x1.name)), .t (.sc (.int .i64 x1.n)), .t (.sl (x1.ids.map rI)), .t (.sc (.int .i64 x1.data.kind)), .t (.sc (.str x1.data.name)), .t (.sc (.int .i64 x1.data.n)), .t (.sl (x1.data.scopes.map rI)), .t (.sl (x1.data.kids.map Form.row)), .t (.sl (x1.kids.map Core.row))]] noOb (.t (.sl (r.map rS))) noOb
theorem m_impl_FreeOf_ok (fuel : Nat) : m_impl_FreeOf_AC fuel := by
  intro x1 r hF0
  unfold m_impl_FreeOf at hF0
  refine AC_intro (rs := [.t (.sl (r.map rS))]) Try.func8 rfl (by kernel_rfl) (by simp [Try.ntmps8]) (by simp [noOb]) ?_
  intro C hC
  rw [Try.ntmps8]
  refine awp_seq ?_
  refine awp_region ?_
  refine s_box ?_
  refine s_as ?_
  refine k_nil ?_
  refine k_seq ?_
  refine awp_seq ?_
  refine awp_region ?_
  refine s_ldW yA29 yS29 ?_
  replace hF0 := bind_some' hF0
  obtain ⟨v1, hv1, hF1⟩ := hF0
  refine s_call [(9200, 2004)] [] _ _ (m_impl_freeOf_n_ok fuel _ _ hv1) ?_
  refine s_as ?_
  refine k_nil ?_
  refine k_seq ?_
  refine awp_ret ?_
  refine k_fin ?_
  obtain rfl := Option.some.inj hF1
  exact ends_gen [] [2004] (by rw [Try.results8]; exact (res_tmp (by conv => lhs; whnf) res_nil))
def m_spec_l1In_AC (fuel : Nat) : Prop := ∀ (x1 : (List ByteArray)) (x2 : ByteArray) (r : Bool), m_spec_l1In fuel x1 x2 = some r → AC Try.prog 42 [.t (.sl (x1.map rS)), .t (.sc (.str x2))] noOb (.t (.sc (.bool r))) noOb
theorem m_spec_l1In_ok (fuel : Nat) : m_spec_l1In_AC fuel := by
  intro x1 x2 r hF0
  unfold m_spec_l1In at hF0
  refine AC_intro (rs := [.t (.sc (.bool r))]) Try.func42 rfl (by kernel_rfl) (by simp [Try.ntmps42]) (by simp [noOb]) ?_
  intro C hC
  rw [Try.ntmps42]
  refine awp_seq ?_
  refine awp_region ?_
  refine s_as ?_
  refine k_nil ?_
  refine k_seq ?_
  refine awp_seq ?_
  refine awp_seq ?_
  refine awp_region ?_
  refine s_as ?_
  refine k_nil ?_
  refine k_seq ?_
  refine awp_block ?_
  refine awp_frame2 [4, 5, 6, 7, 8, 9, 10, 11, 12, 13, 14, 15, 16, 17] [] [] [] (fun a : Nat × Int => a.1) (fun a : Nat × Int => [(4, .t (.sc (.bool false))), (5, .t (.sc (.int .i64 a.2)))]) (fun a : Nat × Int => []) (fun a : Nat × Int => a.1 ≤ fuel ∧ m_spec_l1In_l1 a.1 x1 x2 a.2 = some r ∧ 0 ≤ a.2) (fuel, 0) ⟨Nat.le_refl _, hF0, by simp⟩ (by rfl) (by rfl) (fun _ => rfl) (hasF_cons (by conv => lhs; whnf) (by rfl) (hasF_cons (by conv => lhs; whnf) (by rfl) hasF_nil)) hasO_nil (fun _ h => by cases h) freshS_nil freshM_nil ?_
  clear hF0
  rintro ⟨fu, g1⟩ ⟨hl2, hF1, hn_g1⟩
  dsimp only at hl2 hF1 hn_g1 ⊢
  obtain _ | fu := fu
  · rw [m_spec_l1In_l1] at hF1; cases hF1
  rw [m_spec_l1In_l1] at hF1
  refine awp_seq ?_
  refine awp_seq ?_
  refine awp_region ?_
  refine s_mv ?_
  refine s_mv ?_
  refine s_lenT yU31 ?_
  refine s_lt ?_
  refine k_nil ?_
  refine k_seq ?_
  refine w_cond hF1 (fun hc3 hF2 => ?_) (fun hc3 hF2 => ?_) <;> clear hF1
  refine awp_lenT 0 (fun hb4 => ?_)
  refine awp_skip ?_
  refine k_seq ?_
  refine awp_seq ?_
  refine awp_block ?_
  refine awp_seq ?_
  refine awp_region ?_
  refine s_mv ?_
  refine s_mv ?_
  replace hF2 := bind_some' hF2
  obtain ⟨v5, hv5, hF3⟩ := hF2
  refine s_ixT rS hv5 rfl yE31 ?_
  refine s_ld1 yA9 ?_
  refine s_mv ?_
  refine s_eqS ?_
  refine k_nil ?_
  refine k_seq ?_
  refine w_cond hF3 (fun hc6 hF4 => ?_) (fun hc6 hF4 => ?_) <;> clear hF3
  refine awp_seq ?_
  refine awp_region ?_
  refine s_as ?_
  refine k_nil ?_
  refine k_seq ?_
  refine awp_ret ?_
  refine k_blk_ret ?_
  refine k_seq_ret ?_
  refine k_rnd_ret2 ?_
  refine k_blk_ret ?_
  refine k_seq_ret ?_
  refine k_fin ?_
  obtain rfl := Option.some.inj hF4
  exact ends_gen [] [] (by rw [Try.results42]; exact (res_tmp (by conv => lhs; whnf) res_nil))
  refine awp_skip ?_
  refine k_blk ?_
  refine k_seq ?_
  refine awp_region ?_
  refine s_mv ?_
  refine s_add (winc2 hc3 hb4 hn_g1) ?_
  refine s_as ?_
  refine k_nil ?_
  exact s_rnd2 (fu, (g1 + 1)) [] ⟨by first | omega | (dsimp only; omega), hF4, by first | omega | (dsimp only; omega)⟩ (hasR_cons (by conv => lhs; whnf) (by rfl) rfl (hasR_cons (by conv => lhs; whnf) (by rfl) rfl trivial)) trivial
  refine awp_exit ?_
  refine k_seq_exit ?_
  refine k_rnd_exit2 ?_
  refine k_blk_exit ?_
  refine k_seq ?_
  refine awp_seq ?_
  refine awp_region ?_
  refine s_as ?_
  refine k_nil ?_
  refine k_seq ?_
  refine awp_ret ?_
  refine k_fin ?_
  obtain rfl := Option.some.inj hF2
  exact ends_gen [] [] (by rw [Try.results42]; exact (res_tmp (by conv => lhs; whnf) res_nil))
def m_spec_l6Free_f_AC (fuel : Nat) : Prop := ∀ (x1 : (List ByteArray)) (x2 : Core) (r : (List ByteArray)), m_spec_l6Free_f fuel x1 x2 = some r → AC Try.prog 22 [.ar 9300, .ag [.t (.sc (.int .i64 x2.kind)), .t (.sc (.int .i64 x2.id)), .t (.sc (.str x2.name)), .t (.sc (.int .i64 x2.n)), .t (.sl (x2.ids.map rI)), .t (.sc (.int .i64 x2.data.kind)), .t (.sc (.str x2.data.name)), .t (.sc (.int .i64 x2.data.n)), .t (.sl (x2.data.scopes.map rI)), .t (.sl (x2.data.kids.map Form.row)), .t (.sl (x2.kids.map Core.row))]] (objs [(9300, .arr (x1.map rS) 9 false)]) (.ar 9200) (objs [(9300, .dead), (9200, .arr (r.map rS) 9 false)])
theorem m_spec_l6Free_f_st (fu : Nat) (ih_m_spec_l6Free_f : ∀ k, k ≤ fu → m_spec_l6Free_f_AC k) : m_spec_l6Free_f_AC (fu + 1) := by
  intro x1 x2 r hF0
  rw [m_spec_l6Free_f] at hF0
  refine AC_intro (rs := [.ar 9200]) Try.func22 rfl (by kernel_rfl) (by simp [Try.ntmps22]) (keep_all rfl) ?_
  intro C hC
  rw [Try.ntmps22]
  refine awp_seq ?_
  refine awp_region ?_
  refine s_box ?_
  refine s_as ?_
  refine k_nil ?_
  refine k_seq ?_
  refine awp_seq ?_
  refine awp_seq ?_
  refine awp_region ?_
  refine s_fa yF29_0 ?_
  refine s_ld1 yA3 ?_
  refine s_eq ?_
  refine s_mv ?_
  refine w_guard _ 9 hF0 (fun hc1 hF1 => ?_) (fun hc1 hF1 => ?_) <;> clear hF0
  refine s_mv ?_
  refine s_fa yF29_2 ?_
  refine s_ld1 yA9 ?_
  replace hF1 := bind_some' hF1
  obtain ⟨v2, hv2, hF2⟩ := hF1
  refine s_pure [9300] (m_spec_l1In_ok fu _ _ _ hv2) ?_
  refine s_not ?_
  refine s_pkt ?_
  refine k_nil ?_
  refine k_seq ?_
  refine w_cond hF2 (fun hc3 hF3 => ?_) (fun hc3 hF3 => ?_) <;> clear hF2
  refine awp_region ?_
  refine s_mv ?_
  refine s_fa yF29_2 ?_
  refine s_ld1 yA9 ?_
  refine s_bs rS [x2.name] yP31 yR9 ?_
  obtain ⟨hk4, hF4⟩ := chk_some hF3
  refine s_apF rS (fun _ => rfl) hk4 yP31 ?_
  refine s_as ?_
  refine k_nil ?_
  refine k_seq ?_
  refine awp_seq ?_
  refine awp_seq ?_
  refine awp_region ?_
  refine s_as ?_
  refine k_nil ?_
  refine k_seq ?_
  refine awp_block ?_
  refine awp_mv 0 20 5020 (by conv => lhs; whnf) (by conv => lhs; whnf) rfl ?_
  refine awp_frame2 [0, 5, 21, 22, 23, 24, 25, 26, 27, 28, 29, 30, 31, 32, 33, 34] [5020] [12034] [5020] (fun a : Nat × (List ByteArray) × Int => a.1) (fun a : Nat × (List ByteArray) × Int => [(0, .ar 5020), (5, .t (.sc (.int .i64 a.2.2)))]) (fun a : Nat × (List ByteArray) × Int => [(5020, .arr (a.2.1.map rS) 9 false)]) (fun a : Nat × (List ByteArray) × Int => a.1 ≤ fu ∧ m_spec_l6Free_f_l1 a.1 x2 a.2.1 a.2.2 = some r ∧ 0 ≤ a.2.2) (fu, (x1 ++ [x2.name]), 0) ⟨Nat.le_refl _, hF4, by simp⟩ (by rfl) (by rfl) (fun _ => rfl) (hasF_cons (by conv => lhs; whnf) (by rfl) (hasF_cons (by conv => lhs; whnf) (by rfl) hasF_nil)) (hasO_cons (by conv => lhs; whnf) (by rfl) hasO_nil) (fresh_C hC rfl) (by repeat (first | exact freshS_args rfl | refine freshS_upd rfl ?_ | refine freshS_frame rfl ?_)) (by repeat (first | exact freshM_no | exact objs_fresh rfl | refine freshM_upd rfl ?_ | refine freshM_frame rfl ?_)) ?_
  clear hF4
  rintro ⟨fu, g5, g6⟩ ⟨hl7, hF5, hn_g6⟩
  dsimp only at hl7 hF5 hn_g6 ⊢
  obtain _ | fu := fu
  · rw [m_spec_l6Free_f_l1] at hF5; cases hF5
  rw [m_spec_l6Free_f_l1] at hF5
  refine awp_seq ?_
  refine awp_seq ?_
  refine awp_region ?_
  refine s_mv ?_
  refine s_fa yF29_6 ?_
  refine s_ld1 yA27 ?_
  refine s_lenT yU27 ?_
  refine s_lt ?_
  refine k_nil ?_
  refine k_seq ?_
  refine w_cond hF5 (fun hc8 hF6 => ?_) (fun hc8 hF6 => ?_) <;> clear hF5
  refine awp_lenT 23 (fun hb9 => ?_)
  refine awp_skip ?_
  refine k_seq ?_
  refine awp_seq ?_
  refine awp_block ?_
  refine awp_region ?_
  refine s_mv ?_
  refine s_fa yF29_6 ?_
  refine s_ld1 yA27 ?_
  refine s_mv ?_
  replace hF6 := bind_some' hF6
  obtain ⟨v10, hv10, hF7⟩ := hF6
  refine s_ixT Core.row hv10 (Core.row_eq _) yE27 ?_
  refine s_ldN yA29 yS29 ?_
  replace hF7 := bind_some' hF7
  obtain ⟨v11, hv11, hF8⟩ := hF7
  refine s_call [(9300, 5020), (9200, 12034)] [] _ _ (ih_m_spec_l6Free_f fu (by omega) _ _ _ hv11) ?_
  refine s_as ?_
  refine k_nil ?_
  refine k_blk ?_
  refine k_seq ?_
  refine awp_region ?_
  refine s_mv ?_
  refine s_add (winc2 hc8 hb9 hn_g6) ?_
  refine s_as ?_
  refine k_nil ?_
  exact s_rnd2 (fu, v11, (g6 + 1)) [(5020, 12034)] ⟨by first | omega | (dsimp only; omega), hF8, by first | omega | (dsimp only; omega)⟩ (hasR_cons (by conv => lhs; whnf) (by rfl) rfl (hasR_cons (by conv => lhs; whnf) (by rfl) rfl trivial)) (hasQ_cons (by conv => lhs; whnf) (by rfl) rfl trivial)
  refine awp_exit ?_
  refine k_seq_exit ?_
  refine k_rnd_exit2 ?_
  refine k_blk_exit ?_
  refine k_seq ?_
  refine awp_seq ?_
  refine awp_region ?_
  refine s_mv ?_
  refine s_as ?_
  refine k_nil ?_
  refine k_seq ?_
  refine awp_mv 4 5020 9200 (by conv => lhs; whnf) (by conv => lhs; whnf) rfl ?_
  refine awp_kill 9300 rfl ?_
  refine awp_ret ?_
  refine k_fin ?_
  obtain rfl := Option.some.inj hF6
  exact ends_gen _ [] (by rw [Try.results22]; exact (res_tmp (by conv => lhs; whnf) res_nil))
  refine awp_skip ?_
  refine k_seq ?_
  refine awp_seq ?_
  refine awp_seq ?_
  refine awp_region ?_
  refine s_as ?_
  refine k_nil ?_
  refine k_seq ?_
  refine awp_block ?_
  refine awp_mv 0 9300 5040 (by conv => lhs; whnf) (by conv => lhs; whnf) rfl ?_
  refine awp_frame2 [0, 5, 21, 22, 23, 24, 25, 26, 27, 28, 29, 30, 31, 32, 33, 34] [5040] [12034] [5040] (fun a : Nat × (List ByteArray) × Int => a.1) (fun a : Nat × (List ByteArray) × Int => [(0, .ar 5040), (5, .t (.sc (.int .i64 a.2.2)))]) (fun a : Nat × (List ByteArray) × Int => [(5040, .arr (a.2.1.map rS) 9 false)]) (fun a : Nat × (List ByteArray) × Int => a.1 ≤ fu ∧ m_spec_l6Free_f_l1 a.1 x2 a.2.1 a.2.2 = some r ∧ 0 ≤ a.2.2) (fu, x1, 0) ⟨Nat.le_refl _, hF3, by simp⟩ (by rfl) (by rfl) (fun _ => rfl) (hasF_cons (by conv => lhs; whnf) (by rfl) (hasF_cons (by conv => lhs; whnf) (by rfl) hasF_nil)) (hasO_cons (by conv => lhs; whnf) (by rfl) hasO_nil) (fresh_C hC rfl) (by repeat (first | exact freshS_args rfl | refine freshS_upd rfl ?_ | refine freshS_frame rfl ?_)) (by repeat (first | exact freshM_no | exact objs_fresh rfl | refine freshM_upd rfl ?_ | refine freshM_frame rfl ?_)) ?_
  clear hF3
  rintro ⟨fu, g12, g13⟩ ⟨hl14, hF4, hn_g13⟩
  dsimp only at hl14 hF4 hn_g13 ⊢
  obtain _ | fu := fu
  · rw [m_spec_l6Free_f_l1] at hF4; cases hF4
  rw [m_spec_l6Free_f_l1] at hF4
  refine awp_seq ?_
  refine awp_seq ?_
  refine awp_region ?_
  refine s_mv ?_
  refine s_fa yF29_6 ?_
  refine s_ld1 yA27 ?_
  refine s_lenT yU27 ?_
  refine s_lt ?_
  refine k_nil ?_
  refine k_seq ?_
  refine w_cond hF4 (fun hc15 hF5 => ?_) (fun hc15 hF5 => ?_) <;> clear hF4
  refine awp_lenT 23 (fun hb16 => ?_)
  refine awp_skip ?_
  refine k_seq ?_
  refine awp_seq ?_
  refine awp_block ?_
  refine awp_region ?_
  refine s_mv ?_
  refine s_fa yF29_6 ?_
  refine s_ld1 yA27 ?_
  refine s_mv ?_
  replace hF5 := bind_some' hF5
  obtain ⟨v17, hv17, hF6⟩ := hF5
  refine s_ixT Core.row hv17 (Core.row_eq _) yE27 ?_
  refine s_ldN yA29 yS29 ?_
  replace hF6 := bind_some' hF6
  obtain ⟨v18, hv18, hF7⟩ := hF6
  refine s_call [(9300, 5040), (9200, 12034)] [] _ _ (ih_m_spec_l6Free_f fu (by omega) _ _ _ hv18) ?_
  refine s_as ?_
  refine k_nil ?_
  refine k_blk ?_
  refine k_seq ?_
  refine awp_region ?_
  refine s_mv ?_
  refine s_add (winc2 hc15 hb16 hn_g13) ?_
  refine s_as ?_
  refine k_nil ?_
  exact s_rnd2 (fu, v18, (g13 + 1)) [(5040, 12034)] ⟨by first | omega | (dsimp only; omega), hF7, by first | omega | (dsimp only; omega)⟩ (hasR_cons (by conv => lhs; whnf) (by rfl) rfl (hasR_cons (by conv => lhs; whnf) (by rfl) rfl trivial)) (hasQ_cons (by conv => lhs; whnf) (by rfl) rfl trivial)
  refine awp_exit ?_
  refine k_seq_exit ?_
  refine k_rnd_exit2 ?_
  refine k_blk_exit ?_
  refine k_seq ?_
  refine awp_seq ?_
  refine awp_region ?_
  refine s_mv ?_
  refine s_as ?_
  refine k_nil ?_
  refine k_seq ?_
  refine awp_mv 4 5040 9200 (by conv => lhs; whnf) (by conv => lhs; whnf) rfl ?_
  refine awp_ret ?_
  refine k_fin ?_
  obtain rfl := Option.some.inj hF5
  exact ends_gen _ [] (by rw [Try.results22]; exact (res_tmp (by conv => lhs; whnf) res_nil))
  refine r_no rfl ?_
  refine r_no rfl ?_
  refine r_no rfl ?_
  refine r_no rfl ?_
  refine r_no rfl ?_
  refine s_pkf ?_
  refine k_nil ?_
  refine k_seq ?_
  refine awp_false rfl ?_
  refine awp_skip ?_
  refine k_seq ?_
  refine awp_seq ?_
  refine awp_seq ?_
  refine awp_region ?_
  refine s_as ?_
  refine k_nil ?_
  refine k_seq ?_
  refine awp_block ?_
  refine awp_mv 0 9300 5060 (by conv => lhs; whnf) (by conv => lhs; whnf) rfl ?_
  refine awp_frame2 [0, 5, 21, 22, 23, 24, 25, 26, 27, 28, 29, 30, 31, 32, 33, 34] [5060] [12034] [5060] (fun a : Nat × (List ByteArray) × Int => a.1) (fun a : Nat × (List ByteArray) × Int => [(0, .ar 5060), (5, .t (.sc (.int .i64 a.2.2)))]) (fun a : Nat × (List ByteArray) × Int => [(5060, .arr (a.2.1.map rS) 9 false)]) (fun a : Nat × (List ByteArray) × Int => a.1 ≤ fu ∧ m_spec_l6Free_f_l1 a.1 x2 a.2.1 a.2.2 = some r ∧ 0 ≤ a.2.2) (fu, x1, 0) ⟨Nat.le_refl _, hF1, by simp⟩ (by rfl) (by rfl) (fun _ => rfl) (hasF_cons (by conv => lhs; whnf) (by rfl) (hasF_cons (by conv => lhs; whnf) (by rfl) hasF_nil)) (hasO_cons (by conv => lhs; whnf) (by rfl) hasO_nil) (fresh_C hC rfl) (by repeat (first | exact freshS_args rfl | refine freshS_upd rfl ?_ | refine freshS_frame rfl ?_)) (by repeat (first | exact freshM_no | exact objs_fresh rfl | refine freshM_upd rfl ?_ | refine freshM_frame rfl ?_)) ?_
  clear hF1
  rintro ⟨fu, g19, g20⟩ ⟨hl21, hF2, hn_g20⟩
  dsimp only at hl21 hF2 hn_g20 ⊢
  obtain _ | fu := fu
  · rw [m_spec_l6Free_f_l1] at hF2; cases hF2
  rw [m_spec_l6Free_f_l1] at hF2
  refine awp_seq ?_
  refine awp_seq ?_
  refine awp_region ?_
  refine s_mv ?_
  refine s_fa yF29_6 ?_
  refine s_ld1 yA27 ?_
  refine s_lenT yU27 ?_
  refine s_lt ?_
  refine k_nil ?_
  refine k_seq ?_
  refine w_cond hF2 (fun hc22 hF3 => ?_) (fun hc22 hF3 => ?_) <;> clear hF2
  refine awp_lenT 23 (fun hb23 => ?_)
  refine awp_skip ?_
  refine k_seq ?_
  refine awp_seq ?_
  refine awp_block ?_
  refine awp_region ?_
  refine s_mv ?_
  refine s_fa yF29_6 ?_
  refine s_ld1 yA27 ?_
  refine s_mv ?_
  replace hF3 := bind_some' hF3
  obtain ⟨v24, hv24, hF4⟩ := hF3
  refine s_ixT Core.row hv24 (Core.row_eq _) yE27 ?_
  refine s_ldN yA29 yS29 ?_
  replace hF4 := bind_some' hF4
  obtain ⟨v25, hv25, hF5⟩ := hF4
  refine s_call [(9300, 5060), (9200, 12034)] [] _ _ (ih_m_spec_l6Free_f fu (by omega) _ _ _ hv25) ?_
  refine s_as ?_
  refine k_nil ?_
  refine k_blk ?_
  refine k_seq ?_
  refine awp_region ?_
  refine s_mv ?_
  refine s_add (winc2 hc22 hb23 hn_g20) ?_
  refine s_as ?_
  refine k_nil ?_
  exact s_rnd2 (fu, v25, (g20 + 1)) [(5060, 12034)] ⟨by first | omega | (dsimp only; omega), hF5, by first | omega | (dsimp only; omega)⟩ (hasR_cons (by conv => lhs; whnf) (by rfl) rfl (hasR_cons (by conv => lhs; whnf) (by rfl) rfl trivial)) (hasQ_cons (by conv => lhs; whnf) (by rfl) rfl trivial)
  refine awp_exit ?_
  refine k_seq_exit ?_
  refine k_rnd_exit2 ?_
  refine k_blk_exit ?_
  refine k_seq ?_
  refine awp_seq ?_
  refine awp_region ?_
  refine s_mv ?_
  refine s_as ?_
  refine k_nil ?_
  refine k_seq ?_
  refine awp_mv 4 5060 9200 (by conv => lhs; whnf) (by conv => lhs; whnf) rfl ?_
  refine awp_ret ?_
  refine k_fin ?_
  obtain rfl := Option.some.inj hF3
  exact ends_gen _ [] (by rw [Try.results22]; exact (res_tmp (by conv => lhs; whnf) res_nil))
theorem m_spec_l6Free_f_all (fuel : Nat) : m_spec_l6Free_f_AC fuel := by
  induction fuel using Nat.strongRecOn with
  | _ N ih =>
    cases N with
    | zero => exact (by intro x1 x2 r h; rw [m_spec_l6Free_f] at h; cases h)
    | succ fu => exact m_spec_l6Free_f_st fu (fun k hk => (ih k (by omega)))
theorem m_spec_l6Free_f_ok (fuel : Nat) : m_spec_l6Free_f_AC fuel := (m_spec_l6Free_f_all fuel)
def m_spec_l6Free_AC (fuel : Nat) : Prop := ∀ (x1 : (List ByteArray)) (x2 : Core) (r : (List ByteArray)), m_spec_l6Free fuel x1 x2 = some r → AC Try.prog 22 [.ar 9300, .ag [.t (.sc (.int .i64 x2.kind)), .t (.sc (.int .i64 x2.id)), .t (.sc (.str x2.name)), .t (.sc (.int .i64 x2.n)), .t (.sl (x2.ids.map rI)), .t (.sc (.int .i64 x2.data.kind)), .t (.sc (.str x2.data.name)), .t (.sc (.int .i64 x2.data.n)), .t (.sl (x2.data.scopes.map rI)), .t (.sl (x2.data.kids.map Form.row)), .t (.sl (x2.kids.map Core.row))]] (objs [(9300, .arr (x1.map rS) 9 true)]) (.ar 9200) (objs [(9300, .dead), (9200, .arr (r.map rS) 9 false)])
theorem m_spec_l6Free_ok (fuel : Nat) : m_spec_l6Free_AC fuel := by
  intro x1 x2 r hF0
  unfold m_spec_l6Free at hF0
  refine AC_intro (rs := [.ar 9200]) Try.func22 rfl (by kernel_rfl) (by simp [Try.ntmps22]) (keep_all rfl) ?_
  intro C hC
  rw [Try.ntmps22]
  refine awp_seq ?_
  refine awp_region ?_
  refine s_box ?_
  refine s_as ?_
  refine k_nil ?_
  refine k_seq ?_
  refine awp_seq ?_
  refine awp_seq ?_
  refine awp_region ?_
  refine s_fa yF29_0 ?_
  refine s_ld1 yA3 ?_
  refine s_eq ?_
  refine s_mv ?_
  refine w_guard _ 9 hF0 (fun hc1 hF1 => ?_) (fun hc1 hF1 => ?_) <;> clear hF0
  refine s_mv ?_
  refine s_fa yF29_2 ?_
  refine s_ld1 yA9 ?_
  replace hF1 := bind_some' hF1
  obtain ⟨v2, hv2, hF2⟩ := hF1
  refine s_pure [9300] (m_spec_l1In_ok fuel _ _ _ hv2) ?_
  refine s_not ?_
  refine s_pkt ?_
  refine k_nil ?_
  refine k_seq ?_
  refine w_cond hF2 (fun hc3 hF3 => ?_) (fun hc3 hF3 => ?_) <;> clear hF2
  refine awp_region ?_
  refine s_mv ?_
  refine s_fa yF29_2 ?_
  refine s_ld1 yA9 ?_
  refine s_bs rS [x2.name] yP31 yR9 ?_
  obtain ⟨hk4, hF4⟩ := chk_some hF3
  refine s_apF rS (fun _ => rfl) hk4 yP31 ?_
  refine s_as ?_
  refine k_nil ?_
  refine k_seq ?_
  refine awp_seq ?_
  refine awp_seq ?_
  refine awp_region ?_
  refine s_as ?_
  refine k_nil ?_
  refine k_seq ?_
  refine awp_block ?_
  refine awp_mv 0 20 5020 (by conv => lhs; whnf) (by conv => lhs; whnf) rfl ?_
  refine awp_frame2 [0, 5, 21, 22, 23, 24, 25, 26, 27, 28, 29, 30, 31, 32, 33, 34] [5020] [12034] [5020] (fun a : Nat × (List ByteArray) × Int => a.1) (fun a : Nat × (List ByteArray) × Int => [(0, .ar 5020), (5, .t (.sc (.int .i64 a.2.2)))]) (fun a : Nat × (List ByteArray) × Int => [(5020, .arr (a.2.1.map rS) 9 false)]) (fun a : Nat × (List ByteArray) × Int => a.1 ≤ fuel ∧ m_spec_l6Free_f_l1 a.1 x2 a.2.1 a.2.2 = some r ∧ 0 ≤ a.2.2) (fuel, (x1 ++ [x2.name]), 0) ⟨Nat.le_refl _, hF4, by simp⟩ (by rfl) (by rfl) (fun _ => rfl) (hasF_cons (by conv => lhs; whnf) (by rfl) (hasF_cons (by conv => lhs; whnf) (by rfl) hasF_nil)) (hasO_cons (by conv => lhs; whnf) (by rfl) hasO_nil) (fresh_C hC rfl) (by repeat (first | exact freshS_args rfl | refine freshS_upd rfl ?_ | refine freshS_frame rfl ?_)) (by repeat (first | exact freshM_no | exact objs_fresh rfl | refine freshM_upd rfl ?_ | refine freshM_frame rfl ?_)) ?_
  clear hF4
  rintro ⟨fu, g5, g6⟩ ⟨hl7, hF5, hn_g6⟩
  dsimp only at hl7 hF5 hn_g6 ⊢
  obtain _ | fu := fu
  · rw [m_spec_l6Free_f_l1] at hF5; cases hF5
  rw [m_spec_l6Free_f_l1] at hF5
  refine awp_seq ?_
  refine awp_seq ?_
  refine awp_region ?_
  refine s_mv ?_
  refine s_fa yF29_6 ?_
  refine s_ld1 yA27 ?_
  refine s_lenT yU27 ?_
  refine s_lt ?_
  refine k_nil ?_
  refine k_seq ?_
  refine w_cond hF5 (fun hc8 hF6 => ?_) (fun hc8 hF6 => ?_) <;> clear hF5
  refine awp_lenT 23 (fun hb9 => ?_)
  refine awp_skip ?_
  refine k_seq ?_
  refine awp_seq ?_
  refine awp_block ?_
  refine awp_region ?_
  refine s_mv ?_
  refine s_fa yF29_6 ?_
  refine s_ld1 yA27 ?_
  refine s_mv ?_
  replace hF6 := bind_some' hF6
  obtain ⟨v10, hv10, hF7⟩ := hF6
  refine s_ixT Core.row hv10 (Core.row_eq _) yE27 ?_
  refine s_ldN yA29 yS29 ?_
  replace hF7 := bind_some' hF7
  obtain ⟨v11, hv11, hF8⟩ := hF7
  refine s_call [(9300, 5020), (9200, 12034)] [] _ _ (m_spec_l6Free_f_ok fu _ _ _ hv11) ?_
  refine s_as ?_
  refine k_nil ?_
  refine k_blk ?_
  refine k_seq ?_
  refine awp_region ?_
  refine s_mv ?_
  refine s_add (winc2 hc8 hb9 hn_g6) ?_
  refine s_as ?_
  refine k_nil ?_
  exact s_rnd2 (fu, v11, (g6 + 1)) [(5020, 12034)] ⟨by first | omega | (dsimp only; omega), hF8, by first | omega | (dsimp only; omega)⟩ (hasR_cons (by conv => lhs; whnf) (by rfl) rfl (hasR_cons (by conv => lhs; whnf) (by rfl) rfl trivial)) (hasQ_cons (by conv => lhs; whnf) (by rfl) rfl trivial)
  refine awp_exit ?_
  refine k_seq_exit ?_
  refine k_rnd_exit2 ?_
  refine k_blk_exit ?_
  refine k_seq ?_
  refine awp_seq ?_
  refine awp_region ?_
  refine s_mv ?_
  refine s_as ?_
  refine k_nil ?_
  refine k_seq ?_
  refine awp_mv 4 5020 9200 (by conv => lhs; whnf) (by conv => lhs; whnf) rfl ?_
  refine awp_kill 9300 rfl ?_
  refine awp_ret ?_
  refine k_fin ?_
  obtain rfl := Option.some.inj hF6
  exact ends_gen _ [] (by rw [Try.results22]; exact (res_tmp (by conv => lhs; whnf) res_nil))
  refine awp_skip ?_
  refine k_seq ?_
  refine awp_seq ?_
  refine awp_seq ?_
  refine awp_region ?_
  refine s_as ?_
  refine k_nil ?_
  refine k_seq ?_
  refine awp_block ?_
  refine awp_mv 0 9300 5040 (by conv => lhs; whnf) (by conv => lhs; whnf) rfl ?_
  refine awp_frame2 [0, 5, 21, 22, 23, 24, 25, 26, 27, 28, 29, 30, 31, 32, 33, 34] [5040] [12034] [5040] (fun a : Nat × (List ByteArray) × Int => a.1) (fun a : Nat × (List ByteArray) × Int => [(0, .ar 5040), (5, .t (.sc (.int .i64 a.2.2)))]) (fun a : Nat × (List ByteArray) × Int => [(5040, .arr (a.2.1.map rS) 9 false)]) (fun a : Nat × (List ByteArray) × Int => a.1 ≤ fuel ∧ m_spec_l6Free_f_l1 a.1 x2 a.2.1 a.2.2 = some r ∧ 0 ≤ a.2.2) (fuel, x1, 0) ⟨Nat.le_refl _, hF3, by simp⟩ (by rfl) (by rfl) (fun _ => rfl) (hasF_cons (by conv => lhs; whnf) (by rfl) (hasF_cons (by conv => lhs; whnf) (by rfl) hasF_nil)) (hasO_cons (by conv => lhs; whnf) (by rfl) hasO_nil) (fresh_C hC rfl) (by repeat (first | exact freshS_args rfl | refine freshS_upd rfl ?_ | refine freshS_frame rfl ?_)) (by repeat (first | exact freshM_no | exact objs_fresh rfl | refine freshM_upd rfl ?_ | refine freshM_frame rfl ?_)) ?_
  clear hF3
  rintro ⟨fu, g12, g13⟩ ⟨hl14, hF4, hn_g13⟩
  dsimp only at hl14 hF4 hn_g13 ⊢
  obtain _ | fu := fu
  · rw [m_spec_l6Free_f_l1] at hF4; cases hF4
  rw [m_spec_l6Free_f_l1] at hF4
  refine awp_seq ?_
  refine awp_seq ?_
  refine awp_region ?_
  refine s_mv ?_
  refine s_fa yF29_6 ?_
  refine s_ld1 yA27 ?_
  refine s_lenT yU27 ?_
  refine s_lt ?_
  refine k_nil ?_
  refine k_seq ?_
  refine w_cond hF4 (fun hc15 hF5 => ?_) (fun hc15 hF5 => ?_) <;> clear hF4
  refine awp_lenT 23 (fun hb16 => ?_)
  refine awp_skip ?_
  refine k_seq ?_
  refine awp_seq ?_
  refine awp_block ?_
  refine awp_region ?_
  refine s_mv ?_
  refine s_fa yF29_6 ?_
  refine s_ld1 yA27 ?_
  refine s_mv ?_
  replace hF5 := bind_some' hF5
  obtain ⟨v17, hv17, hF6⟩ := hF5
  refine s_ixT Core.row hv17 (Core.row_eq _) yE27 ?_
  refine s_ldN yA29 yS29 ?_
  replace hF6 := bind_some' hF6
  obtain ⟨v18, hv18, hF7⟩ := hF6
  refine s_call [(9300, 5040), (9200, 12034)] [] _ _ (m_spec_l6Free_f_ok fu _ _ _ hv18) ?_
  refine s_as ?_
  refine k_nil ?_
  refine k_blk ?_
  refine k_seq ?_
  refine awp_region ?_
  refine s_mv ?_
  refine s_add (winc2 hc15 hb16 hn_g13) ?_
  refine s_as ?_
  refine k_nil ?_
  exact s_rnd2 (fu, v18, (g13 + 1)) [(5040, 12034)] ⟨by first | omega | (dsimp only; omega), hF7, by first | omega | (dsimp only; omega)⟩ (hasR_cons (by conv => lhs; whnf) (by rfl) rfl (hasR_cons (by conv => lhs; whnf) (by rfl) rfl trivial)) (hasQ_cons (by conv => lhs; whnf) (by rfl) rfl trivial)
  refine awp_exit ?_
  refine k_seq_exit ?_
  refine k_rnd_exit2 ?_
  refine k_blk_exit ?_
  refine k_seq ?_
  refine awp_seq ?_
  refine awp_region ?_
  refine s_mv ?_
  refine s_as ?_
  refine k_nil ?_
  refine k_seq ?_
  refine awp_mv 4 5040 9200 (by conv => lhs; whnf) (by conv => lhs; whnf) rfl ?_
  refine awp_ret ?_
  refine k_fin ?_
  obtain rfl := Option.some.inj hF5
  exact ends_gen _ [] (by rw [Try.results22]; exact (res_tmp (by conv => lhs; whnf) res_nil))
  refine r_no rfl ?_
  refine r_no rfl ?_
  refine r_no rfl ?_
  refine r_no rfl ?_
  refine r_no rfl ?_
  refine s_pkf ?_
  refine k_nil ?_
  refine k_seq ?_
  refine awp_false rfl ?_
  refine awp_skip ?_
  refine k_seq ?_
  refine awp_seq ?_
  refine awp_seq ?_
  refine awp_region ?_
  refine s_as ?_
  refine k_nil ?_
  refine k_seq ?_
  refine awp_block ?_
  refine awp_mv 0 9300 5060 (by conv => lhs; whnf) (by conv => lhs; whnf) rfl ?_
  refine awp_frz 5060 (by conv => lhs; whnf) ?_
  refine awp_frame2 [0, 5, 21, 22, 23, 24, 25, 26, 27, 28, 29, 30, 31, 32, 33, 34] [5060] [12034] [5060] (fun a : Nat × (List ByteArray) × Int => a.1) (fun a : Nat × (List ByteArray) × Int => [(0, .ar 5060), (5, .t (.sc (.int .i64 a.2.2)))]) (fun a : Nat × (List ByteArray) × Int => [(5060, .arr (a.2.1.map rS) 9 false)]) (fun a : Nat × (List ByteArray) × Int => a.1 ≤ fuel ∧ m_spec_l6Free_f_l1 a.1 x2 a.2.1 a.2.2 = some r ∧ 0 ≤ a.2.2) (fuel, x1, 0) ⟨Nat.le_refl _, hF1, by simp⟩ (by rfl) (by rfl) (fun _ => rfl) (hasF_cons (by conv => lhs; whnf) (by rfl) (hasF_cons (by conv => lhs; whnf) (by rfl) hasF_nil)) (hasO_cons (by conv => lhs; whnf) (by rfl) hasO_nil) (fresh_C hC rfl) (by repeat (first | exact freshS_args rfl | refine freshS_upd rfl ?_ | refine freshS_frame rfl ?_)) (by repeat (first | exact freshM_no | exact objs_fresh rfl | refine freshM_upd rfl ?_ | refine freshM_frame rfl ?_)) ?_
  clear hF1
  rintro ⟨fu, g19, g20⟩ ⟨hl21, hF2, hn_g20⟩
  dsimp only at hl21 hF2 hn_g20 ⊢
  obtain _ | fu := fu
  · rw [m_spec_l6Free_f_l1] at hF2; cases hF2
  rw [m_spec_l6Free_f_l1] at hF2
  refine awp_seq ?_
  refine awp_seq ?_
  refine awp_region ?_
  refine s_mv ?_
  refine s_fa yF29_6 ?_
  refine s_ld1 yA27 ?_
  refine s_lenT yU27 ?_
  refine s_lt ?_
  refine k_nil ?_
  refine k_seq ?_
  refine w_cond hF2 (fun hc22 hF3 => ?_) (fun hc22 hF3 => ?_) <;> clear hF2
  refine awp_lenT 23 (fun hb23 => ?_)
  refine awp_skip ?_
  refine k_seq ?_
  refine awp_seq ?_
  refine awp_block ?_
  refine awp_region ?_
  refine s_mv ?_
  refine s_fa yF29_6 ?_
  refine s_ld1 yA27 ?_
  refine s_mv ?_
  replace hF3 := bind_some' hF3
  obtain ⟨v24, hv24, hF4⟩ := hF3
  refine s_ixT Core.row hv24 (Core.row_eq _) yE27 ?_
  refine s_ldN yA29 yS29 ?_
  replace hF4 := bind_some' hF4
  obtain ⟨v25, hv25, hF5⟩ := hF4
  refine s_call [(9300, 5060), (9200, 12034)] [] _ _ (m_spec_l6Free_f_ok fu _ _ _ hv25) ?_
  refine s_as ?_
  refine k_nil ?_
  refine k_blk ?_
  refine k_seq ?_
  refine awp_region ?_
  refine s_mv ?_
  refine s_add (winc2 hc22 hb23 hn_g20) ?_
  refine s_as ?_
  refine k_nil ?_
  exact s_rnd2 (fu, v25, (g20 + 1)) [(5060, 12034)] ⟨by first | omega | (dsimp only; omega), hF5, by first | omega | (dsimp only; omega)⟩ (hasR_cons (by conv => lhs; whnf) (by rfl) rfl (hasR_cons (by conv => lhs; whnf) (by rfl) rfl trivial)) (hasQ_cons (by conv => lhs; whnf) (by rfl) rfl trivial)
  refine awp_exit ?_
  refine k_seq_exit ?_
  refine k_rnd_exit2 ?_
  refine k_blk_exit ?_
  refine k_seq ?_
  refine awp_seq ?_
  refine awp_region ?_
  refine s_mv ?_
  refine s_as ?_
  refine k_nil ?_
  refine k_seq ?_
  refine awp_mv 4 5060 9200 (by conv => lhs; whnf) (by conv => lhs; whnf) rfl ?_
  refine awp_ret ?_
  refine k_fin ?_
  obtain rfl := Option.some.inj hF3
  exact ends_gen _ [] (by rw [Try.results22]; exact (res_tmp (by conv => lhs; whnf) res_nil))
def m_spec_FreeOf_AC (fuel : Nat) : Prop := ∀ (x1 : Core) (r : (List ByteArray)), m_spec_FreeOf fuel x1 = some r → AC Try.prog 10 [.ag [.t (.sc (.int .i64 x1.kind)), .t (.sc (.int .i64 x1.id)), .t (.sc (.str x1.name)), .t (.sc (.int .i64 x1.n)), .t (.sl (x1.ids.map rI)), .t (.sc (.int .i64 x1.data.kind)), .t (.sc (.str x1.data.name)), .t (.sc (.int .i64 x1.data.n)), .t (.sl (x1.data.scopes.map rI)), .t (.sl (x1.data.kids.map Form.row)), .t (.sl (x1.kids.map Core.row))]] noOb (.t (.sl (r.map rS))) noOb
theorem m_spec_FreeOf_ok (fuel : Nat) : m_spec_FreeOf_AC fuel := by
  intro x1 r hF0
  unfold m_spec_FreeOf at hF0
  refine AC_intro (rs := [.t (.sl (r.map rS))]) Try.func10 rfl (by kernel_rfl) (by simp [Try.ntmps10]) (by simp [noOb]) ?_
  intro C hC
  rw [Try.ntmps10]
  refine awp_seq ?_
  refine awp_region ?_
  refine s_box ?_
  refine s_as ?_
  refine k_nil ?_
  refine k_seq ?_
  refine awp_seq ?_
  refine awp_region ?_
  refine s_bs rS ([] : List ByteArray) yP31 yR9 ?_
  refine s_ldW yA29 yS29 ?_
  replace hF0 := bind_some' hF0
  obtain ⟨v1, hv1, hF1⟩ := hF0
  refine s_call [(9300, 3), (9200, 12005)] [] _ _ (m_spec_l6Free_ok fuel _ _ _ hv1) ?_
  refine s_as ?_
  refine k_nil ?_
  refine k_seq ?_
  refine awp_ret ?_
  refine k_fin ?_
  obtain rfl := Option.some.inj hF1
  exact ends_gen [] [12005] (by rw [Try.results10]; exact (res_tmp (by conv => lhs; whnf) res_nil))
def m_laws_mxTexts_AC (fuel : Nat) : Prop := ∀ (x1 : (List ByteArray)) (x2 : (List ByteArray)) (r : Bool), m_laws_mxTexts fuel x1 x2 = some r → AC Try.prog 9 [.t (.sl (x1.map rS)), .t (.sl (x2.map rS))] noOb (.t (.sc (.bool r))) noOb
theorem m_laws_mxTexts_ok (fuel : Nat) : m_laws_mxTexts_AC fuel := by
  intro x1 x2 r hF0
  unfold m_laws_mxTexts at hF0
  refine AC_intro (rs := [.t (.sc (.bool r))]) Try.func9 rfl (by kernel_rfl) (by simp [Try.ntmps9]) (by simp [noOb]) ?_
  intro C hC
  rw [Try.ntmps9]
  refine awp_seq ?_
  refine awp_region ?_
  refine s_as ?_
  refine k_nil ?_
  refine k_seq ?_
  refine awp_seq ?_
  refine awp_seq ?_
  refine awp_region ?_
  refine s_mv ?_
  refine s_lenT yU31 ?_
  refine s_mv ?_
  refine s_lenT yU31 ?_
  refine s_ne ?_
  refine k_nil ?_
  refine k_seq ?_
  refine w_cond hF0 (fun hc1 hF1 => ?_) (fun hc1 hF1 => ?_) <;> clear hF0
  refine awp_seq ?_
  refine awp_region ?_
  refine s_as ?_
  refine k_nil ?_
  refine k_seq ?_
  refine awp_ret ?_
  refine k_seq_ret ?_
  refine k_fin ?_
  obtain rfl := Option.some.inj hF1
  exact ends_gen [] [] (by rw [Try.results9]; exact (res_tmp (by conv => lhs; whnf) res_nil))
  refine awp_skip ?_
  refine k_seq ?_
  refine awp_seq ?_
  refine awp_seq ?_
  refine awp_region ?_
  refine s_as ?_
  refine k_nil ?_
  refine k_seq ?_
  refine awp_block ?_
  refine awp_frame2 [4, 5, 11, 12, 13, 14, 15, 16, 17, 18, 19, 20, 21, 22, 23, 24, 25] [] [] [] (fun a : Nat × Int => a.1) (fun a : Nat × Int => [(4, .t (.sc (.bool false))), (5, .t (.sc (.int .i64 a.2)))]) (fun a : Nat × Int => []) (fun a : Nat × Int => a.1 ≤ fuel ∧ m_laws_mxTexts_l1 a.1 x1 x2 a.2 = some r ∧ 0 ≤ a.2) (fuel, 0) ⟨Nat.le_refl _, hF1, by simp⟩ (by rfl) (by rfl) (fun _ => rfl) (hasF_cons (by conv => lhs; whnf) (by rfl) (hasF_cons (by conv => lhs; whnf) (by rfl) hasF_nil)) hasO_nil (fun _ h => by cases h) freshS_nil freshM_nil ?_
  clear hF1
  rintro ⟨fu, g2⟩ ⟨hl3, hF2, hn_g2⟩
  dsimp only at hl3 hF2 hn_g2 ⊢
  obtain _ | fu := fu
  · rw [m_laws_mxTexts_l1] at hF2; cases hF2
  rw [m_laws_mxTexts_l1] at hF2
  refine awp_seq ?_
  refine awp_seq ?_
  refine awp_region ?_
  refine s_mv ?_
  refine s_mv ?_
  refine s_lenT yU31 ?_
  refine s_lt ?_
  refine k_nil ?_
  refine k_seq ?_
  refine w_cond hF2 (fun hc4 hF3 => ?_) (fun hc4 hF3 => ?_) <;> clear hF2
  refine awp_lenT 0 (fun hb5 => ?_)
  refine awp_skip ?_
  refine k_seq ?_
  refine awp_seq ?_
  refine awp_block ?_
  refine awp_seq ?_
  refine awp_draw yMix (by kernel_rfl) ?_
  refine s_mv ?_
  refine s_mv ?_
  replace hF3 := bind_some' hF3
  obtain ⟨v6, hv6, hF4⟩ := hF3
  refine s_ixT rS hv6 rfl yE31 ?_
  refine s_ld1 yA9 ?_
  refine s_mv ?_
  refine s_mv ?_
  replace hF4 := bind_some' hF4
  obtain ⟨v7, hv7, hF5⟩ := hF4
  refine s_ixT rS hv7 rfl yE31 ?_
  refine s_ld1 yA9 ?_
  refine s_neS ?_
  refine k_nilD (by kernel_rfl) ?_
  refine k_seq ?_
  refine w_cond hF5 (fun hc8 hF6 => ?_) (fun hc8 hF6 => ?_) <;> clear hF5
  refine awp_seq ?_
  refine awp_region ?_
  refine s_as ?_
  refine k_nil ?_
  refine k_seq ?_
  refine awp_ret ?_
  refine k_blk_ret ?_
  refine k_seq_ret ?_
  refine k_rnd_ret2 ?_
  refine k_blk_ret ?_
  refine k_seq_ret ?_
  refine k_fin ?_
  obtain rfl := Option.some.inj hF6
  exact ends_gen [] [] (by rw [Try.results9]; exact (res_tmp (by conv => lhs; whnf) res_nil))
  refine awp_skip ?_
  refine k_blk ?_
  refine k_seq ?_
  refine awp_region ?_
  refine s_mv ?_
  refine s_add (winc2 hc4 hb5 hn_g2) ?_
  refine s_as ?_
  refine k_nil ?_
  exact s_rnd2 (fu, (g2 + 1)) [] ⟨by first | omega | (dsimp only; omega), hF6, by first | omega | (dsimp only; omega)⟩ (hasR_cons (by conv => lhs; whnf) (by rfl) rfl (hasR_cons (by conv => lhs; whnf) (by rfl) rfl trivial)) trivial
  refine awp_exit ?_
  refine k_seq_exit ?_
  refine k_rnd_exit2 ?_
  refine k_blk_exit ?_
  refine k_seq ?_
  refine awp_seq ?_
  refine awp_region ?_
  refine s_as ?_
  refine k_nil ?_
  refine k_seq ?_
  refine awp_ret ?_
  refine k_fin ?_
  obtain rfl := Option.some.inj hF3
  exact ends_gen [] [] (by rw [Try.results9]; exact (res_tmp (by conv => lhs; whnf) res_nil))
def m_laws_mxName_AC (fuel : Nat) : Prop := ∀ (x1 : (List ByteArray)) (x2 : ByteArray) (r : Bool), m_laws_mxName fuel x1 x2 = some r → AC Try.prog 14 [.t (.sl (x1.map rS)), .t (.sc (.str x2))] noOb (.t (.sc (.bool r))) noOb
theorem m_laws_mxName_ok (fuel : Nat) : m_laws_mxName_AC fuel := by
  intro x1 x2 r hF0
  unfold m_laws_mxName at hF0
  refine AC_intro (rs := [.t (.sc (.bool r))]) Try.func14 rfl (by kernel_rfl) (by simp [Try.ntmps14]) (by simp [noOb]) ?_
  intro C hC
  rw [Try.ntmps14]
  refine awp_seq ?_
  refine awp_region ?_
  refine s_as ?_
  refine k_nil ?_
  refine k_seq ?_
  refine awp_seq ?_
  refine awp_seq ?_
  refine awp_region ?_
  refine s_as ?_
  refine k_nil ?_
  refine k_seq ?_
  refine awp_block ?_
  refine awp_frame2 [4, 5, 6, 7, 8, 9, 10, 11, 12, 13, 14, 15, 16, 17] [] [] [] (fun a : Nat × Int => a.1) (fun a : Nat × Int => [(4, .t (.sc (.bool false))), (5, .t (.sc (.int .i64 a.2)))]) (fun a : Nat × Int => []) (fun a : Nat × Int => a.1 ≤ fuel ∧ m_laws_mxName_l1 a.1 x1 x2 a.2 = some r ∧ 0 ≤ a.2) (fuel, 0) ⟨Nat.le_refl _, hF0, by simp⟩ (by rfl) (by rfl) (fun _ => rfl) (hasF_cons (by conv => lhs; whnf) (by rfl) (hasF_cons (by conv => lhs; whnf) (by rfl) hasF_nil)) hasO_nil (fun _ h => by cases h) freshS_nil freshM_nil ?_
  clear hF0
  rintro ⟨fu, g1⟩ ⟨hl2, hF1, hn_g1⟩
  dsimp only at hl2 hF1 hn_g1 ⊢
  obtain _ | fu := fu
  · rw [m_laws_mxName_l1] at hF1; cases hF1
  rw [m_laws_mxName_l1] at hF1
  refine awp_seq ?_
  refine awp_seq ?_
  refine awp_region ?_
  refine s_mv ?_
  refine s_mv ?_
  refine s_lenT yU31 ?_
  refine s_lt ?_
  refine k_nil ?_
  refine k_seq ?_
  refine w_cond hF1 (fun hc3 hF2 => ?_) (fun hc3 hF2 => ?_) <;> clear hF1
  refine awp_lenT 0 (fun hb4 => ?_)
  refine awp_skip ?_
  refine k_seq ?_
  refine awp_seq ?_
  refine awp_block ?_
  refine awp_seq ?_
  refine awp_region ?_
  refine s_mv ?_
  refine s_mv ?_
  replace hF2 := bind_some' hF2
  obtain ⟨v5, hv5, hF3⟩ := hF2
  refine s_ixT rS hv5 rfl yE31 ?_
  refine s_ld1 yA9 ?_
  refine s_mv ?_
  refine s_eqS ?_
  refine k_nil ?_
  refine k_seq ?_
  refine w_cond hF3 (fun hc6 hF4 => ?_) (fun hc6 hF4 => ?_) <;> clear hF3
  refine awp_seq ?_
  refine awp_region ?_
  refine s_as ?_
  refine k_nil ?_
  refine k_seq ?_
  refine awp_ret ?_
  refine k_blk_ret ?_
  refine k_seq_ret ?_
  refine k_rnd_ret2 ?_
  refine k_blk_ret ?_
  refine k_seq_ret ?_
  refine k_fin ?_
  obtain rfl := Option.some.inj hF4
  exact ends_gen [] [] (by rw [Try.results14]; exact (res_tmp (by conv => lhs; whnf) res_nil))
  refine awp_skip ?_
  refine k_blk ?_
  refine k_seq ?_
  refine awp_region ?_
  refine s_mv ?_
  refine s_add (winc2 hc3 hb4 hn_g1) ?_
  refine s_as ?_
  refine k_nil ?_
  exact s_rnd2 (fu, (g1 + 1)) [] ⟨by first | omega | (dsimp only; omega), hF4, by first | omega | (dsimp only; omega)⟩ (hasR_cons (by conv => lhs; whnf) (by rfl) rfl (hasR_cons (by conv => lhs; whnf) (by rfl) rfl trivial)) trivial
  refine awp_exit ?_
  refine k_seq_exit ?_
  refine k_rnd_exit2 ?_
  refine k_blk_exit ?_
  refine k_seq ?_
  refine awp_seq ?_
  refine awp_region ?_
  refine s_as ?_
  refine k_nil ?_
  refine k_seq ?_
  refine awp_ret ?_
  refine k_fin ?_
  obtain rfl := Option.some.inj hF2
  exact ends_gen [] [] (by rw [Try.results14]; exact (res_tmp (by conv => lhs; whnf) res_nil))
def m_laws_FnCoreParts_AC (fuel : Nat) : Prop := ∀ (x1 : (List Int)) (r : Bool), m_laws_FnCoreParts fuel x1 = some r → AC Try.prog 4 [.t (.sl (x1.map rB))] noOb (.t (.sc (.bool r))) noOb
theorem m_laws_FnCoreParts_ok (fuel : Nat) : m_laws_FnCoreParts_AC fuel := by
  intro x1 r hF0
  unfold m_laws_FnCoreParts at hF0
  refine AC_intro (rs := [.t (.sc (.bool r))]) Try.func4 rfl (by kernel_rfl) (by simp [Try.ntmps4]) (by simp [noOb]) ?_
  intro C hC
  rw [Try.ntmps4]
  refine awp_seq ?_
  refine awp_region ?_
  refine s_as ?_
  refine k_nil ?_
  refine k_seq ?_
  refine awp_seq ?_
  refine awp_seq ?_
  refine awp_region ?_
  refine s_mv ?_
  refine s_lenT yU22 ?_
  refine s_gt ?_
  refine k_nil ?_
  refine k_seq ?_
  refine w_cond hF0 (fun hc1 hF1 => ?_) (fun hc1 hF1 => ?_) <;> clear hF0
  refine awp_lenT 0 (fun hb2 => ?_)
  refine awp_seq ?_
  refine awp_region ?_
  refine s_as ?_
  refine k_nil ?_
  refine k_seq ?_
  refine awp_ret ?_
  refine k_seq_ret ?_
  refine k_fin ?_
  obtain rfl := Option.some.inj hF1
  exact ends_gen [] [] (by rw [Try.results4]; exact (res_tmp (by conv => lhs; whnf) res_nil))
  refine awp_skip ?_
  refine k_seq ?_
  refine awp_seq ?_
  refine awp_region ?_
  refine s_mv ?_
  replace hF1 := bind_some' hF1
  obtain ⟨v3, hv3, hF2⟩ := hF1
  refine s_pure [] (m_spec_DrawCoreSize_ok fuel _ _ hv3) ?_
  refine s_alloc yZ29 ?_
  refine s_stW yS29 ?_
  refine k_nil ?_
  refine k_seq ?_
  refine awp_seq ?_
  refine awp_region ?_
  refine s_ldW yA29 yS29 ?_
  replace hF2 := bind_some' hF2
  obtain ⟨v4, hv4, hF3⟩ := hF2
  refine s_pure [] (m_impl_CoreSize_ok fuel _ _ hv4) ?_
  refine s_as ?_
  refine k_nil ?_
  refine k_seq ?_
  refine awp_seq ?_
  refine awp_seq ?_
  refine awp_draw yMix (by kernel_rfl) ?_
  refine s_mv ?_
  refine s_ldW yA29 yS29 ?_
  replace hF3 := bind_some' hF3
  obtain ⟨v5, hv5, hF4⟩ := hF3
  refine s_pure [] (m_spec_CoreSize_ok fuel _ _ hv5) ?_
  refine s_ne ?_
  refine s_mv ?_
  refine w_guard _ 20 hF4 (fun hc6 hF5 => ?_) (fun hc6 hF5 => ?_) <;> clear hF4
  refine r_no rfl ?_
  refine r_no rfl ?_
  refine r_no rfl ?_
  refine r_no rfl ?_
  refine r_no rfl ?_
  refine r_no rfl ?_
  refine s_pkt ?_
  refine k_nilD (by kernel_rfl) ?_
  refine k_seq ?_
  refine awp_true rfl ?_
  refine awp_seq ?_
  refine awp_region ?_
  refine s_as ?_
  refine k_nil ?_
  refine k_seq ?_
  refine awp_ret ?_
  refine k_seq_ret ?_
  refine k_fin ?_
  obtain rfl := Option.some.inj hF5
  exact ends_gen [] [] (by rw [Try.results4]; exact (res_tmp (by conv => lhs; whnf) res_nil))
  refine s_ldW yA29 yS29 ?_
  replace hF5 := bind_some' hF5
  obtain ⟨v7, hv7, hF6⟩ := hF5
  refine s_pure [] (m_impl_FreeOf_ok fuel _ _ hv7) ?_
  refine s_ldW yA29 yS29 ?_
  replace hF6 := bind_some' hF6
  obtain ⟨v8, hv8, hF7⟩ := hF6
  refine s_pure [] (m_spec_FreeOf_ok fuel _ _ hv8) ?_
  replace hF7 := bind_some' hF7
  obtain ⟨v9, hv9, hF8⟩ := hF7
  refine s_pure [] (m_laws_mxTexts_ok fuel _ _ _ hv9) ?_
  refine s_not ?_
  refine s_pkf ?_
  refine k_nilD (by kernel_rfl) ?_
  refine k_seq ?_
  refine w_cond hF8 (fun hc10 hF9 => ?_) (fun hc10 hF9 => ?_) <;> clear hF8
  refine awp_seq ?_
  refine awp_region ?_
  refine s_as ?_
  refine k_nil ?_
  refine k_seq ?_
  refine awp_ret ?_
  refine k_seq_ret ?_
  refine k_fin ?_
  obtain rfl := Option.some.inj hF9
  exact ends_gen [] [] (by rw [Try.results4]; exact (res_tmp (by conv => lhs; whnf) res_nil))
  refine awp_skip ?_
  refine k_seq ?_
  refine awp_seq ?_
  refine awp_region ?_
  refine s_as ?_
  refine k_nil ?_
  refine k_seq ?_
  refine awp_seq ?_
  refine awp_seq ?_
  refine awp_region ?_
  refine s_as ?_
  refine k_nil ?_
  refine k_seq ?_
  refine awp_block ?_
  refine awp_frame2 [2, 5, 6, 7, 8, 28, 29, 30, 31, 32, 33, 34, 35, 36, 37, 38, 39, 40, 41, 42, 43, 44, 45, 46, 47, 48, 49, 50, 51, 52, 53, 54, 55, 56, 57, 58, 59, 60, 61, 62] [] [] [] (fun a : Nat × Int × Int => a.1) (fun a : Nat × Int × Int => [(2, .t (.sc (.bool false))), (5, .t (.sc (.int .i64 a.2.1))), (6, .t (.sc (.int .i64 a.2.2)))]) (fun a : Nat × Int × Int => []) (fun a : Nat × Int × Int => a.1 ≤ fuel ∧ m_laws_FnCoreParts_l1 a.1 v3 v4 a.2.1 a.2.2 = some r) (fuel, 1, 0) ⟨Nat.le_refl _, hF9⟩ (by rfl) (by rfl) (fun _ => rfl) (hasF_cons (by conv => lhs; whnf) (by rfl) (hasF_cons (by conv => lhs; whnf) (by rfl) (hasF_cons (by conv => lhs; whnf) (by rfl) hasF_nil))) hasO_nil (fun _ h => by cases h) freshS_nil freshM_nil ?_
  clear hF9
  rintro ⟨fu, g11, g12⟩ ⟨hl13, hF10⟩
  dsimp only at hl13 hF10 ⊢
  obtain _ | fu := fu
  · rw [m_laws_FnCoreParts_l1] at hF10; cases hF10
  rw [m_laws_FnCoreParts_l1] at hF10
  refine awp_seq ?_
  refine awp_seq ?_
  refine awp_region ?_
  refine s_mv ?_
  refine s_fa yF29_6 ?_
  refine s_ld1 yA27 ?_
  refine s_lenT yU27 ?_
  refine s_lt ?_
  refine k_nil ?_
  refine k_seq ?_
  refine w_cond hF10 (fun hc14 hF11 => ?_) (fun hc14 hF11 => ?_) <;> clear hF10
  refine awp_lenT 30 (fun hb15 => ?_)
  refine awp_skip ?_
  refine k_seq ?_
  refine awp_seq ?_
  refine awp_block ?_
  refine awp_seq ?_
  refine awp_region ?_
  refine s_mv ?_
  refine s_fa yF29_6 ?_
  refine s_ld1 yA27 ?_
  refine s_mv ?_
  replace hF11 := bind_some' hF11
  obtain ⟨v16, hv16, hF12⟩ := hF11
  refine s_ixT Core.row hv16 (Core.row_eq _) yE27 ?_
  refine s_ldN yA29 yS29 ?_
  replace hF12 := bind_some' hF12
  obtain ⟨v17, hv17, hF13⟩ := hF12
  refine s_pure [] (m_impl_CoreSize_ok fu _ _ hv17) ?_
  refine s_add rfl ?_
  refine s_as ?_
  refine k_nil ?_
  refine k_seq ?_
  refine awp_seq ?_
  refine awp_region ?_
  refine s_fa yF29_6 ?_
  refine s_ld1 yA27 ?_
  refine s_mv ?_
  replace hF13 := bind_some' hF13
  obtain ⟨v18, hv18, hF14⟩ := hF13
  refine s_ixT Core.row hv18 (Core.row_eq _) yE27 ?_
  refine s_ldN yA29 yS29 ?_
  replace hF14 := bind_some' hF14
  obtain ⟨v19, hv19, hF15⟩ := hF14
  refine s_pure [] (m_impl_FreeOf_ok fu _ _ hv19) ?_
  refine s_as ?_
  refine k_nil ?_
  refine k_seq ?_
  refine awp_seq ?_
  refine awp_region ?_
  refine s_as ?_
  refine k_nil ?_
  refine k_seq ?_
  refine awp_block ?_
  refine awp_frame2 [2, 8, 49, 50, 51, 52, 53, 54, 55, 56, 57, 58, 59, 60, 61, 62] [] [] [] (fun a : Nat × Int => a.1) (fun a : Nat × Int => [(2, .t (.sc (.bool false))), (8, .t (.sc (.int .i64 a.2)))]) (fun a : Nat × Int => []) (fun a : Nat × Int => a.1 ≤ fu ∧ m_laws_FnCoreParts_l2 a.1 v3 v4 g11 g12 v17 v19 a.2 = some r ∧ 0 ≤ a.2) (fu, 0) ⟨Nat.le_refl _, hF15, by simp⟩ (by rfl) (by rfl) (fun _ => rfl) (hasF_cons (by conv => lhs; whnf) (by rfl) (hasF_cons (by conv => lhs; whnf) (by rfl) hasF_nil)) hasO_nil (fun _ h => by cases h) freshS_nil freshM_nil ?_
  clear hF15
  rintro ⟨fu, g20⟩ ⟨hl21, hF16, hn_g20⟩
  dsimp only at hl21 hF16 hn_g20 ⊢
  obtain _ | fu := fu
  · rw [m_laws_FnCoreParts_l2] at hF16; cases hF16
  rw [m_laws_FnCoreParts_l2] at hF16
  refine awp_seq ?_
  refine awp_seq ?_
  refine awp_region ?_
  refine s_mv ?_
  refine s_mv ?_
  refine s_lenT yU31 ?_
  refine s_lt ?_
  refine k_nil ?_
  refine k_seq ?_
  refine w_cond hF16 (fun hc22 hF17 => ?_) (fun hc22 hF17 => ?_) <;> clear hF16
  refine awp_lenT 7 (fun hb23 => ?_)
  refine awp_skip ?_
  refine k_seq ?_
  refine awp_seq ?_
  refine awp_block ?_
  refine awp_seq ?_
  refine awp_draw yMix (by kernel_rfl) ?_
  refine s_ldW yA29 yS29 ?_
  replace hF17 := bind_some' hF17
  obtain ⟨v24, hv24, hF18⟩ := hF17
  refine s_pure [] (m_impl_FreeOf_ok fu _ _ hv24) ?_
  refine s_mv ?_
  refine s_mv ?_
  replace hF18 := bind_some' hF18
  obtain ⟨v25, hv25, hF19⟩ := hF18
  refine s_ixT rS hv25 rfl yE31 ?_
  refine s_ld1 yA9 ?_
  replace hF19 := bind_some' hF19
  obtain ⟨v26, hv26, hF20⟩ := hF19
  refine s_pure [] (m_laws_mxName_ok fu _ _ _ hv26) ?_
  refine s_not ?_
  refine k_nilD (by kernel_rfl) ?_
  refine k_seq ?_
  refine w_cond hF20 (fun hc27 hF21 => ?_) (fun hc27 hF21 => ?_) <;> clear hF20
  refine awp_seq ?_
  refine awp_region ?_
  refine s_as ?_
  refine k_nil ?_
  refine k_seq ?_
  refine awp_ret ?_
  refine k_blk_ret ?_
  refine k_seq_ret ?_
  refine k_rnd_ret2 ?_
  refine k_blk_ret ?_
  refine k_blk_ret ?_
  refine k_seq_ret ?_
  refine k_rnd_ret2 ?_
  refine k_blk_ret ?_
  refine k_seq_ret ?_
  refine k_fin ?_
  obtain rfl := Option.some.inj hF21
  exact ends_gen [] [] (by rw [Try.results4]; exact (res_tmp (by conv => lhs; whnf) res_nil))
  refine awp_skip ?_
  refine k_blk ?_
  refine k_seq ?_
  refine awp_region ?_
  refine s_mv ?_
  refine s_add (winc2 hc22 hb23 hn_g20) ?_
  refine s_as ?_
  refine k_nil ?_
  exact s_rnd2 (fu, (g20 + 1)) [] ⟨by first | omega | (dsimp only; omega), hF21, by first | omega | (dsimp only; omega)⟩ (hasR_cons (by conv => lhs; whnf) (by rfl) rfl (hasR_cons (by conv => lhs; whnf) (by rfl) rfl trivial)) trivial
  refine awp_exit ?_
  refine k_seq_exit ?_
  refine k_rnd_exit2 ?_
  refine k_blk_exit ?_
  refine k_blk ?_
  refine k_seq ?_
  refine awp_region ?_
  refine s_mv ?_
  refine s_add rfl ?_
  refine s_as ?_
  refine k_nil ?_
  exact s_rnd2 (fu, (w64 (g11 + v17)), (w64 (g12 + 1))) [] ⟨by first | omega | (dsimp only; omega), hF17⟩ (hasR_cons (by conv => lhs; whnf) (by rfl) rfl (hasR_cons (by conv => lhs; whnf) (by rfl) rfl (hasR_cons (by conv => lhs; whnf) (by rfl) rfl trivial))) trivial
  refine awp_exit ?_
  refine k_seq_exit ?_
  refine k_rnd_exit2 ?_
  refine k_blk_exit ?_
  refine k_seq ?_
  refine awp_seq ?_
  refine awp_region ?_
  refine s_mv ?_
  refine s_mv ?_
  refine s_eq ?_
  refine s_as ?_
  refine k_nil ?_
  refine k_seq ?_
  refine awp_ret ?_
  refine k_fin ?_
  obtain rfl := Option.some.inj hF11
  exact ends_gen [] [] (by rw [Try.results4]; exact (res_tmp (by conv => lhs; whnf) res_nil))
def m_spec_DrawFreeOf_AC (fuel : Nat) : Prop := ∀ (x1 : (List Int)) (r : Core), m_spec_DrawFreeOf fuel x1 = some r → AC Try.prog 7 [.t (.sl (x1.map rB))] noOb (.ag [.t (.sc (.int .i64 r.kind)), .t (.sc (.int .i64 r.id)), .t (.sc (.str r.name)), .t (.sc (.int .i64 r.n)), .t (.sl (r.ids.map rI)), .t (.sc (.int .i64 r.data.kind)), .t (.sc (.str r.data.name)), .t (.sc (.int .i64 r.data.n)), .t (.sl (r.data.scopes.map rI)), .t (.sl (r.data.kids.map Form.row)), .t (.sl (r.kids.map Core.row))]) noOb
theorem m_spec_DrawFreeOf_ok (fuel : Nat) : m_spec_DrawFreeOf_AC fuel := by
  intro x1 r hF0
  unfold m_spec_DrawFreeOf at hF0
  refine AC_intro (rs := [.ag [.t (.sc (.int .i64 r.kind)), .t (.sc (.int .i64 r.id)), .t (.sc (.str r.name)), .t (.sc (.int .i64 r.n)), .t (.sl (r.ids.map rI)), .t (.sc (.int .i64 r.data.kind)), .t (.sc (.str r.data.name)), .t (.sc (.int .i64 r.data.n)), .t (.sl (r.data.scopes.map rI)), .t (.sl (r.data.kids.map Form.row)), .t (.sl (r.kids.map Core.row))]]) Try.func7 rfl (by kernel_rfl) (by simp [Try.ntmps7]) (by simp [noOb]) ?_
  intro C hC
  rw [Try.ntmps7]
  refine awp_seq ?_
  refine awp_region ?_
  refine s_alloc yZ29 ?_
  refine k_nil ?_
  refine k_seq ?_
  refine awp_seq ?_
  refine awp_region ?_
  refine s_mv ?_
  replace hF0 := bind_some' hF0
  obtain ⟨v1, hv1, hF1⟩ := hF0
  refine s_pure [] (m_spec_l6Draw_ok fuel _ _ hv1) ?_
  refine s_stW yS29 ?_
  refine k_nil ?_
  refine k_seq ?_
  refine awp_ret ?_
  refine k_fin ?_
  obtain rfl := Option.some.inj hF1
  exact ends_gen [] [] (by rw [Try.results7]; exact (res_agg (by conv => lhs; whnf) (by conv => lhs; whnf) yA29 yS29 rfl res_nil))
def m_laws_FnFreeOf_AC (fuel : Nat) : Prop := ∀ (x1 : (List Int)) (r : Bool), m_laws_FnFreeOf fuel x1 = some r → AC Try.prog 3 [.t (.sl (x1.map rB))] noOb (.t (.sc (.bool r))) noOb
theorem m_laws_FnFreeOf_ok (fuel : Nat) : m_laws_FnFreeOf_AC fuel := by
  intro x1 r hF0
  unfold m_laws_FnFreeOf at hF0
  refine AC_intro (rs := [.t (.sc (.bool r))]) Try.func3 rfl (by kernel_rfl) (by simp [Try.ntmps3]) (by simp [noOb]) ?_
  intro C hC
  rw [Try.ntmps3]
  refine awp_seq ?_
  refine awp_region ?_
  refine s_as ?_
  refine k_nil ?_
  refine k_seq ?_
  refine awp_seq ?_
  refine awp_seq ?_
  refine awp_region ?_
  refine s_mv ?_
  refine s_lenT yU22 ?_
  refine s_gt ?_
  refine k_nil ?_
  refine k_seq ?_
  refine w_cond hF0 (fun hc1 hF1 => ?_) (fun hc1 hF1 => ?_) <;> clear hF0
  refine awp_lenT 0 (fun hb2 => ?_)
  refine awp_seq ?_
  refine awp_region ?_
  refine s_as ?_
  refine k_nil ?_
  refine k_seq ?_
  refine awp_ret ?_
  refine k_seq_ret ?_
  refine k_fin ?_
  obtain rfl := Option.some.inj hF1
  exact ends_gen [] [] (by rw [Try.results3]; exact (res_tmp (by conv => lhs; whnf) res_nil))
  refine awp_skip ?_
  refine k_seq ?_
  refine awp_seq ?_
  refine awp_region ?_
  refine s_mv ?_
  replace hF1 := bind_some' hF1
  obtain ⟨v3, hv3, hF2⟩ := hF1
  refine s_pure [] (m_spec_DrawFreeOf_ok fuel _ _ hv3) ?_
  refine s_alloc yZ29 ?_
  refine s_stW yS29 ?_
  refine k_nil ?_
  refine k_seq ?_
  refine awp_seq ?_
  refine awp_region ?_
  refine s_ldW yA29 yS29 ?_
  replace hF2 := bind_some' hF2
  obtain ⟨v4, hv4, hF3⟩ := hF2
  refine s_pure [] (m_impl_FreeOf_ok fuel _ _ hv4) ?_
  refine s_as ?_
  refine k_nil ?_
  refine k_seq ?_
  refine awp_seq ?_
  refine awp_seq ?_
  refine awp_region ?_
  refine s_mv ?_
  refine s_ldW yA29 yS29 ?_
  replace hF3 := bind_some' hF3
  obtain ⟨v5, hv5, hF4⟩ := hF3
  refine s_pure [] (m_spec_FreeOf_ok fuel _ _ hv5) ?_
  replace hF4 := bind_some' hF4
  obtain ⟨v6, hv6, hF5⟩ := hF4
  refine s_pure [] (m_laws_mxTexts_ok fuel _ _ _ hv6) ?_
  refine s_not ?_
  refine k_nil ?_
  refine k_seq ?_
  refine w_cond hF5 (fun hc7 hF6 => ?_) (fun hc7 hF6 => ?_) <;> clear hF5
  refine awp_seq ?_
  refine awp_region ?_
  refine s_as ?_
  refine k_nil ?_
  refine k_seq ?_
  refine awp_ret ?_
  refine k_seq_ret ?_
  refine k_fin ?_
  obtain rfl := Option.some.inj hF6
  exact ends_gen [] [] (by rw [Try.results3]; exact (res_tmp (by conv => lhs; whnf) res_nil))
  refine awp_skip ?_
  refine k_seq ?_
  refine awp_seq ?_
  refine awp_seq ?_
  refine awp_region ?_
  refine s_as ?_
  refine k_nil ?_
  refine k_seq ?_
  refine awp_block ?_
  refine awp_frame2 [2, 5, 6, 19, 20, 21, 22, 23, 24, 25, 26, 27, 28, 29, 30, 31, 32, 33, 34, 35, 36, 37, 38] [] [] [] (fun a : Nat × Int => a.1) (fun a : Nat × Int => [(2, .t (.sc (.bool false))), (5, .t (.sc (.int .i64 a.2)))]) (fun a : Nat × Int => []) (fun a : Nat × Int => a.1 ≤ fuel ∧ m_laws_FnFreeOf_l1 a.1 v3 v4 a.2 = some r) (fuel, 0) ⟨Nat.le_refl _, hF6⟩ (by rfl) (by rfl) (fun _ => rfl) (hasF_cons (by conv => lhs; whnf) (by rfl) (hasF_cons (by conv => lhs; whnf) (by rfl) hasF_nil)) hasO_nil (fun _ h => by cases h) freshS_nil freshM_nil ?_
  clear hF6
  rintro ⟨fu, g8⟩ ⟨hl9, hF7⟩
  dsimp only at hl9 hF7 ⊢
  obtain _ | fu := fu
  · rw [m_laws_FnFreeOf_l1] at hF7; cases hF7
  rw [m_laws_FnFreeOf_l1] at hF7
  refine awp_seq ?_
  refine awp_seq ?_
  refine awp_region ?_
  refine s_mv ?_
  refine s_mv ?_
  refine s_lenT yU31 ?_
  refine s_lt ?_
  refine k_nil ?_
  refine k_seq ?_
  refine w_cond hF7 (fun hc10 hF8 => ?_) (fun hc10 hF8 => ?_) <;> clear hF7
  refine awp_lenT 4 (fun hb11 => ?_)
  refine awp_skip ?_
  refine k_seq ?_
  refine awp_seq ?_
  refine awp_block ?_
  refine awp_seq ?_
  refine awp_region ?_
  refine s_as ?_
  refine k_nil ?_
  refine k_seq ?_
  refine awp_block ?_
  refine awp_frame2 [2, 6, 25, 26, 27, 28, 29, 30, 31, 32, 33, 34, 35, 36, 37, 38] [] [] [] (fun a : Nat × Int => a.1) (fun a : Nat × Int => [(2, .t (.sc (.bool false))), (6, .t (.sc (.int .i64 a.2)))]) (fun a : Nat × Int => []) (fun a : Nat × Int => a.1 ≤ fu ∧ m_laws_FnFreeOf_l2 a.1 v3 v4 g8 a.2 = some r) (fu, 0) ⟨Nat.le_refl _, hF8⟩ (by rfl) (by rfl) (fun _ => rfl) (hasF_cons (by conv => lhs; whnf) (by rfl) (hasF_cons (by conv => lhs; whnf) (by rfl) hasF_nil)) hasO_nil (fun _ h => by cases h) freshS_nil freshM_nil ?_
  clear hF8
  rintro ⟨fu, g12⟩ ⟨hl13, hF9⟩
  dsimp only at hl13 hF9 ⊢
  obtain _ | fu := fu
  · rw [m_laws_FnFreeOf_l2] at hF9; cases hF9
  rw [m_laws_FnFreeOf_l2] at hF9
  refine awp_seq ?_
  refine awp_seq ?_
  refine awp_region ?_
  refine s_mv ?_
  refine s_mv ?_
  refine s_lt ?_
  refine k_nil ?_
  refine k_seq ?_
  refine w_cond hF9 (fun hc14 hF10 => ?_) (fun hc14 hF10 => ?_) <;> clear hF9
  refine awp_skip ?_
  refine k_seq ?_
  refine awp_seq ?_
  refine awp_block ?_
  refine awp_seq ?_
  refine awp_draw yMix (by kernel_rfl) ?_
  refine s_mv ?_
  refine s_mv ?_
  replace hF10 := bind_some' hF10
  obtain ⟨v15, hv15, hF11⟩ := hF10
  refine s_ixT rS hv15 rfl yE31 ?_
  refine s_ld1 yA9 ?_
  refine s_mv ?_
  refine s_mv ?_
  replace hF11 := bind_some' hF11
  obtain ⟨v16, hv16, hF12⟩ := hF11
  refine s_ixT rS hv16 rfl yE31 ?_
  refine s_ld1 yA9 ?_
  refine s_eqS ?_
  refine k_nilD (by kernel_rfl) ?_
  refine k_seq ?_
  refine w_cond hF12 (fun hc17 hF13 => ?_) (fun hc17 hF13 => ?_) <;> clear hF12
  refine awp_seq ?_
  refine awp_region ?_
  refine s_as ?_
  refine k_nil ?_
  refine k_seq ?_
  refine awp_ret ?_
  refine k_blk_ret ?_
  refine k_seq_ret ?_
  refine k_rnd_ret2 ?_
  refine k_blk_ret ?_
  refine k_blk_ret ?_
  refine k_seq_ret ?_
  refine k_rnd_ret2 ?_
  refine k_blk_ret ?_
  refine k_seq_ret ?_
  refine k_fin ?_
  obtain rfl := Option.some.inj hF13
  exact ends_gen [] [] (by rw [Try.results3]; exact (res_tmp (by conv => lhs; whnf) res_nil))
  refine awp_skip ?_
  refine k_blk ?_
  refine k_seq ?_
  refine awp_region ?_
  refine s_mv ?_
  refine s_add rfl ?_
  refine s_as ?_
  refine k_nil ?_
  exact s_rnd2 (fu, (w64 (g12 + 1))) [] ⟨by first | omega | (dsimp only; omega), hF13⟩ (hasR_cons (by conv => lhs; whnf) (by rfl) rfl (hasR_cons (by conv => lhs; whnf) (by rfl) rfl trivial)) trivial
  refine awp_exit ?_
  refine k_seq_exit ?_
  refine k_rnd_exit2 ?_
  refine k_blk_exit ?_
  refine k_blk ?_
  refine k_seq ?_
  refine awp_region ?_
  refine s_mv ?_
  refine s_add rfl ?_
  refine s_as ?_
  refine k_nil ?_
  exact s_rnd2 (fu, (w64 (g8 + 1))) [] ⟨by first | omega | (dsimp only; omega), hF10⟩ (hasR_cons (by conv => lhs; whnf) (by rfl) rfl (hasR_cons (by conv => lhs; whnf) (by rfl) rfl trivial)) trivial
  refine awp_exit ?_
  refine k_seq_exit ?_
  refine k_rnd_exit2 ?_
  refine k_blk_exit ?_
  refine k_seq ?_
  refine awp_seq ?_
  refine awp_draw yMix (by kernel_rfl) ?_
  refine s_fa yF29_0 ?_
  refine s_ld1 yA3 ?_
  refine s_ne ?_
  refine s_mv ?_
  refine w_guard _ 42 hF8 (fun hc18 hF9 => ?_) (fun hc18 hF9 => ?_) <;> clear hF8
  refine r_no rfl ?_
  refine r_no rfl ?_
  refine r_no rfl ?_
  refine r_no rfl ?_
  refine r_no rfl ?_
  refine r_no rfl ?_
  refine r_no rfl ?_
  refine r_no rfl ?_
  refine r_no rfl ?_
  refine r_no rfl ?_
  refine r_no rfl ?_
  refine s_pkt ?_
  refine s_as ?_
  refine k_nilD (by kernel_rfl) ?_
  refine k_seq ?_
  refine awp_ret ?_
  refine k_fin ?_
  obtain rfl := Option.some.inj hF9
  exact ends_gen [] [] (by rw [Try.results3]; exact (res_tmp (by conv => lhs; whnf) res_nil))
  refine s_mv ?_
  refine s_lenT yU31 ?_
  refine s_eq ?_
  refine s_mv ?_
  refine w_guard _ 46 hF9 (fun hc19 hF10 => ?_) (fun hc19 hF10 => ?_) <;> clear hF9
  refine s_mv ?_
  replace hF10 := bind_some' hF10
  obtain ⟨v20, hv20, hF11⟩ := hF10
  refine s_ixT rS hv20 rfl yE31 ?_
  refine s_ld1 yA9 ?_
  refine s_fa yF29_2 ?_
  refine s_ld1 yA9 ?_
  refine s_eqS ?_
  refine s_pkt ?_
  refine s_pkf ?_
  refine s_as ?_
  refine k_nilD (by kernel_rfl) ?_
  refine k_seq ?_
  refine awp_ret ?_
  refine k_fin ?_
  obtain rfl := Option.some.inj hF11
  exact ends_gen [] [] (by rw [Try.results3]; exact (res_tmp (by conv => lhs; whnf) res_nil))
  refine r_no rfl ?_
  refine r_no rfl ?_
  refine r_no rfl ?_
  refine r_no rfl ?_
  refine r_no rfl ?_
  refine r_no rfl ?_
  refine s_pkf ?_
  refine s_pkf ?_
  refine s_as ?_
  refine k_nilD (by kernel_rfl) ?_
  refine k_seq ?_
  refine awp_ret ?_
  refine k_fin ?_
  obtain rfl := Option.some.inj hF10
  exact ends_gen [] [] (by rw [Try.results3]; exact (res_tmp (by conv => lhs; whnf) res_nil))
end Go.Abs
