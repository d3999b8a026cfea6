/- A part of the proof: what the functions that the law calls answer, as pure values. -/
import Derived.Test.YtgicgbokgmmgdaaHf5
import Derived.Test.YtgicgbokgmmgdaaProg
set_option linter.unusedSimpArgs false
set_option linter.unusedVariables false
section
set_option maxRecDepth 100000
set_option maxHeartbeats 4000000
set_option linter.unusedVariables false
namespace Go.Abs
open Go.Proofs
theorem yA9 : aggOf Try.prog 9 = some false := by kernel_rfl
theorem yU9 : Try.prog.underlying 9 = some .string := by kernel_rfl
theorem yA22 : aggOf Try.prog 22 = some false := by kernel_rfl
theorem yU22 : Try.prog.underlying 22 = some (.slice 3) := by kernel_rfl
theorem yZ32 : zcells Try.prog 32 = some [.t (.sc (.int .i64 0)), .t (.sc (.str ⟨#[]⟩)), .t (.sc (.int .i64 0)), .nl, .nl] := by kernel_rfl
theorem yA3 : aggOf Try.prog 3 = some false := by kernel_rfl
theorem yF32_0 : fldOf Try.prog 32 0 = some (0, 3) := by kernel_rfl
theorem yS3 : szOf Try.prog 3 = some 1 := by kernel_rfl
theorem yF32_1 : fldOf Try.prog 32 1 = some (1, 9) := by kernel_rfl
theorem yS9 : szOf Try.prog 9 = some 1 := by kernel_rfl
theorem yF32_2 : fldOf Try.prog 32 2 = some (2, 3) := by kernel_rfl
theorem yP22 : apOf Try.prog 22 = some (3, 8, 1) := by kernel_rfl
theorem yR3 : zrow Try.prog 3 = some [(.sc (.int .i64 0))] := by kernel_rfl
theorem yE22 : elOf Try.prog 22 = some (3, 1) := by kernel_rfl
theorem yF32_3 : fldOf Try.prog 32 3 = some (3, 22) := by kernel_rfl
theorem yS22 : szOf Try.prog 22 = some 1 := by kernel_rfl
theorem yP30 : apOf Try.prog 30 = some (32, 80, 5) := by kernel_rfl
theorem yR32 : zrow Try.prog 32 = some [(.sc (.int .i64 0)), (.sc (.str ⟨#[]⟩)), (.sc (.int .i64 0)), .sl [], .sl []] := by kernel_rfl
theorem yE30 : elOf Try.prog 30 = some (32, 5) := by kernel_rfl
theorem yS32 : szOf Try.prog 32 = some 5 := by kernel_rfl
theorem yF32_4 : fldOf Try.prog 32 4 = some (4, 30) := by kernel_rfl
theorem yS30 : szOf Try.prog 30 = some 1 := by kernel_rfl
theorem yA32 : aggOf Try.prog 32 = some true := by kernel_rfl
theorem yP34 : apOf Try.prog 34 = some (65, 192, 12) := by kernel_rfl
theorem yR65 : zrow Try.prog 65 = some [(.sc (.int .i64 0)), (.sc (.str ⟨#[]⟩)), (.sc (.int .i64 0)), .sl [], .sl [], (.sc (.int .i64 0)), (.sc (.int .i64 0)), (.sc (.str ⟨#[]⟩)), (.sc (.int .i64 0)), .sl [], .sl [], .sl []] := by kernel_rfl
theorem yZ65 : zcells Try.prog 65 = some [.t (.sc (.int .i64 0)), .t (.sc (.str ⟨#[]⟩)), .t (.sc (.int .i64 0)), .nl, .nl, .t (.sc (.int .i64 0)), .t (.sc (.int .i64 0)), .t (.sc (.str ⟨#[]⟩)), .t (.sc (.int .i64 0)), .nl, .nl, .nl] := by kernel_rfl
theorem yF65_0 : fldOf Try.prog 65 0 = some (0, 32) := by kernel_rfl
theorem yF65_1 : fldOf Try.prog 65 1 = some (5, 3) := by kernel_rfl
theorem yF65_2 : fldOf Try.prog 65 2 = some (6, 32) := by kernel_rfl
theorem yF65_3 : fldOf Try.prog 65 3 = some (11, 34) := by kernel_rfl
theorem yS34 : szOf Try.prog 34 = some 1 := by kernel_rfl
theorem yA65 : aggOf Try.prog 65 = some true := by kernel_rfl
theorem yS65 : szOf Try.prog 65 = some 12 := by kernel_rfl
theorem yE34 : elOf Try.prog 34 = some (65, 12) := by kernel_rfl
theorem yMix : Try.prog.follows .mixedOrders = true := by kernel_rfl
theorem yA30 : aggOf Try.prog 30 = some false := by kernel_rfl
theorem yU30 : Try.prog.underlying 30 = some (.slice 32) := by kernel_rfl
theorem yU34 : Try.prog.underlying 34 = some (.slice 65) := by kernel_rfl
theorem yA34 : aggOf Try.prog 34 = some false := by kernel_rfl
theorem yL32 : placesOf Try.prog 32 = some [(0, 1), (1, 1), (2, 1), (3, 1), (4, 1)] := by kernel_rfl
theorem yL65 : placesOf Try.prog 65 = some [(0, 5), (5, 1), (6, 5), (11, 1)] := by kernel_rfl
theorem yZ3 : zcells Try.prog 3 = some [.t (.sc (.int .i64 0))] := by kernel_rfl
theorem yU4 : Try.prog.underlying 4 = some .bool := by kernel_rfl
theorem yU51 : Try.prog.underlying 51 = some (.slice 5) := by kernel_rfl
theorem yE51 : elOf Try.prog 51 = some (5, 1) := by kernel_rfl
theorem yZ125 : zcells Try.prog 125 = some [.nl, .t (.sc (.int .i64 0))] := by kernel_rfl
theorem yL125 : placesOf Try.prog 125 = some [(0, 1), (1, 1)] := by kernel_rfl
theorem yP95 : apOf Try.prog 95 = some (9, 16, 1) := by kernel_rfl
theorem yR9 : zrow Try.prog 9 = some [(.sc (.str ⟨#[]⟩))] := by kernel_rfl
theorem yP122 : apOf Try.prog 122 = some (95, 24, 1) := by kernel_rfl
theorem yR95 : zrow Try.prog 95 = some [.sl []] := by kernel_rfl
theorem yU122 : Try.prog.underlying 122 = some (.slice 95) := by kernel_rfl
theorem yF125_1 : fldOf Try.prog 125 1 = some (1, 3) := by kernel_rfl
theorem yF125_0 : fldOf Try.prog 125 0 = some (0, 51) := by kernel_rfl
theorem yA51 : aggOf Try.prog 51 = some false := by kernel_rfl
theorem yA5 : aggOf Try.prog 5 = some false := by kernel_rfl
theorem yU5 : Try.prog.underlying 5 = some (.int .u8) := by kernel_rfl
theorem yU3 : Try.prog.underlying 3 = some (.int .i64) := by kernel_rfl
theorem yE122 : elOf Try.prog 122 = some (95, 1) := by kernel_rfl
theorem yA95 : aggOf Try.prog 95 = some false := by kernel_rfl
theorem yE95 : elOf Try.prog 95 = some (9, 1) := by kernel_rfl
theorem yU95 : Try.prog.underlying 95 = some (.slice 9) := by kernel_rfl
theorem yI32 : ∃ x, Try.prog.info? 32 = some x := Option.isSome_iff_exists.mp (by kernel_rfl : (Try.prog.info? 32).isSome = true)
theorem yP148 : apOf Try.prog 148 = some (22, 24, 1) := by kernel_rfl
theorem yR22 : zrow Try.prog 22 = some [.sl []] := by kernel_rfl
theorem yU148 : Try.prog.underlying 148 = some (.slice 22) := by kernel_rfl
theorem yE148 : elOf Try.prog 148 = some (22, 1) := by kernel_rfl
theorem yP135 : apOf Try.prog 135 = some (155, 48, 3) := by kernel_rfl
theorem yR155 : zrow Try.prog 155 = some [(.sc (.str ⟨#[]⟩)), .sl [], (.sc (.int .i64 0))] := by kernel_rfl
theorem yZ155 : zcells Try.prog 155 = some [.t (.sc (.str ⟨#[]⟩)), .nl, .t (.sc (.int .i64 0))] := by kernel_rfl
theorem yL155 : placesOf Try.prog 155 = some [(0, 1), (1, 1), (2, 1)] := by kernel_rfl
theorem yU135 : Try.prog.underlying 135 = some (.slice 155) := by kernel_rfl
theorem yE135 : elOf Try.prog 135 = some (155, 3) := by kernel_rfl
theorem yF155_0 : fldOf Try.prog 155 0 = some (0, 9) := by kernel_rfl
theorem yF155_1 : fldOf Try.prog 155 1 = some (1, 22) := by kernel_rfl
theorem yF155_2 : fldOf Try.prog 155 2 = some (2, 3) := by kernel_rfl
theorem yP168 : apOf Try.prog 168 = some (34, 24, 1) := by kernel_rfl
theorem yR34 : zrow Try.prog 34 = some [.sl []] := by kernel_rfl
theorem yU168 : Try.prog.underlying 168 = some (.slice 34) := by kernel_rfl
theorem yE168 : elOf Try.prog 168 = some (34, 1) := by kernel_rfl
theorem yI65 : ∃ x, Try.prog.info? 65 = some x := Option.isSome_iff_exists.mp (by kernel_rfl : (Try.prog.info? 65).isSome = true)
end Go.Abs
end
section
set_option maxRecDepth 100000
set_option maxHeartbeats 4000000
set_option linter.unusedVariables false
namespace Go.Abs
open Go.Proofs
def m_spec_l1Letter_AC (fuel : Nat) : Prop := ∀ (x1 : Int) (x2 : Bool) (r : Bool), m_spec_l1Letter fuel x1 x2 = some r → AC Try.prog 149 [.t (.sc (.int .u8 x1)), .t (.sc (.bool x2))] noOb (.t (.sc (.bool r))) noOb
theorem m_spec_l1Letter_ok (fuel : Nat) : m_spec_l1Letter_AC fuel := by
  intro x1 x2 r hF0
  unfold m_spec_l1Letter at hF0
  refine AC_intro (rs := [.t (.sc (.bool r))]) Try.func149 rfl (by kernel_rfl) (by simp [Try.ntmps149]) (by simp [noOb]) ?_
  intro C hC
  rw [Try.ntmps149]
  refine awp_seq ?_
  refine awp_region ?_
  refine s_as ?_
  refine k_nil ?_
  refine k_seq ?_
  refine awp_seq ?_
  refine awp_seq ?_
  refine awp_region ?_
  refine s_mv ?_
  refine s_ge ?_
  refine s_mv ?_
  refine w_guard _ 7 hF0 (fun hc1 hF1 => ?_) (fun hc1 hF1 => ?_) <;> clear hF0
  refine s_mv ?_
  refine s_le ?_
  refine s_pkt ?_
  refine s_mv ?_
  refine w_guard _ 11 hF1 (fun hc2 hF2 => ?_) (fun hc2 hF2 => ?_) <;> clear hF1
  refine r_no rfl ?_
  refine r_no rfl ?_
  refine s_pkt ?_
  refine s_mv ?_
  refine r_no rfl ?_
  refine r_no rfl ?_
  refine s_pkt ?_
  refine s_mv ?_
  refine r_no rfl ?_
  refine r_no rfl ?_
  refine s_pkt ?_
  refine s_mv ?_
  refine r_no rfl ?_
  refine r_no rfl ?_
  refine s_pkt ?_
  refine s_mv ?_
  refine r_no rfl ?_
  refine r_no rfl ?_
  refine s_pkt ?_
  refine k_nil ?_
  refine k_seq ?_
  refine awp_true rfl ?_
  refine awp_seq ?_
  refine awp_region ?_
  refine s_as ?_
  refine k_nil ?_
  refine k_seq ?_
  refine awp_ret ?_
  refine k_seq_ret ?_
  refine k_fin ?_
  obtain rfl := Option.some.inj hF2
  exact ends_gen [] [] (by rw [Try.results149]; exact (res_tmp (by conv => lhs; whnf) res_nil))
  refine s_mv ?_
  refine s_eq ?_
  refine s_pkf ?_
  refine s_mv ?_
  refine w_guard _ 15 hF2 (fun hc3 hF3 => ?_) (fun hc3 hF3 => ?_) <;> clear hF2
  refine r_no rfl ?_
  refine r_no rfl ?_
  refine s_pkt ?_
  refine s_mv ?_
  refine r_no rfl ?_
  refine r_no rfl ?_
  refine s_pkt ?_
  refine s_mv ?_
  refine r_no rfl ?_
  refine r_no rfl ?_
  refine s_pkt ?_
  refine s_mv ?_
  refine r_no rfl ?_
  refine r_no rfl ?_
  refine s_pkt ?_
  refine k_nil ?_
  refine k_seq ?_
  refine awp_true rfl ?_
  refine awp_seq ?_
  refine awp_region ?_
  refine s_as ?_
  refine k_nil ?_
  refine k_seq ?_
  refine awp_ret ?_
  refine k_seq_ret ?_
  refine k_fin ?_
  obtain rfl := Option.some.inj hF3
  exact ends_gen [] [] (by rw [Try.results149]; exact (res_tmp (by conv => lhs; whnf) res_nil))
  refine s_mv ?_
  refine s_eq ?_
  refine s_pkf ?_
  refine s_mv ?_
  refine w_guard _ 19 hF3 (fun hc4 hF4 => ?_) (fun hc4 hF4 => ?_) <;> clear hF3
  refine r_no rfl ?_
  refine r_no rfl ?_
  refine s_pkt ?_
  refine s_mv ?_
  refine r_no rfl ?_
  refine r_no rfl ?_
  refine s_pkt ?_
  refine s_mv ?_
  refine r_no rfl ?_
  refine r_no rfl ?_
  refine s_pkt ?_
  refine k_nil ?_
  refine k_seq ?_
  refine awp_true rfl ?_
  refine awp_seq ?_
  refine awp_region ?_
  refine s_as ?_
  refine k_nil ?_
  refine k_seq ?_
  refine awp_ret ?_
  refine k_seq_ret ?_
  refine k_fin ?_
  obtain rfl := Option.some.inj hF4
  exact ends_gen [] [] (by rw [Try.results149]; exact (res_tmp (by conv => lhs; whnf) res_nil))
  refine s_mv ?_
  refine s_eq ?_
  refine s_pkf ?_
  refine s_mv ?_
  refine w_guard _ 23 hF4 (fun hc5 hF5 => ?_) (fun hc5 hF5 => ?_) <;> clear hF4
  refine r_no rfl ?_
  refine r_no rfl ?_
  refine s_pkt ?_
  refine s_mv ?_
  refine r_no rfl ?_
  refine r_no rfl ?_
  refine s_pkt ?_
  refine k_nil ?_
  refine k_seq ?_
  refine awp_true rfl ?_
  refine awp_seq ?_
  refine awp_region ?_
  refine s_as ?_
  refine k_nil ?_
  refine k_seq ?_
  refine awp_ret ?_
  refine k_seq_ret ?_
  refine k_fin ?_
  obtain rfl := Option.some.inj hF5
  exact ends_gen [] [] (by rw [Try.results149]; exact (res_tmp (by conv => lhs; whnf) res_nil))
  refine s_mv ?_
  refine s_eq ?_
  refine s_pkf ?_
  refine s_mv ?_
  refine w_guard _ 27 hF5 (fun hc6 hF6 => ?_) (fun hc6 hF6 => ?_) <;> clear hF5
  refine r_no rfl ?_
  refine r_no rfl ?_
  refine s_pkt ?_
  refine k_nil ?_
  refine k_seq ?_
  refine awp_true rfl ?_
  refine awp_seq ?_
  refine awp_region ?_
  refine s_as ?_
  refine k_nil ?_
  refine k_seq ?_
  refine awp_ret ?_
  refine k_seq_ret ?_
  refine k_fin ?_
  obtain rfl := Option.some.inj hF6
  exact ends_gen [] [] (by rw [Try.results149]; exact (res_tmp (by conv => lhs; whnf) res_nil))
  refine s_mv ?_
  refine s_eq ?_
  refine s_pkf ?_
  refine k_nil ?_
  refine k_seq ?_
  refine w_cond hF6 (fun hc7 hF7 => ?_) (fun hc7 hF7 => ?_) <;> clear hF6
  refine awp_seq ?_
  refine awp_region ?_
  refine s_as ?_
  refine k_nil ?_
  refine k_seq ?_
  refine awp_ret ?_
  refine k_seq_ret ?_
  refine k_fin ?_
  obtain rfl := Option.some.inj hF7
  exact ends_gen [] [] (by rw [Try.results149]; exact (res_tmp (by conv => lhs; whnf) res_nil))
  refine awp_skip ?_
  refine k_seq ?_
  refine awp_seq ?_
  refine awp_region ?_
  refine s_mv ?_
  refine s_not ?_
  refine s_mv ?_
  refine w_guard _ 33 hF7 (fun hc8 hF8 => ?_) (fun hc8 hF8 => ?_) <;> clear hF7
  refine s_mv ?_
  refine s_ge ?_
  refine s_mv ?_
  refine w_guard _ 36 hF8 (fun hc9 hF9 => ?_) (fun hc9 hF9 => ?_) <;> clear hF8
  refine s_mv ?_
  refine s_le ?_
  refine s_pkt ?_
  refine s_mv ?_
  refine w_guard _ 40 hF9 (fun hc10 hF10 => ?_) (fun hc10 hF10 => ?_) <;> clear hF9
  refine r_no rfl ?_
  refine r_no rfl ?_
  refine s_pkt ?_
  refine s_pkt ?_
  refine s_as ?_
  refine k_nil ?_
  refine k_seq ?_
  refine awp_ret ?_
  refine k_fin ?_
  obtain rfl := Option.some.inj hF10
  exact ends_gen [] [] (by rw [Try.results149]; exact (res_tmp (by conv => lhs; whnf) res_nil))
  refine s_mv ?_
  refine s_eq ?_
  refine s_pkf ?_
  refine s_pkt ?_
  refine s_as ?_
  refine k_nil ?_
  refine k_seq ?_
  refine awp_ret ?_
  refine k_fin ?_
  obtain rfl := Option.some.inj hF10
  exact ends_gen [] [] (by rw [Try.results149]; exact (res_tmp (by conv => lhs; whnf) res_nil))
  refine r_no rfl ?_
  refine r_no rfl ?_
  refine s_pkf ?_
  refine s_mv ?_
  refine s_mv ?_
  refine s_eq ?_
  refine s_pkf ?_
  refine s_pkt ?_
  refine s_as ?_
  refine k_nil ?_
  refine k_seq ?_
  refine awp_ret ?_
  refine k_fin ?_
  obtain rfl := Option.some.inj hF9
  exact ends_gen [] [] (by rw [Try.results149]; exact (res_tmp (by conv => lhs; whnf) res_nil))
  iterate 10 refine r_no rfl ?_
  refine s_pkf ?_
  refine s_as ?_
  refine k_nil ?_
  refine k_seq ?_
  refine awp_ret ?_
  refine k_fin ?_
  obtain rfl := Option.some.inj hF8
  exact ends_gen [] [] (by rw [Try.results149]; exact (res_tmp (by conv => lhs; whnf) res_nil))
  refine r_no rfl ?_
  refine r_no rfl ?_
  refine s_pkf ?_
  refine s_mv ?_
  refine s_mv ?_
  refine s_eq ?_
  refine s_pkf ?_
  refine s_mv ?_
  refine w_guard _ 15 hF1 (fun hc11 hF2 => ?_) (fun hc11 hF2 => ?_) <;> clear hF1
  refine r_no rfl ?_
  refine r_no rfl ?_
  refine s_pkt ?_
  refine s_mv ?_
  refine r_no rfl ?_
  refine r_no rfl ?_
  refine s_pkt ?_
  refine s_mv ?_
  refine r_no rfl ?_
  refine r_no rfl ?_
  refine s_pkt ?_
  refine s_mv ?_
  refine r_no rfl ?_
  refine r_no rfl ?_
  refine s_pkt ?_
  refine k_nil ?_
  refine k_seq ?_
  refine awp_true rfl ?_
  refine awp_seq ?_
  refine awp_region ?_
  refine s_as ?_
  refine k_nil ?_
  refine k_seq ?_
  refine awp_ret ?_
  refine k_seq_ret ?_
  refine k_fin ?_
  obtain rfl := Option.some.inj hF2
  exact ends_gen [] [] (by rw [Try.results149]; exact (res_tmp (by conv => lhs; whnf) res_nil))
  refine s_mv ?_
  refine s_eq ?_
  refine s_pkf ?_
  refine s_mv ?_
  refine w_guard _ 19 hF2 (fun hc12 hF3 => ?_) (fun hc12 hF3 => ?_) <;> clear hF2
  refine r_no rfl ?_
  refine r_no rfl ?_
  refine s_pkt ?_
  refine s_mv ?_
  refine r_no rfl ?_
  refine r_no rfl ?_
  refine s_pkt ?_
  refine s_mv ?_
  refine r_no rfl ?_
  refine r_no rfl ?_
  refine s_pkt ?_
  refine k_nil ?_
  refine k_seq ?_
  refine awp_true rfl ?_
  refine awp_seq ?_
  refine awp_region ?_
  refine s_as ?_
  refine k_nil ?_
  refine k_seq ?_
  refine awp_ret ?_
  refine k_seq_ret ?_
  refine k_fin ?_
  obtain rfl := Option.some.inj hF3
  exact ends_gen [] [] (by rw [Try.results149]; exact (res_tmp (by conv => lhs; whnf) res_nil))
  refine s_mv ?_
  refine s_eq ?_
  refine s_pkf ?_
  refine s_mv ?_
  refine w_guard _ 23 hF3 (fun hc13 hF4 => ?_) (fun hc13 hF4 => ?_) <;> clear hF3
  refine r_no rfl ?_
  refine r_no rfl ?_
  refine s_pkt ?_
  refine s_mv ?_
  refine r_no rfl ?_
  refine r_no rfl ?_
  refine s_pkt ?_
  refine k_nil ?_
  refine k_seq ?_
  refine awp_true rfl ?_
  refine awp_seq ?_
  refine awp_region ?_
  refine s_as ?_
  refine k_nil ?_
  refine k_seq ?_
  refine awp_ret ?_
  refine k_seq_ret ?_
  refine k_fin ?_
  obtain rfl := Option.some.inj hF4
  exact ends_gen [] [] (by rw [Try.results149]; exact (res_tmp (by conv => lhs; whnf) res_nil))
  refine s_mv ?_
  refine s_eq ?_
  refine s_pkf ?_
  refine s_mv ?_
  refine w_guard _ 27 hF4 (fun hc14 hF5 => ?_) (fun hc14 hF5 => ?_) <;> clear hF4
  refine r_no rfl ?_
  refine r_no rfl ?_
  refine s_pkt ?_
  refine k_nil ?_
  refine k_seq ?_
  refine awp_true rfl ?_
  refine awp_seq ?_
  refine awp_region ?_
  refine s_as ?_
  refine k_nil ?_
  refine k_seq ?_
  refine awp_ret ?_
  refine k_seq_ret ?_
  refine k_fin ?_
  obtain rfl := Option.some.inj hF5
  exact ends_gen [] [] (by rw [Try.results149]; exact (res_tmp (by conv => lhs; whnf) res_nil))
  refine s_mv ?_
  refine s_eq ?_
  refine s_pkf ?_
  refine k_nil ?_
  refine k_seq ?_
  refine w_cond hF5 (fun hc15 hF6 => ?_) (fun hc15 hF6 => ?_) <;> clear hF5
  refine awp_seq ?_
  refine awp_region ?_
  refine s_as ?_
  refine k_nil ?_
  refine k_seq ?_
  refine awp_ret ?_
  refine k_seq_ret ?_
  refine k_fin ?_
  obtain rfl := Option.some.inj hF6
  exact ends_gen [] [] (by rw [Try.results149]; exact (res_tmp (by conv => lhs; whnf) res_nil))
  refine awp_skip ?_
  refine k_seq ?_
  refine awp_seq ?_
  refine awp_region ?_
  refine s_mv ?_
  refine s_not ?_
  refine s_mv ?_
  refine w_guard _ 33 hF6 (fun hc16 hF7 => ?_) (fun hc16 hF7 => ?_) <;> clear hF6
  refine s_mv ?_
  refine s_ge ?_
  refine s_mv ?_
  refine w_guard _ 36 hF7 (fun hc17 hF8 => ?_) (fun hc17 hF8 => ?_) <;> clear hF7
  refine s_mv ?_
  refine s_le ?_
  refine s_pkt ?_
  refine s_mv ?_
  refine w_guard _ 40 hF8 (fun hc18 hF9 => ?_) (fun hc18 hF9 => ?_) <;> clear hF8
  refine r_no rfl ?_
  refine r_no rfl ?_
  refine s_pkt ?_
  refine s_pkt ?_
  refine s_as ?_
  refine k_nil ?_
  refine k_seq ?_
  refine awp_ret ?_
  refine k_fin ?_
  obtain rfl := Option.some.inj hF9
  exact ends_gen [] [] (by rw [Try.results149]; exact (res_tmp (by conv => lhs; whnf) res_nil))
  refine s_mv ?_
  refine s_eq ?_
  refine s_pkf ?_
  refine s_pkt ?_
  refine s_as ?_
  refine k_nil ?_
  refine k_seq ?_
  refine awp_ret ?_
  refine k_fin ?_
  obtain rfl := Option.some.inj hF9
  exact ends_gen [] [] (by rw [Try.results149]; exact (res_tmp (by conv => lhs; whnf) res_nil))
  refine r_no rfl ?_
  refine r_no rfl ?_
  refine s_pkf ?_
  refine s_mv ?_
  refine s_mv ?_
  refine s_eq ?_
  refine s_pkf ?_
  refine s_pkt ?_
  refine s_as ?_
  refine k_nil ?_
  refine k_seq ?_
  refine awp_ret ?_
  refine k_fin ?_
  obtain rfl := Option.some.inj hF8
  exact ends_gen [] [] (by rw [Try.results149]; exact (res_tmp (by conv => lhs; whnf) res_nil))
  iterate 10 refine r_no rfl ?_
  refine s_pkf ?_
  refine s_as ?_
  refine k_nil ?_
  refine k_seq ?_
  refine awp_ret ?_
  refine k_fin ?_
  obtain rfl := Option.some.inj hF7
  exact ends_gen [] [] (by rw [Try.results149]; exact (res_tmp (by conv => lhs; whnf) res_nil))
def m_spec_NameValid_AC (fuel : Nat) : Prop := ∀ (x1 : ByteArray) (r : Bool), m_spec_NameValid fuel x1 = some r → AC Try.prog 134 [.t (.sc (.str x1))] noOb (.t (.sc (.bool r))) noOb
theorem m_spec_NameValid_ok (fuel : Nat) : m_spec_NameValid_AC fuel := by
  intro x1 r hF0
  unfold m_spec_NameValid at hF0
  refine AC_intro (rs := [.t (.sc (.bool r))]) Try.func134 rfl (by kernel_rfl) (by simp [Try.ntmps134]) (by simp [noOb]) ?_
  intro C hC
  rw [Try.ntmps134]
  refine awp_seq ?_
  refine awp_region ?_
  refine s_as ?_
  refine k_nil ?_
  refine k_seq ?_
  refine awp_seq ?_
  refine awp_seq ?_
  refine awp_region ?_
  refine s_mv ?_
  refine s_eqS ?_
  refine s_mv ?_
  refine w_guard _ 6 hF0 (fun hc1 hF1 => ?_) (fun hc1 hF1 => ?_) <;> clear hF0
  refine r_no rfl ?_
  refine r_no rfl ?_
  refine s_pkt ?_
  refine k_nil ?_
  refine k_seq ?_
  refine awp_true rfl ?_
  refine awp_seq ?_
  refine awp_region ?_
  refine s_as ?_
  refine k_nil ?_
  refine k_seq ?_
  refine awp_ret ?_
  refine k_seq_ret ?_
  refine k_fin ?_
  obtain rfl := Option.some.inj hF1
  exact ends_gen [] [] (by rw [Try.results134]; exact (res_tmp (by conv => lhs; whnf) res_nil))
  refine s_mv ?_
  refine s_eqS ?_
  refine s_pkf ?_
  refine k_nil ?_
  refine k_seq ?_
  refine w_cond hF1 (fun hc2 hF2 => ?_) (fun hc2 hF2 => ?_) <;> clear hF1
  refine awp_seq ?_
  refine awp_region ?_
  refine s_as ?_
  refine k_nil ?_
  refine k_seq ?_
  refine awp_ret ?_
  refine k_seq_ret ?_
  refine k_fin ?_
  obtain rfl := Option.some.inj hF2
  exact ends_gen [] [] (by rw [Try.results134]; exact (res_tmp (by conv => lhs; whnf) res_nil))
  refine awp_skip ?_
  refine k_seq ?_
  refine awp_seq ?_
  refine awp_seq ?_
  refine awp_region ?_
  refine s_as ?_
  refine k_nil ?_
  refine k_seq ?_
  refine awp_block ?_
  refine awp_frame2 [2, 3, 10, 11, 12, 13, 14, 15, 16, 17, 18, 19, 20, 21, 22, 23, 24, 25, 26] [] [] [] (fun a : Nat × Int => a.1) (fun a : Nat × Int => [(3, .t (.sc (.int .i64 a.2)))]) (fun a : Nat × Int => []) (fun a : Nat × Int => a.1 ≤ fuel ∧ m_spec_NameValid_l1 a.1 x1 a.2 = some r) (fuel, 0) ⟨Nat.le_refl _, hF2⟩ (by rfl) (by rfl) (fun _ => rfl) (hasF_cons (by conv => lhs; whnf) (by rfl) hasF_nil) hasO_nil (fun _ h => by cases h) freshS_nil freshM_nil ?_
  clear hF2
  rintro ⟨fu, g3⟩ ⟨hl4, hF3⟩
  dsimp only at hl4 hF3 ⊢
  obtain _ | fu := fu
  · rw [m_spec_NameValid_l1] at hF3; cases hF3
  rw [m_spec_NameValid_l1] at hF3
  refine awp_seq ?_
  refine awp_seq ?_
  refine awp_region ?_
  refine s_mv ?_
  refine s_mv ?_
  refine s_lenS yU9 ?_
  refine s_lt ?_
  refine s_mv ?_
  refine w_guard _ 14 hF3 (fun hc5 hF4 => ?_) (fun hc5 hF4 => ?_) <;> clear hF3
  refine s_mv ?_
  refine s_le ?_
  refine s_pkt ?_
  refine k_nil ?_
  refine k_seq ?_
  refine w_cond hF4 (fun hc6 hF5 => ?_) (fun hc6 hF5 => ?_) <;> clear hF4
  refine awp_skip ?_
  refine k_seq ?_
  refine awp_seq ?_
  refine awp_block ?_
  refine awp_seq ?_
  refine awp_region ?_
  refine s_mv ?_
  refine s_mv ?_
  replace hF5 := bind_some' hF5
  obtain ⟨v7, hv7, hF6⟩ := hF5
  refine s_ixS hv7 yU9 ?_
  refine s_mv ?_
  refine s_eq ?_
  replace hF6 := bind_some' hF6
  obtain ⟨v8, hv8, hF7⟩ := hF6
  refine s_pure [] (m_spec_l1Letter_ok fu _ _ _ hv8) ?_
  refine s_not ?_
  refine k_nil ?_
  refine k_seq ?_
  refine w_cond hF7 (fun hc9 hF8 => ?_) (fun hc9 hF8 => ?_) <;> clear hF7
  refine awp_seq ?_
  refine awp_region ?_
  refine s_as ?_
  refine k_nil ?_
  refine k_seq ?_
  refine awp_ret ?_
  refine k_blk_ret ?_
  refine k_seq_ret ?_
  refine k_rnd_ret2 ?_
  refine k_blk_ret ?_
  refine k_seq_ret ?_
  refine k_fin ?_
  obtain rfl := Option.some.inj hF8
  exact ends_gen [] [] (by rw [Try.results134]; exact (res_tmp (by conv => lhs; whnf) res_nil))
  refine awp_skip ?_
  refine k_blk ?_
  refine k_seq ?_
  refine awp_region ?_
  refine s_mv ?_
  refine s_add rfl ?_
  refine s_as ?_
  refine k_nil ?_
  exact s_rnd2 (fu, (w64 (g3 + 1))) [] ⟨by first | omega | (dsimp only; omega), hF8⟩ (hasR_cons (by conv => lhs; whnf) (by rfl) rfl trivial) trivial
  refine awp_exit ?_
  refine k_seq_exit ?_
  refine k_rnd_exit2 ?_
  refine k_blk_exit ?_
  refine k_seq ?_
  refine awp_seq ?_
  refine awp_region ?_
  refine s_mv ?_
  refine s_lenS yU9 ?_
  refine s_ge ?_
  refine s_mv ?_
  refine w_guard _ 30 hF5 (fun hc10 hF6 => ?_) (fun hc10 hF6 => ?_) <;> clear hF5
  refine s_mv ?_
  refine s_lenS yU9 ?_
  refine s_le ?_
  refine s_pkt ?_
  refine s_as ?_
  refine k_nil ?_
  refine k_seq ?_
  refine awp_ret ?_
  refine k_fin ?_
  obtain rfl := Option.some.inj hF6
  exact ends_gen [] [] (by rw [Try.results134]; exact (res_tmp (by conv => lhs; whnf) res_nil))
  iterate 3 refine r_no rfl ?_
  refine s_pkf ?_
  refine s_as ?_
  refine k_nil ?_
  refine k_seq ?_
  refine awp_ret ?_
  refine k_fin ?_
  obtain rfl := Option.some.inj hF6
  exact ends_gen [] [] (by rw [Try.results134]; exact (res_tmp (by conv => lhs; whnf) res_nil))
  refine r_no rfl ?_
  refine r_no rfl ?_
  refine s_pkf ?_
  refine k_nil ?_
  refine k_seq ?_
  refine awp_false rfl ?_
  refine awp_exit ?_
  refine k_seq_exit ?_
  refine k_rnd_exit2 ?_
  refine k_blk_exit ?_
  refine k_seq ?_
  refine awp_seq ?_
  refine awp_region ?_
  refine s_mv ?_
  refine s_lenS yU9 ?_
  refine s_ge ?_
  refine s_mv ?_
  refine w_guard _ 30 hF4 (fun hc11 hF5 => ?_) (fun hc11 hF5 => ?_) <;> clear hF4
  refine s_mv ?_
  refine s_lenS yU9 ?_
  refine s_le ?_
  refine s_pkt ?_
  refine s_as ?_
  refine k_nil ?_
  refine k_seq ?_
  refine awp_ret ?_
  refine k_fin ?_
  obtain rfl := Option.some.inj hF5
  exact ends_gen [] [] (by rw [Try.results134]; exact (res_tmp (by conv => lhs; whnf) res_nil))
  iterate 3 refine r_no rfl ?_
  refine s_pkf ?_
  refine s_as ?_
  refine k_nil ?_
  refine k_seq ?_
  refine awp_ret ?_
  refine k_fin ?_
  obtain rfl := Option.some.inj hF5
  exact ends_gen [] [] (by rw [Try.results134]; exact (res_tmp (by conv => lhs; whnf) res_nil))
end Go.Abs
end
section
set_option maxRecDepth 100000
set_option maxHeartbeats 4000000
set_option linter.unusedVariables false
namespace Go.Abs
open Go.Proofs
def m_spec_l1Scopes_AC (fuel : Nat) : Prop := ∀ (x1 : (List Int)) (r : Bool), m_spec_l1Scopes fuel x1 = some r → AC Try.prog 135 [.t (.sl (x1.map rI))] noOb (.t (.sc (.bool r))) noOb
theorem m_spec_l1Scopes_ok (fuel : Nat) : m_spec_l1Scopes_AC fuel := by
  intro x1 r hF0
  unfold m_spec_l1Scopes at hF0
  refine AC_intro (rs := [.t (.sc (.bool r))]) Try.func135 rfl (by kernel_rfl) (by simp [Try.ntmps135]) (by simp [noOb]) ?_
  intro C hC
  rw [Try.ntmps135]
  refine awp_seq ?_
  refine awp_region ?_
  refine s_as ?_
  refine k_nil ?_
  refine k_seq ?_
  refine awp_seq ?_
  refine awp_seq ?_
  refine awp_region ?_
  refine s_as ?_
  refine k_nil ?_
  refine k_seq ?_
  refine awp_block ?_
  refine awp_frame2 [2, 3, 4, 5, 6, 7, 8, 9, 10, 11, 12, 13, 14, 15, 16, 17, 18, 19, 20, 21, 22, 23, 24, 25, 26, 27, 28, 29, 30, 31, 32, 33, 34, 35, 36, 37, 38, 39, 40, 41] [] [] [] (fun a : Nat × Int => a.1) (fun a : Nat × Int => [(3, .t (.sc (.int .i64 a.2)))]) (fun a : Nat × Int => []) (fun a : Nat × Int => a.1 ≤ fuel ∧ m_spec_l1Scopes_l1 a.1 x1 a.2 = some r) (fuel, 0) ⟨Nat.le_refl _, hF0⟩ (by rfl) (by rfl) (fun _ => rfl) (hasF_cons (by conv => lhs; whnf) (by rfl) hasF_nil) hasO_nil (fun _ h => by cases h) freshS_nil freshM_nil ?_
  clear hF0
  rintro ⟨fu, g1⟩ ⟨hl2, hF1⟩
  dsimp only at hl2 hF1 ⊢
  obtain _ | fu := fu
  · rw [m_spec_l1Scopes_l1] at hF1; cases hF1
  rw [m_spec_l1Scopes_l1] at hF1
  refine awp_seq ?_
  refine awp_seq ?_
  refine awp_region ?_
  refine s_mv ?_
  refine s_mv ?_
  refine s_lenT yU22 ?_
  refine s_lt ?_
  refine s_mv ?_
  refine w_guard _ 8 hF1 (fun hc3 hF2 => ?_) (fun hc3 hF2 => ?_) <;> clear hF1
  refine s_mv ?_
  refine s_le ?_
  refine s_pkt ?_
  refine k_nil ?_
  refine k_seq ?_
  refine w_cond hF2 (fun hc4 hF3 => ?_) (fun hc4 hF3 => ?_) <;> clear hF2
  refine awp_skip ?_
  refine k_seq ?_
  refine awp_seq ?_
  refine awp_block ?_
  refine awp_seq ?_
  refine awp_draw yMix (by kernel_rfl) ?_
  refine s_mv ?_
  refine s_mv ?_
  replace hF3 := bind_some' hF3
  obtain ⟨v5, hv5, hF4⟩ := hF3
  refine s_ixT rI hv5 rfl yE22 ?_
  refine s_ld1 yA3 ?_
  refine s_lt ?_
  refine s_mv ?_
  refine w_guard _ 19 hF4 (fun hc6 hF5 => ?_) (fun hc6 hF5 => ?_) <;> clear hF4
  iterate 5 refine r_no rfl ?_
  refine s_pkt ?_
  refine s_mv ?_
  iterate 14 refine r_no rfl ?_
  refine s_pkt ?_
  refine k_nilD (by kernel_rfl) ?_
  refine k_seq ?_
  refine awp_true rfl ?_
  refine awp_seq ?_
  refine awp_region ?_
  refine s_as ?_
  refine k_nil ?_
  refine k_seq ?_
  refine awp_ret ?_
  refine k_blk_ret ?_
  refine k_seq_ret ?_
  refine k_rnd_ret2 ?_
  refine k_blk_ret ?_
  refine k_seq_ret ?_
  refine k_fin ?_
  obtain rfl := Option.some.inj hF5
  exact ends_gen [] [] (by rw [Try.results135]; exact (res_tmp (by conv => lhs; whnf) res_nil))
  refine s_mv ?_
  refine s_mv ?_
  replace hF5 := bind_some' hF5
  obtain ⟨v7, hv7, hF6⟩ := hF5
  refine s_ixT rI hv7 rfl yE22 ?_
  refine s_ld1 yA3 ?_
  refine s_gt ?_
  refine s_pkf ?_
  refine s_mv ?_
  refine w_guard _ 26 hF6 (fun hc8 hF7 => ?_) (fun hc8 hF7 => ?_) <;> clear hF6
  iterate 14 refine r_no rfl ?_
  refine s_pkt ?_
  refine k_nilD (by kernel_rfl) ?_
  refine k_seq ?_
  refine awp_true rfl ?_
  refine awp_seq ?_
  refine awp_region ?_
  refine s_as ?_
  refine k_nil ?_
  refine k_seq ?_
  refine awp_ret ?_
  refine k_blk_ret ?_
  refine k_seq_ret ?_
  refine k_rnd_ret2 ?_
  refine k_blk_ret ?_
  refine k_seq_ret ?_
  refine k_fin ?_
  obtain rfl := Option.some.inj hF7
  exact ends_gen [] [] (by rw [Try.results135]; exact (res_tmp (by conv => lhs; whnf) res_nil))
  refine s_mv ?_
  refine s_gt ?_
  refine s_mv ?_
  refine w_guard _ 29 hF7 (fun hc9 hF8 => ?_) (fun hc9 hF8 => ?_) <;> clear hF7
  refine s_mv ?_
  refine s_mv ?_
  replace hF8 := bind_some' hF8
  obtain ⟨v10, hv10, hF9⟩ := hF8
  refine s_ixT rI hv10 rfl yE22 ?_
  refine s_ld1 yA3 ?_
  refine s_mv ?_
  refine s_mv ?_
  refine s_sub rfl ?_
  replace hF9 := bind_some' hF9
  obtain ⟨v11, hv11, hF10⟩ := hF9
  refine s_ixT rI hv11 rfl yE22 ?_
  refine s_ld1 yA3 ?_
  refine s_le ?_
  refine s_pkt ?_
  refine s_pkf ?_
  refine k_nilD (by kernel_rfl) ?_
  refine k_seq ?_
  refine w_cond hF10 (fun hc12 hF11 => ?_) (fun hc12 hF11 => ?_) <;> clear hF10
  refine awp_seq ?_
  refine awp_region ?_
  refine s_as ?_
  refine k_nil ?_
  refine k_seq ?_
  refine awp_ret ?_
  refine k_blk_ret ?_
  refine k_seq_ret ?_
  refine k_rnd_ret2 ?_
  refine k_blk_ret ?_
  refine k_seq_ret ?_
  refine k_fin ?_
  obtain rfl := Option.some.inj hF11
  exact ends_gen [] [] (by rw [Try.results135]; exact (res_tmp (by conv => lhs; whnf) res_nil))
  refine awp_skip ?_
  refine k_blk ?_
  refine k_seq ?_
  refine awp_region ?_
  refine s_mv ?_
  refine s_add rfl ?_
  refine s_as ?_
  refine k_nil ?_
  exact s_rnd2 (fu, (w64 (g1 + 1))) [] ⟨by first | omega | (dsimp only; omega), hF11⟩ (hasR_cons (by conv => lhs; whnf) (by rfl) rfl trivial) trivial
  iterate 10 refine r_no rfl ?_
  refine s_pkf ?_
  refine s_pkf ?_
  refine k_nilD (by kernel_rfl) ?_
  refine k_seq ?_
  refine awp_false rfl ?_
  refine awp_skip ?_
  refine k_blk ?_
  refine k_seq ?_
  refine awp_region ?_
  refine s_mv ?_
  refine s_add rfl ?_
  refine s_as ?_
  refine k_nil ?_
  exact s_rnd2 (fu, (w64 (g1 + 1))) [] ⟨by first | omega | (dsimp only; omega), hF8⟩ (hasR_cons (by conv => lhs; whnf) (by rfl) rfl trivial) trivial
  refine awp_exit ?_
  refine k_seq_exit ?_
  refine k_rnd_exit2 ?_
  refine k_blk_exit ?_
  refine k_seq ?_
  refine awp_seq ?_
  refine awp_region ?_
  refine s_mv ?_
  refine s_lenT yU22 ?_
  refine s_le ?_
  refine s_as ?_
  refine k_nil ?_
  refine k_seq ?_
  refine awp_ret ?_
  refine k_fin ?_
  obtain rfl := Option.some.inj hF3
  exact ends_gen [] [] (by rw [Try.results135]; exact (res_tmp (by conv => lhs; whnf) res_nil))
  refine r_no rfl ?_
  refine r_no rfl ?_
  refine s_pkf ?_
  refine k_nil ?_
  refine k_seq ?_
  refine awp_false rfl ?_
  refine awp_exit ?_
  refine k_seq_exit ?_
  refine k_rnd_exit2 ?_
  refine k_blk_exit ?_
  refine k_seq ?_
  refine awp_seq ?_
  refine awp_region ?_
  refine s_mv ?_
  refine s_lenT yU22 ?_
  refine s_le ?_
  refine s_as ?_
  refine k_nil ?_
  refine k_seq ?_
  refine awp_ret ?_
  refine k_fin ?_
  obtain rfl := Option.some.inj hF2
  exact ends_gen [] [] (by rw [Try.results135]; exact (res_tmp (by conv => lhs; whnf) res_nil))
def m_spec_l1Is_AC (fuel : Nat) : Prop := ∀ (x1 : Form) (x2 : Int) (r : Bool), m_spec_l1Is fuel x1 x2 = some r → AC Try.prog 98 [.ag [.t (.sc (.int .i64 x1.kind)), .t (.sc (.str x1.name)), .t (.sc (.int .i64 x1.n)), .t (.sl (x1.scopes.map rI)), .t (.sl (x1.kids.map Form.row))], .t (.sc (.int .i64 x2))] noOb (.t (.sc (.bool r))) noOb
theorem m_spec_l1Is_st (fu : Nat) (ih_m_spec_l1Is : ∀ k, k ≤ fu → m_spec_l1Is_AC k) : m_spec_l1Is_AC (fu + 1) := by
  intro x1 x2 r hF0
  rw [m_spec_l1Is] at hF0
  refine AC_intro (rs := [.t (.sc (.bool r))]) Try.func98 rfl (by kernel_rfl) (by simp [Try.ntmps98]) (by simp [noOb]) ?_
  intro C hC
  rw [Try.ntmps98]
  refine awp_seq ?_
  refine awp_region ?_
  refine s_box ?_
  refine s_as ?_
  refine k_nil ?_
  refine k_seq ?_
  refine awp_seq ?_
  refine awp_seq ?_
  refine awp_region ?_
  refine s_mv ?_
  refine s_eq ?_
  refine k_nil ?_
  refine k_seq ?_
  refine w_cond hF0 (fun hc1 hF1 => ?_) (fun hc1 hF1 => ?_) <;> clear hF0
  refine awp_seq ?_
  refine awp_region ?_
  refine s_as ?_
  refine k_nil ?_
  refine k_seq ?_
  refine awp_ret ?_
  refine k_seq_ret ?_
  refine k_fin ?_
  obtain rfl := Option.some.inj hF1
  exact ends_gen [] [] (by rw [Try.results98]; exact (res_tmp (by conv => lhs; whnf) res_nil))
  refine awp_skip ?_
  refine k_seq ?_
  refine awp_seq ?_
  refine awp_seq ?_
  refine awp_region ?_
  refine s_fa yF32_0 ?_
  refine s_ld1 yA3 ?_
  refine k_nil ?_
  refine k_seq ?_
  refine awp_block ?_
  refine awp_seq ?_
  refine awp_region ?_
  refine s_eq ?_
  refine s_as ?_
  refine k_nil ?_
  refine k_seq ?_
  refine w_cond hF1 (fun hc2 hF2 => ?_) (fun hc2 hF2 => ?_) <;> clear hF1
  refine awp_seq ?_
  refine awp_region ?_
  refine s_fa yF32_1 ?_
  refine s_ld1 yA9 ?_
  replace hF2 := bind_some' hF2
  obtain ⟨v3, hv3, hF3⟩ := hF2
  refine s_pure [] (m_spec_NameValid_ok fu _ _ hv3) ?_
  refine s_mv ?_
  refine w_guard _ 15 hF3 (fun hc4 hF4 => ?_) (fun hc4 hF4 => ?_) <;> clear hF3
  refine s_fa yF32_2 ?_
  refine s_ld1 yA3 ?_
  refine s_eq ?_
  refine s_pkt ?_
  refine s_mv ?_
  refine w_guard _ 20 hF4 (fun hc5 hF5 => ?_) (fun hc5 hF5 => ?_) <;> clear hF4
  refine s_fa yF32_3 ?_
  refine s_ld1 yA22 ?_
  replace hF5 := bind_some' hF5
  obtain ⟨v6, hv6, hF6⟩ := hF5
  refine s_pure [] (m_spec_l1Scopes_ok fu _ _ hv6) ?_
  refine s_pkt ?_
  refine s_mv ?_
  refine w_guard _ 25 hF6 (fun hc7 hF7 => ?_) (fun hc7 hF7 => ?_) <;> clear hF6
  refine s_fa yF32_4 ?_
  refine s_ld1 yA30 ?_
  refine s_lenT yU30 ?_
  refine s_eq ?_
  refine s_pkt ?_
  refine s_as ?_
  refine k_nil ?_
  refine k_seq ?_
  refine awp_ret ?_
  refine k_blk_ret ?_
  refine k_seq_ret ?_
  refine k_fin ?_
  obtain rfl := Option.some.inj hF7
  exact ends_gen [] [] (by rw [Try.results98]; exact (res_tmp (by conv => lhs; whnf) res_nil))
  iterate 4 refine r_no rfl ?_
  refine s_pkf ?_
  refine s_as ?_
  refine k_nil ?_
  refine k_seq ?_
  refine awp_ret ?_
  refine k_blk_ret ?_
  refine k_seq_ret ?_
  refine k_fin ?_
  obtain rfl := Option.some.inj hF7
  exact ends_gen [] [] (by rw [Try.results98]; exact (res_tmp (by conv => lhs; whnf) res_nil))
  iterate 3 refine r_no rfl ?_
  refine s_pkf ?_
  refine s_mv ?_
  iterate 4 refine r_no rfl ?_
  refine s_pkf ?_
  refine s_as ?_
  refine k_nil ?_
  refine k_seq ?_
  refine awp_ret ?_
  refine k_blk_ret ?_
  refine k_seq_ret ?_
  refine k_fin ?_
  obtain rfl := Option.some.inj hF5
  exact ends_gen [] [] (by rw [Try.results98]; exact (res_tmp (by conv => lhs; whnf) res_nil))
  iterate 3 refine r_no rfl ?_
  refine s_pkf ?_
  refine s_mv ?_
  iterate 3 refine r_no rfl ?_
  refine s_pkf ?_
  refine s_mv ?_
  iterate 4 refine r_no rfl ?_
  refine s_pkf ?_
  refine s_as ?_
  refine k_nil ?_
  refine k_seq ?_
  refine awp_ret ?_
  refine k_blk_ret ?_
  refine k_seq_ret ?_
  refine k_fin ?_
  obtain rfl := Option.some.inj hF4
  exact ends_gen [] [] (by rw [Try.results98]; exact (res_tmp (by conv => lhs; whnf) res_nil))
  refine awp_seq ?_
  refine awp_region ?_
  refine s_eq ?_
  refine s_as ?_
  refine k_nil ?_
  refine k_seq ?_
  refine w_cond hF2 (fun hc8 hF3 => ?_) (fun hc8 hF3 => ?_) <;> clear hF2
  refine awp_seq ?_
  refine awp_region ?_
  refine s_fa yF32_1 ?_
  refine s_ld1 yA9 ?_
  refine s_eqS ?_
  refine s_mv ?_
  refine w_guard _ 36 hF3 (fun hc9 hF4 => ?_) (fun hc9 hF4 => ?_) <;> clear hF3
  refine s_fa yF32_2 ?_
  refine s_ld1 yA3 ?_
  refine s_ge ?_
  refine s_pkt ?_
  refine s_mv ?_
  refine w_guard _ 41 hF4 (fun hc10 hF5 => ?_) (fun hc10 hF5 => ?_) <;> clear hF4
  refine s_fa yF32_2 ?_
  refine s_ld1 yA3 ?_
  refine s_le ?_
  refine s_pkt ?_
  refine s_mv ?_
  refine w_guard _ 46 hF5 (fun hc11 hF6 => ?_) (fun hc11 hF6 => ?_) <;> clear hF5
  refine s_fa yF32_3 ?_
  refine s_ld1 yA22 ?_
  refine s_lenT yU22 ?_
  refine s_eq ?_
  refine s_pkt ?_
  refine s_mv ?_
  refine w_guard _ 52 hF6 (fun hc12 hF7 => ?_) (fun hc12 hF7 => ?_) <;> clear hF6
  refine s_fa yF32_4 ?_
  refine s_ld1 yA30 ?_
  refine s_lenT yU30 ?_
  refine s_eq ?_
  refine s_pkt ?_
  refine s_as ?_
  refine k_nil ?_
  refine k_seq ?_
  refine awp_ret ?_
  refine k_blk_ret ?_
  refine k_seq_ret ?_
  refine k_fin ?_
  obtain rfl := Option.some.inj hF7
  exact ends_gen [] [] (by rw [Try.results98]; exact (res_tmp (by conv => lhs; whnf) res_nil))
  iterate 4 refine r_no rfl ?_
  refine s_pkf ?_
  refine s_as ?_
  refine k_nil ?_
  refine k_seq ?_
  refine awp_ret ?_
  refine k_blk_ret ?_
  refine k_seq_ret ?_
  refine k_fin ?_
  obtain rfl := Option.some.inj hF7
  exact ends_gen [] [] (by rw [Try.results98]; exact (res_tmp (by conv => lhs; whnf) res_nil))
  iterate 4 refine r_no rfl ?_
  refine s_pkf ?_
  refine s_mv ?_
  iterate 4 refine r_no rfl ?_
  refine s_pkf ?_
  refine s_as ?_
  refine k_nil ?_
  refine k_seq ?_
  refine awp_ret ?_
  refine k_blk_ret ?_
  refine k_seq_ret ?_
  refine k_fin ?_
  obtain rfl := Option.some.inj hF6
  exact ends_gen [] [] (by rw [Try.results98]; exact (res_tmp (by conv => lhs; whnf) res_nil))
  iterate 3 refine r_no rfl ?_
  refine s_pkf ?_
  refine s_mv ?_
  iterate 4 refine r_no rfl ?_
  refine s_pkf ?_
  refine s_mv ?_
  iterate 4 refine r_no rfl ?_
  refine s_pkf ?_
  refine s_as ?_
  refine k_nil ?_
  refine k_seq ?_
  refine awp_ret ?_
  refine k_blk_ret ?_
  refine k_seq_ret ?_
  refine k_fin ?_
  obtain rfl := Option.some.inj hF5
  exact ends_gen [] [] (by rw [Try.results98]; exact (res_tmp (by conv => lhs; whnf) res_nil))
  iterate 3 refine r_no rfl ?_
  refine s_pkf ?_
  refine s_mv ?_
  iterate 3 refine r_no rfl ?_
  refine s_pkf ?_
  refine s_mv ?_
  iterate 4 refine r_no rfl ?_
  refine s_pkf ?_
  refine s_mv ?_
  iterate 4 refine r_no rfl ?_
  refine s_pkf ?_
  refine s_as ?_
  refine k_nil ?_
  refine k_seq ?_
  refine awp_ret ?_
  refine k_blk_ret ?_
  refine k_seq_ret ?_
  refine k_fin ?_
  obtain rfl := Option.some.inj hF4
  exact ends_gen [] [] (by rw [Try.results98]; exact (res_tmp (by conv => lhs; whnf) res_nil))
  refine awp_skip ?_
  refine k_blk ?_
  refine k_seq ?_
  refine awp_seq ?_
  refine awp_seq ?_
  refine awp_region ?_
  refine s_fa yF32_0 ?_
  refine s_ld1 yA3 ?_
  refine s_ne ?_
  refine s_mv ?_
  refine w_guard _ 61 hF3 (fun hc13 hF4 => ?_) (fun hc13 hF4 => ?_) <;> clear hF3
  iterate 3 refine r_no rfl ?_
  refine s_pkt ?_
  refine s_mv ?_
  iterate 3 refine r_no rfl ?_
  refine s_pkt ?_
  refine s_mv ?_
  iterate 4 refine r_no rfl ?_
  refine s_pkt ?_
  refine k_nil ?_
  refine k_seq ?_
  refine awp_true rfl ?_
  refine awp_seq ?_
  refine awp_region ?_
  refine s_as ?_
  refine k_nil ?_
  refine k_seq ?_
  refine awp_ret ?_
  refine k_seq_ret ?_
  refine k_fin ?_
  obtain rfl := Option.some.inj hF4
  exact ends_gen [] [] (by rw [Try.results98]; exact (res_tmp (by conv => lhs; whnf) res_nil))
  refine s_fa yF32_1 ?_
  refine s_ld1 yA9 ?_
  refine s_neS ?_
  refine s_pkf ?_
  refine s_mv ?_
  refine w_guard _ 66 hF4 (fun hc14 hF5 => ?_) (fun hc14 hF5 => ?_) <;> clear hF4
  iterate 3 refine r_no rfl ?_
  refine s_pkt ?_
  refine s_mv ?_
  iterate 4 refine r_no rfl ?_
  refine s_pkt ?_
  refine k_nil ?_
  refine k_seq ?_
  refine awp_true rfl ?_
  refine awp_seq ?_
  refine awp_region ?_
  refine s_as ?_
  refine k_nil ?_
  refine k_seq ?_
  refine awp_ret ?_
  refine k_seq_ret ?_
  refine k_fin ?_
  obtain rfl := Option.some.inj hF5
  exact ends_gen [] [] (by rw [Try.results98]; exact (res_tmp (by conv => lhs; whnf) res_nil))
  refine s_fa yF32_2 ?_
  refine s_ld1 yA3 ?_
  refine s_ne ?_
  refine s_pkf ?_
  refine s_mv ?_
  refine w_guard _ 71 hF5 (fun hc15 hF6 => ?_) (fun hc15 hF6 => ?_) <;> clear hF5
  iterate 4 refine r_no rfl ?_
  refine s_pkt ?_
  refine k_nil ?_
  refine k_seq ?_
  refine awp_true rfl ?_
  refine awp_seq ?_
  refine awp_region ?_
  refine s_as ?_
  refine k_nil ?_
  refine k_seq ?_
  refine awp_ret ?_
  refine k_seq_ret ?_
  refine k_fin ?_
  obtain rfl := Option.some.inj hF6
  exact ends_gen [] [] (by rw [Try.results98]; exact (res_tmp (by conv => lhs; whnf) res_nil))
  refine s_fa yF32_3 ?_
  refine s_ld1 yA22 ?_
  refine s_lenT yU22 ?_
  refine s_ne ?_
  refine s_pkf ?_
  refine k_nil ?_
  refine k_seq ?_
  refine w_cond hF6 (fun hc16 hF7 => ?_) (fun hc16 hF7 => ?_) <;> clear hF6
  refine awp_seq ?_
  refine awp_region ?_
  refine s_as ?_
  refine k_nil ?_
  refine k_seq ?_
  refine awp_ret ?_
  refine k_seq_ret ?_
  refine k_fin ?_
  obtain rfl := Option.some.inj hF7
  exact ends_gen [] [] (by rw [Try.results98]; exact (res_tmp (by conv => lhs; whnf) res_nil))
  refine awp_skip ?_
  refine k_seq ?_
  refine awp_seq ?_
  refine awp_seq ?_
  refine awp_region ?_
  refine s_as ?_
  refine k_nil ?_
  refine k_seq ?_
  refine awp_block ?_
  refine awp_frame2 [4, 5, 77, 78, 79, 80, 81, 82, 83, 84, 85, 86, 87, 88, 89, 90, 91, 92] [] [] [] (fun a : Nat × Int => a.1) (fun a : Nat × Int => [(5, .t (.sc (.int .i64 a.2)))]) (fun a : Nat × Int => []) (fun a : Nat × Int => a.1 ≤ fu ∧ m_spec_l1Is_l1 a.1 x1 x2 a.2 = some r ∧ 0 ≤ a.2) (fu, 0) ⟨Nat.le_refl _, hF7, by simp⟩ (by rfl) (by rfl) (fun _ => rfl) (hasF_cons (by conv => lhs; whnf) (by rfl) hasF_nil) hasO_nil (fun _ h => by cases h) freshS_nil freshM_nil ?_
  clear hF7
  rintro ⟨fu, g17⟩ ⟨hl18, hF8, hn_g17⟩
  dsimp only at hl18 hF8 hn_g17 ⊢
  obtain _ | fu := fu
  · rw [m_spec_l1Is_l1] at hF8; cases hF8
  rw [m_spec_l1Is_l1] at hF8
  refine awp_seq ?_
  refine awp_seq ?_
  refine awp_region ?_
  refine s_mv ?_
  refine s_fa yF32_4 ?_
  refine s_ld1 yA30 ?_
  refine s_lenT yU30 ?_
  refine s_lt ?_
  refine k_nil ?_
  refine k_seq ?_
  refine w_cond hF8 (fun hc19 hF9 => ?_) (fun hc19 hF9 => ?_) <;> clear hF8
  refine awp_lenT 79 (fun hb20 => ?_)
  refine awp_skip ?_
  refine k_seq ?_
  refine awp_seq ?_
  refine awp_block ?_
  refine awp_seq ?_
  refine awp_region ?_
  refine s_fa yF32_4 ?_
  refine s_ld1 yA30 ?_
  refine s_mv ?_
  replace hF9 := bind_some' hF9
  obtain ⟨v21, hv21, hF10⟩ := hF9
  refine s_ixT Form.row hv21 (Form.row_eq _) yE30 ?_
  refine s_ldN yA32 yS32 ?_
  refine s_mv ?_
  refine s_sub rfl ?_
  replace hF10 := bind_some' hF10
  obtain ⟨v22, hv22, hF11⟩ := hF10
  refine s_pure [] (ih_m_spec_l1Is fu (by omega) _ _ _ hv22) ?_
  refine s_not ?_
  refine k_nil ?_
  refine k_seq ?_
  refine w_cond hF11 (fun hc23 hF12 => ?_) (fun hc23 hF12 => ?_) <;> clear hF11
  refine awp_seq ?_
  refine awp_region ?_
  refine s_as ?_
  refine k_nil ?_
  refine k_seq ?_
  refine awp_ret ?_
  refine k_blk_ret ?_
  refine k_seq_ret ?_
  refine k_rnd_ret2 ?_
  refine k_blk_ret ?_
  refine k_seq_ret ?_
  refine k_fin ?_
  obtain rfl := Option.some.inj hF12
  exact ends_gen [] [] (by rw [Try.results98]; exact (res_tmp (by conv => lhs; whnf) res_nil))
  refine awp_skip ?_
  refine k_blk ?_
  refine k_seq ?_
  refine awp_region ?_
  refine s_mv ?_
  refine s_add (winc2 hc19 hb20 hn_g17) ?_
  refine s_as ?_
  refine k_nil ?_
  exact s_rnd2 (fu, (g17 + 1)) [] ⟨by first | omega | (dsimp only; omega), hF12, by first | omega | (dsimp only; omega)⟩ (hasR_cons (by conv => lhs; whnf) (by rfl) rfl trivial) trivial
  refine awp_exit ?_
  refine k_seq_exit ?_
  refine k_rnd_exit2 ?_
  refine k_blk_exit ?_
  refine k_seq ?_
  refine awp_seq ?_
  refine awp_region ?_
  refine s_as ?_
  refine k_nil ?_
  refine k_seq ?_
  refine awp_ret ?_
  refine k_fin ?_
  obtain rfl := Option.some.inj hF9
  exact ends_gen [] [] (by rw [Try.results98]; exact (res_tmp (by conv => lhs; whnf) res_nil))
theorem m_spec_l1Is_all (fuel : Nat) : m_spec_l1Is_AC fuel := by
  induction fuel using Nat.strongRecOn with
  | _ N ih =>
    cases N with
    | zero => exact (by intro x1 x2 r h; rw [m_spec_l1Is] at h; cases h)
    | succ fu => exact m_spec_l1Is_st fu (fun k hk => (ih k (by omega)))
theorem m_spec_l1Is_ok (fuel : Nat) : m_spec_l1Is_AC fuel := (m_spec_l1Is_all fuel)
def m_spec_l1Count_AC (fuel : Nat) : Prop := ∀ (x1 : Form) (r : Int), m_spec_l1Count fuel x1 = some r → AC Try.prog 99 [.ag [.t (.sc (.int .i64 x1.kind)), .t (.sc (.str x1.name)), .t (.sc (.int .i64 x1.n)), .t (.sl (x1.scopes.map rI)), .t (.sl (x1.kids.map Form.row))]] noOb (.t (.sc (.int .i64 r))) noOb
theorem m_spec_l1Count_st (fu : Nat) (ih_m_spec_l1Count : ∀ k, k ≤ fu → m_spec_l1Count_AC k) : m_spec_l1Count_AC (fu + 1) := by
  intro x1 r hF0
  rw [m_spec_l1Count] at hF0
  refine AC_intro (rs := [.t (.sc (.int .i64 r))]) Try.func99 rfl (by kernel_rfl) (by simp [Try.ntmps99]) (by simp [noOb]) ?_
  intro C hC
  rw [Try.ntmps99]
  refine awp_seq ?_
  refine awp_region ?_
  refine s_box ?_
  refine s_as ?_
  refine k_nil ?_
  refine k_seq ?_
  refine awp_seq ?_
  refine awp_region ?_
  refine s_as ?_
  refine k_nil ?_
  refine k_seq ?_
  refine awp_seq ?_
  refine awp_seq ?_
  refine awp_region ?_
  refine s_as ?_
  refine k_nil ?_
  refine k_seq ?_
  refine awp_block ?_
  refine awp_frame2 [3, 4, 5, 6, 7, 8, 9, 10, 11, 12, 13, 14, 15, 16, 17, 18, 19] [] [] [] (fun a : Nat × Int × Int => a.1) (fun a : Nat × Int × Int => [(3, .t (.sc (.int .i64 a.2.1))), (4, .t (.sc (.int .i64 a.2.2)))]) (fun a : Nat × Int × Int => []) (fun a : Nat × Int × Int => a.1 ≤ fu ∧ m_spec_l1Count_l1 a.1 x1 a.2.1 a.2.2 = some r ∧ 0 ≤ a.2.2) (fu, 1, 0) ⟨Nat.le_refl _, hF0, by simp⟩ (by rfl) (by rfl) (fun _ => rfl) (hasF_cons (by conv => lhs; whnf) (by rfl) (hasF_cons (by conv => lhs; whnf) (by rfl) hasF_nil)) hasO_nil (fun _ h => by cases h) freshS_nil freshM_nil ?_
  clear hF0
  rintro ⟨fu, g1, g2⟩ ⟨hl3, hF1, hn_g2⟩
  dsimp only at hl3 hF1 hn_g2 ⊢
  obtain _ | fu := fu
  · rw [m_spec_l1Count_l1] at hF1; cases hF1
  rw [m_spec_l1Count_l1] at hF1
  refine awp_seq ?_
  refine awp_seq ?_
  refine awp_region ?_
  refine s_mv ?_
  refine s_fa yF32_4 ?_
  refine s_ld1 yA30 ?_
  refine s_lenT yU30 ?_
  refine s_lt ?_
  refine k_nil ?_
  refine k_seq ?_
  refine w_cond hF1 (fun hc4 hF2 => ?_) (fun hc4 hF2 => ?_) <;> clear hF1
  refine awp_lenT 7 (fun hb5 => ?_)
  refine awp_skip ?_
  refine k_seq ?_
  refine awp_seq ?_
  refine awp_block ?_
  refine awp_region ?_
  refine s_mv ?_
  refine s_fa yF32_4 ?_
  refine s_ld1 yA30 ?_
  refine s_mv ?_
  replace hF2 := bind_some' hF2
  obtain ⟨v6, hv6, hF3⟩ := hF2
  refine s_ixT Form.row hv6 (Form.row_eq _) yE30 ?_
  refine s_ldN yA32 yS32 ?_
  replace hF3 := bind_some' hF3
  obtain ⟨v7, hv7, hF4⟩ := hF3
  refine s_pure [] (ih_m_spec_l1Count fu (by omega) _ _ hv7) ?_
  refine s_add rfl ?_
  refine s_as ?_
  refine k_nil ?_
  refine k_blk ?_
  refine k_seq ?_
  refine awp_region ?_
  refine s_mv ?_
  refine s_add (winc2 hc4 hb5 hn_g2) ?_
  refine s_as ?_
  refine k_nil ?_
  exact s_rnd2 (fu, (w64 (g1 + v7)), (g2 + 1)) [] ⟨by first | omega | (dsimp only; omega), hF4, by first | omega | (dsimp only; omega)⟩ (hasR_cons (by conv => lhs; whnf) (by rfl) rfl (hasR_cons (by conv => lhs; whnf) (by rfl) rfl trivial)) trivial
  refine awp_exit ?_
  refine k_seq_exit ?_
  refine k_rnd_exit2 ?_
  refine k_blk_exit ?_
  refine k_seq ?_
  refine awp_seq ?_
  refine awp_region ?_
  refine s_mv ?_
  refine s_as ?_
  refine k_nil ?_
  refine k_seq ?_
  refine awp_ret ?_
  refine k_fin ?_
  obtain rfl := Option.some.inj hF2
  exact ends_gen [] [] (by rw [Try.results99]; exact (res_tmp (by conv => lhs; whnf) res_nil))
theorem m_spec_l1Count_all (fuel : Nat) : m_spec_l1Count_AC fuel := by
  induction fuel using Nat.strongRecOn with
  | _ N ih =>
    cases N with
    | zero => exact (by intro x1 r h; rw [m_spec_l1Count] at h; cases h)
    | succ fu => exact m_spec_l1Count_st fu (fun k hk => (ih k (by omega)))
theorem m_spec_l1Count_ok (fuel : Nat) : m_spec_l1Count_AC fuel := (m_spec_l1Count_all fuel)
def m_spec_FormValid_AC (fuel : Nat) : Prop := ∀ (x1 : Form) (r : Bool), m_spec_FormValid fuel x1 = some r → AC Try.prog 55 [.ag [.t (.sc (.int .i64 x1.kind)), .t (.sc (.str x1.name)), .t (.sc (.int .i64 x1.n)), .t (.sl (x1.scopes.map rI)), .t (.sl (x1.kids.map Form.row))]] noOb (.t (.sc (.bool r))) noOb
theorem m_spec_FormValid_ok (fuel : Nat) : m_spec_FormValid_AC fuel := by
  intro x1 r hF0
  unfold m_spec_FormValid at hF0
  refine AC_intro (rs := [.t (.sc (.bool r))]) Try.func55 rfl (by kernel_rfl) (by simp [Try.ntmps55]) (by simp [noOb]) ?_
  intro C hC
  rw [Try.ntmps55]
  refine awp_seq ?_
  refine awp_region ?_
  refine s_box ?_
  refine s_as ?_
  refine k_nil ?_
  refine k_seq ?_
  refine awp_seq ?_
  refine awp_region ?_
  refine s_ldW yA32 yS32 ?_
  replace hF0 := bind_some' hF0
  obtain ⟨v1, hv1, hF1⟩ := hF0
  refine s_pure [] (m_spec_l1Is_ok fuel _ _ _ hv1) ?_
  refine s_mv ?_
  refine w_guard _ 5 hF1 (fun hc2 hF2 => ?_) (fun hc2 hF2 => ?_) <;> clear hF1
  refine s_ldW yA32 yS32 ?_
  replace hF2 := bind_some' hF2
  obtain ⟨v3, hv3, hF3⟩ := hF2
  refine s_pure [] (m_spec_l1Count_ok fuel _ _ hv3) ?_
  refine s_le ?_
  refine s_pkt ?_
  refine s_as ?_
  refine k_nil ?_
  refine k_seq ?_
  refine awp_ret ?_
  refine k_fin ?_
  obtain rfl := Option.some.inj hF3
  exact ends_gen [] [] (by rw [Try.results55]; exact (res_tmp (by conv => lhs; whnf) res_nil))
  iterate 3 refine r_no rfl ?_
  refine s_pkf ?_
  refine s_as ?_
  refine k_nil ?_
  refine k_seq ?_
  refine awp_ret ?_
  refine k_fin ?_
  obtain rfl := Option.some.inj hF2
  exact ends_gen [] [] (by rw [Try.results55]; exact (res_tmp (by conv => lhs; whnf) res_nil))
def m_spec_l3Is_AC (fuel : Nat) : Prop := ∀ (x1 : Form) (r : Bool), m_spec_l3Is fuel x1 = some r → AC Try.prog 133 [.ag [.t (.sc (.int .i64 x1.kind)), .t (.sc (.str x1.name)), .t (.sc (.int .i64 x1.n)), .t (.sl (x1.scopes.map rI)), .t (.sl (x1.kids.map Form.row))]] noOb (.t (.sc (.bool r))) noOb
theorem m_spec_l3Is_ok (fuel : Nat) : m_spec_l3Is_AC fuel := by
  intro x1 r hF0
  unfold m_spec_l3Is at hF0
  refine AC_intro (rs := [.t (.sc (.bool r))]) Try.func133 rfl (by kernel_rfl) (by simp [Try.ntmps133]) (by simp [noOb]) ?_
  intro C hC
  rw [Try.ntmps133]
  refine awp_seq ?_
  refine awp_region ?_
  refine s_box ?_
  refine s_as ?_
  refine k_nil ?_
  refine k_seq ?_
  refine awp_seq ?_
  refine awp_region ?_
  refine s_fa yF32_0 ?_
  refine s_ld1 yA3 ?_
  refine s_eq ?_
  refine s_mv ?_
  refine w_guard _ 6 hF0 (fun hc1 hF1 => ?_) (fun hc1 hF1 => ?_) <;> clear hF0
  refine s_ldW yA32 yS32 ?_
  replace hF1 := bind_some' hF1
  obtain ⟨v2, hv2, hF2⟩ := hF1
  refine s_pure [] (m_spec_FormValid_ok fuel _ _ hv2) ?_
  refine s_pkt ?_
  refine s_as ?_
  refine k_nil ?_
  refine k_seq ?_
  refine awp_ret ?_
  refine k_fin ?_
  obtain rfl := Option.some.inj hF2
  exact ends_gen [] [] (by rw [Try.results133]; exact (res_tmp (by conv => lhs; whnf) res_nil))
  refine r_no rfl ?_
  refine r_no rfl ?_
  refine s_pkf ?_
  refine s_as ?_
  refine k_nil ?_
  refine k_seq ?_
  refine awp_ret ?_
  refine k_fin ?_
  obtain rfl := Option.some.inj hF1
  exact ends_gen [] [] (by rw [Try.results133]; exact (res_tmp (by conv => lhs; whnf) res_nil))
def m_spec_l1Ints_AC (fuel : Nat) : Prop := ∀ (x1 : (List Int)) (x2 : (List Int)) (r : Bool), m_spec_l1Ints fuel x1 x2 = some r → AC Try.prog 127 [.t (.sl (x1.map rI)), .t (.sl (x2.map rI))] noOb (.t (.sc (.bool r))) noOb
theorem m_spec_l1Ints_ok (fuel : Nat) : m_spec_l1Ints_AC fuel := by
  intro x1 x2 r hF0
  unfold m_spec_l1Ints at hF0
  refine AC_intro (rs := [.t (.sc (.bool r))]) Try.func127 rfl (by kernel_rfl) (by simp [Try.ntmps127]) (by simp [noOb]) ?_
  intro C hC
  rw [Try.ntmps127]
  refine awp_seq ?_
  refine awp_region ?_
  refine s_as ?_
  refine k_nil ?_
  refine k_seq ?_
  refine awp_seq ?_
  refine awp_seq ?_
  refine awp_region ?_
  refine s_mv ?_
  refine s_lenT yU22 ?_
  refine s_mv ?_
  refine s_lenT yU22 ?_
  refine s_ne ?_
  refine k_nil ?_
  refine k_seq ?_
  refine w_cond hF0 (fun hc1 hF1 => ?_) (fun hc1 hF1 => ?_) <;> clear hF0
  refine awp_seq ?_
  refine awp_region ?_
  refine s_as ?_
  refine k_nil ?_
  refine k_seq ?_
  refine awp_ret ?_
  refine k_seq_ret ?_
  refine k_fin ?_
  obtain rfl := Option.some.inj hF1
  exact ends_gen [] [] (by rw [Try.results127]; exact (res_tmp (by conv => lhs; whnf) res_nil))
  refine awp_skip ?_
  refine k_seq ?_
  refine awp_seq ?_
  refine awp_seq ?_
  refine awp_region ?_
  refine s_as ?_
  refine k_nil ?_
  refine k_seq ?_
  refine awp_block ?_
  refine awp_frame2 [4, 5, 11, 12, 13, 14, 15, 16, 17, 18, 19, 20, 21, 22, 23, 24, 25] [] [] [] (fun a : Nat × Int => a.1) (fun a : Nat × Int => [(5, .t (.sc (.int .i64 a.2)))]) (fun a : Nat × Int => []) (fun a : Nat × Int => a.1 ≤ fuel ∧ m_spec_l1Ints_l1 a.1 x1 x2 a.2 = some r ∧ 0 ≤ a.2) (fuel, 0) ⟨Nat.le_refl _, hF1, by simp⟩ (by rfl) (by rfl) (fun _ => rfl) (hasF_cons (by conv => lhs; whnf) (by rfl) hasF_nil) hasO_nil (fun _ h => by cases h) freshS_nil freshM_nil ?_
  clear hF1
  rintro ⟨fu, g2⟩ ⟨hl3, hF2, hn_g2⟩
  dsimp only at hl3 hF2 hn_g2 ⊢
  obtain _ | fu := fu
  · rw [m_spec_l1Ints_l1] at hF2; cases hF2
  rw [m_spec_l1Ints_l1] at hF2
  refine awp_seq ?_
  refine awp_seq ?_
  refine awp_region ?_
  refine s_mv ?_
  refine s_mv ?_
  refine s_lenT yU22 ?_
  refine s_lt ?_
  refine k_nil ?_
  refine k_seq ?_
  refine w_cond hF2 (fun hc4 hF3 => ?_) (fun hc4 hF3 => ?_) <;> clear hF2
  refine awp_lenT 0 (fun hb5 => ?_)
  refine awp_skip ?_
  refine k_seq ?_
  refine awp_seq ?_
  refine awp_block ?_
  refine awp_seq ?_
  refine awp_draw yMix (by kernel_rfl) ?_
  refine s_mv ?_
  refine s_mv ?_
  replace hF3 := bind_some' hF3
  obtain ⟨v6, hv6, hF4⟩ := hF3
  refine s_ixT rI hv6 rfl yE22 ?_
  refine s_ld1 yA3 ?_
  refine s_mv ?_
  refine s_mv ?_
  replace hF4 := bind_some' hF4
  obtain ⟨v7, hv7, hF5⟩ := hF4
  refine s_ixT rI hv7 rfl yE22 ?_
  refine s_ld1 yA3 ?_
  refine s_ne ?_
  refine k_nilD (by kernel_rfl) ?_
  refine k_seq ?_
  refine w_cond hF5 (fun hc8 hF6 => ?_) (fun hc8 hF6 => ?_) <;> clear hF5
  refine awp_seq ?_
  refine awp_region ?_
  refine s_as ?_
  refine k_nil ?_
  refine k_seq ?_
  refine awp_ret ?_
  refine k_blk_ret ?_
  refine k_seq_ret ?_
  refine k_rnd_ret2 ?_
  refine k_blk_ret ?_
  refine k_seq_ret ?_
  refine k_fin ?_
  obtain rfl := Option.some.inj hF6
  exact ends_gen [] [] (by rw [Try.results127]; exact (res_tmp (by conv => lhs; whnf) res_nil))
  refine awp_skip ?_
  refine k_blk ?_
  refine k_seq ?_
  refine awp_region ?_
  refine s_mv ?_
  refine s_add (winc2 hc4 hb5 hn_g2) ?_
  refine s_as ?_
  refine k_nil ?_
  exact s_rnd2 (fu, (g2 + 1)) [] ⟨by first | omega | (dsimp only; omega), hF6, by first | omega | (dsimp only; omega)⟩ (hasR_cons (by conv => lhs; whnf) (by rfl) rfl trivial) trivial
  refine awp_exit ?_
  refine k_seq_exit ?_
  refine k_rnd_exit2 ?_
  refine k_blk_exit ?_
  refine k_seq ?_
  refine awp_seq ?_
  refine awp_region ?_
  refine s_as ?_
  refine k_nil ?_
  refine k_seq ?_
  refine awp_ret ?_
  refine k_fin ?_
  obtain rfl := Option.some.inj hF3
  exact ends_gen [] [] (by rw [Try.results127]; exact (res_tmp (by conv => lhs; whnf) res_nil))
def m_spec_FormSame_AC (fuel : Nat) : Prop := ∀ (x1 : Form) (x2 : Form) (r : Bool), m_spec_FormSame fuel x1 x2 = some r → AC Try.prog 89 [.ag [.t (.sc (.int .i64 x1.kind)), .t (.sc (.str x1.name)), .t (.sc (.int .i64 x1.n)), .t (.sl (x1.scopes.map rI)), .t (.sl (x1.kids.map Form.row))], .ag [.t (.sc (.int .i64 x2.kind)), .t (.sc (.str x2.name)), .t (.sc (.int .i64 x2.n)), .t (.sl (x2.scopes.map rI)), .t (.sl (x2.kids.map Form.row))]] noOb (.t (.sc (.bool r))) noOb
theorem m_spec_FormSame_st (fu : Nat) (ih_m_spec_FormSame : ∀ k, k ≤ fu → m_spec_FormSame_AC k) : m_spec_FormSame_AC (fu + 1) := by
  intro x1 x2 r hF0
  rw [m_spec_FormSame] at hF0
  refine AC_intro (rs := [.t (.sc (.bool r))]) Try.func89 rfl (by kernel_rfl) (by simp [Try.ntmps89]) (by simp [noOb]) ?_
  intro C hC
  rw [Try.ntmps89]
  refine awp_seq ?_
  refine awp_region ?_
  refine s_box ?_
  refine s_box ?_
  refine s_as ?_
  refine k_nil ?_
  refine k_seq ?_
  refine awp_seq ?_
  refine awp_seq ?_
  refine awp_region ?_
  refine s_fa yF32_0 ?_
  refine s_ld1 yA3 ?_
  refine s_fa yF32_0 ?_
  refine s_ld1 yA3 ?_
  refine s_ne ?_
  refine s_mv ?_
  refine w_guard _ 11 hF0 (fun hc1 hF1 => ?_) (fun hc1 hF1 => ?_) <;> clear hF0
  iterate 5 refine r_no rfl ?_
  refine s_pkt ?_
  refine s_mv ?_
  iterate 5 refine r_no rfl ?_
  refine s_pkt ?_
  refine s_mv ?_
  iterate 6 refine r_no rfl ?_
  refine s_pkt ?_
  refine s_mv ?_
  iterate 7 refine r_no rfl ?_
  refine s_pkt ?_
  refine k_nil ?_
  refine k_seq ?_
  refine awp_true rfl ?_
  refine awp_seq ?_
  refine awp_region ?_
  refine s_as ?_
  refine k_nil ?_
  refine k_seq ?_
  refine awp_ret ?_
  refine k_seq_ret ?_
  refine k_fin ?_
  obtain rfl := Option.some.inj hF1
  exact ends_gen [] [] (by rw [Try.results89]; exact (res_tmp (by conv => lhs; whnf) res_nil))
  refine s_fa yF32_1 ?_
  refine s_ld1 yA9 ?_
  refine s_fa yF32_1 ?_
  refine s_ld1 yA9 ?_
  refine s_neS ?_
  refine s_pkf ?_
  refine s_mv ?_
  refine w_guard _ 18 hF1 (fun hc2 hF2 => ?_) (fun hc2 hF2 => ?_) <;> clear hF1
  iterate 5 refine r_no rfl ?_
  refine s_pkt ?_
  refine s_mv ?_
  iterate 6 refine r_no rfl ?_
  refine s_pkt ?_
  refine s_mv ?_
  iterate 7 refine r_no rfl ?_
  refine s_pkt ?_
  refine k_nil ?_
  refine k_seq ?_
  refine awp_true rfl ?_
  refine awp_seq ?_
  refine awp_region ?_
  refine s_as ?_
  refine k_nil ?_
  refine k_seq ?_
  refine awp_ret ?_
  refine k_seq_ret ?_
  refine k_fin ?_
  obtain rfl := Option.some.inj hF2
  exact ends_gen [] [] (by rw [Try.results89]; exact (res_tmp (by conv => lhs; whnf) res_nil))
  refine s_fa yF32_2 ?_
  refine s_ld1 yA3 ?_
  refine s_fa yF32_2 ?_
  refine s_ld1 yA3 ?_
  refine s_ne ?_
  refine s_pkf ?_
  refine s_mv ?_
  refine w_guard _ 25 hF2 (fun hc3 hF3 => ?_) (fun hc3 hF3 => ?_) <;> clear hF2
  iterate 6 refine r_no rfl ?_
  refine s_pkt ?_
  refine s_mv ?_
  iterate 7 refine r_no rfl ?_
  refine s_pkt ?_
  refine k_nil ?_
  refine k_seq ?_
  refine awp_true rfl ?_
  refine awp_seq ?_
  refine awp_region ?_
  refine s_as ?_
  refine k_nil ?_
  refine k_seq ?_
  refine awp_ret ?_
  refine k_seq_ret ?_
  refine k_fin ?_
  obtain rfl := Option.some.inj hF3
  exact ends_gen [] [] (by rw [Try.results89]; exact (res_tmp (by conv => lhs; whnf) res_nil))
  refine s_fa yF32_3 ?_
  refine s_ld1 yA22 ?_
  refine s_fa yF32_3 ?_
  refine s_ld1 yA22 ?_
  replace hF3 := bind_some' hF3
  obtain ⟨v4, hv4, hF4⟩ := hF3
  refine s_pure [] (m_spec_l1Ints_ok fu _ _ _ hv4) ?_
  refine s_not ?_
  refine s_pkf ?_
  refine s_mv ?_
  refine w_guard _ 33 hF4 (fun hc5 hF5 => ?_) (fun hc5 hF5 => ?_) <;> clear hF4
  iterate 7 refine r_no rfl ?_
  refine s_pkt ?_
  refine k_nil ?_
  refine k_seq ?_
  refine awp_true rfl ?_
  refine awp_seq ?_
  refine awp_region ?_
  refine s_as ?_
  refine k_nil ?_
  refine k_seq ?_
  refine awp_ret ?_
  refine k_seq_ret ?_
  refine k_fin ?_
  obtain rfl := Option.some.inj hF5
  exact ends_gen [] [] (by rw [Try.results89]; exact (res_tmp (by conv => lhs; whnf) res_nil))
  refine s_fa yF32_4 ?_
  refine s_ld1 yA30 ?_
  refine s_lenT yU30 ?_
  refine s_fa yF32_4 ?_
  refine s_ld1 yA30 ?_
  refine s_lenT yU30 ?_
  refine s_ne ?_
  refine s_pkf ?_
  refine k_nil ?_
  refine k_seq ?_
  refine w_cond hF5 (fun hc6 hF6 => ?_) (fun hc6 hF6 => ?_) <;> clear hF5
  refine awp_seq ?_
  refine awp_region ?_
  refine s_as ?_
  refine k_nil ?_
  refine k_seq ?_
  refine awp_ret ?_
  refine k_seq_ret ?_
  refine k_fin ?_
  obtain rfl := Option.some.inj hF6
  exact ends_gen [] [] (by rw [Try.results89]; exact (res_tmp (by conv => lhs; whnf) res_nil))
  refine awp_skip ?_
  refine k_seq ?_
  refine awp_seq ?_
  refine awp_seq ?_
  refine awp_region ?_
  refine s_as ?_
  refine k_nil ?_
  refine k_seq ?_
  refine awp_block ?_
  refine awp_frame2 [4, 5, 42, 43, 44, 45, 46, 47, 48, 49, 50, 51, 52, 53, 54, 55, 56, 57, 58, 59, 60] [] [] [] (fun a : Nat × Int => a.1) (fun a : Nat × Int => [(5, .t (.sc (.int .i64 a.2)))]) (fun a : Nat × Int => []) (fun a : Nat × Int => a.1 ≤ fu ∧ m_spec_FormSame_l1 a.1 x1 x2 a.2 = some r ∧ 0 ≤ a.2) (fu, 0) ⟨Nat.le_refl _, hF6, by simp⟩ (by rfl) (by rfl) (fun _ => rfl) (hasF_cons (by conv => lhs; whnf) (by rfl) hasF_nil) hasO_nil (fun _ h => by cases h) freshS_nil freshM_nil ?_
  clear hF6
  rintro ⟨fu, g7⟩ ⟨hl8, hF7, hn_g7⟩
  dsimp only at hl8 hF7 hn_g7 ⊢
  obtain _ | fu := fu
  · rw [m_spec_FormSame_l1] at hF7; cases hF7
  rw [m_spec_FormSame_l1] at hF7
  refine awp_seq ?_
  refine awp_seq ?_
  refine awp_region ?_
  refine s_mv ?_
  refine s_fa yF32_4 ?_
  refine s_ld1 yA30 ?_
  refine s_lenT yU30 ?_
  refine s_lt ?_
  refine k_nil ?_
  refine k_seq ?_
  refine w_cond hF7 (fun hc9 hF8 => ?_) (fun hc9 hF8 => ?_) <;> clear hF7
  refine awp_lenT 35 (fun hb10 => ?_)
  refine awp_skip ?_
  refine k_seq ?_
  refine awp_seq ?_
  refine awp_block ?_
  refine awp_seq ?_
  refine awp_draw yMix (by kernel_rfl) ?_
  refine s_fa yF32_4 ?_
  refine s_ld1 yA30 ?_
  refine s_mv ?_
  replace hF8 := bind_some' hF8
  obtain ⟨v11, hv11, hF9⟩ := hF8
  refine s_ixT Form.row hv11 (Form.row_eq _) yE30 ?_
  refine s_ldN yA32 yS32 ?_
  refine s_fa yF32_4 ?_
  refine s_ld1 yA30 ?_
  refine s_mv ?_
  replace hF9 := bind_some' hF9
  obtain ⟨v12, hv12, hF10⟩ := hF9
  refine s_ixT Form.row hv12 (Form.row_eq _) yE30 ?_
  refine s_ldN yA32 yS32 ?_
  replace hF10 := bind_some' hF10
  obtain ⟨v13, hv13, hF11⟩ := hF10
  refine s_pure [] (ih_m_spec_FormSame fu (by omega) _ _ _ hv13) ?_
  refine s_not ?_
  refine k_nilD (by kernel_rfl) ?_
  refine k_seq ?_
  refine w_cond hF11 (fun hc14 hF12 => ?_) (fun hc14 hF12 => ?_) <;> clear hF11
  refine awp_seq ?_
  refine awp_region ?_
  refine s_as ?_
  refine k_nil ?_
  refine k_seq ?_
  refine awp_ret ?_
  refine k_blk_ret ?_
  refine k_seq_ret ?_
  refine k_rnd_ret2 ?_
  refine k_blk_ret ?_
  refine k_seq_ret ?_
  refine k_fin ?_
  obtain rfl := Option.some.inj hF12
  exact ends_gen [] [] (by rw [Try.results89]; exact (res_tmp (by conv => lhs; whnf) res_nil))
  refine awp_skip ?_
  refine k_blk ?_
  refine k_seq ?_
  refine awp_region ?_
  refine s_mv ?_
  refine s_add (winc2 hc9 hb10 hn_g7) ?_
  refine s_as ?_
  refine k_nil ?_
  exact s_rnd2 (fu, (g7 + 1)) [] ⟨by first | omega | (dsimp only; omega), hF12, by first | omega | (dsimp only; omega)⟩ (hasR_cons (by conv => lhs; whnf) (by rfl) rfl trivial) trivial
  refine awp_exit ?_
  refine k_seq_exit ?_
  refine k_rnd_exit2 ?_
  refine k_blk_exit ?_
  refine k_seq ?_
  refine awp_seq ?_
  refine awp_region ?_
  refine s_as ?_
  refine k_nil ?_
  refine k_seq ?_
  refine awp_ret ?_
  refine k_fin ?_
  obtain rfl := Option.some.inj hF8
  exact ends_gen [] [] (by rw [Try.results89]; exact (res_tmp (by conv => lhs; whnf) res_nil))
theorem m_spec_FormSame_all (fuel : Nat) : m_spec_FormSame_AC fuel := by
  induction fuel using Nat.strongRecOn with
  | _ N ih =>
    cases N with
    | zero => exact (by intro x1 x2 r h; rw [m_spec_FormSame] at h; cases h)
    | succ fu => exact m_spec_FormSame_st fu (fun k hk => (ih k (by omega)))
theorem m_spec_FormSame_ok (fuel : Nat) : m_spec_FormSame_AC fuel := (m_spec_FormSame_all fuel)
def m_spec_l4Hit_AC (fuel : Nat) : Prop := ∀ (x1 : Hit) (x2 : Int) (r : Bool), m_spec_l4Hit fuel x1 x2 = some r → AC Try.prog 93 [.ag [.t (.sc (.int .i64 x1.name.kind)), .t (.sc (.str x1.name.name)), .t (.sc (.int .i64 x1.name.n)), .t (.sl (x1.name.scopes.map rI)), .t (.sl (x1.name.kids.map Form.row)), .t (.sc (.int .i64 x1.depth)), .t (.sc (.int .i64 x1.one.kind)), .t (.sc (.str x1.one.name)), .t (.sc (.int .i64 x1.one.n)), .t (.sl (x1.one.scopes.map rI)), .t (.sl (x1.one.kids.map Form.row)), .t (.sl (x1.many.map Hit.row))], .t (.sc (.int .i64 x2))] noOb (.t (.sc (.bool r))) noOb
theorem m_spec_l4Hit_st (fu : Nat) (ih_m_spec_l4Hit : ∀ k, k ≤ fu → m_spec_l4Hit_AC k) : m_spec_l4Hit_AC (fu + 1) := by
  intro x1 x2 r hF0
  rw [m_spec_l4Hit] at hF0
  refine AC_intro (rs := [.t (.sc (.bool r))]) Try.func93 rfl (by kernel_rfl) (by simp [Try.ntmps93]) (by simp [noOb]) ?_
  intro C hC
  rw [Try.ntmps93]
  refine awp_seq ?_
  refine awp_region ?_
  refine s_box ?_
  refine s_as ?_
  refine k_nil ?_
  refine k_seq ?_
  refine awp_seq ?_
  refine awp_seq ?_
  refine awp_region ?_
  refine s_fa yF65_1 ?_
  refine s_ld1 yA3 ?_
  refine s_mv ?_
  refine s_ne ?_
  refine s_mv ?_
  refine w_guard _ 10 hF0 (fun hc1 hF1 => ?_) (fun hc1 hF1 => ?_) <;> clear hF0
  refine r_no rfl ?_
  refine r_no rfl ?_
  refine s_pkt ?_
  refine s_mv ?_
  refine r_no rfl ?_
  refine r_no rfl ?_
  refine s_pkt ?_
  refine s_mv ?_
  iterate 4 refine r_no rfl ?_
  refine s_pkt ?_
  refine s_mv ?_
  iterate 4 refine r_no rfl ?_
  refine s_pkt ?_
  refine s_mv ?_
  iterate 4 refine r_no rfl ?_
  refine s_pkt ?_
  refine k_nil ?_
  refine k_seq ?_
  refine awp_true rfl ?_
  refine awp_seq ?_
  refine awp_region ?_
  refine s_as ?_
  refine k_nil ?_
  refine k_seq ?_
  refine awp_ret ?_
  refine k_seq_ret ?_
  refine k_fin ?_
  obtain rfl := Option.some.inj hF1
  exact ends_gen [] [] (by rw [Try.results93]; exact (res_tmp (by conv => lhs; whnf) res_nil))
  refine s_mv ?_
  refine s_lt ?_
  refine s_pkf ?_
  refine s_mv ?_
  refine w_guard _ 14 hF1 (fun hc2 hF2 => ?_) (fun hc2 hF2 => ?_) <;> clear hF1
  refine r_no rfl ?_
  refine r_no rfl ?_
  refine s_pkt ?_
  refine s_mv ?_
  iterate 4 refine r_no rfl ?_
  refine s_pkt ?_
  refine s_mv ?_
  iterate 4 refine r_no rfl ?_
  refine s_pkt ?_
  refine s_mv ?_
  iterate 4 refine r_no rfl ?_
  refine s_pkt ?_
  refine k_nil ?_
  refine k_seq ?_
  refine awp_true rfl ?_
  refine awp_seq ?_
  refine awp_region ?_
  refine s_as ?_
  refine k_nil ?_
  refine k_seq ?_
  refine awp_ret ?_
  refine k_seq_ret ?_
  refine k_fin ?_
  obtain rfl := Option.some.inj hF2
  exact ends_gen [] [] (by rw [Try.results93]; exact (res_tmp (by conv => lhs; whnf) res_nil))
  refine s_mv ?_
  refine s_gt ?_
  refine s_pkf ?_
  refine s_mv ?_
  refine w_guard _ 18 hF2 (fun hc3 hF3 => ?_) (fun hc3 hF3 => ?_) <;> clear hF2
  iterate 4 refine r_no rfl ?_
  refine s_pkt ?_
  refine s_mv ?_
  iterate 4 refine r_no rfl ?_
  refine s_pkt ?_
  refine s_mv ?_
  iterate 4 refine r_no rfl ?_
  refine s_pkt ?_
  refine k_nil ?_
  refine k_seq ?_
  refine awp_true rfl ?_
  refine awp_seq ?_
  refine awp_region ?_
  refine s_as ?_
  refine k_nil ?_
  refine k_seq ?_
  refine awp_ret ?_
  refine k_seq_ret ?_
  refine k_fin ?_
  obtain rfl := Option.some.inj hF3
  exact ends_gen [] [] (by rw [Try.results93]; exact (res_tmp (by conv => lhs; whnf) res_nil))
  refine s_fa yF65_0 ?_
  refine s_ldN yA32 yS32 ?_
  replace hF3 := bind_some' hF3
  obtain ⟨v4, hv4, hF4⟩ := hF3
  refine s_pure [] (m_spec_l3Is_ok fu _ _ hv4) ?_
  refine s_not ?_
  refine s_pkf ?_
  refine s_mv ?_
  refine w_guard _ 24 hF4 (fun hc5 hF5 => ?_) (fun hc5 hF5 => ?_) <;> clear hF4
  iterate 4 refine r_no rfl ?_
  refine s_pkt ?_
  refine s_mv ?_
  iterate 4 refine r_no rfl ?_
  refine s_pkt ?_
  refine k_nil ?_
  refine k_seq ?_
  refine awp_true rfl ?_
  refine awp_seq ?_
  refine awp_region ?_
  refine s_as ?_
  refine k_nil ?_
  refine k_seq ?_
  refine awp_ret ?_
  refine k_seq_ret ?_
  refine k_fin ?_
  obtain rfl := Option.some.inj hF5
  exact ends_gen [] [] (by rw [Try.results93]; exact (res_tmp (by conv => lhs; whnf) res_nil))
  refine s_fa yF65_0 ?_
  refine s_fa yF32_1 ?_
  refine s_ld1 yA9 ?_
  refine s_eqS ?_
  refine s_pkf ?_
  refine s_mv ?_
  refine w_guard _ 30 hF5 (fun hc6 hF6 => ?_) (fun hc6 hF6 => ?_) <;> clear hF5
  iterate 4 refine r_no rfl ?_
  refine s_pkt ?_
  refine k_nil ?_
  refine k_seq ?_
  refine awp_true rfl ?_
  refine awp_seq ?_
  refine awp_region ?_
  refine s_as ?_
  refine k_nil ?_
  refine k_seq ?_
  refine awp_ret ?_
  refine k_seq_ret ?_
  refine k_fin ?_
  obtain rfl := Option.some.inj hF6
  exact ends_gen [] [] (by rw [Try.results93]; exact (res_tmp (by conv => lhs; whnf) res_nil))
  refine s_fa yF65_0 ?_
  refine s_fa yF32_1 ?_
  refine s_ld1 yA9 ?_
  refine s_eqS ?_
  refine s_pkf ?_
  refine k_nil ?_
  refine k_seq ?_
  refine w_cond hF6 (fun hc7 hF7 => ?_) (fun hc7 hF7 => ?_) <;> clear hF6
  refine awp_seq ?_
  refine awp_region ?_
  refine s_as ?_
  refine k_nil ?_
  refine k_seq ?_
  refine awp_ret ?_
  refine k_seq_ret ?_
  refine k_fin ?_
  obtain rfl := Option.some.inj hF7
  exact ends_gen [] [] (by rw [Try.results93]; exact (res_tmp (by conv => lhs; whnf) res_nil))
  refine awp_skip ?_
  refine k_seq ?_
  refine awp_seq ?_
  refine awp_seq ?_
  refine awp_region ?_
  refine s_mv ?_
  refine s_eq ?_
  refine k_nil ?_
  refine k_seq ?_
  refine w_cond hF7 (fun hc8 hF8 => ?_) (fun hc8 hF8 => ?_) <;> clear hF7
  refine awp_seq ?_
  refine awp_region ?_
  refine s_fa yF65_2 ?_
  refine s_ldN yA32 yS32 ?_
  replace hF8 := bind_some' hF8
  obtain ⟨v9, hv9, hF9⟩ := hF8
  refine s_pure [] (m_spec_FormValid_ok fu _ _ hv9) ?_
  refine s_mv ?_
  refine w_guard _ 41 hF9 (fun hc10 hF10 => ?_) (fun hc10 hF10 => ?_) <;> clear hF9
  refine s_fa yF65_3 ?_
  refine s_ld1 yA34 ?_
  refine s_lenT yU34 ?_
  refine s_eq ?_
  refine s_pkt ?_
  refine s_as ?_
  refine k_nil ?_
  refine k_seq ?_
  refine awp_ret ?_
  refine k_seq_ret ?_
  refine k_fin ?_
  obtain rfl := Option.some.inj hF10
  exact ends_gen [] [] (by rw [Try.results93]; exact (res_tmp (by conv => lhs; whnf) res_nil))
  iterate 4 refine r_no rfl ?_
  refine s_pkf ?_
  refine s_as ?_
  refine k_nil ?_
  refine k_seq ?_
  refine awp_ret ?_
  refine k_seq_ret ?_
  refine k_fin ?_
  obtain rfl := Option.some.inj hF10
  exact ends_gen [] [] (by rw [Try.results93]; exact (res_tmp (by conv => lhs; whnf) res_nil))
  refine awp_skip ?_
  refine k_seq ?_
  refine awp_seq ?_
  refine awp_seq ?_
  refine awp_region ?_
  refine s_as ?_
  refine k_nil ?_
  refine k_seq ?_
  refine awp_block ?_
  refine awp_frame2 [4, 5, 47, 48, 49, 50, 51, 52, 53, 54, 55, 56, 57, 58, 59, 60, 61, 62, 63, 64, 65, 66, 67, 68, 69, 70, 71, 72, 73, 74] [] [] [] (fun a : Nat × Int => a.1) (fun a : Nat × Int => [(5, .t (.sc (.int .i64 a.2)))]) (fun a : Nat × Int => []) (fun a : Nat × Int => a.1 ≤ fu ∧ m_spec_l4Hit_l1 a.1 x1 x2 a.2 = some r ∧ 0 ≤ a.2) (fu, 0) ⟨Nat.le_refl _, hF8, by simp⟩ (by rfl) (by rfl) (fun _ => rfl) (hasF_cons (by conv => lhs; whnf) (by rfl) hasF_nil) hasO_nil (fun _ h => by cases h) freshS_nil freshM_nil ?_
  clear hF8
  rintro ⟨fu, g11⟩ ⟨hl12, hF9, hn_g11⟩
  dsimp only at hl12 hF9 hn_g11 ⊢
  obtain _ | fu := fu
  · rw [m_spec_l4Hit_l1] at hF9; cases hF9
  rw [m_spec_l4Hit_l1] at hF9
  refine awp_seq ?_
  refine awp_seq ?_
  refine awp_region ?_
  refine s_mv ?_
  refine s_fa yF65_3 ?_
  refine s_ld1 yA34 ?_
  refine s_lenT yU34 ?_
  refine s_lt ?_
  refine k_nil ?_
  refine k_seq ?_
  refine w_cond hF9 (fun hc13 hF10 => ?_) (fun hc13 hF10 => ?_) <;> clear hF9
  refine awp_lenT 49 (fun hb14 => ?_)
  refine awp_skip ?_
  refine k_seq ?_
  refine awp_seq ?_
  refine awp_block ?_
  refine awp_seq ?_
  refine awp_draw yMix (by kernel_rfl) ?_
  refine s_fa yF65_3 ?_
  refine s_ld1 yA34 ?_
  refine s_mv ?_
  replace hF10 := bind_some' hF10
  obtain ⟨v15, hv15, hF11⟩ := hF10
  refine s_ixT Hit.row hv15 (Hit.row_eq _) yE34 ?_
  refine s_fa yF65_0 ?_
  refine s_ldN yA32 yS32 ?_
  refine s_fa yF65_0 ?_
  refine s_ldN yA32 yS32 ?_
  replace hF11 := bind_some' hF11
  obtain ⟨v16, hv16, hF12⟩ := hF11
  refine s_pure [] (m_spec_FormSame_ok fu _ _ _ hv16) ?_
  refine s_not ?_
  refine s_mv ?_
  refine w_guard _ 64 hF12 (fun hc17 hF13 => ?_) (fun hc17 hF13 => ?_) <;> clear hF12
  iterate 9 refine r_no rfl ?_
  refine s_pkt ?_
  refine k_nilD (by kernel_rfl) ?_
  refine k_seq ?_
  refine awp_true rfl ?_
  refine awp_seq ?_
  refine awp_region ?_
  refine s_as ?_
  refine k_nil ?_
  refine k_seq ?_
  refine awp_ret ?_
  refine k_blk_ret ?_
  refine k_seq_ret ?_
  refine k_rnd_ret2 ?_
  refine k_blk_ret ?_
  refine k_seq_ret ?_
  refine k_fin ?_
  obtain rfl := Option.some.inj hF13
  exact ends_gen [] [] (by rw [Try.results93]; exact (res_tmp (by conv => lhs; whnf) res_nil))
  refine s_fa yF65_3 ?_
  refine s_ld1 yA34 ?_
  refine s_mv ?_
  replace hF13 := bind_some' hF13
  obtain ⟨v18, hv18, hF14⟩ := hF13
  refine s_ixT Hit.row hv18 (Hit.row_eq _) yE34 ?_
  refine s_ldN yA65 yS65 ?_
  refine s_mv ?_
  refine s_sub rfl ?_
  replace hF14 := bind_some' hF14
  obtain ⟨v19, hv19, hF15⟩ := hF14
  refine s_pure [] (ih_m_spec_l4Hit fu (by omega) _ _ _ hv19) ?_
  refine s_not ?_
  refine s_pkf ?_
  refine k_nilD (by kernel_rfl) ?_
  refine k_seq ?_
  refine w_cond hF15 (fun hc20 hF16 => ?_) (fun hc20 hF16 => ?_) <;> clear hF15
  refine awp_seq ?_
  refine awp_region ?_
  refine s_as ?_
  refine k_nil ?_
  refine k_seq ?_
  refine awp_ret ?_
  refine k_blk_ret ?_
  refine k_seq_ret ?_
  refine k_rnd_ret2 ?_
  refine k_blk_ret ?_
  refine k_seq_ret ?_
  refine k_fin ?_
  obtain rfl := Option.some.inj hF16
  exact ends_gen [] [] (by rw [Try.results93]; exact (res_tmp (by conv => lhs; whnf) res_nil))
  refine awp_skip ?_
  refine k_blk ?_
  refine k_seq ?_
  refine awp_region ?_
  refine s_mv ?_
  refine s_add (winc2 hc13 hb14 hn_g11) ?_
  refine s_as ?_
  refine k_nil ?_
  exact s_rnd2 (fu, (g11 + 1)) [] ⟨by first | omega | (dsimp only; omega), hF16, by first | omega | (dsimp only; omega)⟩ (hasR_cons (by conv => lhs; whnf) (by rfl) rfl trivial) trivial
  refine awp_exit ?_
  refine k_seq_exit ?_
  refine k_rnd_exit2 ?_
  refine k_blk_exit ?_
  refine k_seq ?_
  refine awp_seq ?_
  refine awp_region ?_
  refine s_fa yF65_2 ?_
  refine s_ldN yA32 yS32 ?_
  refine s_bld yZ32 yL32 ?_
  replace hF10 := bind_some' hF10
  obtain ⟨v21, hv21, hF11⟩ := hF10
  refine s_pure [] (m_spec_FormSame_ok fu _ _ _ hv21) ?_
  refine s_mv ?_
  refine w_guard _ 79 hF11 (fun hc22 hF12 => ?_) (fun hc22 hF12 => ?_) <;> clear hF11
  refine s_fa yF65_3 ?_
  refine s_ld1 yA34 ?_
  refine s_lenT yU34 ?_
  refine s_le ?_
  refine s_pkt ?_
  refine s_as ?_
  refine k_nil ?_
  refine k_seq ?_
  refine awp_ret ?_
  refine k_fin ?_
  obtain rfl := Option.some.inj hF12
  exact ends_gen [] [] (by rw [Try.results93]; exact (res_tmp (by conv => lhs; whnf) res_nil))
  iterate 4 refine r_no rfl ?_
  refine s_pkf ?_
  refine s_as ?_
  refine k_nil ?_
  refine k_seq ?_
  refine awp_ret ?_
  refine k_fin ?_
  obtain rfl := Option.some.inj hF12
  exact ends_gen [] [] (by rw [Try.results93]; exact (res_tmp (by conv => lhs; whnf) res_nil))
theorem m_spec_l4Hit_all (fuel : Nat) : m_spec_l4Hit_AC fuel := by
  induction fuel using Nat.strongRecOn with
  | _ N ih =>
    cases N with
    | zero => exact (by intro x1 x2 r h; rw [m_spec_l4Hit] at h; cases h)
    | succ fu => exact m_spec_l4Hit_st fu (fun k hk => (ih k (by omega)))
theorem m_spec_l4Hit_ok (fuel : Nat) : m_spec_l4Hit_AC fuel := (m_spec_l4Hit_all fuel)
end Go.Abs
end
