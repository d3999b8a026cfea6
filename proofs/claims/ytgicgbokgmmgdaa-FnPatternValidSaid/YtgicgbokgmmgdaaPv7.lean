/- A part of the proof: what the functions that the law calls answer, as pure values. -/
import Derived.Test.YtgicgbokgmmgdaaPv6
import Derived.Test.YtgicgbokgmmgdaaChecked
import Derived.Lib.Strings
import Derived.Lib.Slices
import Derived.Lib.Walk
set_option linter.unusedSimpArgs false
set_option linter.unusedVariables false
section
namespace Go.Proofs
set_option maxHeartbeats 1000000 in
set_option maxRecDepth 100000 in
theorem Try.stringslite_IndexByte (s : ByteArray) (c : Int) (w : World) :
    Calls Try.prog 158 #[.string s, .int .u8 c] w fun e w' => e = .returned (.int .i64 (Lib.indexByte s.data.toList c.toNat.toUInt8)) ∧ w' = w := by
  go_enter Try.func158, Try.ntmps158
  go_wp2
  rw [run_callFunc_extern Try.func162 (by kernel_rfl) (by kernel_rfl) (by kernel_rfl) (e := Extern.BytealgIndexByte.indexByte) (by kernel_rfl), Lib.run_indexByteString]
  simp only [Result.andThen]
  rw [Oper.upon_value]
  go_wp2
  go_ret
  exact ⟨rfl, rfl⟩
end Go.Proofs
namespace Go.Proofs
set_option maxHeartbeats 1000000 in
theorem Try.strings_IndexByte (s : ByteArray) (c : Int) (w : World) :
    Calls Try.prog 152 #[.string s, .int .u8 c] w fun e w' => e = .returned (.int .i64 (Lib.indexByte s.data.toList c.toNat.toUInt8)) ∧ w' = w := by
  go_enter Try.func152, Try.ntmps152
  go_wp2_with (go_at_call 158; refine (Try.stringslite_IndexByte _ _ _).mono ?_; rintro e w' ⟨rfl, rfl⟩)
  go_ret
  exact ⟨rfl, rfl⟩
end Go.Proofs
end
section
set_option maxRecDepth 100000
set_option maxHeartbeats 4000000
set_option linter.unusedVariables false
namespace Go.Abs
open Go.Proofs
def m_spec_l4Dots_AC (fuel : Nat) : Prop := ∀ (x1 : Form) (r : Bool), m_spec_l4Dots fuel x1 = some r → AC Try.prog 100 [.ag [.t (.sc (.int .i64 x1.kind)), .t (.sc (.str x1.name)), .t (.sc (.int .i64 x1.n)), .t (.sl (x1.scopes.map rI)), .t (.sl (x1.kids.map Form.row))]] noOb (.t (.sc (.bool r))) noOb
theorem m_spec_l4Dots_ok (fuel : Nat) : m_spec_l4Dots_AC fuel := by
  intro x1 r hF0
  unfold m_spec_l4Dots at hF0
  refine AC_intro (rs := [.t (.sc (.bool r))]) Try.func100 rfl (by kernel_rfl) (by simp [Try.ntmps100]) (by simp [noOb]) ?_
  intro C hC
  rw [Try.ntmps100]
  refine awp_seq ?_
  refine awp_region ?_
  refine s_box ?_
  refine s_as ?_
  refine k_nil ?_
  refine k_seq ?_
  refine awp_seq ?_
  refine awp_region ?_
  refine s_fa yF32_0 ?_
  refine s_ld1 yA3 ?_
  refine s_eq ?_
  refine s_mv ?_
  refine w_guard _ 6 hF0 (fun hc1 hF1 => ?_) (fun hc1 hF1 => ?_) <;> clear hF0
  refine s_fa yF32_1 ?_
  refine s_ld1 yA9 ?_
  refine s_eqS ?_
  refine s_pkt ?_
  refine s_as ?_
  refine k_nil ?_
  refine k_seq ?_
  refine awp_ret ?_
  refine k_fin ?_
  obtain rfl := Option.some.inj hF1
  exact ends_gen [] [] (by rw [Try.results100]; exact (res_tmp (by conv => lhs; whnf) res_nil))
  iterate 3 refine r_no rfl ?_
  refine s_pkf ?_
  refine s_as ?_
  refine k_nil ?_
  refine k_seq ?_
  refine awp_ret ?_
  refine k_fin ?_
  obtain rfl := Option.some.inj hF1
  exact ends_gen [] [] (by rw [Try.results100]; exact (res_tmp (by conv => lhs; whnf) res_nil))
def m_strings_IndexByte_AC (fuel : Nat) : Prop := ∀ (x1 : ByteArray) (x2 : Int) (r : Int), m_strings_IndexByte fuel x1 x2 = some r → AC Try.prog 152 [.t (.sc (.str x1)), .t (.sc (.int .u8 x2))] noOb (.t (.sc (.int .i64 r))) noOb
theorem m_strings_IndexByte_ok (fuel : Nat) : m_strings_IndexByte_AC fuel := by
  intro x1 x2 r h
  obtain rfl := Option.some.inj h
  exact ac_two (a := .str x1) (b := .int .u8 x2) (r := .int .i64 _) ⟨_, Try.func152, by kernel_rfl, by kernel_rfl⟩ (fun w => Try.strings_IndexByte x1 x2 w)
def m_impl_within_AC (fuel : Nat) : Prop := ∀ (x1 : Int) (x2 : Int) (x3 : Int) (r : Bool), m_impl_within fuel x1 x2 x3 = some r → AC Try.prog 128 [.t (.sc (.int .i64 x1)), .t (.sc (.int .i64 x2)), .t (.sc (.int .i64 x3))] noOb (.t (.sc (.bool r))) noOb
theorem m_impl_within_ok (fuel : Nat) : m_impl_within_AC fuel := by
  intro x1 x2 x3 r hF0
  unfold m_impl_within at hF0
  refine AC_intro (rs := [.t (.sc (.bool r))]) Try.func128 rfl (by kernel_rfl) (by simp [Try.ntmps128]) (by simp [noOb]) ?_
  intro C hC
  rw [Try.ntmps128]
  refine awp_seq ?_
  refine awp_region ?_
  refine s_as ?_
  refine k_nil ?_
  refine k_seq ?_
  refine awp_seq ?_
  refine awp_region ?_
  refine s_mv ?_
  refine s_mv ?_
  refine s_ge ?_
  refine s_mv ?_
  refine w_guard _ 10 hF0 (fun hc1 hF1 => ?_) (fun hc1 hF1 => ?_) <;> clear hF0
  refine s_mv ?_
  refine s_mv ?_
  refine s_le ?_
  refine s_pkt ?_
  refine s_as ?_
  refine k_nil ?_
  refine k_seq ?_
  refine awp_ret ?_
  refine k_fin ?_
  obtain rfl := Option.some.inj hF1
  exact ends_gen [] [] (by rw [Try.results128]; exact (res_tmp (by conv => lhs; whnf) res_nil))
  iterate 3 refine r_no rfl ?_
  refine s_pkf ?_
  refine s_as ?_
  refine k_nil ?_
  refine k_seq ?_
  refine awp_ret ?_
  refine k_fin ?_
  obtain rfl := Option.some.inj hF1
  exact ends_gen [] [] (by rw [Try.results128]; exact (res_tmp (by conv => lhs; whnf) res_nil))
end Go.Abs
end
section
set_option maxRecDepth 100000
set_option maxHeartbeats 4000000
set_option linter.unusedVariables false
namespace Go.Abs
open Go.Proofs
def m_impl_NameValid_AC (fuel : Nat) : Prop := ∀ (x1 : ByteArray) (r : Bool), m_impl_NameValid fuel x1 = some r → AC Try.prog 142 [.t (.sc (.str x1))] noOb (.t (.sc (.bool r))) noOb
theorem m_impl_NameValid_ok (fuel : Nat) : m_impl_NameValid_AC fuel := by
  intro x1 r hF0
  unfold m_impl_NameValid at hF0
  refine AC_intro (rs := [.t (.sc (.bool r))]) Try.func142 rfl (by kernel_rfl) (by simp [Try.ntmps142]) (by simp [noOb]) ?_
  intro C hC
  rw [Try.ntmps142]
  refine awp_seq ?_
  refine awp_region ?_
  refine s_as ?_
  refine k_nil ?_
  refine k_seq ?_
  refine awp_seq ?_
  refine awp_seq ?_
  refine awp_region ?_
  refine s_mv ?_
  refine s_eqS ?_
  refine s_mv ?_
  refine w_guard _ 7 hF0 (fun hc1 hF1 => ?_) (fun hc1 hF1 => ?_) <;> clear hF0
  refine r_no rfl ?_
  refine r_no rfl ?_
  refine s_pkt ?_
  refine k_nil ?_
  refine k_seq ?_
  refine awp_true rfl ?_
  refine awp_seq ?_
  refine awp_region ?_
  refine s_as ?_
  refine k_nil ?_
  refine k_seq ?_
  refine awp_ret ?_
  refine k_seq_ret ?_
  refine k_fin ?_
  obtain rfl := Option.some.inj hF1
  exact ends_gen [] [] (by rw [Try.results142]; exact (res_tmp (by conv => lhs; whnf) res_nil))
  refine s_mv ?_
  refine s_eqS ?_
  refine s_pkf ?_
  refine k_nil ?_
  refine k_seq ?_
  refine w_cond hF1 (fun hc2 hF2 => ?_) (fun hc2 hF2 => ?_) <;> clear hF1
  refine awp_seq ?_
  refine awp_region ?_
  refine s_as ?_
  refine k_nil ?_
  refine k_seq ?_
  refine awp_ret ?_
  refine k_seq_ret ?_
  refine k_fin ?_
  obtain rfl := Option.some.inj hF2
  exact ends_gen [] [] (by rw [Try.results142]; exact (res_tmp (by conv => lhs; whnf) res_nil))
  refine awp_skip ?_
  refine k_seq ?_
  refine awp_seq ?_
  refine awp_seq ?_
  refine awp_region ?_
  refine s_as ?_
  refine k_nil ?_
  refine k_seq ?_
  refine awp_block ?_
  refine awp_frame2 [2, 3, 4, 11, 12, 13, 14, 15, 16, 17, 18, 19, 20, 21, 22, 23, 24, 25, 26, 27, 28, 29, 30, 31, 32, 33, 34, 35, 36, 37, 38, 39, 40, 41, 42, 43, 44, 45, 46] [] [] [] (fun a : Nat × Int => a.1) (fun a : Nat × Int => [(3, .t (.sc (.int .i64 a.2)))]) (fun a : Nat × Int => []) (fun a : Nat × Int => a.1 ≤ fuel ∧ m_impl_NameValid_l1 a.1 x1 a.2 = some r) (fuel, 0) ⟨Nat.le_refl _, hF2⟩ (by rfl) (by rfl) (fun _ => rfl) (hasF_cons (by conv => lhs; whnf) (by rfl) hasF_nil) hasO_nil (fun _ h => by cases h) freshS_nil freshM_nil ?_
  clear hF2
  rintro ⟨fu, g3⟩ ⟨hl4, hF3⟩
  dsimp only at hl4 hF3 ⊢
  obtain _ | fu := fu
  · rw [m_impl_NameValid_l1] at hF3; cases hF3
  rw [m_impl_NameValid_l1] at hF3
  refine awp_seq ?_
  refine awp_seq ?_
  refine awp_region ?_
  refine s_mv ?_
  refine s_mv ?_
  refine s_lenS yU9 ?_
  refine s_lt ?_
  refine k_nil ?_
  refine k_seq ?_
  refine w_cond hF3 (fun hc5 hF4 => ?_) (fun hc5 hF4 => ?_) <;> clear hF3
  refine awp_skip ?_
  refine k_seq ?_
  refine awp_seq ?_
  refine awp_block ?_
  refine awp_seq ?_
  refine awp_region ?_
  refine s_mv ?_
  refine s_mv ?_
  replace hF4 := bind_some' hF4
  obtain ⟨v6, hv6, hF5⟩ := hF4
  refine s_ixS hv6 yU9 ?_
  refine s_as ?_
  refine k_nil ?_
  refine k_seq ?_
  refine awp_block ?_
  refine awp_seq ?_
  refine awp_region ?_
  refine s_mv ?_
  refine s_ge ?_
  refine s_mv ?_
  refine w_guard _ 23 hF5 (fun hc7 hF6 => ?_) (fun hc7 hF6 => ?_) <;> clear hF5
  refine s_mv ?_
  refine s_le ?_
  refine s_pkt ?_
  refine s_mv ?_
  refine w_guard _ 27 hF6 (fun hc8 hF7 => ?_) (fun hc8 hF7 => ?_) <;> clear hF6
  iterate 3 refine r_no rfl ?_
  refine s_pkt ?_
  refine s_as ?_
  refine k_nil ?_
  refine k_seq ?_
  refine awp_true rfl ?_
  refine awp_skip ?_
  refine k_blk ?_
  refine k_blk ?_
  refine k_seq ?_
  refine awp_region ?_
  refine s_mv ?_
  refine s_add rfl ?_
  refine s_as ?_
  refine k_nil ?_
  exact s_rnd2 (fu, (w64 (g3 + 1))) [] ⟨by first | omega | (dsimp only; omega), hF7⟩ (hasR_cons (by conv => lhs; whnf) (by rfl) rfl trivial) trivial
  refine s_mv ?_
  replace hF7 := bind_some' hF7
  obtain ⟨v9, hv9, hF8⟩ := hF7
  refine s_pure [] (m_strings_IndexByte_ok fu _ _ _ hv9) ?_
  refine s_ge ?_
  refine s_pkf ?_
  refine s_as ?_
  refine k_nil ?_
  refine k_seq ?_
  refine w_cond hF8 (fun hc10 hF9 => ?_) (fun hc10 hF9 => ?_) <;> clear hF8
  refine awp_skip ?_
  refine k_blk ?_
  refine k_blk ?_
  refine k_seq ?_
  refine awp_region ?_
  refine s_mv ?_
  refine s_add rfl ?_
  refine s_as ?_
  refine k_nil ?_
  exact s_rnd2 (fu, (w64 (g3 + 1))) [] ⟨by first | omega | (dsimp only; omega), hF9⟩ (hasR_cons (by conv => lhs; whnf) (by rfl) rfl trivial) trivial
  refine awp_seq ?_
  refine awp_region ?_
  refine s_mv ?_
  refine s_gt ?_
  refine s_mv ?_
  refine w_guard _ 35 hF9 (fun hc11 hF10 => ?_) (fun hc11 hF10 => ?_) <;> clear hF9
  refine s_mv ?_
  refine s_ge ?_
  refine s_mv ?_
  refine w_guard _ 38 hF10 (fun hc12 hF11 => ?_) (fun hc12 hF11 => ?_) <;> clear hF10
  refine s_mv ?_
  refine s_le ?_
  refine s_pkt ?_
  refine s_mv ?_
  refine w_guard _ 42 hF11 (fun hc13 hF12 => ?_) (fun hc13 hF12 => ?_) <;> clear hF11
  refine r_no rfl ?_
  refine r_no rfl ?_
  refine s_pkt ?_
  refine s_pkt ?_
  refine s_as ?_
  refine k_nil ?_
  refine k_seq ?_
  refine awp_true rfl ?_
  refine awp_skip ?_
  refine k_blk ?_
  refine k_blk ?_
  refine k_seq ?_
  refine awp_region ?_
  refine s_mv ?_
  refine s_add rfl ?_
  refine s_as ?_
  refine k_nil ?_
  exact s_rnd2 (fu, (w64 (g3 + 1))) [] ⟨by first | omega | (dsimp only; omega), hF12⟩ (hasR_cons (by conv => lhs; whnf) (by rfl) rfl trivial) trivial
  refine s_mv ?_
  refine s_eq ?_
  refine s_pkf ?_
  refine s_pkt ?_
  refine s_as ?_
  refine k_nil ?_
  refine k_seq ?_
  refine w_cond hF12 (fun hc14 hF13 => ?_) (fun hc14 hF13 => ?_) <;> clear hF12
  refine awp_skip ?_
  refine k_blk ?_
  refine k_blk ?_
  refine k_seq ?_
  refine awp_region ?_
  refine s_mv ?_
  refine s_add rfl ?_
  refine s_as ?_
  refine k_nil ?_
  exact s_rnd2 (fu, (w64 (g3 + 1))) [] ⟨by first | omega | (dsimp only; omega), hF13⟩ (hasR_cons (by conv => lhs; whnf) (by rfl) rfl trivial) trivial
  refine awp_seq ?_
  refine awp_region ?_
  refine s_as ?_
  refine k_nil ?_
  refine k_seq ?_
  refine awp_ret ?_
  refine k_blk_ret ?_
  refine k_blk_ret ?_
  refine k_seq_ret ?_
  refine k_rnd_ret2 ?_
  refine k_blk_ret ?_
  refine k_seq_ret ?_
  refine k_fin ?_
  obtain rfl := Option.some.inj hF13
  exact ends_gen [] [] (by rw [Try.results142]; exact (res_tmp (by conv => lhs; whnf) res_nil))
  refine r_no rfl ?_
  refine r_no rfl ?_
  refine s_pkf ?_
  refine s_mv ?_
  refine s_mv ?_
  refine s_eq ?_
  refine s_pkf ?_
  refine s_pkt ?_
  refine s_as ?_
  refine k_nil ?_
  refine k_seq ?_
  refine w_cond hF11 (fun hc15 hF12 => ?_) (fun hc15 hF12 => ?_) <;> clear hF11
  refine awp_skip ?_
  refine k_blk ?_
  refine k_blk ?_
  refine k_seq ?_
  refine awp_region ?_
  refine s_mv ?_
  refine s_add rfl ?_
  refine s_as ?_
  refine k_nil ?_
  exact s_rnd2 (fu, (w64 (g3 + 1))) [] ⟨by first | omega | (dsimp only; omega), hF12⟩ (hasR_cons (by conv => lhs; whnf) (by rfl) rfl trivial) trivial
  refine awp_seq ?_
  refine awp_region ?_
  refine s_as ?_
  refine k_nil ?_
  refine k_seq ?_
  refine awp_ret ?_
  refine k_blk_ret ?_
  refine k_blk_ret ?_
  refine k_seq_ret ?_
  refine k_rnd_ret2 ?_
  refine k_blk_ret ?_
  refine k_seq_ret ?_
  refine k_fin ?_
  obtain rfl := Option.some.inj hF12
  exact ends_gen [] [] (by rw [Try.results142]; exact (res_tmp (by conv => lhs; whnf) res_nil))
  iterate 10 refine r_no rfl ?_
  refine s_pkf ?_
  refine s_as ?_
  refine k_nil ?_
  refine k_seq ?_
  refine awp_false rfl ?_
  refine awp_seq ?_
  refine awp_region ?_
  refine s_as ?_
  refine k_nil ?_
  refine k_seq ?_
  refine awp_ret ?_
  refine k_blk_ret ?_
  refine k_blk_ret ?_
  refine k_seq_ret ?_
  refine k_rnd_ret2 ?_
  refine k_blk_ret ?_
  refine k_seq_ret ?_
  refine k_fin ?_
  obtain rfl := Option.some.inj hF10
  exact ends_gen [] [] (by rw [Try.results142]; exact (res_tmp (by conv => lhs; whnf) res_nil))
  refine r_no rfl ?_
  refine r_no rfl ?_
  refine s_pkf ?_
  refine s_mv ?_
  refine s_mv ?_
  replace hF6 := bind_some' hF6
  obtain ⟨v16, hv16, hF7⟩ := hF6
  refine s_pure [] (m_strings_IndexByte_ok fu _ _ _ hv16) ?_
  refine s_ge ?_
  refine s_pkf ?_
  refine s_as ?_
  refine k_nil ?_
  refine k_seq ?_
  refine w_cond hF7 (fun hc17 hF8 => ?_) (fun hc17 hF8 => ?_) <;> clear hF7
  refine awp_skip ?_
  refine k_blk ?_
  refine k_blk ?_
  refine k_seq ?_
  refine awp_region ?_
  refine s_mv ?_
  refine s_add rfl ?_
  refine s_as ?_
  refine k_nil ?_
  exact s_rnd2 (fu, (w64 (g3 + 1))) [] ⟨by first | omega | (dsimp only; omega), hF8⟩ (hasR_cons (by conv => lhs; whnf) (by rfl) rfl trivial) trivial
  refine awp_seq ?_
  refine awp_region ?_
  refine s_mv ?_
  refine s_gt ?_
  refine s_mv ?_
  refine w_guard _ 35 hF8 (fun hc18 hF9 => ?_) (fun hc18 hF9 => ?_) <;> clear hF8
  refine s_mv ?_
  refine s_ge ?_
  refine s_mv ?_
  refine w_guard _ 38 hF9 (fun hc19 hF10 => ?_) (fun hc19 hF10 => ?_) <;> clear hF9
  refine s_mv ?_
  refine s_le ?_
  refine s_pkt ?_
  refine s_mv ?_
  refine w_guard _ 42 hF10 (fun hc20 hF11 => ?_) (fun hc20 hF11 => ?_) <;> clear hF10
  refine r_no rfl ?_
  refine r_no rfl ?_
  refine s_pkt ?_
  refine s_pkt ?_
  refine s_as ?_
  refine k_nil ?_
  refine k_seq ?_
  refine awp_true rfl ?_
  refine awp_skip ?_
  refine k_blk ?_
  refine k_blk ?_
  refine k_seq ?_
  refine awp_region ?_
  refine s_mv ?_
  refine s_add rfl ?_
  refine s_as ?_
  refine k_nil ?_
  exact s_rnd2 (fu, (w64 (g3 + 1))) [] ⟨by first | omega | (dsimp only; omega), hF11⟩ (hasR_cons (by conv => lhs; whnf) (by rfl) rfl trivial) trivial
  refine s_mv ?_
  refine s_eq ?_
  refine s_pkf ?_
  refine s_pkt ?_
  refine s_as ?_
  refine k_nil ?_
  refine k_seq ?_
  refine w_cond hF11 (fun hc21 hF12 => ?_) (fun hc21 hF12 => ?_) <;> clear hF11
  refine awp_skip ?_
  refine k_blk ?_
  refine k_blk ?_
  refine k_seq ?_
  refine awp_region ?_
  refine s_mv ?_
  refine s_add rfl ?_
  refine s_as ?_
  refine k_nil ?_
  exact s_rnd2 (fu, (w64 (g3 + 1))) [] ⟨by first | omega | (dsimp only; omega), hF12⟩ (hasR_cons (by conv => lhs; whnf) (by rfl) rfl trivial) trivial
  refine awp_seq ?_
  refine awp_region ?_
  refine s_as ?_
  refine k_nil ?_
  refine k_seq ?_
  refine awp_ret ?_
  refine k_blk_ret ?_
  refine k_blk_ret ?_
  refine k_seq_ret ?_
  refine k_rnd_ret2 ?_
  refine k_blk_ret ?_
  refine k_seq_ret ?_
  refine k_fin ?_
  obtain rfl := Option.some.inj hF12
  exact ends_gen [] [] (by rw [Try.results142]; exact (res_tmp (by conv => lhs; whnf) res_nil))
  refine r_no rfl ?_
  refine r_no rfl ?_
  refine s_pkf ?_
  refine s_mv ?_
  refine s_mv ?_
  refine s_eq ?_
  refine s_pkf ?_
  refine s_pkt ?_
  refine s_as ?_
  refine k_nil ?_
  refine k_seq ?_
  refine w_cond hF10 (fun hc22 hF11 => ?_) (fun hc22 hF11 => ?_) <;> clear hF10
  refine awp_skip ?_
  refine k_blk ?_
  refine k_blk ?_
  refine k_seq ?_
  refine awp_region ?_
  refine s_mv ?_
  refine s_add rfl ?_
  refine s_as ?_
  refine k_nil ?_
  exact s_rnd2 (fu, (w64 (g3 + 1))) [] ⟨by first | omega | (dsimp only; omega), hF11⟩ (hasR_cons (by conv => lhs; whnf) (by rfl) rfl trivial) trivial
  refine awp_seq ?_
  refine awp_region ?_
  refine s_as ?_
  refine k_nil ?_
  refine k_seq ?_
  refine awp_ret ?_
  refine k_blk_ret ?_
  refine k_blk_ret ?_
  refine k_seq_ret ?_
  refine k_rnd_ret2 ?_
  refine k_blk_ret ?_
  refine k_seq_ret ?_
  refine k_fin ?_
  obtain rfl := Option.some.inj hF11
  exact ends_gen [] [] (by rw [Try.results142]; exact (res_tmp (by conv => lhs; whnf) res_nil))
  iterate 10 refine r_no rfl ?_
  refine s_pkf ?_
  refine s_as ?_
  refine k_nil ?_
  refine k_seq ?_
  refine awp_false rfl ?_
  refine awp_seq ?_
  refine awp_region ?_
  refine s_as ?_
  refine k_nil ?_
  refine k_seq ?_
  refine awp_ret ?_
  refine k_blk_ret ?_
  refine k_blk_ret ?_
  refine k_seq_ret ?_
  refine k_rnd_ret2 ?_
  refine k_blk_ret ?_
  refine k_seq_ret ?_
  refine k_fin ?_
  obtain rfl := Option.some.inj hF9
  exact ends_gen [] [] (by rw [Try.results142]; exact (res_tmp (by conv => lhs; whnf) res_nil))
  refine awp_exit ?_
  refine k_seq_exit ?_
  refine k_rnd_exit2 ?_
  refine k_blk_exit ?_
  refine k_seq ?_
  refine awp_seq ?_
  refine awp_region ?_
  refine s_mv ?_
  refine s_lenS yU9 ?_
  replace hF4 := bind_some' hF4
  obtain ⟨v23, hv23, hF5⟩ := hF4
  refine s_pure [] (m_impl_within_ok fu _ _ _ _ hv23) ?_
  refine s_as ?_
  refine k_nil ?_
  refine k_seq ?_
  refine awp_ret ?_
  refine k_fin ?_
  obtain rfl := Option.some.inj hF5
  exact ends_gen [] [] (by rw [Try.results142]; exact (res_tmp (by conv => lhs; whnf) res_nil))
def m_impl_scopesOk_AC (fuel : Nat) : Prop := ∀ (x1 : (List Int)) (r : Bool), m_impl_scopesOk fuel x1 = some r → AC Try.prog 143 [.t (.sl (x1.map rI))] noOb (.t (.sc (.bool r))) noOb
theorem m_impl_scopesOk_ok (fuel : Nat) : m_impl_scopesOk_AC fuel := by
  intro x1 r hF0
  unfold m_impl_scopesOk at hF0
  refine AC_intro (rs := [.t (.sc (.bool r))]) Try.func143 rfl (by kernel_rfl) (by simp [Try.ntmps143]) (by simp [noOb]) ?_
  intro C hC
  rw [Try.ntmps143]
  refine awp_seq ?_
  refine awp_region ?_
  refine s_as ?_
  refine k_nil ?_
  refine k_seq ?_
  refine awp_seq ?_
  refine awp_seq ?_
  refine awp_region ?_
  refine s_mv ?_
  refine s_lenT yU22 ?_
  refine s_mv ?_
  refine k_nil ?_
  refine k_seq ?_
  refine awp_block ?_
  refine awp_frame2 [2, 3, 4, 7, 8, 9, 10, 11, 12, 13, 14, 15, 16, 17, 18, 19, 20, 21, 22, 23, 24, 25, 26, 27, 28] [] [] [] (fun a : Nat × Int => a.1) (fun a : Nat × Int => [(7, .t (.sc (.int .i64 a.2)))]) (fun a : Nat × Int => []) (fun a : Nat × Int => a.1 ≤ fuel ∧ m_impl_scopesOk_l1 a.1 x1 a.2 = some r ∧ 0 ≤ a.2) (fuel, 0) ⟨Nat.le_refl _, hF0, by simp⟩ (by rfl) (by rfl) (fun _ => rfl) (hasF_cons (by conv => lhs; whnf) (by rfl) hasF_nil) hasO_nil (fun _ h => by cases h) freshS_nil freshM_nil ?_
  clear hF0
  rintro ⟨fu, g1⟩ ⟨hl2, hF1, hn_g1⟩
  dsimp only at hl2 hF1 hn_g1 ⊢
  obtain _ | fu := fu
  · rw [m_impl_scopesOk_l1] at hF1; cases hF1
  rw [m_impl_scopesOk_l1] at hF1
  refine awp_seq ?_
  refine awp_region ?_
  refine s_lt ?_
  refine k_nil ?_
  refine k_seq ?_
  refine awp_seq ?_
  refine w_cond hF1 (fun hc3 hF2 => ?_) (fun hc3 hF2 => ?_) <;> clear hF1
  refine awp_lenT 0 (fun hb4 => ?_)
  refine awp_skip ?_
  refine k_seq ?_
  refine awp_seq ?_
  refine awp_block ?_
  refine awp_seq ?_
  refine awp_region ?_
  refine s_mv ?_
  replace hF2 := bind_some' hF2
  obtain ⟨v5, hv5, hF3⟩ := hF2
  refine s_ixT rI hv5 rfl yE22 ?_
  refine s_ld1 yA3 ?_
  refine s_as ?_
  refine s_as ?_
  refine k_nil ?_
  refine k_seq ?_
  refine awp_seq ?_
  refine awp_region ?_
  refine s_mv ?_
  replace hF3 := bind_some' hF3
  obtain ⟨v6, hv6, hF4⟩ := hF3
  refine s_pure [] (m_impl_within_ok fu _ _ _ _ hv6) ?_
  refine s_not ?_
  refine s_mv ?_
  refine w_guard _ 15 hF4 (fun hc7 hF5 => ?_) (fun hc7 hF5 => ?_) <;> clear hF4
  iterate 11 refine r_no rfl ?_
  refine s_pkt ?_
  refine k_nil ?_
  refine k_seq ?_
  refine awp_true rfl ?_
  refine awp_seq ?_
  refine awp_region ?_
  refine s_as ?_
  refine k_nil ?_
  refine k_seq ?_
  refine awp_ret ?_
  refine k_blk_ret ?_
  refine k_seq_ret ?_
  refine k_rnd_ret2 ?_
  refine k_blk_ret ?_
  refine k_seq_ret ?_
  refine k_fin ?_
  obtain rfl := Option.some.inj hF5
  exact ends_gen [] [] (by rw [Try.results143]; exact (res_tmp (by conv => lhs; whnf) res_nil))
  refine s_mv ?_
  refine s_gt ?_
  refine s_mv ?_
  refine w_guard _ 18 hF5 (fun hc8 hF6 => ?_) (fun hc8 hF6 => ?_) <;> clear hF5
  refine s_mv ?_
  refine s_mv ?_
  refine s_sub rfl ?_
  replace hF6 := bind_some' hF6
  obtain ⟨v9, hv9, hF7⟩ := hF6
  refine s_ixT rI hv9 rfl yE22 ?_
  refine s_ld1 yA3 ?_
  refine s_mv ?_
  refine s_ge ?_
  refine s_pkt ?_
  refine s_pkf ?_
  refine k_nil ?_
  refine k_seq ?_
  refine w_cond hF7 (fun hc10 hF8 => ?_) (fun hc10 hF8 => ?_) <;> clear hF7
  refine awp_seq ?_
  refine awp_region ?_
  refine s_as ?_
  refine k_nil ?_
  refine k_seq ?_
  refine awp_ret ?_
  refine k_blk_ret ?_
  refine k_seq_ret ?_
  refine k_rnd_ret2 ?_
  refine k_blk_ret ?_
  refine k_seq_ret ?_
  refine k_fin ?_
  obtain rfl := Option.some.inj hF8
  exact ends_gen [] [] (by rw [Try.results143]; exact (res_tmp (by conv => lhs; whnf) res_nil))
  refine awp_skip ?_
  refine k_blk ?_
  refine k_seq ?_
  refine awp_region ?_
  refine s_add (winc2 hc3 hb4 hn_g1) ?_
  refine s_mv ?_
  refine k_nil ?_
  exact s_rnd2 (fu, (g1 + 1)) [] ⟨by first | omega | (dsimp only; omega), hF8, by first | omega | (dsimp only; omega)⟩ (hasR_cons (by conv => lhs; whnf) (by rfl) rfl trivial) trivial
  iterate 7 refine r_no rfl ?_
  refine s_pkf ?_
  refine s_pkf ?_
  refine k_nil ?_
  refine k_seq ?_
  refine awp_false rfl ?_
  refine awp_skip ?_
  refine k_blk ?_
  refine k_seq ?_
  refine awp_region ?_
  refine s_add (winc2 hc3 hb4 hn_g1) ?_
  refine s_mv ?_
  refine k_nil ?_
  exact s_rnd2 (fu, (g1 + 1)) [] ⟨by first | omega | (dsimp only; omega), hF6, by first | omega | (dsimp only; omega)⟩ (hasR_cons (by conv => lhs; whnf) (by rfl) rfl trivial) trivial
  refine awp_exit ?_
  refine k_seq_exit ?_
  refine k_rnd_exit2 ?_
  refine k_blk_exit ?_
  refine k_seq ?_
  refine awp_seq ?_
  refine awp_region ?_
  refine s_mv ?_
  refine s_lenT yU22 ?_
  refine s_le ?_
  refine s_as ?_
  refine k_nil ?_
  refine k_seq ?_
  refine awp_ret ?_
  refine k_fin ?_
  obtain rfl := Option.some.inj hF2
  exact ends_gen [] [] (by rw [Try.results143]; exact (res_tmp (by conv => lhs; whnf) res_nil))
def m_impl_formOk_AC (fuel : Nat) : Prop := ∀ (x1 : Form) (x2 : Int) (o1 : Int) (r : (Bool × Int)), m_impl_formOk fuel x1 x2 o1 = some r → AC Try.prog 116 [.ag [.t (.sc (.int .i64 x1.kind)), .t (.sc (.str x1.name)), .t (.sc (.int .i64 x1.n)), .t (.sl (x1.scopes.map rI)), .t (.sl (x1.kids.map Form.row))], .t (.sc (.int .i64 x2)), .rf 9000 0] (objs [(9000, .box [.t (.sc (.int .i64 o1))])]) (.t (.sc (.bool r.1))) (objs [(9000, .box [.t (.sc (.int .i64 r.2))])])
theorem m_impl_formOk_st (fu : Nat) (ih_m_impl_formOk : ∀ k, k ≤ fu → m_impl_formOk_AC k) : m_impl_formOk_AC (fu + 1) := by
  intro x1 x2 o1 r hF0
  rw [m_impl_formOk] at hF0
  refine AC_intro (rs := [.t (.sc (.bool r.1))]) Try.func116 rfl (by kernel_rfl) (by simp [Try.ntmps116]) (keep_all rfl) ?_
  intro C hC
  rw [Try.ntmps116]
  refine awp_seq ?_
  refine awp_region ?_
  refine s_box ?_
  refine s_as ?_
  refine k_nil ?_
  refine k_seq ?_
  refine awp_seq ?_
  refine awp_region ?_
  refine s_mv ?_
  refine s_nc ?_
  refine s_ld1 yA3 ?_
  refine s_sub rfl ?_
  refine s_nc ?_
  refine s_stW yS3 ?_
  refine k_nil ?_
  refine k_seq ?_
  refine awp_seq ?_
  refine awp_seq ?_
  refine awp_region ?_
  refine s_mv ?_
  refine s_nc ?_
  refine s_ld1 yA3 ?_
  refine s_lt ?_
  refine s_mv ?_
  refine w_guard _ 18 hF0 (fun hc1 hF1 => ?_) (fun hc1 hF1 => ?_) <;> clear hF0
  refine r_no rfl ?_
  refine r_no rfl ?_
  refine s_pkt ?_
  refine k_nil ?_
  refine k_seq ?_
  refine awp_true rfl ?_
  refine awp_seq ?_
  refine awp_region ?_
  refine s_as ?_
  refine k_nil ?_
  refine k_seq ?_
  refine awp_ret ?_
  refine k_seq_ret ?_
  refine k_fin ?_
  obtain rfl := Option.some.inj hF1
  exact ends_gen _ [] (by rw [Try.results116]; exact (res_tmp (by conv => lhs; whnf) res_nil))
  refine s_mv ?_
  refine s_gt ?_
  refine s_pkf ?_
  refine k_nil ?_
  refine k_seq ?_
  refine w_cond hF1 (fun hc2 hF2 => ?_) (fun hc2 hF2 => ?_) <;> clear hF1
  refine awp_seq ?_
  refine awp_region ?_
  refine s_as ?_
  refine k_nil ?_
  refine k_seq ?_
  refine awp_ret ?_
  refine k_seq_ret ?_
  refine k_fin ?_
  obtain rfl := Option.some.inj hF2
  exact ends_gen _ [] (by rw [Try.results116]; exact (res_tmp (by conv => lhs; whnf) res_nil))
  refine awp_skip ?_
  refine k_seq ?_
  refine awp_seq ?_
  refine awp_seq ?_
  refine awp_region ?_
  refine s_fa yF32_0 ?_
  refine s_ld1 yA3 ?_
  refine k_nil ?_
  refine k_seq ?_
  refine awp_block ?_
  refine awp_seq ?_
  refine awp_region ?_
  refine s_eq ?_
  refine s_as ?_
  refine k_nil ?_
  refine k_seq ?_
  refine w_cond hF2 (fun hc3 hF3 => ?_) (fun hc3 hF3 => ?_) <;> clear hF2
  refine awp_seq ?_
  refine awp_region ?_
  refine s_fa yF32_1 ?_
  refine s_ld1 yA9 ?_
  replace hF3 := bind_some' hF3
  obtain ⟨v4, hv4, hF4⟩ := hF3
  refine s_pure [] (m_impl_NameValid_ok fu _ _ hv4) ?_
  refine s_mv ?_
  refine w_guard _ 29 hF4 (fun hc5 hF5 => ?_) (fun hc5 hF5 => ?_) <;> clear hF4
  refine s_fa yF32_2 ?_
  refine s_ld1 yA3 ?_
  refine s_eq ?_
  refine s_pkt ?_
  refine s_mv ?_
  refine w_guard _ 34 hF5 (fun hc6 hF6 => ?_) (fun hc6 hF6 => ?_) <;> clear hF5
  refine s_fa yF32_3 ?_
  refine s_ld1 yA22 ?_
  replace hF6 := bind_some' hF6
  obtain ⟨v7, hv7, hF7⟩ := hF6
  refine s_pure [] (m_impl_scopesOk_ok fu _ _ hv7) ?_
  refine s_pkt ?_
  refine s_mv ?_
  refine w_guard _ 39 hF7 (fun hc8 hF8 => ?_) (fun hc8 hF8 => ?_) <;> clear hF7
  refine s_fa yF32_4 ?_
  refine s_ld1 yA30 ?_
  refine s_lenT yU30 ?_
  refine s_eq ?_
  refine s_pkt ?_
  refine s_as ?_
  refine k_nil ?_
  refine k_seq ?_
  refine awp_ret ?_
  refine k_blk_ret ?_
  refine k_seq_ret ?_
  refine k_fin ?_
  obtain rfl := Option.some.inj hF8
  exact ends_gen _ [] (by rw [Try.results116]; exact (res_tmp (by conv => lhs; whnf) res_nil))
  iterate 4 refine r_no rfl ?_
  refine s_pkf ?_
  refine s_as ?_
  refine k_nil ?_
  refine k_seq ?_
  refine awp_ret ?_
  refine k_blk_ret ?_
  refine k_seq_ret ?_
  refine k_fin ?_
  obtain rfl := Option.some.inj hF8
  exact ends_gen _ [] (by rw [Try.results116]; exact (res_tmp (by conv => lhs; whnf) res_nil))
  iterate 3 refine r_no rfl ?_
  refine s_pkf ?_
  refine s_mv ?_
  iterate 4 refine r_no rfl ?_
  refine s_pkf ?_
  refine s_as ?_
  refine k_nil ?_
  refine k_seq ?_
  refine awp_ret ?_
  refine k_blk_ret ?_
  refine k_seq_ret ?_
  refine k_fin ?_
  obtain rfl := Option.some.inj hF6
  exact ends_gen _ [] (by rw [Try.results116]; exact (res_tmp (by conv => lhs; whnf) res_nil))
  iterate 3 refine r_no rfl ?_
  refine s_pkf ?_
  refine s_mv ?_
  iterate 3 refine r_no rfl ?_
  refine s_pkf ?_
  refine s_mv ?_
  iterate 4 refine r_no rfl ?_
  refine s_pkf ?_
  refine s_as ?_
  refine k_nil ?_
  refine k_seq ?_
  refine awp_ret ?_
  refine k_blk_ret ?_
  refine k_seq_ret ?_
  refine k_fin ?_
  obtain rfl := Option.some.inj hF5
  exact ends_gen _ [] (by rw [Try.results116]; exact (res_tmp (by conv => lhs; whnf) res_nil))
  refine awp_seq ?_
  refine awp_region ?_
  refine s_eq ?_
  refine s_as ?_
  refine k_nil ?_
  refine k_seq ?_
  refine w_cond hF3 (fun hc9 hF4 => ?_) (fun hc9 hF4 => ?_) <;> clear hF3
  refine awp_seq ?_
  refine awp_region ?_
  refine s_fa yF32_1 ?_
  refine s_ld1 yA9 ?_
  refine s_eqS ?_
  refine s_mv ?_
  refine w_guard _ 50 hF4 (fun hc10 hF5 => ?_) (fun hc10 hF5 => ?_) <;> clear hF4
  refine s_fa yF32_2 ?_
  refine s_ld1 yA3 ?_
  replace hF5 := bind_some' hF5
  obtain ⟨v11, hv11, hF6⟩ := hF5
  refine s_pure [] (m_impl_within_ok fu _ _ _ _ hv11) ?_
  refine s_pkt ?_
  refine s_mv ?_
  refine w_guard _ 55 hF6 (fun hc12 hF7 => ?_) (fun hc12 hF7 => ?_) <;> clear hF6
  refine s_fa yF32_3 ?_
  refine s_ld1 yA22 ?_
  refine s_lenT yU22 ?_
  refine s_eq ?_
  refine s_pkt ?_
  refine s_mv ?_
  refine w_guard _ 61 hF7 (fun hc13 hF8 => ?_) (fun hc13 hF8 => ?_) <;> clear hF7
  refine s_fa yF32_4 ?_
  refine s_ld1 yA30 ?_
  refine s_lenT yU30 ?_
  refine s_eq ?_
  refine s_pkt ?_
  refine s_as ?_
  refine k_nil ?_
  refine k_seq ?_
  refine awp_ret ?_
  refine k_blk_ret ?_
  refine k_seq_ret ?_
  refine k_fin ?_
  obtain rfl := Option.some.inj hF8
  exact ends_gen _ [] (by rw [Try.results116]; exact (res_tmp (by conv => lhs; whnf) res_nil))
  iterate 4 refine r_no rfl ?_
  refine s_pkf ?_
  refine s_as ?_
  refine k_nil ?_
  refine k_seq ?_
  refine awp_ret ?_
  refine k_blk_ret ?_
  refine k_seq_ret ?_
  refine k_fin ?_
  obtain rfl := Option.some.inj hF8
  exact ends_gen _ [] (by rw [Try.results116]; exact (res_tmp (by conv => lhs; whnf) res_nil))
  iterate 4 refine r_no rfl ?_
  refine s_pkf ?_
  refine s_mv ?_
  iterate 4 refine r_no rfl ?_
  refine s_pkf ?_
  refine s_as ?_
  refine k_nil ?_
  refine k_seq ?_
  refine awp_ret ?_
  refine k_blk_ret ?_
  refine k_seq_ret ?_
  refine k_fin ?_
  obtain rfl := Option.some.inj hF7
  exact ends_gen _ [] (by rw [Try.results116]; exact (res_tmp (by conv => lhs; whnf) res_nil))
  iterate 3 refine r_no rfl ?_
  refine s_pkf ?_
  refine s_mv ?_
  iterate 4 refine r_no rfl ?_
  refine s_pkf ?_
  refine s_mv ?_
  iterate 4 refine r_no rfl ?_
  refine s_pkf ?_
  refine s_as ?_
  refine k_nil ?_
  refine k_seq ?_
  refine awp_ret ?_
  refine k_blk_ret ?_
  refine k_seq_ret ?_
  refine k_fin ?_
  obtain rfl := Option.some.inj hF5
  exact ends_gen _ [] (by rw [Try.results116]; exact (res_tmp (by conv => lhs; whnf) res_nil))
  refine awp_seq ?_
  refine awp_region ?_
  refine s_eq ?_
  refine s_as ?_
  refine k_nil ?_
  refine k_seq ?_
  refine w_cond hF4 (fun hc14 hF5 => ?_) (fun hc14 hF5 => ?_) <;> clear hF4
  refine awp_seq ?_
  refine awp_seq ?_
  refine awp_region ?_
  refine s_fa yF32_1 ?_
  refine s_ld1 yA9 ?_
  refine s_neS ?_
  refine s_mv ?_
  refine w_guard _ 72 hF5 (fun hc15 hF6 => ?_) (fun hc15 hF6 => ?_) <;> clear hF5
  iterate 3 refine r_no rfl ?_
  refine s_pkt ?_
  refine s_mv ?_
  iterate 4 refine r_no rfl ?_
  refine s_pkt ?_
  refine k_nil ?_
  refine k_seq ?_
  refine awp_true rfl ?_
  refine awp_seq ?_
  refine awp_region ?_
  refine s_as ?_
  refine k_nil ?_
  refine k_seq ?_
  refine awp_ret ?_
  refine k_seq_ret ?_
  refine k_blk_ret ?_
  refine k_seq_ret ?_
  refine k_fin ?_
  obtain rfl := Option.some.inj hF6
  exact ends_gen _ [] (by rw [Try.results116]; exact (res_tmp (by conv => lhs; whnf) res_nil))
  refine s_fa yF32_2 ?_
  refine s_ld1 yA3 ?_
  refine s_ne ?_
  refine s_pkf ?_
  refine s_mv ?_
  refine w_guard _ 77 hF6 (fun hc16 hF7 => ?_) (fun hc16 hF7 => ?_) <;> clear hF6
  iterate 4 refine r_no rfl ?_
  refine s_pkt ?_
  refine k_nil ?_
  refine k_seq ?_
  refine awp_true rfl ?_
  refine awp_seq ?_
  refine awp_region ?_
  refine s_as ?_
  refine k_nil ?_
  refine k_seq ?_
  refine awp_ret ?_
  refine k_seq_ret ?_
  refine k_blk_ret ?_
  refine k_seq_ret ?_
  refine k_fin ?_
  obtain rfl := Option.some.inj hF7
  exact ends_gen _ [] (by rw [Try.results116]; exact (res_tmp (by conv => lhs; whnf) res_nil))
  refine s_fa yF32_3 ?_
  refine s_ld1 yA22 ?_
  refine s_lenT yU22 ?_
  refine s_gt ?_
  refine s_pkf ?_
  refine k_nil ?_
  refine k_seq ?_
  refine w_cond hF7 (fun hc17 hF8 => ?_) (fun hc17 hF8 => ?_) <;> clear hF7
  refine awp_lenT 79 (fun hb18 => ?_)
  refine awp_seq ?_
  refine awp_region ?_
  refine s_as ?_
  refine k_nil ?_
  refine k_seq ?_
  refine awp_ret ?_
  refine k_seq_ret ?_
  refine k_blk_ret ?_
  refine k_seq_ret ?_
  refine k_fin ?_
  obtain rfl := Option.some.inj hF8
  exact ends_gen _ [] (by rw [Try.results116]; exact (res_tmp (by conv => lhs; whnf) res_nil))
  refine awp_skip ?_
  refine k_seq ?_
  refine awp_seq ?_
  refine awp_seq ?_
  refine awp_region ?_
  refine s_fa yF32_4 ?_
  refine s_ld1 yA30 ?_
  refine s_lenT yU30 ?_
  refine s_mv ?_
  refine k_nil ?_
  refine k_seq ?_
  refine awp_block ?_
  refine awp_frame2 [6, 8, 86, 87, 88, 89, 90, 91, 92, 93, 94, 95, 96] [9000] [8] [] (fun a : Nat × Int × Int => a.1) (fun a : Nat × Int × Int => [(86, .t (.sc (.int .i64 a.2.1)))]) (fun a : Nat × Int × Int => [(9000, .box [.t (.sc (.int .i64 a.2.2))])]) (fun a : Nat × Int × Int => a.1 ≤ fu ∧ m_impl_formOk_l1 a.1 x1 x2 a.2.1 a.2.2 = some r ∧ 0 ≤ a.2.1) (fu, 0, (w64 (o1 - 1))) ⟨Nat.le_refl _, hF8, by simp⟩ (by rfl) (by rfl) (fun _ => rfl) (hasF_cons (by conv => lhs; whnf) (by rfl) hasF_nil) (hasO_cons (by conv => lhs; whnf) (by rfl) hasO_nil) (fun _ h => by cases h) freshS_nil freshM_nil ?_
  clear hF8
  rintro ⟨fu, g19, g20⟩ ⟨hl21, hF9, hn_g19⟩
  dsimp only at hl21 hF9 hn_g19 ⊢
  obtain _ | fu := fu
  · rw [m_impl_formOk_l1] at hF9; cases hF9
  rw [m_impl_formOk_l1] at hF9
  refine awp_seq ?_
  refine awp_region ?_
  refine s_lt ?_
  refine k_nil ?_
  refine k_seq ?_
  refine awp_seq ?_
  refine w_cond hF9 (fun hc22 hF10 => ?_) (fun hc22 hF10 => ?_) <;> clear hF9
  refine awp_lenT 84 (fun hb23 => ?_)
  refine awp_skip ?_
  refine k_seq ?_
  refine awp_seq ?_
  refine awp_block ?_
  refine awp_seq ?_
  refine awp_region ?_
  replace hF10 := bind_some' hF10
  obtain ⟨v24, hv24, hF11⟩ := hF10
  refine s_ixT Form.row hv24 (Form.row_eq _) yE30 ?_
  refine s_ldN yA32 yS32 ?_
  refine s_alloc yZ32 ?_
  refine s_stW yS32 ?_
  refine k_nil ?_
  refine k_seq ?_
  refine awp_seq ?_
  refine awp_region ?_
  refine s_ldW yA32 yS32 ?_
  refine s_mv ?_
  refine s_add rfl ?_
  refine s_mv ?_
  replace hF11 := bind_some' hF11
  obtain ⟨v25, hv25, hF12⟩ := hF11
  refine s_call [(9000, 9000)] [] _ _ (ih_m_impl_formOk fu (by omega) _ _ _ _ hv25) ?_
  refine s_not ?_
  refine k_nil ?_
  refine k_seq ?_
  refine w_cond hF12 (fun hc26 hF13 => ?_) (fun hc26 hF13 => ?_) <;> clear hF12
  refine awp_seq ?_
  refine awp_region ?_
  refine s_as ?_
  refine k_nil ?_
  refine k_seq ?_
  refine awp_ret ?_
  refine k_blk_ret ?_
  refine k_seq_ret ?_
  refine k_rnd_ret2 ?_
  refine k_blk_ret ?_
  refine k_seq_ret ?_
  refine k_blk_ret ?_
  refine k_seq_ret ?_
  refine k_fin ?_
  obtain rfl := Option.some.inj hF13
  exact ends_gen _ [] (by rw [Try.results116]; exact (res_tmp (by conv => lhs; whnf) res_nil))
  refine awp_skip ?_
  refine k_blk ?_
  refine k_seq ?_
  refine awp_region ?_
  refine s_add (winc2 hc22 hb23 hn_g19) ?_
  refine s_mv ?_
  refine k_nil ?_
  exact s_rnd2 (fu, (g19 + 1), v25.2) [] ⟨by first | omega | (dsimp only; omega), hF13, by first | omega | (dsimp only; omega)⟩ (hasR_cons (by conv => lhs; whnf) (by rfl) rfl trivial) (hasQ_cons (by conv => lhs; whnf) (by rfl) rfl trivial)
  refine awp_exit ?_
  refine k_seq_exit ?_
  refine k_rnd_exit2 ?_
  refine k_blk_exit ?_
  refine k_seq ?_
  refine awp_seq ?_
  refine awp_region ?_
  refine s_as ?_
  refine k_nil ?_
  refine k_seq ?_
  refine awp_ret ?_
  refine k_blk_ret ?_
  refine k_seq_ret ?_
  refine k_fin ?_
  obtain rfl := Option.some.inj hF10
  exact ends_gen _ [] (by rw [Try.results116]; exact (res_tmp (by conv => lhs; whnf) res_nil))
  refine awp_skip ?_
  refine k_blk ?_
  refine k_seq ?_
  refine awp_seq ?_
  refine awp_region ?_
  refine s_as ?_
  refine k_nil ?_
  refine k_seq ?_
  refine awp_ret ?_
  refine k_fin ?_
  obtain rfl := Option.some.inj hF5
  exact ends_gen _ [] (by rw [Try.results116]; exact (res_tmp (by conv => lhs; whnf) res_nil))
theorem m_impl_formOk_all (fuel : Nat) : m_impl_formOk_AC fuel := by
  induction fuel using Nat.strongRecOn with
  | _ N ih =>
    cases N with
    | zero => exact (by intro x1 x2 o1 r h; rw [m_impl_formOk] at h; cases h)
    | succ fu => exact m_impl_formOk_st fu (fun k hk => (ih k (by omega)))
theorem m_impl_formOk_ok (fuel : Nat) : m_impl_formOk_AC fuel := (m_impl_formOk_all fuel)
def m_impl_FormValid_AC (fuel : Nat) : Prop := ∀ (x1 : Form) (r : Bool), m_impl_FormValid fuel x1 = some r → AC Try.prog 77 [.ag [.t (.sc (.int .i64 x1.kind)), .t (.sc (.str x1.name)), .t (.sc (.int .i64 x1.n)), .t (.sl (x1.scopes.map rI)), .t (.sl (x1.kids.map Form.row))]] noOb (.t (.sc (.bool r))) noOb
theorem m_impl_FormValid_ok (fuel : Nat) : m_impl_FormValid_AC fuel := by
  intro x1 r hF0
  unfold m_impl_FormValid at hF0
  refine AC_intro (rs := [.t (.sc (.bool r))]) Try.func77 rfl (by kernel_rfl) (by simp [Try.ntmps77]) (by simp [noOb]) ?_
  intro C hC
  rw [Try.ntmps77]
  refine awp_seq ?_
  refine awp_region ?_
  refine s_box ?_
  refine s_as ?_
  refine k_nil ?_
  refine k_seq ?_
  refine awp_seq ?_
  refine awp_region ?_
  refine s_alloc yZ3 ?_
  refine s_stW yS3 ?_
  refine k_nil ?_
  refine k_seq ?_
  refine awp_seq ?_
  refine awp_region ?_
  refine s_ldW yA32 yS32 ?_
  replace hF0 := bind_some' hF0
  obtain ⟨v1, hv1, hF1⟩ := hF0
  refine s_call [(9000, 3)] [] _ _ (m_impl_formOk_ok fuel _ _ _ _ hv1) ?_
  refine s_as ?_
  refine k_nil ?_
  refine k_seq ?_
  refine awp_ret ?_
  refine k_fin ?_
  obtain rfl := Option.some.inj hF1
  exact ends_gen [] [] (by rw [Try.results77]; exact (res_tmp (by conv => lhs; whnf) res_nil))
def m_impl_isName_AC (fuel : Nat) : Prop := ∀ (x1 : Form) (r : Bool), m_impl_isName fuel x1 = some r → AC Try.prog 117 [.ag [.t (.sc (.int .i64 x1.kind)), .t (.sc (.str x1.name)), .t (.sc (.int .i64 x1.n)), .t (.sl (x1.scopes.map rI)), .t (.sl (x1.kids.map Form.row))]] noOb (.t (.sc (.bool r))) noOb
theorem m_impl_isName_ok (fuel : Nat) : m_impl_isName_AC fuel := by
  intro x1 r hF0
  unfold m_impl_isName at hF0
  refine AC_intro (rs := [.t (.sc (.bool r))]) Try.func117 rfl (by kernel_rfl) (by simp [Try.ntmps117]) (by simp [noOb]) ?_
  intro C hC
  rw [Try.ntmps117]
  refine awp_seq ?_
  refine awp_region ?_
  refine s_box ?_
  refine s_as ?_
  refine k_nil ?_
  refine k_seq ?_
  refine awp_seq ?_
  refine awp_region ?_
  refine s_fa yF32_0 ?_
  refine s_ld1 yA3 ?_
  refine s_eq ?_
  refine s_mv ?_
  refine w_guard _ 6 hF0 (fun hc1 hF1 => ?_) (fun hc1 hF1 => ?_) <;> clear hF0
  refine s_ldW yA32 yS32 ?_
  replace hF1 := bind_some' hF1
  obtain ⟨v2, hv2, hF2⟩ := hF1
  refine s_pure [] (m_impl_FormValid_ok fuel _ _ hv2) ?_
  refine s_pkt ?_
  refine s_as ?_
  refine k_nil ?_
  refine k_seq ?_
  refine awp_ret ?_
  refine k_fin ?_
  obtain rfl := Option.some.inj hF2
  exact ends_gen [] [] (by rw [Try.results117]; exact (res_tmp (by conv => lhs; whnf) res_nil))
  refine r_no rfl ?_
  refine r_no rfl ?_
  refine s_pkf ?_
  refine s_as ?_
  refine k_nil ?_
  refine k_seq ?_
  refine awp_ret ?_
  refine k_fin ?_
  obtain rfl := Option.some.inj hF1
  exact ends_gen [] [] (by rw [Try.results117]; exact (res_tmp (by conv => lhs; whnf) res_nil))
def m_slices_Equal_int_AC (fuel : Nat) : Prop := ∀ (x1 : (List Int)) (x2 : (List Int)) (r : Bool), m_slices_Equal_int fuel x1 x2 = some r → AC Try.prog 69 [.t (.sl (x1.map rI)), .t (.sl (x2.map rI))] noOb (.t (.sc (.bool r))) noOb
theorem m_slices_Equal_int_ok (fuel : Nat) : m_slices_Equal_int_AC fuel := by
  intro x1 x2 r hF0
  unfold m_slices_Equal_int at hF0
  refine AC_intro (rs := [.t (.sc (.bool r))]) Try.func69 rfl (by kernel_rfl) (by simp [Try.ntmps69]) (by simp [noOb]) ?_
  intro C hC
  rw [Try.ntmps69]
  refine awp_seq ?_
  refine awp_region ?_
  refine s_as ?_
  refine k_nil ?_
  refine k_seq ?_
  refine awp_seq ?_
  refine awp_seq ?_
  refine awp_region ?_
  refine s_mv ?_
  refine s_lenT yU22 ?_
  refine s_mv ?_
  refine s_lenT yU22 ?_
  refine s_ne ?_
  refine k_nil ?_
  refine k_seq ?_
  refine w_cond hF0 (fun hc1 hF1 => ?_) (fun hc1 hF1 => ?_) <;> clear hF0
  refine awp_seq ?_
  refine awp_region ?_
  refine s_as ?_
  refine k_nil ?_
  refine k_seq ?_
  refine awp_ret ?_
  refine k_seq_ret ?_
  refine k_fin ?_
  obtain rfl := Option.some.inj hF1
  exact ends_gen [] [] (by rw [Try.results69]; exact (res_tmp (by conv => lhs; whnf) res_nil))
  refine awp_skip ?_
  refine k_seq ?_
  refine awp_seq ?_
  refine awp_seq ?_
  refine awp_region ?_
  refine s_mv ?_
  refine s_lenT yU22 ?_
  refine s_mv ?_
  refine k_nil ?_
  refine k_seq ?_
  refine awp_block ?_
  refine awp_frame2 [4, 5, 13, 14, 15, 16, 17, 18, 19, 20, 21, 22, 23, 24, 25] [] [] [] (fun a : Nat × Int => a.1) (fun a : Nat × Int => [(13, .t (.sc (.int .i64 a.2)))]) (fun a : Nat × Int => []) (fun a : Nat × Int => a.1 ≤ fuel ∧ m_slices_Equal_int_l1 a.1 x1 x2 a.2 = some r ∧ 0 ≤ a.2) (fuel, 0) ⟨Nat.le_refl _, hF1, by simp⟩ (by rfl) (by rfl) (fun _ => rfl) (hasF_cons (by conv => lhs; whnf) (by rfl) hasF_nil) hasO_nil (fun _ h => by cases h) freshS_nil freshM_nil ?_
  clear hF1
  rintro ⟨fu, g2⟩ ⟨hl3, hF2, hn_g2⟩
  dsimp only at hl3 hF2 hn_g2 ⊢
  obtain _ | fu := fu
  · rw [m_slices_Equal_int_l1] at hF2; cases hF2
  rw [m_slices_Equal_int_l1] at hF2
  refine awp_seq ?_
  refine awp_region ?_
  refine s_lt ?_
  refine k_nil ?_
  refine k_seq ?_
  refine awp_seq ?_
  refine w_cond hF2 (fun hc4 hF3 => ?_) (fun hc4 hF3 => ?_) <;> clear hF2
  refine awp_lenT 0 (fun hb5 => ?_)
  refine awp_skip ?_
  refine k_seq ?_
  refine awp_seq ?_
  refine awp_block ?_
  refine awp_seq ?_
  refine awp_region ?_
  refine s_mv ?_
  refine s_as ?_
  refine k_nil ?_
  refine k_seq ?_
  refine awp_seq ?_
  refine awp_draw yMix (by kernel_rfl) ?_
  refine s_mv ?_
  refine s_mv ?_
  replace hF3 := bind_some' hF3
  obtain ⟨v6, hv6, hF4⟩ := hF3
  refine s_ixT rI hv6 rfl yE22 ?_
  refine s_ld1 yA3 ?_
  refine s_mv ?_
  refine s_mv ?_
  replace hF4 := bind_some' hF4
  obtain ⟨v7, hv7, hF5⟩ := hF4
  refine s_ixT rI hv7 rfl yE22 ?_
  refine s_ld1 yA3 ?_
  refine s_ne ?_
  refine k_nilD (by kernel_rfl) ?_
  refine k_seq ?_
  refine w_cond hF5 (fun hc8 hF6 => ?_) (fun hc8 hF6 => ?_) <;> clear hF5
  refine awp_seq ?_
  refine awp_region ?_
  refine s_as ?_
  refine k_nil ?_
  refine k_seq ?_
  refine awp_ret ?_
  refine k_blk_ret ?_
  refine k_seq_ret ?_
  refine k_rnd_ret2 ?_
  refine k_blk_ret ?_
  refine k_seq_ret ?_
  refine k_fin ?_
  obtain rfl := Option.some.inj hF6
  exact ends_gen [] [] (by rw [Try.results69]; exact (res_tmp (by conv => lhs; whnf) res_nil))
  refine awp_skip ?_
  refine k_blk ?_
  refine k_seq ?_
  refine awp_region ?_
  refine s_add (winc2 hc4 hb5 hn_g2) ?_
  refine s_mv ?_
  refine k_nil ?_
  exact s_rnd2 (fu, (g2 + 1)) [] ⟨by first | omega | (dsimp only; omega), hF6, by first | omega | (dsimp only; omega)⟩ (hasR_cons (by conv => lhs; whnf) (by rfl) rfl trivial) trivial
  refine awp_exit ?_
  refine k_seq_exit ?_
  refine k_rnd_exit2 ?_
  refine k_blk_exit ?_
  refine k_seq ?_
  refine awp_seq ?_
  refine awp_region ?_
  refine s_as ?_
  refine k_nil ?_
  refine k_seq ?_
  refine awp_ret ?_
  refine k_fin ?_
  obtain rfl := Option.some.inj hF3
  exact ends_gen [] [] (by rw [Try.results69]; exact (res_tmp (by conv => lhs; whnf) res_nil))
def m_impl_FormSame_AC (fuel : Nat) : Prop := ∀ (x1 : Form) (x2 : Form) (r : Bool), m_impl_FormSame fuel x1 x2 = some r → AC Try.prog 33 [.ag [.t (.sc (.int .i64 x1.kind)), .t (.sc (.str x1.name)), .t (.sc (.int .i64 x1.n)), .t (.sl (x1.scopes.map rI)), .t (.sl (x1.kids.map Form.row))], .ag [.t (.sc (.int .i64 x2.kind)), .t (.sc (.str x2.name)), .t (.sc (.int .i64 x2.n)), .t (.sl (x2.scopes.map rI)), .t (.sl (x2.kids.map Form.row))]] noOb (.t (.sc (.bool r))) noOb
def m_slices_EqualFunc_Form_FormSame_AC (fuel : Nat) : Prop := ∀ (x1 : (List Form)) (x2 : (List Form)) (r : Bool), m_slices_EqualFunc_Form_FormSame fuel x1 x2 = some r → AC Try.prog 70 [.t (.sl (x1.map Form.row)), .t (.sl (x2.map Form.row)), .fn 33 []] noOb (.t (.sc (.bool r))) noOb
theorem m_impl_FormSame_st (fu : Nat) (ih_m_impl_FormSame : ∀ k, k ≤ fu → m_impl_FormSame_AC k) (ih_m_slices_EqualFunc_Form_FormSame : ∀ k, k ≤ fu → m_slices_EqualFunc_Form_FormSame_AC k) : m_impl_FormSame_AC (fu + 1) := by
  intro x1 x2 r hF0
  rw [m_impl_FormSame] at hF0
  refine AC_intro (rs := [.t (.sc (.bool r))]) Try.func33 rfl (by kernel_rfl) (by simp [Try.ntmps33]) (by simp [noOb]) ?_
  intro C hC
  rw [Try.ntmps33]
  refine awp_seq ?_
  refine awp_region ?_
  refine s_box ?_
  refine s_box ?_
  refine s_as ?_
  refine k_nil ?_
  refine k_seq ?_
  refine awp_seq ?_
  refine awp_region ?_
  refine s_fa yF32_0 ?_
  refine s_ld1 yA3 ?_
  refine s_fa yF32_0 ?_
  refine s_ld1 yA3 ?_
  refine s_eq ?_
  refine s_mv ?_
  refine w_guard _ 10 hF0 (fun hc1 hF1 => ?_) (fun hc1 hF1 => ?_) <;> clear hF0
  refine s_fa yF32_1 ?_
  refine s_ld1 yA9 ?_
  refine s_fa yF32_1 ?_
  refine s_ld1 yA9 ?_
  refine s_eqS ?_
  refine s_pkt ?_
  refine s_mv ?_
  refine w_guard _ 17 hF1 (fun hc2 hF2 => ?_) (fun hc2 hF2 => ?_) <;> clear hF1
  refine s_fa yF32_2 ?_
  refine s_ld1 yA3 ?_
  refine s_fa yF32_2 ?_
  refine s_ld1 yA3 ?_
  refine s_eq ?_
  refine s_pkt ?_
  refine s_mv ?_
  refine w_guard _ 24 hF2 (fun hc3 hF3 => ?_) (fun hc3 hF3 => ?_) <;> clear hF2
  refine s_fa yF32_3 ?_
  refine s_ld1 yA22 ?_
  refine s_fa yF32_3 ?_
  refine s_ld1 yA22 ?_
  replace hF3 := bind_some' hF3
  obtain ⟨v4, hv4, hF4⟩ := hF3
  refine s_pure [] (m_slices_Equal_int_ok fu _ _ _ hv4) ?_
  refine s_pkt ?_
  refine s_mv ?_
  refine w_guard _ 31 hF4 (fun hc5 hF5 => ?_) (fun hc5 hF5 => ?_) <;> clear hF4
  refine s_fa yF32_4 ?_
  refine s_ld1 yA30 ?_
  refine s_fa yF32_4 ?_
  refine s_ld1 yA30 ?_
  replace hF5 := bind_some' hF5
  obtain ⟨v6, hv6, hF6⟩ := hF5
  refine s_pure [] (ih_m_slices_EqualFunc_Form_FormSame fu (by omega) _ _ _ hv6) ?_
  refine s_pkt ?_
  refine s_as ?_
  refine k_nil ?_
  refine k_seq ?_
  refine awp_ret ?_
  refine k_fin ?_
  obtain rfl := Option.some.inj hF6
  exact ends_gen [] [] (by rw [Try.results33]; exact (res_tmp (by conv => lhs; whnf) res_nil))
  iterate 5 refine r_no rfl ?_
  refine s_pkf ?_
  refine s_as ?_
  refine k_nil ?_
  refine k_seq ?_
  refine awp_ret ?_
  refine k_fin ?_
  obtain rfl := Option.some.inj hF5
  exact ends_gen [] [] (by rw [Try.results33]; exact (res_tmp (by conv => lhs; whnf) res_nil))
  iterate 5 refine r_no rfl ?_
  refine s_pkf ?_
  refine s_mv ?_
  iterate 5 refine r_no rfl ?_
  refine s_pkf ?_
  refine s_as ?_
  refine k_nil ?_
  refine k_seq ?_
  refine awp_ret ?_
  refine k_fin ?_
  obtain rfl := Option.some.inj hF3
  exact ends_gen [] [] (by rw [Try.results33]; exact (res_tmp (by conv => lhs; whnf) res_nil))
  iterate 5 refine r_no rfl ?_
  refine s_pkf ?_
  refine s_mv ?_
  iterate 5 refine r_no rfl ?_
  refine s_pkf ?_
  refine s_mv ?_
  iterate 5 refine r_no rfl ?_
  refine s_pkf ?_
  refine s_as ?_
  refine k_nil ?_
  refine k_seq ?_
  refine awp_ret ?_
  refine k_fin ?_
  obtain rfl := Option.some.inj hF2
  exact ends_gen [] [] (by rw [Try.results33]; exact (res_tmp (by conv => lhs; whnf) res_nil))
  iterate 5 refine r_no rfl ?_
  refine s_pkf ?_
  refine s_mv ?_
  iterate 5 refine r_no rfl ?_
  refine s_pkf ?_
  refine s_mv ?_
  iterate 5 refine r_no rfl ?_
  refine s_pkf ?_
  refine s_mv ?_
  iterate 5 refine r_no rfl ?_
  refine s_pkf ?_
  refine s_as ?_
  refine k_nil ?_
  refine k_seq ?_
  refine awp_ret ?_
  refine k_fin ?_
  obtain rfl := Option.some.inj hF1
  exact ends_gen [] [] (by rw [Try.results33]; exact (res_tmp (by conv => lhs; whnf) res_nil))
theorem m_slices_EqualFunc_Form_FormSame_st (fu : Nat) (ih_m_impl_FormSame : ∀ k, k ≤ fu → m_impl_FormSame_AC k) (ih_m_slices_EqualFunc_Form_FormSame : ∀ k, k ≤ fu → m_slices_EqualFunc_Form_FormSame_AC k) : m_slices_EqualFunc_Form_FormSame_AC (fu + 1) := by
  intro x1 x2 r hF0
  rw [m_slices_EqualFunc_Form_FormSame] at hF0
  refine AC_intro (rs := [.t (.sc (.bool r))]) Try.func70 rfl (by kernel_rfl) (by simp [Try.ntmps70]) (by simp [noOb]) ?_
  intro C hC
  rw [Try.ntmps70]
  refine awp_seq ?_
  refine awp_region ?_
  refine s_as ?_
  refine k_nil ?_
  refine k_seq ?_
  refine awp_seq ?_
  refine awp_seq ?_
  refine awp_region ?_
  refine s_mv ?_
  refine s_lenT yU30 ?_
  refine s_mv ?_
  refine s_lenT yU30 ?_
  refine s_ne ?_
  refine k_nil ?_
  refine k_seq ?_
  refine w_cond hF0 (fun hc1 hF1 => ?_) (fun hc1 hF1 => ?_) <;> clear hF0
  refine awp_seq ?_
  refine awp_region ?_
  refine s_as ?_
  refine k_nil ?_
  refine k_seq ?_
  refine awp_ret ?_
  refine k_seq_ret ?_
  refine k_fin ?_
  obtain rfl := Option.some.inj hF1
  exact ends_gen [] [] (by rw [Try.results70]; exact (res_tmp (by conv => lhs; whnf) res_nil))
  refine awp_skip ?_
  refine k_seq ?_
  refine awp_seq ?_
  refine awp_seq ?_
  refine awp_region ?_
  refine s_mv ?_
  refine s_lenT yU30 ?_
  refine s_mv ?_
  refine k_nil ?_
  refine k_seq ?_
  refine awp_block ?_
  refine awp_frame2 [6, 7, 8, 9, 17, 18, 19, 20, 21, 22, 23, 24, 25, 26, 27, 28, 29, 30, 31] [] [8, 9] [] (fun a : Nat × Int => a.1) (fun a : Nat × Int => [(17, .t (.sc (.int .i64 a.2)))]) (fun a : Nat × Int => []) (fun a : Nat × Int => a.1 ≤ fu ∧ m_slices_EqualFunc_Form_FormSame_l1 a.1 x1 x2 a.2 = some r ∧ 0 ≤ a.2) (fu, 0) ⟨Nat.le_refl _, hF1, by simp⟩ (by rfl) (by rfl) (fun _ => rfl) (hasF_cons (by conv => lhs; whnf) (by rfl) hasF_nil) hasO_nil (fun _ h => by cases h) freshS_nil freshM_nil ?_
  clear hF1
  rintro ⟨fu, g2⟩ ⟨hl3, hF2, hn_g2⟩
  dsimp only at hl3 hF2 hn_g2 ⊢
  obtain _ | fu := fu
  · rw [m_slices_EqualFunc_Form_FormSame_l1] at hF2; cases hF2
  rw [m_slices_EqualFunc_Form_FormSame_l1] at hF2
  refine awp_seq ?_
  refine awp_region ?_
  refine s_lt ?_
  refine k_nil ?_
  refine k_seq ?_
  refine awp_seq ?_
  refine w_cond hF2 (fun hc4 hF3 => ?_) (fun hc4 hF3 => ?_) <;> clear hF2
  refine awp_lenT 0 (fun hb5 => ?_)
  refine awp_skip ?_
  refine k_seq ?_
  refine awp_seq ?_
  refine awp_block ?_
  refine awp_seq ?_
  refine awp_region ?_
  refine s_mv ?_
  replace hF3 := bind_some' hF3
  obtain ⟨v6, hv6, hF4⟩ := hF3
  refine s_ixT Form.row hv6 (Form.row_eq _) yE30 ?_
  refine s_ldN yA32 yS32 ?_
  refine s_alloc yZ32 ?_
  refine s_as ?_
  refine s_stW yS32 ?_
  refine k_nil ?_
  refine k_seq ?_
  refine awp_seq ?_
  refine awp_region ?_
  refine s_mv ?_
  refine s_mv ?_
  replace hF4 := bind_some' hF4
  obtain ⟨v7, hv7, hF5⟩ := hF4
  refine s_ixT Form.row hv7 (Form.row_eq _) yE30 ?_
  refine s_ldN yA32 yS32 ?_
  refine s_alloc yZ32 ?_
  refine s_stW yS32 ?_
  refine k_nil ?_
  refine k_seq ?_
  refine awp_seq ?_
  refine awp_region ?_
  refine s_mv ?_
  refine s_ldW yA32 yS32 ?_
  refine s_ldW yA32 yS32 ?_
  replace hF5 := bind_some' hF5
  obtain ⟨v8, hv8, hF6⟩ := hF5
  refine s_pure [] (ih_m_impl_FormSame fu (by omega) _ _ _ hv8) ?_
  refine s_not ?_
  refine k_nil ?_
  refine k_seq ?_
  refine w_cond hF6 (fun hc9 hF7 => ?_) (fun hc9 hF7 => ?_) <;> clear hF6
  refine awp_seq ?_
  refine awp_region ?_
  refine s_as ?_
  refine k_nil ?_
  refine k_seq ?_
  refine awp_ret ?_
  refine k_blk_ret ?_
  refine k_seq_ret ?_
  refine k_rnd_ret2 ?_
  refine k_blk_ret ?_
  refine k_seq_ret ?_
  refine k_fin ?_
  obtain rfl := Option.some.inj hF7
  exact ends_gen [] [] (by rw [Try.results70]; exact (res_tmp (by conv => lhs; whnf) res_nil))
  refine awp_skip ?_
  refine k_blk ?_
  refine k_seq ?_
  refine awp_region ?_
  refine s_add (winc2 hc4 hb5 hn_g2) ?_
  refine s_mv ?_
  refine k_nil ?_
  exact s_rnd2 (fu, (g2 + 1)) [] ⟨by first | omega | (dsimp only; omega), hF7, by first | omega | (dsimp only; omega)⟩ (hasR_cons (by conv => lhs; whnf) (by rfl) rfl trivial) trivial
  refine awp_exit ?_
  refine k_seq_exit ?_
  refine k_rnd_exit2 ?_
  refine k_blk_exit ?_
  refine k_seq ?_
  refine awp_seq ?_
  refine awp_region ?_
  refine s_as ?_
  refine k_nil ?_
  refine k_seq ?_
  refine awp_ret ?_
  refine k_fin ?_
  obtain rfl := Option.some.inj hF3
  exact ends_gen [] [] (by rw [Try.results70]; exact (res_tmp (by conv => lhs; whnf) res_nil))
theorem m_impl_FormSame_all (fuel : Nat) : m_impl_FormSame_AC fuel ∧ m_slices_EqualFunc_Form_FormSame_AC fuel := by
  induction fuel using Nat.strongRecOn with
  | _ N ih =>
    cases N with
    | zero => exact ⟨(by intro x1 x2 r h; rw [m_impl_FormSame] at h; cases h), (by intro x1 x2 r h; rw [m_slices_EqualFunc_Form_FormSame] at h; cases h)⟩
    | succ fu => exact ⟨m_impl_FormSame_st fu (fun k hk => (ih k (by omega)).1) (fun k hk => (ih k (by omega)).2), m_slices_EqualFunc_Form_FormSame_st fu (fun k hk => (ih k (by omega)).1) (fun k hk => (ih k (by omega)).2)⟩
theorem m_impl_FormSame_ok (fuel : Nat) : m_impl_FormSame_AC fuel := (m_impl_FormSame_all fuel).1
end Go.Abs
end
section
set_option maxRecDepth 100000
set_option maxHeartbeats 4000000
set_option linter.unusedVariables false
namespace Go.Abs
open Go.Proofs
def m_impl_named_AC (fuel : Nat) : Prop := ∀ (x1 : Form) (x2 : ByteArray) (r : Bool), m_impl_named fuel x1 x2 = some r → AC Try.prog 79 [.ag [.t (.sc (.int .i64 x1.kind)), .t (.sc (.str x1.name)), .t (.sc (.int .i64 x1.n)), .t (.sl (x1.scopes.map rI)), .t (.sl (x1.kids.map Form.row))], .t (.sc (.str x2))] noOb (.t (.sc (.bool r))) noOb
theorem m_impl_named_ok (fuel : Nat) : m_impl_named_AC fuel := by
  intro x1 x2 r hF0
  unfold m_impl_named at hF0
  refine AC_intro (rs := [.t (.sc (.bool r))]) Try.func79 rfl (by kernel_rfl) (by simp [Try.ntmps79]) (by simp [noOb]) ?_
  intro C hC
  rw [Try.ntmps79]
  refine awp_seq ?_
  refine awp_region ?_
  refine s_box ?_
  refine s_as ?_
  refine k_nil ?_
  refine k_seq ?_
  refine awp_seq ?_
  refine awp_region ?_
  refine s_fa yF32_0 ?_
  refine s_ld1 yA3 ?_
  refine s_eq ?_
  refine s_mv ?_
  refine w_guard _ 8 hF0 (fun hc1 hF1 => ?_) (fun hc1 hF1 => ?_) <;> clear hF0
  refine s_fa yF32_1 ?_
  refine s_ld1 yA9 ?_
  refine s_mv ?_
  refine s_eqS ?_
  refine s_pkt ?_
  refine s_as ?_
  refine k_nil ?_
  refine k_seq ?_
  refine awp_ret ?_
  refine k_fin ?_
  obtain rfl := Option.some.inj hF1
  exact ends_gen [] [] (by rw [Try.results79]; exact (res_tmp (by conv => lhs; whnf) res_nil))
  iterate 4 refine r_no rfl ?_
  refine s_pkf ?_
  refine s_as ?_
  refine k_nil ?_
  refine k_seq ?_
  refine awp_ret ?_
  refine k_fin ?_
  obtain rfl := Option.some.inj hF1
  exact ends_gen [] [] (by rw [Try.results79]; exact (res_tmp (by conv => lhs; whnf) res_nil))
def m_impl_dotsAt_1_AC (fuel : Nat) : Prop := ∀ (x1 : Form) (r : Bool), m_impl_dotsAt_1 fuel x1 = some r → AC Try.prog 145 [.ag [.t (.sc (.int .i64 x1.kind)), .t (.sc (.str x1.name)), .t (.sc (.int .i64 x1.n)), .t (.sl (x1.scopes.map rI)), .t (.sl (x1.kids.map Form.row))]] noOb (.t (.sc (.bool r))) noOb
theorem m_impl_dotsAt_1_ok (fuel : Nat) : m_impl_dotsAt_1_AC fuel := by
  intro x1 r hF0
  unfold m_impl_dotsAt_1 at hF0
  refine AC_intro (rs := [.t (.sc (.bool r))]) Try.func145 rfl (by kernel_rfl) (by simp [Try.ntmps145]) (by simp [noOb]) ?_
  intro C hC
  rw [Try.ntmps145]
  refine awp_seq ?_
  refine awp_region ?_
  refine s_box ?_
  refine s_as ?_
  refine k_nil ?_
  refine k_seq ?_
  refine awp_seq ?_
  refine awp_region ?_
  refine s_ldW yA32 yS32 ?_
  replace hF0 := bind_some' hF0
  obtain ⟨v1, hv1, hF1⟩ := hF0
  refine s_pure [] (m_impl_named_ok fuel _ _ _ hv1) ?_
  refine s_as ?_
  refine k_nil ?_
  refine k_seq ?_
  refine awp_ret ?_
  refine k_fin ?_
  obtain rfl := Option.some.inj hF1
  exact ends_gen [] [] (by rw [Try.results145]; exact (res_tmp (by conv => lhs; whnf) res_nil))
def m_slices_IndexFunc_Form_dotsAt_1_AC (fuel : Nat) : Prop := ∀ (x1 : (List Form)) (r : Int), m_slices_IndexFunc_Form_dotsAt_1 fuel x1 = some r → AC Try.prog 144 [.t (.sl (x1.map Form.row)), .fn 145 []] noOb (.t (.sc (.int .i64 r))) noOb
theorem m_slices_IndexFunc_Form_dotsAt_1_ok (fuel : Nat) : m_slices_IndexFunc_Form_dotsAt_1_AC fuel := by
  intro x1 r hF0
  unfold m_slices_IndexFunc_Form_dotsAt_1 at hF0
  refine AC_intro (rs := [.t (.sc (.int .i64 r))]) Try.func144 rfl (by kernel_rfl) (by simp [Try.ntmps144]) (by simp [noOb]) ?_
  intro C hC
  rw [Try.ntmps144]
  refine awp_seq ?_
  refine awp_region ?_
  refine s_as ?_
  refine k_nil ?_
  refine k_seq ?_
  refine awp_seq ?_
  refine awp_seq ?_
  refine awp_region ?_
  refine s_mv ?_
  refine s_lenT yU30 ?_
  refine s_mv ?_
  refine k_nil ?_
  refine k_seq ?_
  refine awp_block ?_
  refine awp_frame2 [4, 5, 8, 9, 10, 11, 12, 13, 14, 15, 16, 17, 18] [] [] [] (fun a : Nat × Int => a.1) (fun a : Nat × Int => [(8, .t (.sc (.int .i64 a.2)))]) (fun a : Nat × Int => []) (fun a : Nat × Int => a.1 ≤ fuel ∧ m_slices_IndexFunc_Form_dotsAt_1_l1 a.1 x1 a.2 = some r ∧ 0 ≤ a.2) (fuel, 0) ⟨Nat.le_refl _, hF0, by simp⟩ (by rfl) (by rfl) (fun _ => rfl) (hasF_cons (by conv => lhs; whnf) (by rfl) hasF_nil) hasO_nil (fun _ h => by cases h) freshS_nil freshM_nil ?_
  clear hF0
  rintro ⟨fu, g1⟩ ⟨hl2, hF1, hn_g1⟩
  dsimp only at hl2 hF1 hn_g1 ⊢
  obtain _ | fu := fu
  · rw [m_slices_IndexFunc_Form_dotsAt_1_l1] at hF1; cases hF1
  rw [m_slices_IndexFunc_Form_dotsAt_1_l1] at hF1
  refine awp_seq ?_
  refine awp_region ?_
  refine s_lt ?_
  refine k_nil ?_
  refine k_seq ?_
  refine awp_seq ?_
  refine w_cond hF1 (fun hc3 hF2 => ?_) (fun hc3 hF2 => ?_) <;> clear hF1
  refine awp_lenT 0 (fun hb4 => ?_)
  refine awp_skip ?_
  refine k_seq ?_
  refine awp_seq ?_
  refine awp_block ?_
  refine awp_seq ?_
  refine awp_region ?_
  refine s_mv ?_
  refine s_as ?_
  refine k_nil ?_
  refine k_seq ?_
  refine awp_seq ?_
  refine awp_region ?_
  iterate 3 refine s_mv ?_
  replace hF2 := bind_some' hF2
  obtain ⟨v5, hv5, hF3⟩ := hF2
  refine s_ixT Form.row hv5 (Form.row_eq _) yE30 ?_
  refine s_ldN yA32 yS32 ?_
  replace hF3 := bind_some' hF3
  obtain ⟨v6, hv6, hF4⟩ := hF3
  refine s_pure [] (m_impl_dotsAt_1_ok fu _ _ hv6) ?_
  refine k_nil ?_
  refine k_seq ?_
  refine w_cond hF4 (fun hc7 hF5 => ?_) (fun hc7 hF5 => ?_) <;> clear hF4
  refine awp_seq ?_
  refine awp_region ?_
  refine s_mv ?_
  refine s_as ?_
  refine k_nil ?_
  refine k_seq ?_
  refine awp_ret ?_
  refine k_blk_ret ?_
  refine k_seq_ret ?_
  refine k_rnd_ret2 ?_
  refine k_blk_ret ?_
  refine k_seq_ret ?_
  refine k_fin ?_
  obtain rfl := Option.some.inj hF5
  exact ends_gen [] [] (by rw [Try.results144]; exact (res_tmp (by conv => lhs; whnf) res_nil))
  refine awp_skip ?_
  refine k_blk ?_
  refine k_seq ?_
  refine awp_region ?_
  refine s_add (winc2 hc3 hb4 hn_g1) ?_
  refine s_mv ?_
  refine k_nil ?_
  exact s_rnd2 (fu, (g1 + 1)) [] ⟨by first | omega | (dsimp only; omega), hF5, by first | omega | (dsimp only; omega)⟩ (hasR_cons (by conv => lhs; whnf) (by rfl) rfl trivial) trivial
  refine awp_exit ?_
  refine k_seq_exit ?_
  refine k_rnd_exit2 ?_
  refine k_blk_exit ?_
  refine k_seq ?_
  refine awp_seq ?_
  refine awp_region ?_
  refine s_as ?_
  refine k_nil ?_
  refine k_seq ?_
  refine awp_ret ?_
  refine k_fin ?_
  obtain rfl := Option.some.inj hF2
  exact ends_gen [] [] (by rw [Try.results144]; exact (res_tmp (by conv => lhs; whnf) res_nil))
def m_impl_dotsAt_AC (fuel : Nat) : Prop := ∀ (x1 : (List Form)) (r : Int), m_impl_dotsAt fuel x1 = some r → AC Try.prog 118 [.t (.sl (x1.map Form.row))] noOb (.t (.sc (.int .i64 r))) noOb
theorem m_impl_dotsAt_ok (fuel : Nat) : m_impl_dotsAt_AC fuel := by
  intro x1 r hF0
  unfold m_impl_dotsAt at hF0
  refine AC_intro (rs := [.t (.sc (.int .i64 r))]) Try.func118 rfl (by kernel_rfl) (by simp [Try.ntmps118]) (by simp [noOb]) ?_
  intro C hC
  rw [Try.ntmps118]
  refine awp_seq ?_
  refine awp_region ?_
  refine s_as ?_
  refine k_nil ?_
  refine k_seq ?_
  refine awp_seq ?_
  refine awp_region ?_
  refine s_mv ?_
  replace hF0 := bind_some' hF0
  obtain ⟨v1, hv1, hF1⟩ := hF0
  refine s_pure [] (m_slices_IndexFunc_Form_dotsAt_1_ok fuel _ _ hv1) ?_
  refine s_as ?_
  refine k_nil ?_
  refine k_seq ?_
  refine awp_ret ?_
  refine k_fin ?_
  obtain rfl := Option.some.inj hF1
  exact ends_gen [] [] (by rw [Try.results118]; exact (res_tmp (by conv => lhs; whnf) res_nil))
def m_impl_dotsOk_AC (fuel : Nat) : Prop := ∀ (x1 : Form) (x2 : Bool) (r : Bool), m_impl_dotsOk fuel x1 x2 = some r → AC Try.prog 80 [.ag [.t (.sc (.int .i64 x1.kind)), .t (.sc (.str x1.name)), .t (.sc (.int .i64 x1.n)), .t (.sl (x1.scopes.map rI)), .t (.sl (x1.kids.map Form.row))], .t (.sc (.bool x2))] noOb (.t (.sc (.bool r))) noOb
theorem m_impl_dotsOk_st (fu : Nat) (ih_m_impl_dotsOk : ∀ k, k ≤ fu → m_impl_dotsOk_AC k) : m_impl_dotsOk_AC (fu + 1) := by
  intro x1 x2 r hF0
  rw [m_impl_dotsOk] at hF0
  refine AC_intro (rs := [.t (.sc (.bool r))]) Try.func80 rfl (by kernel_rfl) (by simp [Try.ntmps80]) (by simp [noOb]) ?_
  intro C hC
  rw [Try.ntmps80]
  refine awp_seq ?_
  refine awp_region ?_
  refine s_box ?_
  refine s_as ?_
  refine k_nil ?_
  refine k_seq ?_
  refine awp_seq ?_
  refine awp_seq ?_
  refine awp_region ?_
  refine s_fa yF32_4 ?_
  refine s_ld1 yA30 ?_
  refine s_lenT yU30 ?_
  refine s_mv ?_
  refine k_nil ?_
  refine k_seq ?_
  refine awp_block ?_
  refine awp_frame2 [4, 5, 6, 10, 11, 12, 13, 14, 15, 16, 17, 18, 19, 20, 21, 22, 23, 24, 25, 26, 27, 28, 29, 30, 31, 32, 33, 34, 35, 36, 37, 38, 39, 40, 41, 42, 43] [] [6] [] (fun a : Nat × Int => a.1) (fun a : Nat × Int => [(10, .t (.sc (.int .i64 a.2)))]) (fun a : Nat × Int => []) (fun a : Nat × Int => a.1 ≤ fu ∧ m_impl_dotsOk_l1 a.1 x1 x2 a.2 = some r ∧ 0 ≤ a.2) (fu, 0) ⟨Nat.le_refl _, hF0, by simp⟩ (by rfl) (by rfl) (fun _ => rfl) (hasF_cons (by conv => lhs; whnf) (by rfl) hasF_nil) hasO_nil (fun _ h => by cases h) freshS_nil freshM_nil ?_
  clear hF0
  rintro ⟨fu, g1⟩ ⟨hl2, hF1, hn_g1⟩
  dsimp only at hl2 hF1 hn_g1 ⊢
  obtain _ | fu := fu
  · rw [m_impl_dotsOk_l1] at hF1; cases hF1
  rw [m_impl_dotsOk_l1] at hF1
  refine awp_seq ?_
  refine awp_region ?_
  refine s_lt ?_
  refine k_nil ?_
  refine k_seq ?_
  refine awp_seq ?_
  refine w_cond hF1 (fun hc3 hF2 => ?_) (fun hc3 hF2 => ?_) <;> clear hF1
  refine awp_lenT 8 (fun hb4 => ?_)
  refine awp_skip ?_
  refine k_seq ?_
  refine awp_seq ?_
  refine awp_block ?_
  refine awp_seq ?_
  refine awp_region ?_
  refine s_mv ?_
  replace hF2 := bind_some' hF2
  obtain ⟨v5, hv5, hF3⟩ := hF2
  refine s_ixT Form.row hv5 (Form.row_eq _) yE30 ?_
  refine s_ldN yA32 yS32 ?_
  refine s_alloc yZ32 ?_
  refine s_as ?_
  refine s_stW yS32 ?_
  refine k_nil ?_
  refine k_seq ?_
  refine awp_seq ?_
  refine awp_region ?_
  refine s_ldW yA32 yS32 ?_
  replace hF3 := bind_some' hF3
  obtain ⟨v6, hv6, hF4⟩ := hF3
  refine s_pure [] (m_impl_named_ok fu _ _ _ hv6) ?_
  refine k_nil ?_
  refine k_seq ?_
  refine w_cond hF4 (fun hc7 hF5 => ?_) (fun hc7 hF5 => ?_) <;> clear hF4
  refine awp_seq ?_
  refine awp_region ?_
  refine s_mv ?_
  refine s_eq ?_
  refine s_mv ?_
  refine w_guard _ 19 hF5 (fun hc8 hF6 => ?_) (fun hc8 hF6 => ?_) <;> clear hF5
  iterate 7 refine r_no rfl ?_
  refine s_pkt ?_
  refine s_mv ?_
  iterate 9 refine r_no rfl ?_
  refine s_pkt ?_
  refine k_nil ?_
  refine k_seq ?_
  refine awp_true rfl ?_
  refine awp_seq ?_
  refine awp_region ?_
  refine s_as ?_
  refine k_nil ?_
  refine k_seq ?_
  refine awp_ret ?_
  refine k_blk_ret ?_
  refine k_seq_ret ?_
  refine k_rnd_ret2 ?_
  refine k_blk_ret ?_
  refine k_seq_ret ?_
  refine k_fin ?_
  obtain rfl := Option.some.inj hF6
  exact ends_gen [] [] (by rw [Try.results80]; exact (res_tmp (by conv => lhs; whnf) res_nil))
  refine s_fa yF32_4 ?_
  refine s_ld1 yA30 ?_
  refine s_mv ?_
  refine s_sub rfl ?_
  replace hF6 := bind_some' hF6
  obtain ⟨v9, hv9, hF7⟩ := hF6
  refine s_ixT Form.row hv9 (Form.row_eq _) yE30 ?_
  refine s_ldN yA32 yS32 ?_
  replace hF7 := bind_some' hF7
  obtain ⟨v10, hv10, hF8⟩ := hF7
  refine s_pure [] (m_impl_named_ok fu _ _ _ hv10) ?_
  refine s_pkf ?_
  refine s_mv ?_
  refine w_guard _ 28 hF8 (fun hc11 hF9 => ?_) (fun hc11 hF9 => ?_) <;> clear hF8
  iterate 9 refine r_no rfl ?_
  refine s_pkt ?_
  refine k_nil ?_
  refine k_seq ?_
  refine awp_true rfl ?_
  refine awp_seq ?_
  refine awp_region ?_
  refine s_as ?_
  refine k_nil ?_
  refine k_seq ?_
  refine awp_ret ?_
  refine k_blk_ret ?_
  refine k_seq_ret ?_
  refine k_rnd_ret2 ?_
  refine k_blk_ret ?_
  refine k_seq_ret ?_
  refine k_fin ?_
  obtain rfl := Option.some.inj hF9
  exact ends_gen [] [] (by rw [Try.results80]; exact (res_tmp (by conv => lhs; whnf) res_nil))
  refine s_mv ?_
  refine s_mv ?_
  refine w_guard _ 30 hF9 (fun hc12 hF10 => ?_) (fun hc12 hF10 => ?_) <;> clear hF9
  refine s_fa yF32_4 ?_
  refine s_ld1 yA30 ?_
  refine s_mv ?_
  replace hF10 := bind_some' hF10
  obtain ⟨v13, hv13, hF11⟩ := hF10
  refine s_sl01 Form.row (fun y => Form.row_len y) hv13 yU30 yE30 ?_
  replace hF11 := bind_some' hF11
  obtain ⟨v14, hv14, hF12⟩ := hF11
  refine s_pure [] (m_impl_dotsAt_ok fu _ _ hv14) ?_
  refine s_ge ?_
  refine s_pkt ?_
  refine s_pkf ?_
  refine k_nil ?_
  refine k_seq ?_
  refine w_cond hF12 (fun hc15 hF13 => ?_) (fun hc15 hF13 => ?_) <;> clear hF12
  refine awp_seq ?_
  refine awp_region ?_
  refine s_as ?_
  refine k_nil ?_
  refine k_seq ?_
  refine awp_ret ?_
  refine k_blk_ret ?_
  refine k_seq_ret ?_
  refine k_rnd_ret2 ?_
  refine k_blk_ret ?_
  refine k_seq_ret ?_
  refine k_fin ?_
  obtain rfl := Option.some.inj hF13
  exact ends_gen [] [] (by rw [Try.results80]; exact (res_tmp (by conv => lhs; whnf) res_nil))
  refine awp_skip ?_
  refine k_blk ?_
  refine k_seq ?_
  refine awp_region ?_
  refine s_add (winc2 hc3 hb4 hn_g1) ?_
  refine s_mv ?_
  refine k_nil ?_
  exact s_rnd2 (fu, (g1 + 1)) [] ⟨by first | omega | (dsimp only; omega), hF13, by first | omega | (dsimp only; omega)⟩ (hasR_cons (by conv => lhs; whnf) (by rfl) rfl trivial) trivial
  iterate 6 refine r_no rfl ?_
  refine s_pkf ?_
  refine s_pkf ?_
  refine k_nil ?_
  refine k_seq ?_
  refine awp_false rfl ?_
  refine awp_skip ?_
  refine k_blk ?_
  refine k_seq ?_
  refine awp_region ?_
  refine s_add (winc2 hc3 hb4 hn_g1) ?_
  refine s_mv ?_
  refine k_nil ?_
  exact s_rnd2 (fu, (g1 + 1)) [] ⟨by first | omega | (dsimp only; omega), hF10, by first | omega | (dsimp only; omega)⟩ (hasR_cons (by conv => lhs; whnf) (by rfl) rfl trivial) trivial
  refine awp_seq ?_
  refine awp_region ?_
  refine s_ldW yA32 yS32 ?_
  refine s_mv ?_
  replace hF5 := bind_some' hF5
  obtain ⟨v16, hv16, hF6⟩ := hF5
  refine s_pure [] (ih_m_impl_dotsOk fu (by omega) _ _ _ hv16) ?_
  refine s_not ?_
  refine k_nil ?_
  refine k_seq ?_
  refine w_cond hF6 (fun hc17 hF7 => ?_) (fun hc17 hF7 => ?_) <;> clear hF6
  refine awp_seq ?_
  refine awp_region ?_
  refine s_as ?_
  refine k_nil ?_
  refine k_seq ?_
  refine awp_ret ?_
  refine k_blk_ret ?_
  refine k_seq_ret ?_
  refine k_rnd_ret2 ?_
  refine k_blk_ret ?_
  refine k_seq_ret ?_
  refine k_fin ?_
  obtain rfl := Option.some.inj hF7
  exact ends_gen [] [] (by rw [Try.results80]; exact (res_tmp (by conv => lhs; whnf) res_nil))
  refine awp_skip ?_
  refine k_blk ?_
  refine k_seq ?_
  refine awp_region ?_
  refine s_add (winc2 hc3 hb4 hn_g1) ?_
  refine s_mv ?_
  refine k_nil ?_
  exact s_rnd2 (fu, (g1 + 1)) [] ⟨by first | omega | (dsimp only; omega), hF7, by first | omega | (dsimp only; omega)⟩ (hasR_cons (by conv => lhs; whnf) (by rfl) rfl trivial) trivial
  refine awp_exit ?_
  refine k_seq_exit ?_
  refine k_rnd_exit2 ?_
  refine k_blk_exit ?_
  refine k_seq ?_
  refine awp_seq ?_
  refine awp_region ?_
  refine s_as ?_
  refine k_nil ?_
  refine k_seq ?_
  refine awp_ret ?_
  refine k_fin ?_
  obtain rfl := Option.some.inj hF2
  exact ends_gen [] [] (by rw [Try.results80]; exact (res_tmp (by conv => lhs; whnf) res_nil))
theorem m_impl_dotsOk_all (fuel : Nat) : m_impl_dotsOk_AC fuel := by
  induction fuel using Nat.strongRecOn with
  | _ N ih =>
    cases N with
    | zero => exact (by intro x1 x2 r h; rw [m_impl_dotsOk] at h; cases h)
    | succ fu => exact m_impl_dotsOk_st fu (fun k hk => (ih k (by omega)))
theorem m_impl_dotsOk_ok (fuel : Nat) : m_impl_dotsOk_AC fuel := (m_impl_dotsOk_all fuel)
end Go.Abs
end
section
set_option maxRecDepth 100000
set_option maxHeartbeats 4000000
set_option linter.unusedVariables false
namespace Go.Abs
open Go.Proofs
def m_spec_l4In_AC (fuel : Nat) : Prop := ∀ (x1 : (List Form)) (x2 : Form) (r : Bool), m_spec_l4In fuel x1 x2 = some r → AC Try.prog 111 [.t (.sl (x1.map Form.row)), .ag [.t (.sc (.int .i64 x2.kind)), .t (.sc (.str x2.name)), .t (.sc (.int .i64 x2.n)), .t (.sl (x2.scopes.map rI)), .t (.sl (x2.kids.map Form.row))]] noOb (.t (.sc (.bool r))) noOb
theorem m_spec_l4In_ok (fuel : Nat) : m_spec_l4In_AC fuel := by
  intro x1 x2 r hF0
  unfold m_spec_l4In at hF0
  refine AC_intro (rs := [.t (.sc (.bool r))]) Try.func111 rfl (by kernel_rfl) (by simp [Try.ntmps111]) (by simp [noOb]) ?_
  intro C hC
  rw [Try.ntmps111]
  refine awp_seq ?_
  refine awp_region ?_
  refine s_box ?_
  refine s_as ?_
  refine k_nil ?_
  refine k_seq ?_
  refine awp_seq ?_
  refine awp_seq ?_
  refine awp_region ?_
  refine s_as ?_
  refine k_nil ?_
  refine k_seq ?_
  refine awp_block ?_
  refine awp_frame2 [4, 5, 6, 7, 8, 9, 10, 11, 12, 13, 14, 15, 16, 17] [] [] [] (fun a : Nat × Int => a.1) (fun a : Nat × Int => [(5, .t (.sc (.int .i64 a.2)))]) (fun a : Nat × Int => []) (fun a : Nat × Int => a.1 ≤ fuel ∧ m_spec_l4In_l1 a.1 x1 x2 a.2 = some r ∧ 0 ≤ a.2) (fuel, 0) ⟨Nat.le_refl _, hF0, by simp⟩ (by rfl) (by rfl) (fun _ => rfl) (hasF_cons (by conv => lhs; whnf) (by rfl) hasF_nil) hasO_nil (fun _ h => by cases h) freshS_nil freshM_nil ?_
  clear hF0
  rintro ⟨fu, g1⟩ ⟨hl2, hF1, hn_g1⟩
  dsimp only at hl2 hF1 hn_g1 ⊢
  obtain _ | fu := fu
  · rw [m_spec_l4In_l1] at hF1; cases hF1
  rw [m_spec_l4In_l1] at hF1
  refine awp_seq ?_
  refine awp_seq ?_
  refine awp_region ?_
  refine s_mv ?_
  refine s_mv ?_
  refine s_lenT yU30 ?_
  refine s_lt ?_
  refine k_nil ?_
  refine k_seq ?_
  refine w_cond hF1 (fun hc3 hF2 => ?_) (fun hc3 hF2 => ?_) <;> clear hF1
  refine awp_lenT 0 (fun hb4 => ?_)
  refine awp_skip ?_
  refine k_seq ?_
  refine awp_seq ?_
  refine awp_block ?_
  refine awp_seq ?_
  refine awp_draw yMix (by kernel_rfl) ?_
  refine s_mv ?_
  refine s_mv ?_
  replace hF2 := bind_some' hF2
  obtain ⟨v5, hv5, hF3⟩ := hF2
  refine s_ixT Form.row hv5 (Form.row_eq _) yE30 ?_
  refine s_ldN yA32 yS32 ?_
  refine s_ldW yA32 yS32 ?_
  replace hF3 := bind_some' hF3
  obtain ⟨v6, hv6, hF4⟩ := hF3
  refine s_pure [] (m_spec_FormSame_ok fu _ _ _ hv6) ?_
  refine k_nilD (by kernel_rfl) ?_
  refine k_seq ?_
  refine w_cond hF4 (fun hc7 hF5 => ?_) (fun hc7 hF5 => ?_) <;> clear hF4
  refine awp_seq ?_
  refine awp_region ?_
  refine s_as ?_
  refine k_nil ?_
  refine k_seq ?_
  refine awp_ret ?_
  refine k_blk_ret ?_
  refine k_seq_ret ?_
  refine k_rnd_ret2 ?_
  refine k_blk_ret ?_
  refine k_seq_ret ?_
  refine k_fin ?_
  obtain rfl := Option.some.inj hF5
  exact ends_gen [] [] (by rw [Try.results111]; exact (res_tmp (by conv => lhs; whnf) res_nil))
  refine awp_skip ?_
  refine k_blk ?_
  refine k_seq ?_
  refine awp_region ?_
  refine s_mv ?_
  refine s_add (winc2 hc3 hb4 hn_g1) ?_
  refine s_as ?_
  refine k_nil ?_
  exact s_rnd2 (fu, (g1 + 1)) [] ⟨by first | omega | (dsimp only; omega), hF5, by first | omega | (dsimp only; omega)⟩ (hasR_cons (by conv => lhs; whnf) (by rfl) rfl trivial) trivial
  refine awp_exit ?_
  refine k_seq_exit ?_
  refine k_rnd_exit2 ?_
  refine k_blk_exit ?_
  refine k_seq ?_
  refine awp_seq ?_
  refine awp_region ?_
  refine s_as ?_
  refine k_nil ?_
  refine k_seq ?_
  refine awp_ret ?_
  refine k_fin ?_
  obtain rfl := Option.some.inj hF2
  exact ends_gen [] [] (by rw [Try.results111]; exact (res_tmp (by conv => lhs; whnf) res_nil))
end Go.Abs
end
section
set_option maxRecDepth 100000
set_option maxHeartbeats 4000000
set_option linter.unusedVariables false
namespace Go.Abs
open Go.Proofs
def m_spec_l4Literals_AC (fuel : Nat) : Prop := ∀ (x1 : (List Form)) (r : Bool), m_spec_l4Literals fuel x1 = some r → AC Try.prog 109 [.t (.sl (x1.map Form.row))] noOb (.t (.sc (.bool r))) noOb
theorem m_spec_l4Literals_ok (fuel : Nat) : m_spec_l4Literals_AC fuel := by
  intro x1 r hF0
  unfold m_spec_l4Literals at hF0
  refine AC_intro (rs := [.t (.sc (.bool r))]) Try.func109 rfl (by kernel_rfl) (by simp [Try.ntmps109]) (by simp [noOb]) ?_
  intro C hC
  rw [Try.ntmps109]
  refine awp_seq ?_
  refine awp_region ?_
  refine s_as ?_
  refine k_nil ?_
  refine k_seq ?_
  refine awp_seq ?_
  refine awp_seq ?_
  refine awp_region ?_
  refine s_as ?_
  refine k_nil ?_
  refine k_seq ?_
  refine awp_block ?_
  refine awp_frame2 [2, 3, 4, 5, 6, 7, 8, 9, 10, 11, 12, 13, 14, 15, 16, 17, 18, 19, 20, 21, 22, 23, 24, 25, 26, 27, 28, 29, 30, 31, 32, 33, 34, 35, 36, 37, 38, 39, 40, 41, 42, 43, 44, 45] [] [] [] (fun a : Nat × Int => a.1) (fun a : Nat × Int => [(3, .t (.sc (.int .i64 a.2)))]) (fun a : Nat × Int => []) (fun a : Nat × Int => a.1 ≤ fuel ∧ m_spec_l4Literals_l1 a.1 x1 a.2 = some r) (fuel, 0) ⟨Nat.le_refl _, hF0⟩ (by rfl) (by rfl) (fun _ => rfl) (hasF_cons (by conv => lhs; whnf) (by rfl) hasF_nil) hasO_nil (fun _ h => by cases h) freshS_nil freshM_nil ?_
  clear hF0
  rintro ⟨fu, g1⟩ ⟨hl2, hF1⟩
  dsimp only at hl2 hF1 ⊢
  obtain _ | fu := fu
  · rw [m_spec_l4Literals_l1] at hF1; cases hF1
  rw [m_spec_l4Literals_l1] at hF1
  refine awp_seq ?_
  refine awp_seq ?_
  refine awp_region ?_
  refine s_mv ?_
  refine s_mv ?_
  refine s_lenT yU30 ?_
  refine s_lt ?_
  refine s_mv ?_
  refine w_guard _ 8 hF1 (fun hc3 hF2 => ?_) (fun hc3 hF2 => ?_) <;> clear hF1
  refine s_mv ?_
  refine s_lt ?_
  refine s_pkt ?_
  refine k_nil ?_
  refine k_seq ?_
  refine w_cond hF2 (fun hc4 hF3 => ?_) (fun hc4 hF3 => ?_) <;> clear hF2
  refine awp_skip ?_
  refine k_seq ?_
  refine awp_seq ?_
  refine awp_block ?_
  refine awp_seq ?_
  refine awp_draw yMix (by kernel_rfl) ?_
  refine s_mv ?_
  refine s_mv ?_
  replace hF3 := bind_some' hF3
  obtain ⟨v5, hv5, hF4⟩ := hF3
  refine s_ixT Form.row hv5 (Form.row_eq _) yE30 ?_
  refine s_ldN yA32 yS32 ?_
  replace hF4 := bind_some' hF4
  obtain ⟨v6, hv6, hF5⟩ := hF4
  refine s_pure [] (m_spec_l3Is_ok fu _ _ hv6) ?_
  refine s_not ?_
  refine s_mv ?_
  refine w_guard _ 20 hF5 (fun hc7 hF6 => ?_) (fun hc7 hF6 => ?_) <;> clear hF5
  iterate 6 refine r_no rfl ?_
  refine s_pkt ?_
  refine s_mv ?_
  iterate 6 refine r_no rfl ?_
  refine s_pkt ?_
  refine s_mv ?_
  iterate 8 refine r_no rfl ?_
  refine s_pkt ?_
  refine k_nilD (by kernel_rfl) ?_
  refine k_seq ?_
  refine awp_true rfl ?_
  refine awp_seq ?_
  refine awp_region ?_
  refine s_as ?_
  refine k_nil ?_
  refine k_seq ?_
  refine awp_ret ?_
  refine k_blk_ret ?_
  refine k_seq_ret ?_
  refine k_rnd_ret2 ?_
  refine k_blk_ret ?_
  refine k_seq_ret ?_
  refine k_fin ?_
  obtain rfl := Option.some.inj hF6
  exact ends_gen [] [] (by rw [Try.results109]; exact (res_tmp (by conv => lhs; whnf) res_nil))
  refine s_mv ?_
  refine s_mv ?_
  replace hF6 := bind_some' hF6
  obtain ⟨v8, hv8, hF7⟩ := hF6
  refine s_ixT Form.row hv8 (Form.row_eq _) yE30 ?_
  refine s_fa yF32_1 ?_
  refine s_ld1 yA9 ?_
  refine s_eqS ?_
  refine s_pkf ?_
  refine s_mv ?_
  refine w_guard _ 28 hF7 (fun hc9 hF8 => ?_) (fun hc9 hF8 => ?_) <;> clear hF7
  iterate 6 refine r_no rfl ?_
  refine s_pkt ?_
  refine s_mv ?_
  iterate 8 refine r_no rfl ?_
  refine s_pkt ?_
  refine k_nilD (by kernel_rfl) ?_
  refine k_seq ?_
  refine awp_true rfl ?_
  refine awp_seq ?_
  refine awp_region ?_
  refine s_as ?_
  refine k_nil ?_
  refine k_seq ?_
  refine awp_ret ?_
  refine k_blk_ret ?_
  refine k_seq_ret ?_
  refine k_rnd_ret2 ?_
  refine k_blk_ret ?_
  refine k_seq_ret ?_
  refine k_fin ?_
  obtain rfl := Option.some.inj hF8
  exact ends_gen [] [] (by rw [Try.results109]; exact (res_tmp (by conv => lhs; whnf) res_nil))
  refine s_mv ?_
  refine s_mv ?_
  replace hF8 := bind_some' hF8
  obtain ⟨v10, hv10, hF9⟩ := hF8
  refine s_ixT Form.row hv10 (Form.row_eq _) yE30 ?_
  refine s_fa yF32_1 ?_
  refine s_ld1 yA9 ?_
  refine s_eqS ?_
  refine s_pkf ?_
  refine s_mv ?_
  refine w_guard _ 36 hF9 (fun hc11 hF10 => ?_) (fun hc11 hF10 => ?_) <;> clear hF9
  iterate 8 refine r_no rfl ?_
  refine s_pkt ?_
  refine k_nilD (by kernel_rfl) ?_
  refine k_seq ?_
  refine awp_true rfl ?_
  refine awp_seq ?_
  refine awp_region ?_
  refine s_as ?_
  refine k_nil ?_
  refine k_seq ?_
  refine awp_ret ?_
  refine k_blk_ret ?_
  refine k_seq_ret ?_
  refine k_rnd_ret2 ?_
  refine k_blk_ret ?_
  refine k_seq_ret ?_
  refine k_fin ?_
  obtain rfl := Option.some.inj hF10
  exact ends_gen [] [] (by rw [Try.results109]; exact (res_tmp (by conv => lhs; whnf) res_nil))
  refine s_mv ?_
  refine s_mv ?_
  replace hF10 := bind_some' hF10
  obtain ⟨v12, hv12, hF11⟩ := hF10
  refine s_sl01 Form.row (fun y => Form.row_len y) hv12 yU30 yE30 ?_
  refine s_mv ?_
  refine s_mv ?_
  replace hF11 := bind_some' hF11
  obtain ⟨v13, hv13, hF12⟩ := hF11
  refine s_ixT Form.row hv13 (Form.row_eq _) yE30 ?_
  refine s_ldN yA32 yS32 ?_
  replace hF12 := bind_some' hF12
  obtain ⟨v14, hv14, hF13⟩ := hF12
  refine s_pure [] (m_spec_l4In_ok fu _ _ _ hv14) ?_
  refine s_pkf ?_
  refine k_nilD (by kernel_rfl) ?_
  refine k_seq ?_
  refine w_cond hF13 (fun hc15 hF14 => ?_) (fun hc15 hF14 => ?_) <;> clear hF13
  refine awp_seq ?_
  refine awp_region ?_
  refine s_as ?_
  refine k_nil ?_
  refine k_seq ?_
  refine awp_ret ?_
  refine k_blk_ret ?_
  refine k_seq_ret ?_
  refine k_rnd_ret2 ?_
  refine k_blk_ret ?_
  refine k_seq_ret ?_
  refine k_fin ?_
  obtain rfl := Option.some.inj hF14
  exact ends_gen [] [] (by rw [Try.results109]; exact (res_tmp (by conv => lhs; whnf) res_nil))
  refine awp_skip ?_
  refine k_blk ?_
  refine k_seq ?_
  refine awp_region ?_
  refine s_mv ?_
  refine s_add rfl ?_
  refine s_as ?_
  refine k_nil ?_
  exact s_rnd2 (fu, (w64 (g1 + 1))) [] ⟨by first | omega | (dsimp only; omega), hF14⟩ (hasR_cons (by conv => lhs; whnf) (by rfl) rfl trivial) trivial
  refine awp_exit ?_
  refine k_seq_exit ?_
  refine k_rnd_exit2 ?_
  refine k_blk_exit ?_
  refine k_seq ?_
  refine awp_seq ?_
  refine awp_region ?_
  refine s_mv ?_
  refine s_lenT yU30 ?_
  refine s_lt ?_
  refine s_as ?_
  refine k_nil ?_
  refine k_seq ?_
  refine awp_ret ?_
  refine k_fin ?_
  obtain rfl := Option.some.inj hF3
  exact ends_gen [] [] (by rw [Try.results109]; exact (res_tmp (by conv => lhs; whnf) res_nil))
  refine r_no rfl ?_
  refine r_no rfl ?_
  refine s_pkf ?_
  refine k_nil ?_
  refine k_seq ?_
  refine awp_false rfl ?_
  refine awp_exit ?_
  refine k_seq_exit ?_
  refine k_rnd_exit2 ?_
  refine k_blk_exit ?_
  refine k_seq ?_
  refine awp_seq ?_
  refine awp_region ?_
  refine s_mv ?_
  refine s_lenT yU30 ?_
  refine s_lt ?_
  refine s_as ?_
  refine k_nil ?_
  refine k_seq ?_
  refine awp_ret ?_
  refine k_fin ?_
  obtain rfl := Option.some.inj hF2
  exact ends_gen [] [] (by rw [Try.results109]; exact (res_tmp (by conv => lhs; whnf) res_nil))
def m_spec_l4Shape_AC (fuel : Nat) : Prop := ∀ (x1 : Form) (r : Bool), m_spec_l4Shape fuel x1 = some r → AC Try.prog 110 [.ag [.t (.sc (.int .i64 x1.kind)), .t (.sc (.str x1.name)), .t (.sc (.int .i64 x1.n)), .t (.sl (x1.scopes.map rI)), .t (.sl (x1.kids.map Form.row))]] noOb (.t (.sc (.bool r))) noOb
theorem m_spec_l4Shape_st (fu : Nat) (ih_m_spec_l4Shape : ∀ k, k ≤ fu → m_spec_l4Shape_AC k) : m_spec_l4Shape_AC (fu + 1) := by
  intro x1 r hF0
  rw [m_spec_l4Shape] at hF0
  refine AC_intro (rs := [.t (.sc (.bool r))]) Try.func110 rfl (by kernel_rfl) (by simp [Try.ntmps110]) (by simp [noOb]) ?_
  intro C hC
  rw [Try.ntmps110]
  refine awp_seq ?_
  refine awp_region ?_
  refine s_box ?_
  refine s_as ?_
  refine k_nil ?_
  refine k_seq ?_
  refine awp_seq ?_
  refine awp_seq ?_
  refine awp_region ?_
  refine s_ldW yA32 yS32 ?_
  replace hF0 := bind_some' hF0
  obtain ⟨v1, hv1, hF1⟩ := hF0
  refine s_pure [] (m_spec_l4Dots_ok fu _ _ hv1) ?_
  refine k_nil ?_
  refine k_seq ?_
  refine w_cond hF1 (fun hc2 hF2 => ?_) (fun hc2 hF2 => ?_) <;> clear hF1
  refine awp_seq ?_
  refine awp_region ?_
  refine s_as ?_
  refine k_nil ?_
  refine k_seq ?_
  refine awp_ret ?_
  refine k_seq_ret ?_
  refine k_fin ?_
  obtain rfl := Option.some.inj hF2
  exact ends_gen [] [] (by rw [Try.results110]; exact (res_tmp (by conv => lhs; whnf) res_nil))
  refine awp_skip ?_
  refine k_seq ?_
  refine awp_seq ?_
  refine awp_region ?_
  refine s_as ?_
  refine k_nil ?_
  refine k_seq ?_
  refine awp_seq ?_
  refine awp_seq ?_
  refine awp_region ?_
  refine s_as ?_
  refine k_nil ?_
  refine k_seq ?_
  refine awp_block ?_
  refine awp_frame2 [2, 3, 4, 7, 8, 9, 10, 11, 12, 13, 14, 15, 16, 17, 18, 19, 20, 21, 22, 23, 24, 25, 26, 27, 28, 29, 30, 31, 32, 33, 34, 35, 36, 37, 38, 39] [] [] [] (fun a : Nat × Int × Int => a.1) (fun a : Nat × Int × Int => [(3, .t (.sc (.int .i64 a.2.1))), (4, .t (.sc (.int .i64 a.2.2)))]) (fun a : Nat × Int × Int => []) (fun a : Nat × Int × Int => a.1 ≤ fu ∧ m_spec_l4Shape_l1 a.1 x1 a.2.1 a.2.2 = some r ∧ 0 ≤ a.2.2) (fu, 0, 0) ⟨Nat.le_refl _, hF2, by simp⟩ (by rfl) (by rfl) (fun _ => rfl) (hasF_cons (by conv => lhs; whnf) (by rfl) (hasF_cons (by conv => lhs; whnf) (by rfl) hasF_nil)) hasO_nil (fun _ h => by cases h) freshS_nil freshM_nil ?_
  clear hF2
  rintro ⟨fu, g3, g4⟩ ⟨hl5, hF3, hn_g4⟩
  dsimp only at hl5 hF3 hn_g4 ⊢
  obtain _ | fu := fu
  · rw [m_spec_l4Shape_l1] at hF3; cases hF3
  rw [m_spec_l4Shape_l1] at hF3
  refine awp_seq ?_
  refine awp_seq ?_
  refine awp_region ?_
  refine s_mv ?_
  refine s_fa yF32_4 ?_
  refine s_ld1 yA30 ?_
  refine s_lenT yU30 ?_
  refine s_lt ?_
  refine k_nil ?_
  refine k_seq ?_
  refine w_cond hF3 (fun hc6 hF4 => ?_) (fun hc6 hF4 => ?_) <;> clear hF3
  refine awp_lenT 9 (fun hb7 => ?_)
  refine awp_skip ?_
  refine k_seq ?_
  refine awp_seq ?_
  refine awp_block ?_
  refine awp_seq ?_
  refine awp_seq ?_
  refine awp_region ?_
  refine s_fa yF32_4 ?_
  refine s_ld1 yA30 ?_
  refine s_mv ?_
  replace hF4 := bind_some' hF4
  obtain ⟨v8, hv8, hF5⟩ := hF4
  refine s_ixT Form.row hv8 (Form.row_eq _) yE30 ?_
  refine s_ldN yA32 yS32 ?_
  replace hF5 := bind_some' hF5
  obtain ⟨v9, hv9, hF6⟩ := hF5
  refine s_pure [] (m_spec_l4Dots_ok fu _ _ hv9) ?_
  refine k_nil ?_
  refine k_seq ?_
  refine w_cond hF6 (fun hc10 hF7 => ?_) (fun hc10 hF7 => ?_) <;> clear hF6
  refine awp_seq ?_
  refine awp_region ?_
  refine s_mv ?_
  refine s_add rfl ?_
  refine s_as ?_
  refine k_nil ?_
  refine k_seq ?_
  refine awp_seq ?_
  refine awp_seq ?_
  refine awp_region ?_
  refine s_mv ?_
  refine s_eq ?_
  refine s_mv ?_
  refine w_guard _ 24 hF7 (fun hc11 hF8 => ?_) (fun hc11 hF8 => ?_) <;> clear hF7
  iterate 7 refine r_no rfl ?_
  refine s_pkt ?_
  refine k_nil ?_
  refine k_seq ?_
  refine awp_true rfl ?_
  refine awp_seq ?_
  refine awp_region ?_
  refine s_as ?_
  refine k_nil ?_
  refine k_seq ?_
  refine awp_ret ?_
  refine k_seq_ret ?_
  refine k_seq_ret ?_
  refine k_blk_ret ?_
  refine k_seq_ret ?_
  refine k_rnd_ret2 ?_
  refine k_blk_ret ?_
  refine k_seq_ret ?_
  refine k_fin ?_
  obtain rfl := Option.some.inj hF8
  exact ends_gen [] [] (by rw [Try.results110]; exact (res_tmp (by conv => lhs; whnf) res_nil))
  refine s_fa yF32_4 ?_
  refine s_ld1 yA30 ?_
  refine s_mv ?_
  refine s_sub rfl ?_
  replace hF8 := bind_some' hF8
  obtain ⟨v12, hv12, hF9⟩ := hF8
  refine s_ixT Form.row hv12 (Form.row_eq _) yE30 ?_
  refine s_ldN yA32 yS32 ?_
  replace hF9 := bind_some' hF9
  obtain ⟨v13, hv13, hF10⟩ := hF9
  refine s_pure [] (m_spec_l4Dots_ok fu _ _ hv13) ?_
  refine s_pkf ?_
  refine k_nil ?_
  refine k_seq ?_
  refine w_cond hF10 (fun hc14 hF11 => ?_) (fun hc14 hF11 => ?_) <;> clear hF10
  refine awp_seq ?_
  refine awp_region ?_
  refine s_as ?_
  refine k_nil ?_
  refine k_seq ?_
  refine awp_ret ?_
  refine k_seq_ret ?_
  refine k_seq_ret ?_
  refine k_blk_ret ?_
  refine k_seq_ret ?_
  refine k_rnd_ret2 ?_
  refine k_blk_ret ?_
  refine k_seq_ret ?_
  refine k_fin ?_
  obtain rfl := Option.some.inj hF11
  exact ends_gen [] [] (by rw [Try.results110]; exact (res_tmp (by conv => lhs; whnf) res_nil))
  refine awp_skip ?_
  refine k_seq ?_
  refine awp_exit ?_
  refine k_seq_exit ?_
  refine k_blk_exit ?_
  refine k_seq ?_
  refine awp_region ?_
  refine s_mv ?_
  refine s_add (winc2 hc6 hb7 hn_g4) ?_
  refine s_as ?_
  refine k_nil ?_
  exact s_rnd2 (fu, (w64 (g3 + 1)), (g4 + 1)) [] ⟨by first | omega | (dsimp only; omega), hF11, by first | omega | (dsimp only; omega)⟩ (hasR_cons (by conv => lhs; whnf) (by rfl) rfl (hasR_cons (by conv => lhs; whnf) (by rfl) rfl trivial)) trivial
  refine awp_skip ?_
  refine k_seq ?_
  refine awp_seq ?_
  refine awp_region ?_
  refine s_fa yF32_4 ?_
  refine s_ld1 yA30 ?_
  refine s_mv ?_
  replace hF7 := bind_some' hF7
  obtain ⟨v15, hv15, hF8⟩ := hF7
  refine s_ixT Form.row hv15 (Form.row_eq _) yE30 ?_
  refine s_ldN yA32 yS32 ?_
  replace hF8 := bind_some' hF8
  obtain ⟨v16, hv16, hF9⟩ := hF8
  refine s_pure [] (ih_m_spec_l4Shape fu (by omega) _ _ hv16) ?_
  refine s_not ?_
  refine k_nil ?_
  refine k_seq ?_
  refine w_cond hF9 (fun hc17 hF10 => ?_) (fun hc17 hF10 => ?_) <;> clear hF9
  refine awp_seq ?_
  refine awp_region ?_
  refine s_as ?_
  refine k_nil ?_
  refine k_seq ?_
  refine awp_ret ?_
  refine k_blk_ret ?_
  refine k_seq_ret ?_
  refine k_rnd_ret2 ?_
  refine k_blk_ret ?_
  refine k_seq_ret ?_
  refine k_fin ?_
  obtain rfl := Option.some.inj hF10
  exact ends_gen [] [] (by rw [Try.results110]; exact (res_tmp (by conv => lhs; whnf) res_nil))
  refine awp_skip ?_
  refine k_blk ?_
  refine k_seq ?_
  refine awp_region ?_
  refine s_mv ?_
  refine s_add (winc2 hc6 hb7 hn_g4) ?_
  refine s_as ?_
  refine k_nil ?_
  exact s_rnd2 (fu, g3, (g4 + 1)) [] ⟨by first | omega | (dsimp only; omega), hF10, by first | omega | (dsimp only; omega)⟩ (hasR_cons (by conv => lhs; whnf) (by rfl) rfl (hasR_cons (by conv => lhs; whnf) (by rfl) rfl trivial)) trivial
  refine awp_exit ?_
  refine k_seq_exit ?_
  refine k_rnd_exit2 ?_
  refine k_blk_exit ?_
  refine k_seq ?_
  refine awp_seq ?_
  refine awp_region ?_
  refine s_mv ?_
  refine s_le ?_
  refine s_as ?_
  refine k_nil ?_
  refine k_seq ?_
  refine awp_ret ?_
  refine k_fin ?_
  obtain rfl := Option.some.inj hF4
  exact ends_gen [] [] (by rw [Try.results110]; exact (res_tmp (by conv => lhs; whnf) res_nil))
theorem m_spec_l4Shape_all (fuel : Nat) : m_spec_l4Shape_AC fuel := by
  induction fuel using Nat.strongRecOn with
  | _ N ih =>
    cases N with
    | zero => exact (by intro x1 r h; rw [m_spec_l4Shape] at h; cases h)
    | succ fu => exact m_spec_l4Shape_st fu (fun k hk => (ih k (by omega)))
theorem m_spec_l4Shape_ok (fuel : Nat) : m_spec_l4Shape_AC fuel := (m_spec_l4Shape_all fuel)
def m_spec_l4Var_AC (fuel : Nat) : Prop := ∀ (x1 : Form) (x2 : (List Form)) (r : Bool), m_spec_l4Var fuel x1 x2 = some r → AC Try.prog 112 [.ag [.t (.sc (.int .i64 x1.kind)), .t (.sc (.str x1.name)), .t (.sc (.int .i64 x1.n)), .t (.sl (x1.scopes.map rI)), .t (.sl (x1.kids.map Form.row))], .t (.sl (x2.map Form.row))] noOb (.t (.sc (.bool r))) noOb
theorem m_spec_l4Var_ok (fuel : Nat) : m_spec_l4Var_AC fuel := by
  intro x1 x2 r hF0
  unfold m_spec_l4Var at hF0
  refine AC_intro (rs := [.t (.sc (.bool r))]) Try.func112 rfl (by kernel_rfl) (by simp [Try.ntmps112]) (by simp [noOb]) ?_
  intro C hC
  rw [Try.ntmps112]
  refine awp_seq ?_
  refine awp_region ?_
  refine s_box ?_
  refine s_as ?_
  refine k_nil ?_
  refine k_seq ?_
  refine awp_seq ?_
  refine awp_region ?_
  refine s_fa yF32_0 ?_
  refine s_ld1 yA3 ?_
  refine s_eq ?_
  refine s_mv ?_
  refine w_guard _ 8 hF0 (fun hc1 hF1 => ?_) (fun hc1 hF1 => ?_) <;> clear hF0
  refine s_fa yF32_1 ?_
  refine s_ld1 yA9 ?_
  refine s_neS ?_
  refine s_pkt ?_
  refine s_mv ?_
  refine w_guard _ 13 hF1 (fun hc2 hF2 => ?_) (fun hc2 hF2 => ?_) <;> clear hF1
  refine s_fa yF32_1 ?_
  refine s_ld1 yA9 ?_
  refine s_neS ?_
  refine s_pkt ?_
  refine s_mv ?_
  refine w_guard _ 18 hF2 (fun hc3 hF3 => ?_) (fun hc3 hF3 => ?_) <;> clear hF2
  refine s_mv ?_
  refine s_ldW yA32 yS32 ?_
  replace hF3 := bind_some' hF3
  obtain ⟨v4, hv4, hF4⟩ := hF3
  refine s_pure [] (m_spec_l4In_ok fuel _ _ _ hv4) ?_
  refine s_not ?_
  refine s_pkt ?_
  refine s_as ?_
  refine k_nil ?_
  refine k_seq ?_
  refine awp_ret ?_
  refine k_fin ?_
  obtain rfl := Option.some.inj hF4
  exact ends_gen [] [] (by rw [Try.results112]; exact (res_tmp (by conv => lhs; whnf) res_nil))
  iterate 4 refine r_no rfl ?_
  refine s_pkf ?_
  refine s_as ?_
  refine k_nil ?_
  refine k_seq ?_
  refine awp_ret ?_
  refine k_fin ?_
  obtain rfl := Option.some.inj hF3
  exact ends_gen [] [] (by rw [Try.results112]; exact (res_tmp (by conv => lhs; whnf) res_nil))
  iterate 3 refine r_no rfl ?_
  refine s_pkf ?_
  refine s_mv ?_
  iterate 4 refine r_no rfl ?_
  refine s_pkf ?_
  refine s_as ?_
  refine k_nil ?_
  refine k_seq ?_
  refine awp_ret ?_
  refine k_fin ?_
  obtain rfl := Option.some.inj hF2
  exact ends_gen [] [] (by rw [Try.results112]; exact (res_tmp (by conv => lhs; whnf) res_nil))
  iterate 3 refine r_no rfl ?_
  refine s_pkf ?_
  refine s_mv ?_
  iterate 3 refine r_no rfl ?_
  refine s_pkf ?_
  refine s_mv ?_
  iterate 4 refine r_no rfl ?_
  refine s_pkf ?_
  refine s_as ?_
  refine k_nil ?_
  refine k_seq ?_
  refine awp_ret ?_
  refine k_fin ?_
  obtain rfl := Option.some.inj hF1
  exact ends_gen [] [] (by rw [Try.results112]; exact (res_tmp (by conv => lhs; whnf) res_nil))
def m_spec_l4Vars_AC (fuel : Nat) : Prop := ∀ (x1 : (List Form)) (x2 : Form) (x3 : (List Form)) (r : (List Form)), m_spec_l4Vars fuel x1 x2 x3 = some r → AC Try.prog 68 [.ar 9300, .ag [.t (.sc (.int .i64 x2.kind)), .t (.sc (.str x2.name)), .t (.sc (.int .i64 x2.n)), .t (.sl (x2.scopes.map rI)), .t (.sl (x2.kids.map Form.row))], .t (.sl (x3.map Form.row))] (objs [(9300, .arr (x1.map Form.row) 32 true)]) (.ar 9200) (objs [(9300, .dead), (9200, .arr (r.map Form.row) 32 true)])
theorem m_spec_l4Vars_st (fu : Nat) (ih_m_spec_l4Vars : ∀ k, k ≤ fu → m_spec_l4Vars_AC k) : m_spec_l4Vars_AC (fu + 1) := by
  intro x1 x2 x3 r hF0
  rw [m_spec_l4Vars] at hF0
  refine AC_intro (rs := [.ar 9200]) Try.func68 rfl (by kernel_rfl) (by simp [Try.ntmps68]) (keep_all rfl) ?_
  intro C hC
  rw [Try.ntmps68]
  refine awp_seq ?_
  refine awp_region ?_
  refine s_box ?_
  refine s_as ?_
  refine k_nil ?_
  refine k_seq ?_
  refine awp_seq ?_
  refine awp_seq ?_
  refine awp_region ?_
  refine s_ldW yA32 yS32 ?_
  refine s_mv ?_
  replace hF0 := bind_some' hF0
  obtain ⟨v1, hv1, hF1⟩ := hF0
  refine s_pure [] (m_spec_l4Var_ok fu _ _ _ hv1) ?_
  refine k_nil ?_
  refine k_seq ?_
  refine w_cond hF1 (fun hc2 hF2 => ?_) (fun hc2 hF2 => ?_) <;> clear hF1
  refine awp_region ?_
  refine s_mv ?_
  refine s_ldW yA32 yS32 ?_
  refine s_bs Form.row [x2] yP30 yR32 ?_
  obtain ⟨hk3, hF3⟩ := chk_some hF2
  refine s_apT Form.row (fun y => Form.row_len y) hk3 yP30 ?_
  refine s_as ?_
  refine k_nil ?_
  refine k_seq ?_
  refine awp_seq ?_
  refine awp_seq ?_
  refine awp_region ?_
  refine s_as ?_
  refine k_nil ?_
  refine k_seq ?_
  refine awp_block ?_
  refine awp_mv 0 14 5020 (by conv => lhs; whnf) (by conv => lhs; whnf) rfl ?_
  refine awp_frame2 [0, 7, 15, 16, 17, 18, 19, 20, 21, 22, 23, 24, 25, 26, 27, 28, 29] [5020] [12029] [5020] (fun a : Nat × (List Form) × Int => a.1) (fun a : Nat × (List Form) × Int => [(0, .ar 5020), (7, .t (.sc (.int .i64 a.2.2)))]) (fun a : Nat × (List Form) × Int => [(5020, .arr (a.2.1.map Form.row) 32 true)]) (fun a : Nat × (List Form) × Int => a.1 ≤ fu ∧ m_spec_l4Vars_l1 a.1 x2 x3 a.2.1 a.2.2 = some r ∧ 0 ≤ a.2.2) (fu, (x1 ++ [x2]), 0) ⟨Nat.le_refl _, hF3, by simp⟩ (by rfl) (by rfl) (fun _ => rfl) (hasF_cons (by conv => lhs; whnf) (by rfl) (hasF_cons (by conv => lhs; whnf) (by rfl) hasF_nil)) (hasO_cons (by conv => lhs; whnf) (by rfl) hasO_nil) (fresh_C hC rfl) (by repeat (first | exact freshS_args rfl | refine freshS_upd rfl ?_ | refine freshS_frame rfl ?_)) (by repeat (first | exact freshM_no | exact objs_fresh rfl | refine freshM_upd rfl ?_ | refine freshM_frame rfl ?_)) ?_
  clear hF3
  rintro ⟨fu, g4, g5⟩ ⟨hl6, hF4, hn_g5⟩
  dsimp only at hl6 hF4 hn_g5 ⊢
  obtain _ | fu := fu
  · rw [m_spec_l4Vars_l1] at hF4; cases hF4
  rw [m_spec_l4Vars_l1] at hF4
  refine awp_seq ?_
  refine awp_seq ?_
  refine awp_region ?_
  refine s_mv ?_
  refine s_fa yF32_4 ?_
  refine s_ld1 yA30 ?_
  refine s_lenT yU30 ?_
  refine s_lt ?_
  refine k_nil ?_
  refine k_seq ?_
  refine w_cond hF4 (fun hc7 hF5 => ?_) (fun hc7 hF5 => ?_) <;> clear hF4
  refine awp_lenT 17 (fun hb8 => ?_)
  refine awp_skip ?_
  refine k_seq ?_
  refine awp_seq ?_
  refine awp_block ?_
  refine awp_region ?_
  refine s_mv ?_
  refine s_fa yF32_4 ?_
  refine s_ld1 yA30 ?_
  refine s_mv ?_
  replace hF5 := bind_some' hF5
  obtain ⟨v9, hv9, hF6⟩ := hF5
  refine s_ixT Form.row hv9 (Form.row_eq _) yE30 ?_
  refine s_ldN yA32 yS32 ?_
  refine s_mv ?_
  replace hF6 := bind_some' hF6
  obtain ⟨v10, hv10, hF7⟩ := hF6
  refine s_call [(9300, 5020), (9200, 12029)] [] _ _ (ih_m_spec_l4Vars fu (by omega) _ _ _ _ hv10) ?_
  refine s_as ?_
  refine k_nil ?_
  refine k_blk ?_
  refine k_seq ?_
  refine awp_region ?_
  refine s_mv ?_
  refine s_add (winc2 hc7 hb8 hn_g5) ?_
  refine s_as ?_
  refine k_nil ?_
  exact s_rnd2 (fu, v10, (g5 + 1)) [(5020, 12029)] ⟨by first | omega | (dsimp only; omega), hF7, by first | omega | (dsimp only; omega)⟩ (hasR_cons (by conv => lhs; whnf) (by rfl) rfl (hasR_cons (by conv => lhs; whnf) (by rfl) rfl trivial)) (hasQ_cons (by conv => lhs; whnf) (by rfl) rfl trivial)
  refine awp_exit ?_
  refine k_seq_exit ?_
  refine k_rnd_exit2 ?_
  refine k_blk_exit ?_
  refine k_seq ?_
  refine awp_seq ?_
  refine awp_region ?_
  refine s_mv ?_
  refine s_as ?_
  refine k_nil ?_
  refine k_seq ?_
  refine awp_mv 6 5020 9200 (by conv => lhs; whnf) (by conv => lhs; whnf) rfl ?_
  refine awp_ret ?_
  refine k_fin ?_
  obtain rfl := Option.some.inj hF5
  exact ends_gen _ [] (by rw [Try.results68]; exact (res_tmp (by conv => lhs; whnf) res_nil))
  refine awp_skip ?_
  refine k_seq ?_
  refine awp_seq ?_
  refine awp_seq ?_
  refine awp_region ?_
  refine s_as ?_
  refine k_nil ?_
  refine k_seq ?_
  refine awp_block ?_
  refine awp_mv 0 9300 5040 (by conv => lhs; whnf) (by conv => lhs; whnf) rfl ?_
  refine awp_frame2 [0, 7, 15, 16, 17, 18, 19, 20, 21, 22, 23, 24, 25, 26, 27, 28, 29] [5040] [12029] [5040] (fun a : Nat × (List Form) × Int => a.1) (fun a : Nat × (List Form) × Int => [(0, .ar 5040), (7, .t (.sc (.int .i64 a.2.2)))]) (fun a : Nat × (List Form) × Int => [(5040, .arr (a.2.1.map Form.row) 32 true)]) (fun a : Nat × (List Form) × Int => a.1 ≤ fu ∧ m_spec_l4Vars_l1 a.1 x2 x3 a.2.1 a.2.2 = some r ∧ 0 ≤ a.2.2) (fu, x1, 0) ⟨Nat.le_refl _, hF2, by simp⟩ (by rfl) (by rfl) (fun _ => rfl) (hasF_cons (by conv => lhs; whnf) (by rfl) (hasF_cons (by conv => lhs; whnf) (by rfl) hasF_nil)) (hasO_cons (by conv => lhs; whnf) (by rfl) hasO_nil) (fresh_C hC rfl) (by repeat (first | exact freshS_args rfl | refine freshS_upd rfl ?_ | refine freshS_frame rfl ?_)) (by repeat (first | exact freshM_no | exact objs_fresh rfl | refine freshM_upd rfl ?_ | refine freshM_frame rfl ?_)) ?_
  clear hF2
  rintro ⟨fu, g11, g12⟩ ⟨hl13, hF3, hn_g12⟩
  dsimp only at hl13 hF3 hn_g12 ⊢
  obtain _ | fu := fu
  · rw [m_spec_l4Vars_l1] at hF3; cases hF3
  rw [m_spec_l4Vars_l1] at hF3
  refine awp_seq ?_
  refine awp_seq ?_
  refine awp_region ?_
  refine s_mv ?_
  refine s_fa yF32_4 ?_
  refine s_ld1 yA30 ?_
  refine s_lenT yU30 ?_
  refine s_lt ?_
  refine k_nil ?_
  refine k_seq ?_
  refine w_cond hF3 (fun hc14 hF4 => ?_) (fun hc14 hF4 => ?_) <;> clear hF3
  refine awp_lenT 17 (fun hb15 => ?_)
  refine awp_skip ?_
  refine k_seq ?_
  refine awp_seq ?_
  refine awp_block ?_
  refine awp_region ?_
  refine s_mv ?_
  refine s_fa yF32_4 ?_
  refine s_ld1 yA30 ?_
  refine s_mv ?_
  replace hF4 := bind_some' hF4
  obtain ⟨v16, hv16, hF5⟩ := hF4
  refine s_ixT Form.row hv16 (Form.row_eq _) yE30 ?_
  refine s_ldN yA32 yS32 ?_
  refine s_mv ?_
  replace hF5 := bind_some' hF5
  obtain ⟨v17, hv17, hF6⟩ := hF5
  refine s_call [(9300, 5040), (9200, 12029)] [] _ _ (ih_m_spec_l4Vars fu (by omega) _ _ _ _ hv17) ?_
  refine s_as ?_
  refine k_nil ?_
  refine k_blk ?_
  refine k_seq ?_
  refine awp_region ?_
  refine s_mv ?_
  refine s_add (winc2 hc14 hb15 hn_g12) ?_
  refine s_as ?_
  refine k_nil ?_
  exact s_rnd2 (fu, v17, (g12 + 1)) [(5040, 12029)] ⟨by first | omega | (dsimp only; omega), hF6, by first | omega | (dsimp only; omega)⟩ (hasR_cons (by conv => lhs; whnf) (by rfl) rfl (hasR_cons (by conv => lhs; whnf) (by rfl) rfl trivial)) (hasQ_cons (by conv => lhs; whnf) (by rfl) rfl trivial)
  refine awp_exit ?_
  refine k_seq_exit ?_
  refine k_rnd_exit2 ?_
  refine k_blk_exit ?_
  refine k_seq ?_
  refine awp_seq ?_
  refine awp_region ?_
  refine s_mv ?_
  refine s_as ?_
  refine k_nil ?_
  refine k_seq ?_
  refine awp_mv 6 5040 9200 (by conv => lhs; whnf) (by conv => lhs; whnf) rfl ?_
  refine awp_ret ?_
  refine k_fin ?_
  obtain rfl := Option.some.inj hF4
  exact ends_gen _ [] (by rw [Try.results68]; exact (res_tmp (by conv => lhs; whnf) res_nil))
theorem m_spec_l4Vars_all (fuel : Nat) : m_spec_l4Vars_AC fuel := by
  induction fuel using Nat.strongRecOn with
  | _ N ih =>
    cases N with
    | zero => exact (by intro x1 x2 x3 r h; rw [m_spec_l4Vars] at h; cases h)
    | succ fu => exact m_spec_l4Vars_st fu (fun k hk => (ih k (by omega)))
theorem m_spec_l4Vars_ok (fuel : Nat) : m_spec_l4Vars_AC fuel := (m_spec_l4Vars_all fuel)
def m_spec_l4Depths_AC (fuel : Nat) : Prop := ∀ (x1 : (List Int)) (x2 : Form) (x3 : (List Form)) (x4 : Int) (r : (List Int)), m_spec_l4Depths fuel x1 x2 x3 x4 = some r → AC Try.prog 82 [.ar 9300, .ag [.t (.sc (.int .i64 x2.kind)), .t (.sc (.str x2.name)), .t (.sc (.int .i64 x2.n)), .t (.sl (x2.scopes.map rI)), .t (.sl (x2.kids.map Form.row))], .t (.sl (x3.map Form.row)), .t (.sc (.int .i64 x4))] (objs [(9300, .arr (x1.map rI) 3 true)]) (.ar 9200) (objs [(9300, .dead), (9200, .arr (r.map rI) 3 true)])
theorem m_spec_l4Depths_st (fu : Nat) (ih_m_spec_l4Depths : ∀ k, k ≤ fu → m_spec_l4Depths_AC k) : m_spec_l4Depths_AC (fu + 1) := by
  intro x1 x2 x3 x4 r hF0
  rw [m_spec_l4Depths] at hF0
  refine AC_intro (rs := [.ar 9200]) Try.func82 rfl (by kernel_rfl) (by simp [Try.ntmps82]) (keep_all rfl) ?_
  intro C hC
  rw [Try.ntmps82]
  refine awp_seq ?_
  refine awp_region ?_
  refine s_box ?_
  refine s_as ?_
  refine k_nil ?_
  refine k_seq ?_
  refine awp_seq ?_
  refine awp_seq ?_
  refine awp_region ?_
  refine s_ldW yA32 yS32 ?_
  refine s_mv ?_
  replace hF0 := bind_some' hF0
  obtain ⟨v1, hv1, hF1⟩ := hF0
  refine s_pure [] (m_spec_l4Var_ok fu _ _ _ hv1) ?_
  refine k_nil ?_
  refine k_seq ?_
  refine w_cond hF1 (fun hc2 hF2 => ?_) (fun hc2 hF2 => ?_) <;> clear hF1
  refine awp_region ?_
  refine s_mv ?_
  refine s_mv ?_
  refine s_bs rI [x4] yP22 yR3 ?_
  obtain ⟨hk3, hF3⟩ := chk_some hF2
  refine s_apT rI (fun _ => rfl) hk3 yP22 ?_
  refine s_as ?_
  refine k_nil ?_
  refine k_seq ?_
  refine awp_seq ?_
  refine awp_seq ?_
  refine awp_region ?_
  refine s_as ?_
  refine k_nil ?_
  refine k_seq ?_
  refine awp_block ?_
  refine awp_mv 0 17 5020 (by conv => lhs; whnf) (by conv => lhs; whnf) rfl ?_
  refine awp_frame2 [0, 9, 10, 18, 19, 20, 21, 22, 23, 24, 25, 26, 27, 28, 29, 30, 31, 32, 33, 34, 35, 36, 37, 38, 39, 40, 41, 42, 43, 44, 45, 46, 47, 48, 49, 50, 51] [5020] [12051] [5020] (fun a : Nat × (List Int) × Int => a.1) (fun a : Nat × (List Int) × Int => [(0, .ar 5020), (9, .t (.sc (.int .i64 a.2.2)))]) (fun a : Nat × (List Int) × Int => [(5020, .arr (a.2.1.map rI) 3 true)]) (fun a : Nat × (List Int) × Int => a.1 ≤ fu ∧ m_spec_l4Depths_l1 a.1 x2 x3 x4 a.2.1 a.2.2 = some r ∧ 0 ≤ a.2.2) (fu, (x1 ++ [x4]), 0) ⟨Nat.le_refl _, hF3, by simp⟩ (by rfl) (by rfl) (fun _ => rfl) (hasF_cons (by conv => lhs; whnf) (by rfl) (hasF_cons (by conv => lhs; whnf) (by rfl) hasF_nil)) (hasO_cons (by conv => lhs; whnf) (by rfl) hasO_nil) (fresh_C hC rfl) (by repeat (first | exact freshS_args rfl | refine freshS_upd rfl ?_ | refine freshS_frame rfl ?_)) (by repeat (first | exact freshM_no | exact objs_fresh rfl | refine freshM_upd rfl ?_ | refine freshM_frame rfl ?_)) ?_
  clear hF3
  rintro ⟨fu, g4, g5⟩ ⟨hl6, hF4, hn_g5⟩
  dsimp only at hl6 hF4 hn_g5 ⊢
  obtain _ | fu := fu
  · rw [m_spec_l4Depths_l1] at hF4; cases hF4
  rw [m_spec_l4Depths_l1] at hF4
  refine awp_seq ?_
  refine awp_seq ?_
  refine awp_region ?_
  refine s_mv ?_
  refine s_fa yF32_4 ?_
  refine s_ld1 yA30 ?_
  refine s_lenT yU30 ?_
  refine s_lt ?_
  refine k_nil ?_
  refine k_seq ?_
  refine w_cond hF4 (fun hc7 hF5 => ?_) (fun hc7 hF5 => ?_) <;> clear hF4
  refine awp_lenT 20 (fun hb8 => ?_)
  refine awp_skip ?_
  refine k_seq ?_
  refine awp_seq ?_
  refine awp_block ?_
  refine awp_seq ?_
  refine awp_region ?_
  refine s_mv ?_
  refine s_as ?_
  refine k_nil ?_
  refine k_seq ?_
  refine awp_seq ?_
  refine awp_seq ?_
  refine awp_region ?_
  refine s_mv ?_
  refine s_add (winc2 hc7 hb8 hn_g5) ?_
  refine s_fa yF32_4 ?_
  refine s_ld1 yA30 ?_
  refine s_lenT yU30 ?_
  refine s_lt ?_
  refine s_mv ?_
  refine w_guard _ 32 hF5 (fun hc9 hF6 => ?_) (fun hc9 hF6 => ?_) <;> clear hF5
  refine s_fa yF32_4 ?_
  refine s_ld1 yA30 ?_
  refine s_mv ?_
  refine s_add (winc2 hc7 hb8 hn_g5) ?_
  replace hF6 := bind_some' hF6
  obtain ⟨v10, hv10, hF7⟩ := hF6
  refine s_ixT Form.row hv10 (Form.row_eq _) yE30 ?_
  refine s_ldN yA32 yS32 ?_
  replace hF7 := bind_some' hF7
  obtain ⟨v11, hv11, hF8⟩ := hF7
  refine s_pure [] (m_spec_l4Dots_ok fu _ _ hv11) ?_
  refine s_pkt ?_
  refine k_nil ?_
  refine k_seq ?_
  refine w_cond hF8 (fun hc12 hF9 => ?_) (fun hc12 hF9 => ?_) <;> clear hF8
  refine awp_region ?_
  refine s_mv ?_
  refine s_add rfl ?_
  refine s_as ?_
  refine k_nil ?_
  refine k_seq ?_
  refine awp_region ?_
  refine s_mv ?_
  refine s_fa yF32_4 ?_
  refine s_ld1 yA30 ?_
  refine s_mv ?_
  replace hF9 := bind_some' hF9
  obtain ⟨v13, hv13, hF10⟩ := hF9
  refine s_ixT Form.row hv13 (Form.row_eq _) yE30 ?_
  refine s_ldN yA32 yS32 ?_
  refine s_mv ?_
  refine s_mv ?_
  replace hF10 := bind_some' hF10
  obtain ⟨v14, hv14, hF11⟩ := hF10
  refine s_call [(9300, 5020), (9200, 12051)] [] _ _ (ih_m_spec_l4Depths fu (by omega) _ _ _ _ _ hv14) ?_
  refine s_as ?_
  refine k_nil ?_
  refine k_blk ?_
  refine k_seq ?_
  refine awp_region ?_
  refine s_mv ?_
  refine s_add (winc2 hc7 hb8 hn_g5) ?_
  refine s_as ?_
  refine k_nil ?_
  exact s_rnd2 (fu, v14, (g5 + 1)) [(5020, 12051)] ⟨by first | omega | (dsimp only; omega), hF11, by first | omega | (dsimp only; omega)⟩ (hasR_cons (by conv => lhs; whnf) (by rfl) rfl (hasR_cons (by conv => lhs; whnf) (by rfl) rfl trivial)) (hasQ_cons (by conv => lhs; whnf) (by rfl) rfl trivial)
  refine awp_skip ?_
  refine k_seq ?_
  refine awp_region ?_
  refine s_mv ?_
  refine s_fa yF32_4 ?_
  refine s_ld1 yA30 ?_
  refine s_mv ?_
  replace hF9 := bind_some' hF9
  obtain ⟨v15, hv15, hF10⟩ := hF9
  refine s_ixT Form.row hv15 (Form.row_eq _) yE30 ?_
  refine s_ldN yA32 yS32 ?_
  refine s_mv ?_
  refine s_mv ?_
  replace hF10 := bind_some' hF10
  obtain ⟨v16, hv16, hF11⟩ := hF10
  refine s_call [(9300, 5020), (9200, 12051)] [] _ _ (ih_m_spec_l4Depths fu (by omega) _ _ _ _ _ hv16) ?_
  refine s_as ?_
  refine k_nil ?_
  refine k_blk ?_
  refine k_seq ?_
  refine awp_region ?_
  refine s_mv ?_
  refine s_add (winc2 hc7 hb8 hn_g5) ?_
  refine s_as ?_
  refine k_nil ?_
  exact s_rnd2 (fu, v16, (g5 + 1)) [(5020, 12051)] ⟨by first | omega | (dsimp only; omega), hF11, by first | omega | (dsimp only; omega)⟩ (hasR_cons (by conv => lhs; whnf) (by rfl) rfl (hasR_cons (by conv => lhs; whnf) (by rfl) rfl trivial)) (hasQ_cons (by conv => lhs; whnf) (by rfl) rfl trivial)
  iterate 7 refine r_no rfl ?_
  refine s_pkf ?_
  refine k_nil ?_
  refine k_seq ?_
  refine awp_false rfl ?_
  refine awp_skip ?_
  refine k_seq ?_
  refine awp_region ?_
  refine s_mv ?_
  refine s_fa yF32_4 ?_
  refine s_ld1 yA30 ?_
  refine s_mv ?_
  replace hF6 := bind_some' hF6
  obtain ⟨v17, hv17, hF7⟩ := hF6
  refine s_ixT Form.row hv17 (Form.row_eq _) yE30 ?_
  refine s_ldN yA32 yS32 ?_
  refine s_mv ?_
  refine s_mv ?_
  replace hF7 := bind_some' hF7
  obtain ⟨v18, hv18, hF8⟩ := hF7
  refine s_call [(9300, 5020), (9200, 12051)] [] _ _ (ih_m_spec_l4Depths fu (by omega) _ _ _ _ _ hv18) ?_
  refine s_as ?_
  refine k_nil ?_
  refine k_blk ?_
  refine k_seq ?_
  refine awp_region ?_
  refine s_mv ?_
  refine s_add (winc2 hc7 hb8 hn_g5) ?_
  refine s_as ?_
  refine k_nil ?_
  exact s_rnd2 (fu, v18, (g5 + 1)) [(5020, 12051)] ⟨by first | omega | (dsimp only; omega), hF8, by first | omega | (dsimp only; omega)⟩ (hasR_cons (by conv => lhs; whnf) (by rfl) rfl (hasR_cons (by conv => lhs; whnf) (by rfl) rfl trivial)) (hasQ_cons (by conv => lhs; whnf) (by rfl) rfl trivial)
  refine awp_exit ?_
  refine k_seq_exit ?_
  refine k_rnd_exit2 ?_
  refine k_blk_exit ?_
  refine k_seq ?_
  refine awp_seq ?_
  refine awp_region ?_
  refine s_mv ?_
  refine s_as ?_
  refine k_nil ?_
  refine k_seq ?_
  refine awp_mv 8 5020 9200 (by conv => lhs; whnf) (by conv => lhs; whnf) rfl ?_
  refine awp_ret ?_
  refine k_fin ?_
  obtain rfl := Option.some.inj hF5
  exact ends_gen _ [] (by rw [Try.results82]; exact (res_tmp (by conv => lhs; whnf) res_nil))
  refine awp_skip ?_
  refine k_seq ?_
  refine awp_seq ?_
  refine awp_seq ?_
  refine awp_region ?_
  refine s_as ?_
  refine k_nil ?_
  refine k_seq ?_
  refine awp_block ?_
  refine awp_mv 0 9300 5040 (by conv => lhs; whnf) (by conv => lhs; whnf) rfl ?_
  refine awp_frame2 [0, 9, 10, 18, 19, 20, 21, 22, 23, 24, 25, 26, 27, 28, 29, 30, 31, 32, 33, 34, 35, 36, 37, 38, 39, 40, 41, 42, 43, 44, 45, 46, 47, 48, 49, 50, 51] [5040] [12051] [5040] (fun a : Nat × (List Int) × Int => a.1) (fun a : Nat × (List Int) × Int => [(0, .ar 5040), (9, .t (.sc (.int .i64 a.2.2)))]) (fun a : Nat × (List Int) × Int => [(5040, .arr (a.2.1.map rI) 3 true)]) (fun a : Nat × (List Int) × Int => a.1 ≤ fu ∧ m_spec_l4Depths_l1 a.1 x2 x3 x4 a.2.1 a.2.2 = some r ∧ 0 ≤ a.2.2) (fu, x1, 0) ⟨Nat.le_refl _, hF2, by simp⟩ (by rfl) (by rfl) (fun _ => rfl) (hasF_cons (by conv => lhs; whnf) (by rfl) (hasF_cons (by conv => lhs; whnf) (by rfl) hasF_nil)) (hasO_cons (by conv => lhs; whnf) (by rfl) hasO_nil) (fresh_C hC rfl) (by repeat (first | exact freshS_args rfl | refine freshS_upd rfl ?_ | refine freshS_frame rfl ?_)) (by repeat (first | exact freshM_no | exact objs_fresh rfl | refine freshM_upd rfl ?_ | refine freshM_frame rfl ?_)) ?_
  clear hF2
  rintro ⟨fu, g19, g20⟩ ⟨hl21, hF3, hn_g20⟩
  dsimp only at hl21 hF3 hn_g20 ⊢
  obtain _ | fu := fu
  · rw [m_spec_l4Depths_l1] at hF3; cases hF3
  rw [m_spec_l4Depths_l1] at hF3
  refine awp_seq ?_
  refine awp_seq ?_
  refine awp_region ?_
  refine s_mv ?_
  refine s_fa yF32_4 ?_
  refine s_ld1 yA30 ?_
  refine s_lenT yU30 ?_
  refine s_lt ?_
  refine k_nil ?_
  refine k_seq ?_
  refine w_cond hF3 (fun hc22 hF4 => ?_) (fun hc22 hF4 => ?_) <;> clear hF3
  refine awp_lenT 20 (fun hb23 => ?_)
  refine awp_skip ?_
  refine k_seq ?_
  refine awp_seq ?_
  refine awp_block ?_
  refine awp_seq ?_
  refine awp_region ?_
  refine s_mv ?_
  refine s_as ?_
  refine k_nil ?_
  refine k_seq ?_
  refine awp_seq ?_
  refine awp_seq ?_
  refine awp_region ?_
  refine s_mv ?_
  refine s_add (winc2 hc22 hb23 hn_g20) ?_
  refine s_fa yF32_4 ?_
  refine s_ld1 yA30 ?_
  refine s_lenT yU30 ?_
  refine s_lt ?_
  refine s_mv ?_
  refine w_guard _ 32 hF4 (fun hc24 hF5 => ?_) (fun hc24 hF5 => ?_) <;> clear hF4
  refine s_fa yF32_4 ?_
  refine s_ld1 yA30 ?_
  refine s_mv ?_
  refine s_add (winc2 hc22 hb23 hn_g20) ?_
  replace hF5 := bind_some' hF5
  obtain ⟨v25, hv25, hF6⟩ := hF5
  refine s_ixT Form.row hv25 (Form.row_eq _) yE30 ?_
  refine s_ldN yA32 yS32 ?_
  replace hF6 := bind_some' hF6
  obtain ⟨v26, hv26, hF7⟩ := hF6
  refine s_pure [] (m_spec_l4Dots_ok fu _ _ hv26) ?_
  refine s_pkt ?_
  refine k_nil ?_
  refine k_seq ?_
  refine w_cond hF7 (fun hc27 hF8 => ?_) (fun hc27 hF8 => ?_) <;> clear hF7
  refine awp_region ?_
  refine s_mv ?_
  refine s_add rfl ?_
  refine s_as ?_
  refine k_nil ?_
  refine k_seq ?_
  refine awp_region ?_
  refine s_mv ?_
  refine s_fa yF32_4 ?_
  refine s_ld1 yA30 ?_
  refine s_mv ?_
  replace hF8 := bind_some' hF8
  obtain ⟨v28, hv28, hF9⟩ := hF8
  refine s_ixT Form.row hv28 (Form.row_eq _) yE30 ?_
  refine s_ldN yA32 yS32 ?_
  refine s_mv ?_
  refine s_mv ?_
  replace hF9 := bind_some' hF9
  obtain ⟨v29, hv29, hF10⟩ := hF9
  refine s_call [(9300, 5040), (9200, 12051)] [] _ _ (ih_m_spec_l4Depths fu (by omega) _ _ _ _ _ hv29) ?_
  refine s_as ?_
  refine k_nil ?_
  refine k_blk ?_
  refine k_seq ?_
  refine awp_region ?_
  refine s_mv ?_
  refine s_add (winc2 hc22 hb23 hn_g20) ?_
  refine s_as ?_
  refine k_nil ?_
  exact s_rnd2 (fu, v29, (g20 + 1)) [(5040, 12051)] ⟨by first | omega | (dsimp only; omega), hF10, by first | omega | (dsimp only; omega)⟩ (hasR_cons (by conv => lhs; whnf) (by rfl) rfl (hasR_cons (by conv => lhs; whnf) (by rfl) rfl trivial)) (hasQ_cons (by conv => lhs; whnf) (by rfl) rfl trivial)
  refine awp_skip ?_
  refine k_seq ?_
  refine awp_region ?_
  refine s_mv ?_
  refine s_fa yF32_4 ?_
  refine s_ld1 yA30 ?_
  refine s_mv ?_
  replace hF8 := bind_some' hF8
  obtain ⟨v30, hv30, hF9⟩ := hF8
  refine s_ixT Form.row hv30 (Form.row_eq _) yE30 ?_
  refine s_ldN yA32 yS32 ?_
  refine s_mv ?_
  refine s_mv ?_
  replace hF9 := bind_some' hF9
  obtain ⟨v31, hv31, hF10⟩ := hF9
  refine s_call [(9300, 5040), (9200, 12051)] [] _ _ (ih_m_spec_l4Depths fu (by omega) _ _ _ _ _ hv31) ?_
  refine s_as ?_
  refine k_nil ?_
  refine k_blk ?_
  refine k_seq ?_
  refine awp_region ?_
  refine s_mv ?_
  refine s_add (winc2 hc22 hb23 hn_g20) ?_
  refine s_as ?_
  refine k_nil ?_
  exact s_rnd2 (fu, v31, (g20 + 1)) [(5040, 12051)] ⟨by first | omega | (dsimp only; omega), hF10, by first | omega | (dsimp only; omega)⟩ (hasR_cons (by conv => lhs; whnf) (by rfl) rfl (hasR_cons (by conv => lhs; whnf) (by rfl) rfl trivial)) (hasQ_cons (by conv => lhs; whnf) (by rfl) rfl trivial)
  iterate 7 refine r_no rfl ?_
  refine s_pkf ?_
  refine k_nil ?_
  refine k_seq ?_
  refine awp_false rfl ?_
  refine awp_skip ?_
  refine k_seq ?_
  refine awp_region ?_
  refine s_mv ?_
  refine s_fa yF32_4 ?_
  refine s_ld1 yA30 ?_
  refine s_mv ?_
  replace hF5 := bind_some' hF5
  obtain ⟨v32, hv32, hF6⟩ := hF5
  refine s_ixT Form.row hv32 (Form.row_eq _) yE30 ?_
  refine s_ldN yA32 yS32 ?_
  refine s_mv ?_
  refine s_mv ?_
  replace hF6 := bind_some' hF6
  obtain ⟨v33, hv33, hF7⟩ := hF6
  refine s_call [(9300, 5040), (9200, 12051)] [] _ _ (ih_m_spec_l4Depths fu (by omega) _ _ _ _ _ hv33) ?_
  refine s_as ?_
  refine k_nil ?_
  refine k_blk ?_
  refine k_seq ?_
  refine awp_region ?_
  refine s_mv ?_
  refine s_add (winc2 hc22 hb23 hn_g20) ?_
  refine s_as ?_
  refine k_nil ?_
  exact s_rnd2 (fu, v33, (g20 + 1)) [(5040, 12051)] ⟨by first | omega | (dsimp only; omega), hF7, by first | omega | (dsimp only; omega)⟩ (hasR_cons (by conv => lhs; whnf) (by rfl) rfl (hasR_cons (by conv => lhs; whnf) (by rfl) rfl trivial)) (hasQ_cons (by conv => lhs; whnf) (by rfl) rfl trivial)
  refine awp_exit ?_
  refine k_seq_exit ?_
  refine k_rnd_exit2 ?_
  refine k_blk_exit ?_
  refine k_seq ?_
  refine awp_seq ?_
  refine awp_region ?_
  refine s_mv ?_
  refine s_as ?_
  refine k_nil ?_
  refine k_seq ?_
  refine awp_mv 8 5040 9200 (by conv => lhs; whnf) (by conv => lhs; whnf) rfl ?_
  refine awp_ret ?_
  refine k_fin ?_
  obtain rfl := Option.some.inj hF4
  exact ends_gen _ [] (by rw [Try.results82]; exact (res_tmp (by conv => lhs; whnf) res_nil))
theorem m_spec_l4Depths_all (fuel : Nat) : m_spec_l4Depths_AC fuel := by
  induction fuel using Nat.strongRecOn with
  | _ N ih =>
    cases N with
    | zero => exact (by intro x1 x2 x3 x4 r h; rw [m_spec_l4Depths] at h; cases h)
    | succ fu => exact m_spec_l4Depths_st fu (fun k hk => (ih k (by omega)))
theorem m_spec_l4Depths_ok (fuel : Nat) : m_spec_l4Depths_AC fuel := (m_spec_l4Depths_all fuel)
def m_spec_l4Is_AC (fuel : Nat) : Prop := ∀ (x1 : Form) (x2 : (List Form)) (r : Bool), m_spec_l4Is fuel x1 x2 = some r → AC Try.prog 67 [.ag [.t (.sc (.int .i64 x1.kind)), .t (.sc (.str x1.name)), .t (.sc (.int .i64 x1.n)), .t (.sl (x1.scopes.map rI)), .t (.sl (x1.kids.map Form.row))], .t (.sl (x2.map Form.row))] noOb (.t (.sc (.bool r))) noOb
theorem m_spec_l4Is_ok (fuel : Nat) : m_spec_l4Is_AC fuel := by
  intro x1 x2 r hF0
  unfold m_spec_l4Is at hF0
  refine AC_intro (rs := [.t (.sc (.bool r))]) Try.func67 rfl (by kernel_rfl) (by simp [Try.ntmps67]) (by simp [noOb]) ?_
  intro C hC
  rw [Try.ntmps67]
  refine awp_seq ?_
  refine awp_region ?_
  refine s_box ?_
  refine s_as ?_
  refine k_nil ?_
  refine k_seq ?_
  refine awp_seq ?_
  refine awp_seq ?_
  refine awp_region ?_
  refine s_ldW yA32 yS32 ?_
  replace hF0 := bind_some' hF0
  obtain ⟨v1, hv1, hF1⟩ := hF0
  refine s_pure [] (m_spec_FormValid_ok fuel _ _ hv1) ?_
  refine s_not ?_
  refine s_mv ?_
  refine w_guard _ 12 hF1 (fun hc2 hF2 => ?_) (fun hc2 hF2 => ?_) <;> clear hF1
  iterate 3 refine r_no rfl ?_
  refine s_pkt ?_
  refine s_mv ?_
  iterate 3 refine r_no rfl ?_
  refine s_pkt ?_
  refine k_nil ?_
  refine k_seq ?_
  refine awp_true rfl ?_
  refine awp_seq ?_
  refine awp_region ?_
  refine s_as ?_
  refine k_nil ?_
  refine k_seq ?_
  refine awp_ret ?_
  refine k_seq_ret ?_
  refine k_fin ?_
  obtain rfl := Option.some.inj hF2
  exact ends_gen [] [] (by rw [Try.results67]; exact (res_tmp (by conv => lhs; whnf) res_nil))
  refine s_mv ?_
  replace hF2 := bind_some' hF2
  obtain ⟨v3, hv3, hF3⟩ := hF2
  refine s_pure [] (m_spec_l4Literals_ok fuel _ _ hv3) ?_
  refine s_not ?_
  refine s_pkf ?_
  refine s_mv ?_
  refine w_guard _ 17 hF3 (fun hc4 hF4 => ?_) (fun hc4 hF4 => ?_) <;> clear hF3
  iterate 3 refine r_no rfl ?_
  refine s_pkt ?_
  refine k_nil ?_
  refine k_seq ?_
  refine awp_true rfl ?_
  refine awp_seq ?_
  refine awp_region ?_
  refine s_as ?_
  refine k_nil ?_
  refine k_seq ?_
  refine awp_ret ?_
  refine k_seq_ret ?_
  refine k_fin ?_
  obtain rfl := Option.some.inj hF4
  exact ends_gen [] [] (by rw [Try.results67]; exact (res_tmp (by conv => lhs; whnf) res_nil))
  refine s_ldW yA32 yS32 ?_
  replace hF4 := bind_some' hF4
  obtain ⟨v5, hv5, hF5⟩ := hF4
  refine s_pure [] (m_spec_l4Shape_ok fuel _ _ hv5) ?_
  refine s_not ?_
  refine s_pkf ?_
  refine k_nil ?_
  refine k_seq ?_
  refine w_cond hF5 (fun hc6 hF6 => ?_) (fun hc6 hF6 => ?_) <;> clear hF5
  refine awp_seq ?_
  refine awp_region ?_
  refine s_as ?_
  refine k_nil ?_
  refine k_seq ?_
  refine awp_ret ?_
  refine k_seq_ret ?_
  refine k_fin ?_
  obtain rfl := Option.some.inj hF6
  exact ends_gen [] [] (by rw [Try.results67]; exact (res_tmp (by conv => lhs; whnf) res_nil))
  refine awp_skip ?_
  refine k_seq ?_
  refine awp_seq ?_
  refine awp_region ?_
  refine s_bs Form.row ([] : List Form) yP30 yR32 ?_
  refine s_ldW yA32 yS32 ?_
  refine s_mv ?_
  replace hF6 := bind_some' hF6
  obtain ⟨v7, hv7, hF7⟩ := hF6
  refine s_call [(9300, 22), (9200, 12025)] [] _ _ (m_spec_l4Vars_ok fuel _ _ _ _ hv7) ?_
  refine s_as ?_
  refine k_nil ?_
  refine k_seq ?_
  refine awp_seq ?_
  refine awp_seq ?_
  refine awp_region ?_
  refine s_as ?_
  refine k_nil ?_
  refine k_seq ?_
  refine awp_block ?_
  refine awp_frz 12025 (by conv => lhs; whnf) ?_
  refine awp_frame2 [4, 6, 26, 27, 28, 29, 30, 31, 32, 33, 34, 35, 36, 37, 38, 39] [12025] [] [] (fun a : Nat × Int × (List Form) => a.1) (fun a : Nat × Int × (List Form) => [(6, .t (.sc (.int .i64 a.2.1)))]) (fun a : Nat × Int × (List Form) => [(12025, .arr (a.2.2.map Form.row) 32 false)]) (fun a : Nat × Int × (List Form) => a.1 ≤ fuel ∧ m_spec_l4Is_l1 a.1 x1 x2 a.2.1 a.2.2 = some r ∧ 0 ≤ a.2.1) (fuel, 0, v7) ⟨Nat.le_refl _, hF7, by simp⟩ (by rfl) (by rfl) (fun _ => rfl) (hasF_cons (by conv => lhs; whnf) (by rfl) hasF_nil) (hasO_cons (by conv => lhs; whnf) (by rfl) hasO_nil) (fun _ h => by cases h) freshS_nil freshM_nil ?_
  clear hF7
  rintro ⟨fu, g8, g9⟩ ⟨hl10, hF8, hn_g8⟩
  dsimp only at hl10 hF8 hn_g8 ⊢
  obtain _ | fu := fu
  · rw [m_spec_l4Is_l1] at hF8; cases hF8
  rw [m_spec_l4Is_l1] at hF8
  refine awp_seq ?_
  refine awp_seq ?_
  refine awp_region ?_
  refine s_mv ?_
  refine s_mv ?_
  refine s_lenA yU30 ?_
  refine s_lt ?_
  refine k_nil ?_
  refine k_seq ?_
  refine w_cond hF8 (fun hc11 hF9 => ?_) (fun hc11 hF9 => ?_) <;> clear hF8
  refine awp_lenA 5 12025 (fun hb12 => ?_)
  refine awp_skip ?_
  refine k_seq ?_
  refine awp_seq ?_
  refine awp_block ?_
  refine awp_seq ?_
  refine awp_draw yMix (by kernel_rfl) ?_
  refine s_mv ?_
  refine s_mv ?_
  replace hF9 := bind_some' hF9
  obtain ⟨v13, hv13, hF10⟩ := hF9
  refine s_sl01 Form.row (fun y => Form.row_len y) hv13 yU30 yE30 ?_
  refine s_mv ?_
  refine s_mv ?_
  replace hF10 := bind_some' hF10
  obtain ⟨v14, hv14, hF11⟩ := hF10
  refine s_ixA Form.row hv14 yE30 ?_
  refine s_lAN Form.row hv14 (Form.row_eq _) yA32 yS32 ?_
  replace hF11 := bind_some' hF11
  obtain ⟨v15, hv15, hF12⟩ := hF11
  refine s_pure [] (m_spec_l4In_ok fu _ _ _ hv15) ?_
  refine k_nilD (by kernel_rfl) ?_
  refine k_seq ?_
  refine w_cond hF12 (fun hc16 hF13 => ?_) (fun hc16 hF13 => ?_) <;> clear hF12
  refine awp_seq ?_
  refine awp_region ?_
  refine s_as ?_
  refine k_nil ?_
  refine k_seq ?_
  refine awp_ret ?_
  refine k_blk_ret ?_
  refine k_seq_ret ?_
  refine k_rnd_ret2 ?_
  refine k_blk_ret ?_
  refine k_seq_ret ?_
  refine k_fin ?_
  obtain rfl := Option.some.inj hF13
  exact ends_gen [] [] (by rw [Try.results67]; exact (res_tmp (by conv => lhs; whnf) res_nil))
  refine awp_skip ?_
  refine k_blk ?_
  refine k_seq ?_
  refine awp_region ?_
  refine s_mv ?_
  refine s_add (winc2 hc11 hb12 hn_g8) ?_
  refine s_as ?_
  refine k_nil ?_
  exact s_rnd2 (fu, (g8 + 1), g9) [] ⟨by first | omega | (dsimp only; omega), hF13, by first | omega | (dsimp only; omega)⟩ (hasR_cons (by conv => lhs; whnf) (by rfl) rfl trivial) (hasQ_cons (by conv => lhs; whnf) (by rfl) rfl trivial)
  refine awp_exit ?_
  refine k_seq_exit ?_
  refine k_rnd_exit2 ?_
  refine k_blk_exit ?_
  refine k_seq ?_
  refine awp_seq ?_
  refine awp_region ?_
  refine s_bs rI ([] : List Int) yP22 yR3 ?_
  refine s_ldW yA32 yS32 ?_
  refine s_mv ?_
  replace hF9 := bind_some' hF9
  obtain ⟨v17, hv17, hF10⟩ := hF9
  refine s_call [(9300, 40), (9200, 12043)] [] _ _ (m_spec_l4Depths_ok fu _ _ _ _ _ hv17) ?_
  refine s_as ?_
  refine k_nil ?_
  refine k_seq ?_
  refine awp_seq ?_
  refine awp_seq ?_
  refine awp_region ?_
  refine s_as ?_
  refine k_nil ?_
  refine k_seq ?_
  refine awp_block ?_
  refine awp_frame2 [4, 8, 44, 45, 46, 47, 48, 49, 50, 51, 52, 53, 54] [] [] [] (fun a : Nat × Int => a.1) (fun a : Nat × Int => [(8, .t (.sc (.int .i64 a.2)))]) (fun a : Nat × Int => []) (fun a : Nat × Int => a.1 ≤ fu ∧ m_spec_l4Is_l2 a.1 g9 v17 a.2 = some r ∧ 0 ≤ a.2) (fu, 0) ⟨Nat.le_refl _, hF10, by simp⟩ (by rfl) (by rfl) (fun _ => rfl) (hasF_cons (by conv => lhs; whnf) (by rfl) hasF_nil) hasO_nil (fun _ h => by cases h) freshS_nil freshM_nil ?_
  clear hF10
  rintro ⟨fu, g18⟩ ⟨hl19, hF11, hn_g18⟩
  dsimp only at hl19 hF11 hn_g18 ⊢
  obtain _ | fu := fu
  · rw [m_spec_l4Is_l2] at hF11; cases hF11
  rw [m_spec_l4Is_l2] at hF11
  refine awp_seq ?_
  refine awp_seq ?_
  refine awp_region ?_
  refine s_mv ?_
  refine s_mv ?_
  refine s_lenA yU22 ?_
  refine s_lt ?_
  refine k_nil ?_
  refine k_seq ?_
  refine w_cond hF11 (fun hc20 hF12 => ?_) (fun hc20 hF12 => ?_) <;> clear hF11
  refine awp_lenA 7 12043 (fun hb21 => ?_)
  refine awp_skip ?_
  refine k_seq ?_
  refine awp_seq ?_
  refine awp_block ?_
  refine awp_seq ?_
  refine awp_region ?_
  refine s_mv ?_
  refine s_mv ?_
  replace hF12 := bind_some' hF12
  obtain ⟨v22, hv22, hF13⟩ := hF12
  refine s_ixA rI hv22 yE22 ?_
  refine s_lA1 rI hv22 rfl yA3 ?_
  refine s_gt ?_
  refine k_nil ?_
  refine k_seq ?_
  refine w_cond hF13 (fun hc23 hF14 => ?_) (fun hc23 hF14 => ?_) <;> clear hF13
  refine awp_seq ?_
  refine awp_region ?_
  refine s_as ?_
  refine k_nil ?_
  refine k_seq ?_
  refine awp_ret ?_
  refine k_blk_ret ?_
  refine k_seq_ret ?_
  refine k_rnd_ret2 ?_
  refine k_blk_ret ?_
  refine k_seq_ret ?_
  refine k_fin ?_
  obtain rfl := Option.some.inj hF14
  exact ends_gen [] [] (by rw [Try.results67]; exact (res_tmp (by conv => lhs; whnf) res_nil))
  refine awp_skip ?_
  refine k_blk ?_
  refine k_seq ?_
  refine awp_region ?_
  refine s_mv ?_
  refine s_add (winc2 hc20 hb21 hn_g18) ?_
  refine s_as ?_
  refine k_nil ?_
  exact s_rnd2 (fu, (g18 + 1)) [] ⟨by first | omega | (dsimp only; omega), hF14, by first | omega | (dsimp only; omega)⟩ (hasR_cons (by conv => lhs; whnf) (by rfl) rfl trivial) trivial
  refine awp_exit ?_
  refine k_seq_exit ?_
  refine k_rnd_exit2 ?_
  refine k_blk_exit ?_
  refine k_seq ?_
  refine awp_seq ?_
  refine awp_region ?_
  refine s_mv ?_
  refine s_lenA yU30 ?_
  refine s_le ?_
  refine s_as ?_
  refine k_nil ?_
  refine k_seq ?_
  refine awp_ret ?_
  refine k_fin ?_
  obtain rfl := Option.some.inj hF12
  exact ends_gen [] [] (by rw [Try.results67]; exact (res_tmp (by conv => lhs; whnf) res_nil))
end Go.Abs
end
section
set_option maxRecDepth 100000
set_option maxHeartbeats 4000000
set_option linter.unusedVariables false
namespace Go.Abs
open Go.Proofs
def m_impl_isIn_1_AC (fuel : Nat) : Prop := ∀ (x1 : Form) (o1 : Form) (r : Bool), m_impl_isIn_1 fuel x1 o1 = some r → AC Try.prog 120 [.ag [.t (.sc (.int .i64 x1.kind)), .t (.sc (.str x1.name)), .t (.sc (.int .i64 x1.n)), .t (.sl (x1.scopes.map rI)), .t (.sl (x1.kids.map Form.row))], .rf 9000 0] (objs [(9000, .box [.t (.sc (.int .i64 o1.kind)), .t (.sc (.str o1.name)), .t (.sc (.int .i64 o1.n)), .t (.sl (o1.scopes.map rI)), .t (.sl (o1.kids.map Form.row))])]) (.t (.sc (.bool r))) (objs [(9000, .box [.t (.sc (.int .i64 o1.kind)), .t (.sc (.str o1.name)), .t (.sc (.int .i64 o1.n)), .t (.sl (o1.scopes.map rI)), .t (.sl (o1.kids.map Form.row))])])
theorem m_impl_isIn_1_ok (fuel : Nat) : m_impl_isIn_1_AC fuel := by
  intro x1 o1 r hF0
  unfold m_impl_isIn_1 at hF0
  refine AC_intro (rs := [.t (.sc (.bool r))]) Try.func120 rfl (by kernel_rfl) (by simp [Try.ntmps120]) (keep_all rfl) ?_
  intro C hC
  rw [Try.ntmps120]
  refine awp_seq ?_
  refine awp_region ?_
  refine s_box ?_
  refine s_as ?_
  refine k_nil ?_
  refine k_seq ?_
  refine awp_seq ?_
  refine awp_region ?_
  refine s_ldW yA32 yS32 ?_
  refine s_ldW yA32 yS32 ?_
  replace hF0 := bind_some' hF0
  obtain ⟨v1, hv1, hF1⟩ := hF0
  refine s_pure [] (m_impl_FormSame_ok fuel _ _ _ hv1) ?_
  refine s_as ?_
  refine k_nil ?_
  refine k_seq ?_
  refine awp_ret ?_
  refine k_fin ?_
  obtain rfl := Option.some.inj hF1
  exact ends_gen _ [] (by rw [Try.results120]; exact (res_tmp (by conv => lhs; whnf) res_nil))
def m_slices_IndexFunc_Form_isIn_1_AC (fuel : Nat) : Prop := ∀ (x1 : (List Form)) (o1 : Form) (r : Int), m_slices_IndexFunc_Form_isIn_1 fuel x1 o1 = some r → AC Try.prog 144 [.t (.sl (x1.map Form.row)), .fn 120 [.rf 9000 0]] (objs [(9000, .box [.t (.sc (.int .i64 o1.kind)), .t (.sc (.str o1.name)), .t (.sc (.int .i64 o1.n)), .t (.sl (o1.scopes.map rI)), .t (.sl (o1.kids.map Form.row))])]) (.t (.sc (.int .i64 r))) (objs [(9000, .box [.t (.sc (.int .i64 o1.kind)), .t (.sc (.str o1.name)), .t (.sc (.int .i64 o1.n)), .t (.sl (o1.scopes.map rI)), .t (.sl (o1.kids.map Form.row))])])
theorem m_slices_IndexFunc_Form_isIn_1_ok (fuel : Nat) : m_slices_IndexFunc_Form_isIn_1_AC fuel := by
  intro x1 o1 r hF0
  unfold m_slices_IndexFunc_Form_isIn_1 at hF0
  refine AC_intro (rs := [.t (.sc (.int .i64 r))]) Try.func144 rfl (by kernel_rfl) (by simp [Try.ntmps144]) (keep_all rfl) ?_
  intro C hC
  rw [Try.ntmps144]
  refine awp_seq ?_
  refine awp_region ?_
  refine s_as ?_
  refine k_nil ?_
  refine k_seq ?_
  refine awp_seq ?_
  refine awp_seq ?_
  refine awp_region ?_
  refine s_mv ?_
  refine s_lenT yU30 ?_
  refine s_mv ?_
  refine k_nil ?_
  refine k_seq ?_
  refine awp_block ?_
  refine awp_frame2 [4, 5, 8, 9, 10, 11, 12, 13, 14, 15, 16, 17, 18] [] [] [] (fun a : Nat × Int => a.1) (fun a : Nat × Int => [(8, .t (.sc (.int .i64 a.2)))]) (fun a : Nat × Int => []) (fun a : Nat × Int => a.1 ≤ fuel ∧ m_slices_IndexFunc_Form_isIn_1_l1 a.1 x1 o1 a.2 = some r ∧ 0 ≤ a.2) (fuel, 0) ⟨Nat.le_refl _, hF0, by simp⟩ (by rfl) (by rfl) (fun _ => rfl) (hasF_cons (by conv => lhs; whnf) (by rfl) hasF_nil) hasO_nil (fun _ h => by cases h) freshS_nil freshM_nil ?_
  clear hF0
  rintro ⟨fu, g1⟩ ⟨hl2, hF1, hn_g1⟩
  dsimp only at hl2 hF1 hn_g1 ⊢
  obtain _ | fu := fu
  · rw [m_slices_IndexFunc_Form_isIn_1_l1] at hF1; cases hF1
  rw [m_slices_IndexFunc_Form_isIn_1_l1] at hF1
  refine awp_seq ?_
  refine awp_region ?_
  refine s_lt ?_
  refine k_nil ?_
  refine k_seq ?_
  refine awp_seq ?_
  refine w_cond hF1 (fun hc3 hF2 => ?_) (fun hc3 hF2 => ?_) <;> clear hF1
  refine awp_lenT 0 (fun hb4 => ?_)
  refine awp_skip ?_
  refine k_seq ?_
  refine awp_seq ?_
  refine awp_block ?_
  refine awp_seq ?_
  refine awp_region ?_
  refine s_mv ?_
  refine s_as ?_
  refine k_nil ?_
  refine k_seq ?_
  refine awp_seq ?_
  refine awp_region ?_
  iterate 3 refine s_mv ?_
  replace hF2 := bind_some' hF2
  obtain ⟨v5, hv5, hF3⟩ := hF2
  refine s_ixT Form.row hv5 (Form.row_eq _) yE30 ?_
  refine s_ldN yA32 yS32 ?_
  replace hF3 := bind_some' hF3
  obtain ⟨v6, hv6, hF4⟩ := hF3
  refine s_call [(9000, 9000)] [] _ _ (m_impl_isIn_1_ok fu _ _ _ hv6) ?_
  refine k_nil ?_
  refine k_seq ?_
  refine w_cond hF4 (fun hc7 hF5 => ?_) (fun hc7 hF5 => ?_) <;> clear hF4
  refine awp_seq ?_
  refine awp_region ?_
  refine s_mv ?_
  refine s_as ?_
  refine k_nil ?_
  refine k_seq ?_
  refine awp_ret ?_
  refine k_blk_ret ?_
  refine k_seq_ret ?_
  refine k_rnd_ret2 ?_
  refine k_blk_ret ?_
  refine k_seq_ret ?_
  refine k_fin ?_
  obtain rfl := Option.some.inj hF5
  exact ends_gen _ [] (by rw [Try.results144]; exact (res_tmp (by conv => lhs; whnf) res_nil))
  refine awp_skip ?_
  refine k_blk ?_
  refine k_seq ?_
  refine awp_region ?_
  refine s_add (winc2 hc3 hb4 hn_g1) ?_
  refine s_mv ?_
  refine k_nil ?_
  exact s_rnd2 (fu, (g1 + 1)) [] ⟨by first | omega | (dsimp only; omega), hF5, by first | omega | (dsimp only; omega)⟩ (hasR_cons (by conv => lhs; whnf) (by rfl) rfl trivial) trivial
  refine awp_exit ?_
  refine k_seq_exit ?_
  refine k_rnd_exit2 ?_
  refine k_blk_exit ?_
  refine k_seq ?_
  refine awp_seq ?_
  refine awp_region ?_
  refine s_as ?_
  refine k_nil ?_
  refine k_seq ?_
  refine awp_ret ?_
  refine k_fin ?_
  obtain rfl := Option.some.inj hF2
  exact ends_gen _ [] (by rw [Try.results144]; exact (res_tmp (by conv => lhs; whnf) res_nil))
def m_slices_ContainsFunc_Form_isIn_1_AC (fuel : Nat) : Prop := ∀ (x1 : (List Form)) (o1 : Form) (r : Bool), m_slices_ContainsFunc_Form_isIn_1 fuel x1 o1 = some r → AC Try.prog 119 [.t (.sl (x1.map Form.row)), .fn 120 [.rf 9000 0]] (objs [(9000, .box [.t (.sc (.int .i64 o1.kind)), .t (.sc (.str o1.name)), .t (.sc (.int .i64 o1.n)), .t (.sl (o1.scopes.map rI)), .t (.sl (o1.kids.map Form.row))])]) (.t (.sc (.bool r))) (objs [(9000, .box [.t (.sc (.int .i64 o1.kind)), .t (.sc (.str o1.name)), .t (.sc (.int .i64 o1.n)), .t (.sl (o1.scopes.map rI)), .t (.sl (o1.kids.map Form.row))])])
theorem m_slices_ContainsFunc_Form_isIn_1_ok (fuel : Nat) : m_slices_ContainsFunc_Form_isIn_1_AC fuel := by
  intro x1 o1 r hF0
  unfold m_slices_ContainsFunc_Form_isIn_1 at hF0
  refine AC_intro (rs := [.t (.sc (.bool r))]) Try.func119 rfl (by kernel_rfl) (by simp [Try.ntmps119]) (keep_all rfl) ?_
  intro C hC
  rw [Try.ntmps119]
  refine awp_seq ?_
  refine awp_region ?_
  refine s_as ?_
  refine k_nil ?_
  refine k_seq ?_
  refine awp_seq ?_
  refine awp_region ?_
  refine s_mv ?_
  refine s_mv ?_
  replace hF0 := bind_some' hF0
  obtain ⟨v1, hv1, hF1⟩ := hF0
  refine s_call [(9000, 9000)] [] _ _ (m_slices_IndexFunc_Form_isIn_1_ok fuel _ _ _ hv1) ?_
  refine s_ge ?_
  refine s_as ?_
  refine k_nil ?_
  refine k_seq ?_
  refine awp_ret ?_
  refine k_fin ?_
  obtain rfl := Option.some.inj hF1
  exact ends_gen _ [] (by rw [Try.results119]; exact (res_tmp (by conv => lhs; whnf) res_nil))
def m_impl_isIn_AC (fuel : Nat) : Prop := ∀ (x1 : (List Form)) (x2 : Form) (r : Bool), m_impl_isIn fuel x1 x2 = some r → AC Try.prog 81 [.t (.sl (x1.map Form.row)), .ag [.t (.sc (.int .i64 x2.kind)), .t (.sc (.str x2.name)), .t (.sc (.int .i64 x2.n)), .t (.sl (x2.scopes.map rI)), .t (.sl (x2.kids.map Form.row))]] noOb (.t (.sc (.bool r))) noOb
theorem m_impl_isIn_ok (fuel : Nat) : m_impl_isIn_AC fuel := by
  intro x1 x2 r hF0
  unfold m_impl_isIn at hF0
  refine AC_intro (rs := [.t (.sc (.bool r))]) Try.func81 rfl (by kernel_rfl) (by simp [Try.ntmps81]) (by simp [noOb]) ?_
  intro C hC
  rw [Try.ntmps81]
  refine awp_seq ?_
  refine awp_region ?_
  refine s_box ?_
  refine s_as ?_
  refine k_nil ?_
  refine k_seq ?_
  refine awp_seq ?_
  refine awp_region ?_
  refine s_mv ?_
  refine s_fn ?_
  replace hF0 := bind_some' hF0
  obtain ⟨v1, hv1, hF1⟩ := hF0
  refine s_call [(9000, 3)] [] _ _ (m_slices_ContainsFunc_Form_isIn_1_ok fuel _ _ _ hv1) ?_
  refine s_as ?_
  refine k_nil ?_
  refine k_seq ?_
  refine awp_ret ?_
  refine k_fin ?_
  obtain rfl := Option.some.inj hF1
  exact ends_gen [] [] (by rw [Try.results81]; exact (res_tmp (by conv => lhs; whnf) res_nil))
def m_impl_literalsOk_AC (fuel : Nat) : Prop := ∀ (x1 : (List Form)) (r : Bool), m_impl_literalsOk fuel x1 = some r → AC Try.prog 78 [.t (.sl (x1.map Form.row))] noOb (.t (.sc (.bool r))) noOb
theorem m_impl_literalsOk_ok (fuel : Nat) : m_impl_literalsOk_AC fuel := by
  intro x1 r hF0
  unfold m_impl_literalsOk at hF0
  refine AC_intro (rs := [.t (.sc (.bool r))]) Try.func78 rfl (by kernel_rfl) (by simp [Try.ntmps78]) (by simp [noOb]) ?_
  intro C hC
  rw [Try.ntmps78]
  refine awp_seq ?_
  refine awp_region ?_
  refine s_as ?_
  refine k_nil ?_
  refine k_seq ?_
  refine awp_seq ?_
  refine awp_seq ?_
  refine awp_region ?_
  refine s_mv ?_
  refine s_lenT yU30 ?_
  refine s_mv ?_
  refine k_nil ?_
  refine k_seq ?_
  refine awp_block ?_
  refine awp_frame2 [2, 3, 4, 7, 8, 9, 10, 11, 12, 13, 14, 15, 16, 17, 18, 19, 20, 21, 22, 23, 24, 25, 26, 27, 28, 29, 30, 31, 32] [] [4] [] (fun a : Nat × Int => a.1) (fun a : Nat × Int => [(7, .t (.sc (.int .i64 a.2)))]) (fun a : Nat × Int => []) (fun a : Nat × Int => a.1 ≤ fuel ∧ m_impl_literalsOk_l1 a.1 x1 a.2 = some r ∧ 0 ≤ a.2) (fuel, 0) ⟨Nat.le_refl _, hF0, by simp⟩ (by rfl) (by rfl) (fun _ => rfl) (hasF_cons (by conv => lhs; whnf) (by rfl) hasF_nil) hasO_nil (fun _ h => by cases h) freshS_nil freshM_nil ?_
  clear hF0
  rintro ⟨fu, g1⟩ ⟨hl2, hF1, hn_g1⟩
  dsimp only at hl2 hF1 hn_g1 ⊢
  obtain _ | fu := fu
  · rw [m_impl_literalsOk_l1] at hF1; cases hF1
  rw [m_impl_literalsOk_l1] at hF1
  refine awp_seq ?_
  refine awp_region ?_
  refine s_lt ?_
  refine k_nil ?_
  refine k_seq ?_
  refine awp_seq ?_
  refine w_cond hF1 (fun hc3 hF2 => ?_) (fun hc3 hF2 => ?_) <;> clear hF1
  refine awp_lenT 0 (fun hb4 => ?_)
  refine awp_skip ?_
  refine k_seq ?_
  refine awp_seq ?_
  refine awp_block ?_
  refine awp_seq ?_
  refine awp_region ?_
  refine s_mv ?_
  replace hF2 := bind_some' hF2
  obtain ⟨v5, hv5, hF3⟩ := hF2
  refine s_ixT Form.row hv5 (Form.row_eq _) yE30 ?_
  refine s_ldN yA32 yS32 ?_
  refine s_alloc yZ32 ?_
  refine s_as ?_
  refine s_stW yS32 ?_
  refine k_nil ?_
  refine k_seq ?_
  refine awp_seq ?_
  refine awp_draw yMix (by kernel_rfl) ?_
  refine s_ldW yA32 yS32 ?_
  replace hF3 := bind_some' hF3
  obtain ⟨v6, hv6, hF4⟩ := hF3
  refine s_pure [] (m_impl_isName_ok fu _ _ hv6) ?_
  refine s_not ?_
  refine s_mv ?_
  refine w_guard _ 15 hF4 (fun hc7 hF5 => ?_) (fun hc7 hF5 => ?_) <;> clear hF4
  iterate 3 refine r_no rfl ?_
  refine s_pkt ?_
  refine s_mv ?_
  iterate 3 refine r_no rfl ?_
  refine s_pkt ?_
  refine s_mv ?_
  iterate 5 refine r_no rfl ?_
  refine s_pkt ?_
  refine k_nilD (by kernel_rfl) ?_
  refine k_seq ?_
  refine awp_true rfl ?_
  refine awp_seq ?_
  refine awp_region ?_
  refine s_as ?_
  refine k_nil ?_
  refine k_seq ?_
  refine awp_ret ?_
  refine k_blk_ret ?_
  refine k_seq_ret ?_
  refine k_rnd_ret2 ?_
  refine k_blk_ret ?_
  refine k_seq_ret ?_
  refine k_fin ?_
  obtain rfl := Option.some.inj hF5
  exact ends_gen [] [] (by rw [Try.results78]; exact (res_tmp (by conv => lhs; whnf) res_nil))
  refine s_fa yF32_1 ?_
  refine s_ld1 yA9 ?_
  refine s_eqS ?_
  refine s_pkf ?_
  refine s_mv ?_
  refine w_guard _ 20 hF5 (fun hc8 hF6 => ?_) (fun hc8 hF6 => ?_) <;> clear hF5
  iterate 3 refine r_no rfl ?_
  refine s_pkt ?_
  refine s_mv ?_
  iterate 5 refine r_no rfl ?_
  refine s_pkt ?_
  refine k_nilD (by kernel_rfl) ?_
  refine k_seq ?_
  refine awp_true rfl ?_
  refine awp_seq ?_
  refine awp_region ?_
  refine s_as ?_
  refine k_nil ?_
  refine k_seq ?_
  refine awp_ret ?_
  refine k_blk_ret ?_
  refine k_seq_ret ?_
  refine k_rnd_ret2 ?_
  refine k_blk_ret ?_
  refine k_seq_ret ?_
  refine k_fin ?_
  obtain rfl := Option.some.inj hF6
  exact ends_gen [] [] (by rw [Try.results78]; exact (res_tmp (by conv => lhs; whnf) res_nil))
  refine s_fa yF32_1 ?_
  refine s_ld1 yA9 ?_
  refine s_eqS ?_
  refine s_pkf ?_
  refine s_mv ?_
  refine w_guard _ 25 hF6 (fun hc9 hF7 => ?_) (fun hc9 hF7 => ?_) <;> clear hF6
  iterate 5 refine r_no rfl ?_
  refine s_pkt ?_
  refine k_nilD (by kernel_rfl) ?_
  refine k_seq ?_
  refine awp_true rfl ?_
  refine awp_seq ?_
  refine awp_region ?_
  refine s_as ?_
  refine k_nil ?_
  refine k_seq ?_
  refine awp_ret ?_
  refine k_blk_ret ?_
  refine k_seq_ret ?_
  refine k_rnd_ret2 ?_
  refine k_blk_ret ?_
  refine k_seq_ret ?_
  refine k_fin ?_
  obtain rfl := Option.some.inj hF7
  exact ends_gen [] [] (by rw [Try.results78]; exact (res_tmp (by conv => lhs; whnf) res_nil))
  refine s_mv ?_
  refine s_mv ?_
  replace hF7 := bind_some' hF7
  obtain ⟨v10, hv10, hF8⟩ := hF7
  refine s_sl01 Form.row (fun y => Form.row_len y) hv10 yU30 yE30 ?_
  refine s_ldW yA32 yS32 ?_
  replace hF8 := bind_some' hF8
  obtain ⟨v11, hv11, hF9⟩ := hF8
  refine s_pure [] (m_impl_isIn_ok fu _ _ _ hv11) ?_
  refine s_pkf ?_
  refine k_nilD (by kernel_rfl) ?_
  refine k_seq ?_
  refine w_cond hF9 (fun hc12 hF10 => ?_) (fun hc12 hF10 => ?_) <;> clear hF9
  refine awp_seq ?_
  refine awp_region ?_
  refine s_as ?_
  refine k_nil ?_
  refine k_seq ?_
  refine awp_ret ?_
  refine k_blk_ret ?_
  refine k_seq_ret ?_
  refine k_rnd_ret2 ?_
  refine k_blk_ret ?_
  refine k_seq_ret ?_
  refine k_fin ?_
  obtain rfl := Option.some.inj hF10
  exact ends_gen [] [] (by rw [Try.results78]; exact (res_tmp (by conv => lhs; whnf) res_nil))
  refine awp_skip ?_
  refine k_blk ?_
  refine k_seq ?_
  refine awp_region ?_
  refine s_add (winc2 hc3 hb4 hn_g1) ?_
  refine s_mv ?_
  refine k_nil ?_
  exact s_rnd2 (fu, (g1 + 1)) [] ⟨by first | omega | (dsimp only; omega), hF10, by first | omega | (dsimp only; omega)⟩ (hasR_cons (by conv => lhs; whnf) (by rfl) rfl trivial) trivial
  refine awp_exit ?_
  refine k_seq_exit ?_
  refine k_rnd_exit2 ?_
  refine k_blk_exit ?_
  refine k_seq ?_
  refine awp_seq ?_
  refine awp_region ?_
  refine s_mv ?_
  refine s_lenT yU30 ?_
  refine s_le ?_
  refine s_as ?_
  refine k_nil ?_
  refine k_seq ?_
  refine awp_ret ?_
  refine k_fin ?_
  obtain rfl := Option.some.inj hF2
  exact ends_gen [] [] (by rw [Try.results78]; exact (res_tmp (by conv => lhs; whnf) res_nil))
def m_impl_isVar_AC (fuel : Nat) : Prop := ∀ (x1 : Form) (x2 : (List Form)) (r : Bool), m_impl_isVar fuel x1 x2 = some r → AC Try.prog 139 [.ag [.t (.sc (.int .i64 x1.kind)), .t (.sc (.str x1.name)), .t (.sc (.int .i64 x1.n)), .t (.sl (x1.scopes.map rI)), .t (.sl (x1.kids.map Form.row))], .t (.sl (x2.map Form.row))] noOb (.t (.sc (.bool r))) noOb
theorem m_impl_isVar_ok (fuel : Nat) : m_impl_isVar_AC fuel := by
  intro x1 x2 r hF0
  unfold m_impl_isVar at hF0
  refine AC_intro (rs := [.t (.sc (.bool r))]) Try.func139 rfl (by kernel_rfl) (by simp [Try.ntmps139]) (by simp [noOb]) ?_
  intro C hC
  rw [Try.ntmps139]
  refine awp_seq ?_
  refine awp_region ?_
  refine s_box ?_
  refine s_as ?_
  refine k_nil ?_
  refine k_seq ?_
  refine awp_seq ?_
  refine awp_region ?_
  refine s_fa yF32_0 ?_
  refine s_ld1 yA3 ?_
  refine s_eq ?_
  refine s_mv ?_
  refine w_guard _ 8 hF0 (fun hc1 hF1 => ?_) (fun hc1 hF1 => ?_) <;> clear hF0
  refine s_fa yF32_1 ?_
  refine s_ld1 yA9 ?_
  refine s_neS ?_
  refine s_pkt ?_
  refine s_mv ?_
  refine w_guard _ 13 hF1 (fun hc2 hF2 => ?_) (fun hc2 hF2 => ?_) <;> clear hF1
  refine s_fa yF32_1 ?_
  refine s_ld1 yA9 ?_
  refine s_neS ?_
  refine s_pkt ?_
  refine s_mv ?_
  refine w_guard _ 18 hF2 (fun hc3 hF3 => ?_) (fun hc3 hF3 => ?_) <;> clear hF2
  refine s_mv ?_
  refine s_ldW yA32 yS32 ?_
  replace hF3 := bind_some' hF3
  obtain ⟨v4, hv4, hF4⟩ := hF3
  refine s_pure [] (m_impl_isIn_ok fuel _ _ _ hv4) ?_
  refine s_not ?_
  refine s_pkt ?_
  refine s_as ?_
  refine k_nil ?_
  refine k_seq ?_
  refine awp_ret ?_
  refine k_fin ?_
  obtain rfl := Option.some.inj hF4
  exact ends_gen [] [] (by rw [Try.results139]; exact (res_tmp (by conv => lhs; whnf) res_nil))
  iterate 4 refine r_no rfl ?_
  refine s_pkf ?_
  refine s_as ?_
  refine k_nil ?_
  refine k_seq ?_
  refine awp_ret ?_
  refine k_fin ?_
  obtain rfl := Option.some.inj hF3
  exact ends_gen [] [] (by rw [Try.results139]; exact (res_tmp (by conv => lhs; whnf) res_nil))
  iterate 3 refine r_no rfl ?_
  refine s_pkf ?_
  refine s_mv ?_
  iterate 4 refine r_no rfl ?_
  refine s_pkf ?_
  refine s_as ?_
  refine k_nil ?_
  refine k_seq ?_
  refine awp_ret ?_
  refine k_fin ?_
  obtain rfl := Option.some.inj hF2
  exact ends_gen [] [] (by rw [Try.results139]; exact (res_tmp (by conv => lhs; whnf) res_nil))
  iterate 3 refine r_no rfl ?_
  refine s_pkf ?_
  refine s_mv ?_
  iterate 3 refine r_no rfl ?_
  refine s_pkf ?_
  refine s_mv ?_
  iterate 4 refine r_no rfl ?_
  refine s_pkf ?_
  refine s_as ?_
  refine k_nil ?_
  refine k_seq ?_
  refine awp_ret ?_
  refine k_fin ?_
  obtain rfl := Option.some.inj hF1
  exact ends_gen [] [] (by rw [Try.results139]; exact (res_tmp (by conv => lhs; whnf) res_nil))
def m_impl_patternVars_AC (fuel : Nat) : Prop := ∀ (x1 : Form) (x2 : (List Form)) (x3 : Int) (o1 : (List Form)) (o2 : (List Int)) (r : ((List Form) × (List Int))), m_impl_patternVars fuel x1 x2 x3 o1 o2 = some r → AC Try.prog 106 [.ag [.t (.sc (.int .i64 x1.kind)), .t (.sc (.str x1.name)), .t (.sc (.int .i64 x1.n)), .t (.sl (x1.scopes.map rI)), .t (.sl (x1.kids.map Form.row))], .t (.sl (x2.map Form.row)), .t (.sc (.int .i64 x3)), .rf 9000 0, .rf 9001 0] (objs [(9000, .box [.ar 9420]), (9420, .arr (o1.map Form.row) 32 true), (9001, .box [.ar 9440]), (9440, .arr (o2.map rI) 3 true)]) (.tp []) (objs [(9000, .box [.ar 10420]), (9420, .dead), (9001, .box [.ar 10440]), (9440, .dead), (10420, .arr (r.1.map Form.row) 32 true), (10440, .arr (r.2.map rI) 3 true)])
theorem m_impl_patternVars_st (fu : Nat) (ih_m_impl_patternVars : ∀ k, k ≤ fu → m_impl_patternVars_AC k) : m_impl_patternVars_AC (fu + 1) := by
  intro x1 x2 x3 o1 o2 r hF0
  rw [m_impl_patternVars] at hF0
  refine AC_intro (rs := []) Try.func106 rfl (by kernel_rfl) (by simp [Try.ntmps106]) (keep_all rfl) ?_
  intro C hC
  rw [Try.ntmps106]
  refine awp_seq ?_
  refine awp_region ?_
  refine s_box ?_
  refine k_nil ?_
  refine k_seq ?_
  refine awp_seq ?_
  refine awp_seq ?_
  refine awp_region ?_
  refine s_ldW yA32 yS32 ?_
  refine s_mv ?_
  replace hF0 := bind_some' hF0
  obtain ⟨v1, hv1, hF1⟩ := hF0
  refine s_pure [] (m_impl_isVar_ok fu _ _ _ hv1) ?_
  refine k_nil ?_
  refine k_seq ?_
  refine w_cond hF1 (fun hc2 hF2 => ?_) (fun hc2 hF2 => ?_) <;> clear hF1
  refine awp_seq ?_
  refine awp_draw yMix (by kernel_rfl) ?_
  refine s_mv ?_
  refine s_nc ?_
  refine s_ld1 yA30 ?_
  refine s_ldW yA32 yS32 ?_
  refine s_lenA yU30 ?_
  refine s_bs Form.row [(Form.mk 0 (⟨#[]⟩ : ByteArray) 0 ([] : List Int) ([] : List Form))] yP30 yR32 ?_
  obtain ⟨hk3, hF3⟩ := chk_some hF2
  refine s_apT Form.row (fun y => Form.row_len y) hk3 yP30 ?_
  replace hF3 := bind_some' hF3
  obtain ⟨v4, hv4, hF4⟩ := hF3
  refine s_ixA Form.row hv4 yE30 ?_
  refine s_stA Form.row x1 hv4 (Form.row_eq _) (Form.row_eq _) yS32 yS32 ?_
  refine s_nc ?_
  refine s_stW yS30 ?_
  refine k_nilD (by kernel_rfl) ?_
  refine k_seq ?_
  refine awp_region ?_
  refine s_mv ?_
  refine s_mv ?_
  refine s_nc ?_
  refine s_ld1 yA22 ?_
  refine s_mv ?_
  refine s_bs rI [x3] yP22 yR3 ?_
  obtain ⟨hk5, hF5⟩ := chk_some hF4
  refine s_apT rI (fun _ => rfl) hk5 yP22 ?_
  refine s_nc ?_
  refine s_stW yS22 ?_
  refine k_nil ?_
  refine k_seq ?_
  refine awp_seq ?_
  refine awp_region ?_
  refine s_fa yF32_4 ?_
  refine s_ld1 yA30 ?_
  refine s_lenT yU30 ?_
  refine s_mv ?_
  refine k_nil ?_
  refine k_seq ?_
  refine awp_block ?_
  refine awp_mvB 9000 22 5020 [.ar 5020] ?_
  refine awp_mvB 9001 31 5021 [.ar 5021] ?_
  refine awp_frame2 [10, 11, 12, 36, 37, 38, 39, 40, 41, 42, 43, 44, 45, 46, 47, 48, 49, 50, 51, 52, 53, 54, 55, 56, 57, 58, 59, 60, 61, 62, 63, 64, 65] [5020, 5021, 9000, 9001] [11, 42064, 52064] [5020, 5021] (fun a : Nat × Int × (List Form) × (List Int) => a.1) (fun a : Nat × Int × (List Form) × (List Int) => [(36, .t (.sc (.int .i64 a.2.1)))]) (fun a : Nat × Int × (List Form) × (List Int) => [(5020, .arr (a.2.2.1.map Form.row) 32 true), (5021, .arr (a.2.2.2.map rI) 3 true), (9000, .box [.ar 5020]), (9001, .box [.ar 5021])]) (fun a : Nat × Int × (List Form) × (List Int) => a.1 ≤ fu ∧ m_impl_patternVars_l1 a.1 x1 x2 x3 a.2.1 a.2.2.1 a.2.2.2 = some r ∧ 0 ≤ a.2.1) (fu, 0, ((o1 ++ [(Form.mk 0 (⟨#[]⟩ : ByteArray) 0 ([] : List Int) ([] : List Form))]).set (o1.length : Int).toNat x1), (o2 ++ [x3])) ⟨Nat.le_refl _, hF5, by simp⟩ (by rfl) (by rfl) (fun _ => rfl) (hasF_cons (by conv => lhs; whnf) (by rfl) hasF_nil) (hasO_cons (by conv => lhs; whnf) (by rfl) (hasO_cons (by conv => lhs; whnf) (by rfl) (hasO_cons (by conv => lhs; whnf) (by rfl) (hasO_cons (by conv => lhs; whnf) (by rfl) hasO_nil)))) (fresh_C hC rfl) (by repeat (first | exact freshS_args rfl | refine freshS_upd rfl ?_ | refine freshS_frame rfl ?_)) (by repeat (first | exact freshM_no | exact objs_fresh rfl | refine freshM_upd rfl ?_ | refine freshM_frame rfl ?_)) ?_
  clear hF5
  rintro ⟨fu, g6, g7, g8⟩ ⟨hl9, hF6, hn_g6⟩
  dsimp only at hl9 hF6 hn_g6 ⊢
  obtain _ | fu := fu
  · rw [m_impl_patternVars_l1] at hF6; cases hF6
  rw [m_impl_patternVars_l1] at hF6
  refine awp_seq ?_
  refine awp_region ?_
  refine s_lt ?_
  refine k_nil ?_
  refine k_seq ?_
  refine awp_seq ?_
  refine w_cond hF6 (fun hc10 hF7 => ?_) (fun hc10 hF7 => ?_) <;> clear hF6
  refine awp_lenT 34 (fun hb11 => ?_)
  refine awp_skip ?_
  refine k_seq ?_
  refine awp_seq ?_
  refine awp_block ?_
  refine awp_seq ?_
  refine awp_region ?_
  refine s_mv ?_
  replace hF7 := bind_some' hF7
  obtain ⟨v12, hv12, hF8⟩ := hF7
  refine s_ixT Form.row hv12 (Form.row_eq _) yE30 ?_
  refine s_ldN yA32 yS32 ?_
  refine s_alloc yZ32 ?_
  refine s_as ?_
  refine s_stW yS32 ?_
  refine k_nil ?_
  refine k_seq ?_
  refine awp_seq ?_
  refine awp_region ?_
  refine s_mv ?_
  refine s_as ?_
  refine k_nil ?_
  refine k_seq ?_
  refine awp_seq ?_
  refine awp_seq ?_
  refine awp_region ?_
  refine s_mv ?_
  refine s_add (winc2 hc10 hb11 hn_g6) ?_
  refine s_fa yF32_4 ?_
  refine s_ld1 yA30 ?_
  refine s_lenT yU30 ?_
  refine s_lt ?_
  refine s_mv ?_
  refine w_guard _ 48 hF8 (fun hc13 hF9 => ?_) (fun hc13 hF9 => ?_) <;> clear hF8
  refine s_fa yF32_4 ?_
  refine s_ld1 yA30 ?_
  refine s_mv ?_
  refine s_add (winc2 hc10 hb11 hn_g6) ?_
  replace hF9 := bind_some' hF9
  obtain ⟨v14, hv14, hF10⟩ := hF9
  refine s_ixT Form.row hv14 (Form.row_eq _) yE30 ?_
  refine s_ldN yA32 yS32 ?_
  replace hF10 := bind_some' hF10
  obtain ⟨v15, hv15, hF11⟩ := hF10
  refine s_pure [] (m_impl_named_ok fu _ _ _ hv15) ?_
  refine s_pkt ?_
  refine k_nil ?_
  refine k_seq ?_
  refine w_cond hF11 (fun hc16 hF12 => ?_) (fun hc16 hF12 => ?_) <;> clear hF11
  refine awp_region ?_
  refine s_mv ?_
  refine s_add rfl ?_
  refine s_as ?_
  refine k_nil ?_
  refine k_seq ?_
  refine awp_region ?_
  refine s_ldW yA32 yS32 ?_
  iterate 4 refine s_mv ?_
  replace hF12 := bind_some' hF12
  obtain ⟨v17, hv17, hF13⟩ := hF12
  refine s_call [(9000, 9000), (9001, 9001), (9420, 5020), (9440, 5021), (10420, 42064), (10440, 52064)] [] _ _ (ih_m_impl_patternVars fu (by omega) _ _ _ _ _ _ hv17) ?_
  refine k_nil ?_
  refine k_blk ?_
  refine k_seq ?_
  refine awp_region ?_
  refine s_add (winc2 hc10 hb11 hn_g6) ?_
  refine s_mv ?_
  refine k_nil ?_
  exact s_rnd2 (fu, (g6 + 1), v17.1, v17.2) [(5020, 42064), (5021, 52064)] ⟨by first | omega | (dsimp only; omega), hF13, by first | omega | (dsimp only; omega)⟩ (hasR_cons (by conv => lhs; whnf) (by rfl) rfl trivial) (hasQ_cons (by conv => lhs; whnf) (by rfl) rfl (hasQ_cons (by conv => lhs; whnf) (by rfl) rfl (hasQ_cons (by conv => lhs; whnf) (by rfl) rfl (hasQ_cons (by conv => lhs; whnf) (by rfl) rfl trivial))))
  refine awp_skip ?_
  refine k_seq ?_
  refine awp_region ?_
  refine s_ldW yA32 yS32 ?_
  iterate 4 refine s_mv ?_
  replace hF12 := bind_some' hF12
  obtain ⟨v18, hv18, hF13⟩ := hF12
  refine s_call [(9000, 9000), (9001, 9001), (9420, 5020), (9440, 5021), (10420, 42064), (10440, 52064)] [] _ _ (ih_m_impl_patternVars fu (by omega) _ _ _ _ _ _ hv18) ?_
  refine k_nil ?_
  refine k_blk ?_
  refine k_seq ?_
  refine awp_region ?_
  refine s_add (winc2 hc10 hb11 hn_g6) ?_
  refine s_mv ?_
  refine k_nil ?_
  exact s_rnd2 (fu, (g6 + 1), v18.1, v18.2) [(5020, 42064), (5021, 52064)] ⟨by first | omega | (dsimp only; omega), hF13, by first | omega | (dsimp only; omega)⟩ (hasR_cons (by conv => lhs; whnf) (by rfl) rfl trivial) (hasQ_cons (by conv => lhs; whnf) (by rfl) rfl (hasQ_cons (by conv => lhs; whnf) (by rfl) rfl (hasQ_cons (by conv => lhs; whnf) (by rfl) rfl (hasQ_cons (by conv => lhs; whnf) (by rfl) rfl trivial))))
  iterate 7 refine r_no rfl ?_
  refine s_pkf ?_
  refine k_nil ?_
  refine k_seq ?_
  refine awp_false rfl ?_
  refine awp_skip ?_
  refine k_seq ?_
  refine awp_region ?_
  refine s_ldW yA32 yS32 ?_
  iterate 4 refine s_mv ?_
  replace hF9 := bind_some' hF9
  obtain ⟨v19, hv19, hF10⟩ := hF9
  refine s_call [(9000, 9000), (9001, 9001), (9420, 5020), (9440, 5021), (10420, 42064), (10440, 52064)] [] _ _ (ih_m_impl_patternVars fu (by omega) _ _ _ _ _ _ hv19) ?_
  refine k_nil ?_
  refine k_blk ?_
  refine k_seq ?_
  refine awp_region ?_
  refine s_add (winc2 hc10 hb11 hn_g6) ?_
  refine s_mv ?_
  refine k_nil ?_
  exact s_rnd2 (fu, (g6 + 1), v19.1, v19.2) [(5020, 42064), (5021, 52064)] ⟨by first | omega | (dsimp only; omega), hF10, by first | omega | (dsimp only; omega)⟩ (hasR_cons (by conv => lhs; whnf) (by rfl) rfl trivial) (hasQ_cons (by conv => lhs; whnf) (by rfl) rfl (hasQ_cons (by conv => lhs; whnf) (by rfl) rfl (hasQ_cons (by conv => lhs; whnf) (by rfl) rfl (hasQ_cons (by conv => lhs; whnf) (by rfl) rfl trivial))))
  refine awp_mvB 9000 5020 10420 [.ar 10420] ?_
  refine awp_mvB 9001 5021 10440 [.ar 10440] ?_
  refine awp_exit ?_
  refine k_seq_exit ?_
  refine k_rnd_exit2 ?_
  refine k_blk_exit ?_
  refine k_fin_end ?_
  obtain rfl := Option.some.inj hF7
  exact ends_gen _ [] (by rw [Try.results106]; exact res_nil)
  refine awp_skip ?_
  refine k_seq ?_
  refine awp_seq ?_
  refine awp_region ?_
  refine s_fa yF32_4 ?_
  refine s_ld1 yA30 ?_
  refine s_lenT yU30 ?_
  refine s_mv ?_
  refine k_nil ?_
  refine k_seq ?_
  refine awp_block ?_
  refine awp_mvB 9000 9420 5040 [.ar 5040] ?_
  refine awp_mvB 9001 9440 5041 [.ar 5041] ?_
  refine awp_frame2 [10, 11, 12, 36, 37, 38, 39, 40, 41, 42, 43, 44, 45, 46, 47, 48, 49, 50, 51, 52, 53, 54, 55, 56, 57, 58, 59, 60, 61, 62, 63, 64, 65] [5040, 5041, 9000, 9001] [11, 42064, 52064] [5040, 5041] (fun a : Nat × Int × (List Form) × (List Int) => a.1) (fun a : Nat × Int × (List Form) × (List Int) => [(36, .t (.sc (.int .i64 a.2.1)))]) (fun a : Nat × Int × (List Form) × (List Int) => [(5040, .arr (a.2.2.1.map Form.row) 32 true), (5041, .arr (a.2.2.2.map rI) 3 true), (9000, .box [.ar 5040]), (9001, .box [.ar 5041])]) (fun a : Nat × Int × (List Form) × (List Int) => a.1 ≤ fu ∧ m_impl_patternVars_l1 a.1 x1 x2 x3 a.2.1 a.2.2.1 a.2.2.2 = some r ∧ 0 ≤ a.2.1) (fu, 0, o1, o2) ⟨Nat.le_refl _, hF2, by simp⟩ (by rfl) (by rfl) (fun _ => rfl) (hasF_cons (by conv => lhs; whnf) (by rfl) hasF_nil) (hasO_cons (by conv => lhs; whnf) (by rfl) (hasO_cons (by conv => lhs; whnf) (by rfl) (hasO_cons (by conv => lhs; whnf) (by rfl) (hasO_cons (by conv => lhs; whnf) (by rfl) hasO_nil)))) (fresh_C hC rfl) (by repeat (first | exact freshS_args rfl | refine freshS_upd rfl ?_ | refine freshS_frame rfl ?_)) (by repeat (first | exact freshM_no | exact objs_fresh rfl | refine freshM_upd rfl ?_ | refine freshM_frame rfl ?_)) ?_
  clear hF2
  rintro ⟨fu, g20, g21, g22⟩ ⟨hl23, hF3, hn_g20⟩
  dsimp only at hl23 hF3 hn_g20 ⊢
  obtain _ | fu := fu
  · rw [m_impl_patternVars_l1] at hF3; cases hF3
  rw [m_impl_patternVars_l1] at hF3
  refine awp_seq ?_
  refine awp_region ?_
  refine s_lt ?_
  refine k_nil ?_
  refine k_seq ?_
  refine awp_seq ?_
  refine w_cond hF3 (fun hc24 hF4 => ?_) (fun hc24 hF4 => ?_) <;> clear hF3
  refine awp_lenT 34 (fun hb25 => ?_)
  refine awp_skip ?_
  refine k_seq ?_
  refine awp_seq ?_
  refine awp_block ?_
  refine awp_seq ?_
  refine awp_region ?_
  refine s_mv ?_
  replace hF4 := bind_some' hF4
  obtain ⟨v26, hv26, hF5⟩ := hF4
  refine s_ixT Form.row hv26 (Form.row_eq _) yE30 ?_
  refine s_ldN yA32 yS32 ?_
  refine s_alloc yZ32 ?_
  refine s_as ?_
  refine s_stW yS32 ?_
  refine k_nil ?_
  refine k_seq ?_
  refine awp_seq ?_
  refine awp_region ?_
  refine s_mv ?_
  refine s_as ?_
  refine k_nil ?_
  refine k_seq ?_
  refine awp_seq ?_
  refine awp_seq ?_
  refine awp_region ?_
  refine s_mv ?_
  refine s_add (winc2 hc24 hb25 hn_g20) ?_
  refine s_fa yF32_4 ?_
  refine s_ld1 yA30 ?_
  refine s_lenT yU30 ?_
  refine s_lt ?_
  refine s_mv ?_
  refine w_guard _ 48 hF5 (fun hc27 hF6 => ?_) (fun hc27 hF6 => ?_) <;> clear hF5
  refine s_fa yF32_4 ?_
  refine s_ld1 yA30 ?_
  refine s_mv ?_
  refine s_add (winc2 hc24 hb25 hn_g20) ?_
  replace hF6 := bind_some' hF6
  obtain ⟨v28, hv28, hF7⟩ := hF6
  refine s_ixT Form.row hv28 (Form.row_eq _) yE30 ?_
  refine s_ldN yA32 yS32 ?_
  replace hF7 := bind_some' hF7
  obtain ⟨v29, hv29, hF8⟩ := hF7
  refine s_pure [] (m_impl_named_ok fu _ _ _ hv29) ?_
  refine s_pkt ?_
  refine k_nil ?_
  refine k_seq ?_
  refine w_cond hF8 (fun hc30 hF9 => ?_) (fun hc30 hF9 => ?_) <;> clear hF8
  refine awp_region ?_
  refine s_mv ?_
  refine s_add rfl ?_
  refine s_as ?_
  refine k_nil ?_
  refine k_seq ?_
  refine awp_region ?_
  refine s_ldW yA32 yS32 ?_
  iterate 4 refine s_mv ?_
  replace hF9 := bind_some' hF9
  obtain ⟨v31, hv31, hF10⟩ := hF9
  refine s_call [(9000, 9000), (9001, 9001), (9420, 5040), (9440, 5041), (10420, 42064), (10440, 52064)] [] _ _ (ih_m_impl_patternVars fu (by omega) _ _ _ _ _ _ hv31) ?_
  refine k_nil ?_
  refine k_blk ?_
  refine k_seq ?_
  refine awp_region ?_
  refine s_add (winc2 hc24 hb25 hn_g20) ?_
  refine s_mv ?_
  refine k_nil ?_
  exact s_rnd2 (fu, (g20 + 1), v31.1, v31.2) [(5040, 42064), (5041, 52064)] ⟨by first | omega | (dsimp only; omega), hF10, by first | omega | (dsimp only; omega)⟩ (hasR_cons (by conv => lhs; whnf) (by rfl) rfl trivial) (hasQ_cons (by conv => lhs; whnf) (by rfl) rfl (hasQ_cons (by conv => lhs; whnf) (by rfl) rfl (hasQ_cons (by conv => lhs; whnf) (by rfl) rfl (hasQ_cons (by conv => lhs; whnf) (by rfl) rfl trivial))))
  refine awp_skip ?_
  refine k_seq ?_
  refine awp_region ?_
  refine s_ldW yA32 yS32 ?_
  iterate 4 refine s_mv ?_
  replace hF9 := bind_some' hF9
  obtain ⟨v32, hv32, hF10⟩ := hF9
  refine s_call [(9000, 9000), (9001, 9001), (9420, 5040), (9440, 5041), (10420, 42064), (10440, 52064)] [] _ _ (ih_m_impl_patternVars fu (by omega) _ _ _ _ _ _ hv32) ?_
  refine k_nil ?_
  refine k_blk ?_
  refine k_seq ?_
  refine awp_region ?_
  refine s_add (winc2 hc24 hb25 hn_g20) ?_
  refine s_mv ?_
  refine k_nil ?_
  exact s_rnd2 (fu, (g20 + 1), v32.1, v32.2) [(5040, 42064), (5041, 52064)] ⟨by first | omega | (dsimp only; omega), hF10, by first | omega | (dsimp only; omega)⟩ (hasR_cons (by conv => lhs; whnf) (by rfl) rfl trivial) (hasQ_cons (by conv => lhs; whnf) (by rfl) rfl (hasQ_cons (by conv => lhs; whnf) (by rfl) rfl (hasQ_cons (by conv => lhs; whnf) (by rfl) rfl (hasQ_cons (by conv => lhs; whnf) (by rfl) rfl trivial))))
  iterate 7 refine r_no rfl ?_
  refine s_pkf ?_
  refine k_nil ?_
  refine k_seq ?_
  refine awp_false rfl ?_
  refine awp_skip ?_
  refine k_seq ?_
  refine awp_region ?_
  refine s_ldW yA32 yS32 ?_
  iterate 4 refine s_mv ?_
  replace hF6 := bind_some' hF6
  obtain ⟨v33, hv33, hF7⟩ := hF6
  refine s_call [(9000, 9000), (9001, 9001), (9420, 5040), (9440, 5041), (10420, 42064), (10440, 52064)] [] _ _ (ih_m_impl_patternVars fu (by omega) _ _ _ _ _ _ hv33) ?_
  refine k_nil ?_
  refine k_blk ?_
  refine k_seq ?_
  refine awp_region ?_
  refine s_add (winc2 hc24 hb25 hn_g20) ?_
  refine s_mv ?_
  refine k_nil ?_
  exact s_rnd2 (fu, (g20 + 1), v33.1, v33.2) [(5040, 42064), (5041, 52064)] ⟨by first | omega | (dsimp only; omega), hF7, by first | omega | (dsimp only; omega)⟩ (hasR_cons (by conv => lhs; whnf) (by rfl) rfl trivial) (hasQ_cons (by conv => lhs; whnf) (by rfl) rfl (hasQ_cons (by conv => lhs; whnf) (by rfl) rfl (hasQ_cons (by conv => lhs; whnf) (by rfl) rfl (hasQ_cons (by conv => lhs; whnf) (by rfl) rfl trivial))))
  refine awp_mvB 9000 5040 10420 [.ar 10420] ?_
  refine awp_mvB 9001 5041 10440 [.ar 10440] ?_
  refine awp_exit ?_
  refine k_seq_exit ?_
  refine k_rnd_exit2 ?_
  refine k_blk_exit ?_
  refine k_fin_end ?_
  obtain rfl := Option.some.inj hF4
  exact ends_gen _ [] (by rw [Try.results106]; exact res_nil)
theorem m_impl_patternVars_all (fuel : Nat) : m_impl_patternVars_AC fuel := by
  induction fuel using Nat.strongRecOn with
  | _ N ih =>
    cases N with
    | zero => exact (by intro x1 x2 x3 o1 o2 r h; rw [m_impl_patternVars] at h; cases h)
    | succ fu => exact m_impl_patternVars_st fu (fun k hk => (ih k (by omega)))
theorem m_impl_patternVars_ok (fuel : Nat) : m_impl_patternVars_AC fuel := (m_impl_patternVars_all fuel)
def m_impl_varsOf_AC (fuel : Nat) : Prop := ∀ (x1 : Form) (x2 : (List Form)) (r : ((List Form) × (List Int))), m_impl_varsOf fuel x1 x2 = some r → AC Try.prog 64 [.ag [.t (.sc (.int .i64 x1.kind)), .t (.sc (.str x1.name)), .t (.sc (.int .i64 x1.n)), .t (.sl (x1.scopes.map rI)), .t (.sl (x1.kids.map Form.row))], .t (.sl (x2.map Form.row))] (objs []) (.tp [.ar 9200, .t (.sl (r.2.map rI))]) (objs [(9200, .arr (r.1.map Form.row) 32 true)])
theorem m_impl_varsOf_ok (fuel : Nat) : m_impl_varsOf_AC fuel := by
  intro x1 x2 r hF0
  unfold m_impl_varsOf at hF0
  refine AC_intro (rs := [.ar 9200, .t (.sl (r.2.map rI))]) Try.func64 rfl (by kernel_rfl) (by simp [Try.ntmps64]) (keep_all rfl) ?_
  intro C hC
  rw [Try.ntmps64]
  refine awp_seq ?_
  refine awp_region ?_
  refine s_box ?_
  refine s_as ?_
  refine s_as ?_
  refine k_nil ?_
  refine k_seq ?_
  refine awp_seq ?_
  refine awp_region ?_
  refine s_bs Form.row ([] : List Form) yP30 yR32 ?_
  refine s_bs rI ([] : List Int) yP22 yR3 ?_
  refine s_alloc yZ30 ?_
  refine s_alloc yZ22 ?_
  refine s_stW yS30 ?_
  refine s_stW yS22 ?_
  refine k_nil ?_
  refine k_seq ?_
  refine awp_seq ?_
  refine awp_region ?_
  refine s_ldW yA32 yS32 ?_
  refine s_mv ?_
  replace hF0 := bind_some' hF0
  obtain ⟨v1, hv1, hF1⟩ := hF0
  refine s_call [(9000, 6), (9001, 7), (9420, 8), (9440, 9), (10420, 42012), (10440, 52012)] [] _ _ (m_impl_patternVars_ok fuel _ _ _ _ _ _ hv1) ?_
  refine k_nil ?_
  refine k_seq ?_
  refine awp_seq ?_
  refine awp_draw yMix (by kernel_rfl) ?_
  refine s_ld1 yA30 ?_
  refine s_ld1 yA22 ?_
  refine s_as ?_
  refine s_as ?_
  refine k_nilD (by kernel_rfl) ?_
  refine k_seq ?_
  refine awp_mv 4 42012 9200 (by conv => lhs; whnf) (by conv => lhs; whnf) rfl ?_
  refine awp_ret ?_
  refine k_fin ?_
  obtain rfl := Option.some.inj hF1
  exact ends_gen _ [52012] (by rw [Try.results64]; exact (res_tmp (by conv => lhs; whnf) (res_tmp (by conv => lhs; whnf) res_nil)))
def m_impl_PatternValid_AC (fuel : Nat) : Prop := ∀ (x1 : Form) (x2 : (List Form)) (r : Bool), m_impl_PatternValid fuel x1 x2 = some r → AC Try.prog 35 [.ag [.t (.sc (.int .i64 x1.kind)), .t (.sc (.str x1.name)), .t (.sc (.int .i64 x1.n)), .t (.sl (x1.scopes.map rI)), .t (.sl (x1.kids.map Form.row))], .t (.sl (x2.map Form.row))] noOb (.t (.sc (.bool r))) noOb
theorem m_impl_PatternValid_ok (fuel : Nat) : m_impl_PatternValid_AC fuel := by
  intro x1 x2 r hF0
  unfold m_impl_PatternValid at hF0
  refine AC_intro (rs := [.t (.sc (.bool r))]) Try.func35 rfl (by kernel_rfl) (by simp [Try.ntmps35]) (by simp [noOb]) ?_
  intro C hC
  rw [Try.ntmps35]
  refine awp_seq ?_
  refine awp_region ?_
  refine s_box ?_
  refine s_as ?_
  refine k_nil ?_
  refine k_seq ?_
  refine awp_seq ?_
  refine awp_seq ?_
  refine awp_region ?_
  refine s_ldW yA32 yS32 ?_
  replace hF0 := bind_some' hF0
  obtain ⟨v1, hv1, hF1⟩ := hF0
  refine s_pure [] (m_impl_FormValid_ok fuel _ _ hv1) ?_
  refine s_not ?_
  refine s_mv ?_
  refine w_guard _ 12 hF1 (fun hc2 hF2 => ?_) (fun hc2 hF2 => ?_) <;> clear hF1
  iterate 3 refine r_no rfl ?_
  refine s_pkt ?_
  refine s_mv ?_
  refine r_no rfl ?_
  refine r_no rfl ?_
  refine s_pkt ?_
  refine s_mv ?_
  iterate 3 refine r_no rfl ?_
  refine s_pkt ?_
  refine k_nil ?_
  refine k_seq ?_
  refine awp_true rfl ?_
  refine awp_seq ?_
  refine awp_region ?_
  refine s_as ?_
  refine k_nil ?_
  refine k_seq ?_
  refine awp_ret ?_
  refine k_seq_ret ?_
  refine k_fin ?_
  obtain rfl := Option.some.inj hF2
  exact ends_gen [] [] (by rw [Try.results35]; exact (res_tmp (by conv => lhs; whnf) res_nil))
  refine s_mv ?_
  replace hF2 := bind_some' hF2
  obtain ⟨v3, hv3, hF3⟩ := hF2
  refine s_pure [] (m_impl_literalsOk_ok fuel _ _ hv3) ?_
  refine s_not ?_
  refine s_pkf ?_
  refine s_mv ?_
  refine w_guard _ 17 hF3 (fun hc4 hF4 => ?_) (fun hc4 hF4 => ?_) <;> clear hF3
  refine r_no rfl ?_
  refine r_no rfl ?_
  refine s_pkt ?_
  refine s_mv ?_
  iterate 3 refine r_no rfl ?_
  refine s_pkt ?_
  refine k_nil ?_
  refine k_seq ?_
  refine awp_true rfl ?_
  refine awp_seq ?_
  refine awp_region ?_
  refine s_as ?_
  refine k_nil ?_
  refine k_seq ?_
  refine awp_ret ?_
  refine k_seq_ret ?_
  refine k_fin ?_
  obtain rfl := Option.some.inj hF4
  exact ends_gen [] [] (by rw [Try.results35]; exact (res_tmp (by conv => lhs; whnf) res_nil))
  refine s_ldW yA32 yS32 ?_
  replace hF4 := bind_some' hF4
  obtain ⟨v5, hv5, hF5⟩ := hF4
  refine s_pure [] (m_impl_named_ok fuel _ _ _ hv5) ?_
  refine s_pkf ?_
  refine s_mv ?_
  refine w_guard _ 21 hF5 (fun hc6 hF6 => ?_) (fun hc6 hF6 => ?_) <;> clear hF5
  iterate 3 refine r_no rfl ?_
  refine s_pkt ?_
  refine k_nil ?_
  refine k_seq ?_
  refine awp_true rfl ?_
  refine awp_seq ?_
  refine awp_region ?_
  refine s_as ?_
  refine k_nil ?_
  refine k_seq ?_
  refine awp_ret ?_
  refine k_seq_ret ?_
  refine k_fin ?_
  obtain rfl := Option.some.inj hF6
  exact ends_gen [] [] (by rw [Try.results35]; exact (res_tmp (by conv => lhs; whnf) res_nil))
  refine s_ldW yA32 yS32 ?_
  replace hF6 := bind_some' hF6
  obtain ⟨v7, hv7, hF7⟩ := hF6
  refine s_pure [] (m_impl_dotsOk_ok fuel _ _ _ hv7) ?_
  refine s_not ?_
  refine s_pkf ?_
  refine k_nil ?_
  refine k_seq ?_
  refine w_cond hF7 (fun hc8 hF8 => ?_) (fun hc8 hF8 => ?_) <;> clear hF7
  refine awp_seq ?_
  refine awp_region ?_
  refine s_as ?_
  refine k_nil ?_
  refine k_seq ?_
  refine awp_ret ?_
  refine k_seq_ret ?_
  refine k_fin ?_
  obtain rfl := Option.some.inj hF8
  exact ends_gen [] [] (by rw [Try.results35]; exact (res_tmp (by conv => lhs; whnf) res_nil))
  refine awp_skip ?_
  refine k_seq ?_
  refine awp_seq ?_
  refine awp_region ?_
  refine s_ldW yA32 yS32 ?_
  refine s_mv ?_
  replace hF8 := bind_some' hF8
  obtain ⟨v9, hv9, hF9⟩ := hF8
  refine s_call [(9200, 2029)] [] _ _ (m_impl_varsOf_ok fuel _ _ _ hv9) ?_
  refine s_mv ?_
  refine s_ext ?_
  refine s_ext ?_
  refine s_as ?_
  refine s_as ?_
  refine k_nil ?_
  refine k_seq ?_
  refine awp_seq ?_
  refine awp_seq ?_
  refine awp_region ?_
  refine s_mv ?_
  refine s_lenA yU30 ?_
  refine s_mv ?_
  refine k_nil ?_
  refine k_seq ?_
  refine awp_block ?_
  refine awp_frz 2029 (by conv => lhs; whnf) ?_
  refine awp_frame2 [4, 7, 8, 34, 35, 36, 37, 38, 39, 40, 41, 42, 43, 44, 45, 46, 47, 48, 49, 50, 51] [2029] [8] [] (fun a : Nat × Int × (List Form) => a.1) (fun a : Nat × Int × (List Form) => [(34, .t (.sc (.int .i64 a.2.1)))]) (fun a : Nat × Int × (List Form) => [(2029, .arr (a.2.2.map Form.row) 32 false)]) (fun a : Nat × Int × (List Form) => a.1 ≤ fuel ∧ m_impl_PatternValid_l1 a.1 v9 a.2.1 a.2.2 = some r) (fuel, 0, v9.1) ⟨Nat.le_refl _, hF9⟩ (by rfl) (by rfl) (fun _ => rfl) (hasF_cons (by conv => lhs; whnf) (by rfl) hasF_nil) (hasO_cons (by conv => lhs; whnf) (by rfl) hasO_nil) (fun _ h => by cases h) freshS_nil freshM_nil ?_
  clear hF9
  rintro ⟨fu, g10, g11⟩ ⟨hl12, hF10⟩
  dsimp only at hl12 hF10 ⊢
  obtain _ | fu := fu
  · rw [m_impl_PatternValid_l1] at hF10; cases hF10
  rw [m_impl_PatternValid_l1] at hF10
  refine awp_seq ?_
  refine awp_region ?_
  refine s_lt ?_
  refine k_nil ?_
  refine k_seq ?_
  refine awp_seq ?_
  refine w_cond hF10 (fun hc13 hF11 => ?_) (fun hc13 hF11 => ?_) <;> clear hF10
  refine awp_skip ?_
  refine k_seq ?_
  refine awp_seq ?_
  refine awp_block ?_
  refine awp_seq ?_
  refine awp_region ?_
  refine s_mv ?_
  replace hF11 := bind_some' hF11
  obtain ⟨v14, hv14, hF12⟩ := hF11
  refine s_ixA Form.row hv14 yE30 ?_
  refine s_lAN Form.row hv14 (Form.row_eq _) yA32 yS32 ?_
  refine s_alloc yZ32 ?_
  refine s_as ?_
  refine s_stW yS32 ?_
  refine k_nil ?_
  refine k_seq ?_
  refine awp_seq ?_
  refine awp_draw yMix (by kernel_rfl) ?_
  refine s_mv ?_
  refine s_mv ?_
  replace hF12 := bind_some' hF12
  obtain ⟨v15, hv15, hF13⟩ := hF12
  refine s_sl01 Form.row (fun y => Form.row_len y) hv15 yU30 yE30 ?_
  refine s_ldW yA32 yS32 ?_
  replace hF13 := bind_some' hF13
  obtain ⟨v16, hv16, hF14⟩ := hF13
  refine s_pure [] (m_impl_isIn_ok fu _ _ _ hv16) ?_
  refine s_mv ?_
  refine w_guard _ 44 hF14 (fun hc17 hF15 => ?_) (fun hc17 hF15 => ?_) <;> clear hF14
  iterate 5 refine r_no rfl ?_
  refine s_pkt ?_
  refine k_nilD (by kernel_rfl) ?_
  refine k_seq ?_
  refine awp_true rfl ?_
  refine awp_seq ?_
  refine awp_region ?_
  refine s_as ?_
  refine k_nil ?_
  refine k_seq ?_
  refine awp_ret ?_
  refine k_blk_ret ?_
  refine k_seq_ret ?_
  refine k_rnd_ret2 ?_
  refine k_blk_ret ?_
  refine k_seq_ret ?_
  refine k_fin ?_
  obtain rfl := Option.some.inj hF15
  exact ends_gen [] [] (by rw [Try.results35]; exact (res_tmp (by conv => lhs; whnf) res_nil))
  refine s_mv ?_
  refine s_mv ?_
  replace hF15 := bind_some' hF15
  obtain ⟨v18, hv18, hF16⟩ := hF15
  refine s_ixT rI hv18 rfl yE22 ?_
  refine s_ld1 yA3 ?_
  refine s_gt ?_
  refine s_pkf ?_
  refine k_nilD (by kernel_rfl) ?_
  refine k_seq ?_
  refine w_cond hF16 (fun hc19 hF17 => ?_) (fun hc19 hF17 => ?_) <;> clear hF16
  refine awp_seq ?_
  refine awp_region ?_
  refine s_as ?_
  refine k_nil ?_
  refine k_seq ?_
  refine awp_ret ?_
  refine k_blk_ret ?_
  refine k_seq_ret ?_
  refine k_rnd_ret2 ?_
  refine k_blk_ret ?_
  refine k_seq_ret ?_
  refine k_fin ?_
  obtain rfl := Option.some.inj hF17
  exact ends_gen [] [] (by rw [Try.results35]; exact (res_tmp (by conv => lhs; whnf) res_nil))
  refine awp_skip ?_
  refine k_blk ?_
  refine k_seq ?_
  refine awp_region ?_
  refine s_add rfl ?_
  refine s_mv ?_
  refine k_nil ?_
  exact s_rnd2 (fu, (w64 (g10 + 1)), g11) [] ⟨by first | omega | (dsimp only; omega), hF17⟩ (hasR_cons (by conv => lhs; whnf) (by rfl) rfl trivial) (hasQ_cons (by conv => lhs; whnf) (by rfl) rfl trivial)
  refine awp_exit ?_
  refine k_seq_exit ?_
  refine k_rnd_exit2 ?_
  refine k_blk_exit ?_
  refine k_seq ?_
  refine awp_seq ?_
  refine awp_region ?_
  refine s_mv ?_
  refine s_lenA yU30 ?_
  refine s_le ?_
  refine s_as ?_
  refine k_nil ?_
  refine k_seq ?_
  refine awp_ret ?_
  refine k_fin ?_
  obtain rfl := Option.some.inj hF11
  exact ends_gen [] [] (by rw [Try.results35]; exact (res_tmp (by conv => lhs; whnf) res_nil))
end Go.Abs
end
section
set_option maxRecDepth 100000
set_option maxHeartbeats 4000000
set_option linter.unusedVariables false
namespace Go.Abs
open Go.Proofs
def m_spec_l15Open_AC (fuel : Nat) : Prop := ∀ (x1 : (List Int)) (r : l15Rd), m_spec_l15Open fuel x1 = some r → AC Try.prog 72 [.t (.sl (x1.map rB))] (objs []) (.rf 10 0) (objs [(10, .box [.t (.sl (r.b.map rB)), .t (.sc (.int .i64 r.p))])])
theorem m_spec_l15Open_ok (fuel : Nat) : m_spec_l15Open_AC fuel := by
  intro x1 r hF0
  unfold m_spec_l15Open at hF0
  refine AC_intro (rs := [.rf 10 0]) Try.func72 rfl (by kernel_rfl) (by simp [Try.ntmps72]) (keep_all rfl) ?_
  intro C hC
  rw [Try.ntmps72]
  refine awp_seq ?_
  refine awp_region ?_
  refine s_as ?_
  refine k_nil ?_
  refine k_seq ?_
  refine awp_seq ?_
  refine awp_seq ?_
  refine awp_region ?_
  refine s_mv ?_
  refine s_lenT yU51 ?_
  refine s_gt ?_
  refine k_nil ?_
  refine k_seq ?_
  refine w_cond hF0 (fun hc1 hF1 => ?_) (fun hc1 hF1 => ?_) <;> clear hF0
  refine awp_lenT 0 (fun hb2 => ?_)
  refine awp_region ?_
  refine s_mv ?_
  replace hF1 := bind_some' hF1
  obtain ⟨v3, hv3, hF2⟩ := hF1
  refine s_sl01 rB (fun _ => rfl) hv3 yU51 yE51 ?_
  refine s_as ?_
  refine k_nil ?_
  refine k_seq ?_
  refine awp_seq ?_
  refine awp_region ?_
  refine s_mv ?_
  refine s_bld yZ125 yL125 ?_
  refine s_box ?_
  refine s_as ?_
  refine k_nil ?_
  refine k_seq ?_
  refine awp_ret ?_
  refine k_fin ?_
  obtain rfl := Option.some.inj hF2
  exact ends_gen _ [] (by rw [Try.results72]; exact (res_tmp (by conv => lhs; whnf) res_nil))
  refine awp_skip ?_
  refine k_seq ?_
  refine awp_seq ?_
  refine awp_region ?_
  refine s_mv ?_
  refine s_bld yZ125 yL125 ?_
  refine s_box ?_
  refine s_as ?_
  refine k_nil ?_
  refine k_seq ?_
  refine awp_ret ?_
  refine k_fin ?_
  obtain rfl := Option.some.inj hF1
  exact ends_gen _ [] (by rw [Try.results72]; exact (res_tmp (by conv => lhs; whnf) res_nil))
def m_spec_l4Texts_AC (fuel : Nat) : Prop := ∀  (r : (List (List ByteArray))), m_spec_l4Texts fuel  = some r → AC Try.prog 113 [] noOb (.t (.sl (r.map (rL rS)))) noOb
theorem m_spec_l4Texts_ok (fuel : Nat) : m_spec_l4Texts_AC fuel := by
  intro  r hF0
  unfold m_spec_l4Texts at hF0
  refine AC_intro (rs := [.t (.sl (r.map (rL rS)))]) Try.func113 rfl (by kernel_rfl) (by simp [Try.ntmps113]) (by simp [noOb]) ?_
  intro C hC
  rw [Try.ntmps113]
  refine awp_seq ?_
  refine awp_region ?_
  refine s_as ?_
  refine k_nil ?_
  refine k_seq ?_
  refine awp_seq ?_
  refine awp_region ?_
  refine s_bs rS [(⟨#[40, 95, 32, 97, 32, 98, 41]⟩ : ByteArray), (⟨#[40, 115, 119, 97, 112, 32, 120, 32, 121, 41]⟩ : ByteArray)] yP95 yR9 ?_
  refine s_bs rS [(⟨#[40, 95, 32, 97, 32, 46, 46, 46, 41]⟩ : ByteArray), (⟨#[40, 108, 105, 115, 116, 32, 49, 32, 50, 32, 51, 41]⟩ : ByteArray)] yP95 yR9 ?_
  refine s_bs rS [(⟨#[40, 95, 32, 40, 120, 32, 118, 41, 32, 46, 46, 46, 32, 98, 111, 100, 121, 41]⟩ : ByteArray), (⟨#[40, 108, 101, 116, 32, 40, 112, 32, 49, 41, 32, 40, 113, 32, 50, 41, 32, 40, 102, 32, 112, 32, 113, 41, 41]⟩ : ByteArray)] yP95 yR9 ?_
  refine s_bs rS [(⟨#[40, 95, 32, 40, 40, 120, 32, 118, 41, 32, 46, 46, 46, 41, 32, 98, 111, 100, 121, 32, 46, 46, 46, 41]⟩ : ByteArray), (⟨#[40, 108, 101, 116, 32, 40, 40, 112, 32, 49, 41, 32, 40, 113, 32, 40, 103, 32, 50, 41, 41, 41, 32, 112, 32, 113, 41]⟩ : ByteArray)] yP95 yR9 ?_
  refine s_bs rS [(⟨#[40, 95, 32, 40, 97, 32, 98, 32, 46, 46, 46, 41, 32, 46, 46, 46, 41]⟩ : ByteArray), (⟨#[40, 109, 32, 40, 120, 32, 49, 32, 50, 41, 32, 40, 121, 41, 32, 40, 122, 32, 51, 41, 41]⟩ : ByteArray)] yP95 yR9 ?_
  refine s_bs rS [(⟨#[40, 95, 32, 97, 32, 101, 108, 115, 101, 32, 98, 41]⟩ : ByteArray), (⟨#[40, 109, 32, 112, 32, 101, 108, 115, 101, 32, 113, 41]⟩ : ByteArray)] yP95 yR9 ?_
  refine s_bs rS [(⟨#[40, 95, 41]⟩ : ByteArray), (⟨#[40, 109, 41]⟩ : ByteArray)] yP95 yR9 ?_
  refine s_bs rS [(⟨#[40, 95, 32, 53, 32, 97, 41]⟩ : ByteArray), (⟨#[40, 109, 32, 53, 32, 120, 41]⟩ : ByteArray)] yP95 yR9 ?_
  refine s_bs rS [(⟨#[40, 95, 32, 97, 32, 46, 46, 46, 32, 122, 41]⟩ : ByteArray), (⟨#[40, 109, 32, 49, 32, 50, 32, 51, 32, 52, 41]⟩ : ByteArray)] yP95 yR9 ?_
  refine s_bs rS [(⟨#[97]⟩ : ByteArray), (⟨#[40, 102, 32, 120, 41]⟩ : ByteArray)] yP95 yR9 ?_
  refine s_bs rS [(⟨#[40, 95, 32, 40, 97, 32, 40, 98, 32, 46, 46, 46, 41, 32, 46, 46, 46, 41, 32, 46, 46, 46, 41]⟩ : ByteArray), (⟨#[40, 109, 32, 40, 120, 32, 40, 49, 32, 50, 41, 32, 40, 41, 41, 32, 40, 121, 41, 41]⟩ : ByteArray)] yP95 yR9 ?_
  refine s_bs (rL rS) [[(⟨#[40, 95, 32, 97, 32, 98, 41]⟩ : ByteArray), (⟨#[40, 115, 119, 97, 112, 32, 120, 32, 121, 41]⟩ : ByteArray)], [(⟨#[40, 95, 32, 97, 32, 46, 46, 46, 41]⟩ : ByteArray), (⟨#[40, 108, 105, 115, 116, 32, 49, 32, 50, 32, 51, 41]⟩ : ByteArray)], [(⟨#[40, 95, 32, 40, 120, 32, 118, 41, 32, 46, 46, 46, 32, 98, 111, 100, 121, 41]⟩ : ByteArray), (⟨#[40, 108, 101, 116, 32, 40, 112, 32, 49, 41, 32, 40, 113, 32, 50, 41, 32, 40, 102, 32, 112, 32, 113, 41, 41]⟩ : ByteArray)], [(⟨#[40, 95, 32, 40, 40, 120, 32, 118, 41, 32, 46, 46, 46, 41, 32, 98, 111, 100, 121, 32, 46, 46, 46, 41]⟩ : ByteArray), (⟨#[40, 108, 101, 116, 32, 40, 40, 112, 32, 49, 41, 32, 40, 113, 32, 40, 103, 32, 50, 41, 41, 41, 32, 112, 32, 113, 41]⟩ : ByteArray)], [(⟨#[40, 95, 32, 40, 97, 32, 98, 32, 46, 46, 46, 41, 32, 46, 46, 46, 41]⟩ : ByteArray), (⟨#[40, 109, 32, 40, 120, 32, 49, 32, 50, 41, 32, 40, 121, 41, 32, 40, 122, 32, 51, 41, 41]⟩ : ByteArray)], [(⟨#[40, 95, 32, 97, 32, 101, 108, 115, 101, 32, 98, 41]⟩ : ByteArray), (⟨#[40, 109, 32, 112, 32, 101, 108, 115, 101, 32, 113, 41]⟩ : ByteArray)], [(⟨#[40, 95, 41]⟩ : ByteArray), (⟨#[40, 109, 41]⟩ : ByteArray)], [(⟨#[40, 95, 32, 53, 32, 97, 41]⟩ : ByteArray), (⟨#[40, 109, 32, 53, 32, 120, 41]⟩ : ByteArray)], [(⟨#[40, 95, 32, 97, 32, 46, 46, 46, 32, 122, 41]⟩ : ByteArray), (⟨#[40, 109, 32, 49, 32, 50, 32, 51, 32, 52, 41]⟩ : ByteArray)], [(⟨#[97]⟩ : ByteArray), (⟨#[40, 102, 32, 120, 41]⟩ : ByteArray)], [(⟨#[40, 95, 32, 40, 97, 32, 40, 98, 32, 46, 46, 46, 41, 32, 46, 46, 46, 41, 32, 46, 46, 46, 41]⟩ : ByteArray), (⟨#[40, 109, 32, 40, 120, 32, 40, 49, 32, 50, 41, 32, 40, 41, 41, 32, 40, 121, 41, 41]⟩ : ByteArray)]] yP122 yR95 ?_
  refine s_as ?_
  refine k_nil ?_
  refine k_seq ?_
  refine awp_ret ?_
  refine k_fin ?_
  obtain rfl := Option.some.inj hF0
  exact ends_gen [] [12] (by rw [Try.results113]; exact (res_tmp (by conv => lhs; whnf) res_nil))
def m_spec_l15Rd_pick_AC (fuel : Nat) : Prop := ∀ (o1 : l15Rd) (x2 : Int) (r : (Int × l15Rd)), m_spec_l15Rd_pick fuel o1 x2 = some r → AC Try.prog 73 [.rf 9000 0, .t (.sc (.int .i64 x2))] (objs [(9000, .box [.t (.sl (o1.b.map rB)), .t (.sc (.int .i64 o1.p))])]) (.t (.sc (.int .i64 r.1))) (objs [(9000, .box [.t (.sl (r.2.b.map rB)), .t (.sc (.int .i64 r.2.p))])])
theorem m_spec_l15Rd_pick_ok (fuel : Nat) : m_spec_l15Rd_pick_AC fuel := by
  intro o1 x2 r hF0
  unfold m_spec_l15Rd_pick at hF0
  refine AC_intro (rs := [.t (.sc (.int .i64 r.1))]) Try.func73 rfl (by kernel_rfl) (by simp [Try.ntmps73]) (keep_all rfl) ?_
  intro C hC
  rw [Try.ntmps73]
  refine awp_seq ?_
  refine awp_region ?_
  refine s_as ?_
  refine k_nil ?_
  refine k_seq ?_
  refine awp_seq ?_
  refine awp_region ?_
  refine s_mv ?_
  refine s_mv ?_
  refine s_nc ?_
  refine s_fa yF125_1 ?_
  refine s_ld1 yA3 ?_
  refine s_add rfl ?_
  refine s_nc ?_
  refine s_fa yF125_1 ?_
  refine s_stP yS3 ?_
  refine k_nil ?_
  refine k_seq ?_
  refine awp_seq ?_
  refine awp_seq ?_
  refine awp_region ?_
  refine s_mv ?_
  refine s_lt ?_
  refine s_mv ?_
  refine w_guard _ 17 hF0 (fun hc1 hF1 => ?_) (fun hc1 hF1 => ?_) <;> clear hF0
  iterate 6 refine r_no rfl ?_
  refine s_pkt ?_
  refine k_nil ?_
  refine k_seq ?_
  refine awp_true rfl ?_
  refine awp_seq ?_
  refine awp_region ?_
  refine s_as ?_
  refine k_nil ?_
  refine k_seq ?_
  refine awp_ret ?_
  refine k_seq_ret ?_
  refine k_fin ?_
  obtain rfl := Option.some.inj hF1
  exact ends_gen _ [] (by rw [Try.results73]; exact (res_tmp (by conv => lhs; whnf) res_nil))
  refine s_mv ?_
  refine s_nc ?_
  refine s_fa yF125_0 ?_
  refine s_ld1 yA51 ?_
  refine s_lenT yU51 ?_
  refine s_eq ?_
  refine s_pkf ?_
  refine k_nil ?_
  refine k_seq ?_
  refine w_cond hF1 (fun hc2 hF2 => ?_) (fun hc2 hF2 => ?_) <;> clear hF1
  refine awp_seq ?_
  refine awp_region ?_
  refine s_as ?_
  refine k_nil ?_
  refine k_seq ?_
  refine awp_ret ?_
  refine k_seq_ret ?_
  refine k_fin ?_
  obtain rfl := Option.some.inj hF2
  exact ends_gen _ [] (by rw [Try.results73]; exact (res_tmp (by conv => lhs; whnf) res_nil))
  refine awp_skip ?_
  refine k_seq ?_
  refine awp_seq ?_
  refine awp_region ?_
  refine s_mv ?_
  refine s_nc ?_
  refine s_fa yF125_1 ?_
  refine s_ld1 yA3 ?_
  refine s_sub rfl ?_
  refine s_as ?_
  refine k_nil ?_
  refine k_seq ?_
  refine awp_seq ?_
  refine awp_seq ?_
  refine awp_region ?_
  refine s_mv ?_
  refine s_mv ?_
  refine s_nc ?_
  refine s_fa yF125_0 ?_
  refine s_ld1 yA51 ?_
  refine s_lenT yU51 ?_
  refine s_lt ?_
  refine k_nil ?_
  refine k_seq ?_
  refine w_cond hF2 (fun hc3 hF3 => ?_) (fun hc3 hF3 => ?_) <;> clear hF2
  refine awp_seq ?_
  refine awp_region ?_
  refine s_mv ?_
  refine s_nc ?_
  refine s_fa yF125_0 ?_
  refine s_ld1 yA51 ?_
  refine s_mv ?_
  replace hF3 := bind_some' hF3
  obtain ⟨v4, hv4, hF4⟩ := hF3
  refine s_ixT rB hv4 rfl yE51 ?_
  refine s_ld1 yA5 ?_
  refine s_int yU5 yU3 rfl ?_
  refine s_mv ?_
  obtain ⟨hk5, hF5⟩ := chk_some hF4
  refine s_rem (h0 := not_zero hk5) ?_
  refine s_as ?_
  refine k_nil ?_
  refine k_seq ?_
  refine awp_ret ?_
  refine k_seq_ret ?_
  refine k_fin ?_
  obtain rfl := Option.some.inj hF5
  exact ends_gen _ [] (by rw [Try.results73]; exact (res_tmp (by conv => lhs; whnf) res_nil))
  refine awp_skip ?_
  refine k_seq ?_
  refine awp_seq ?_
  refine awp_draw yMix (by kernel_rfl) ?_
  refine s_mv ?_
  refine s_nc ?_
  refine s_fa yF125_0 ?_
  refine s_ld1 yA51 ?_
  refine s_mv ?_
  refine s_mv ?_
  refine s_nc ?_
  refine s_fa yF125_0 ?_
  refine s_ld1 yA51 ?_
  refine s_lenT yU51 ?_
  obtain ⟨hk6, hF4⟩ := chk_some hF3
  refine s_rem (h0 := not_zero hk6) ?_
  replace hF4 := bind_some' hF4
  obtain ⟨v7, hv7, hF5⟩ := hF4
  refine s_ixT rB hv7 rfl yE51 ?_
  refine s_ld1 yA5 ?_
  refine s_int yU5 yU3 rfl ?_
  refine s_mul rfl ?_
  refine s_mv ?_
  refine s_nc ?_
  refine s_fa yF125_0 ?_
  refine s_ld1 yA51 ?_
  refine s_mv ?_
  refine s_mul rfl ?_
  refine s_add rfl ?_
  refine s_mv ?_
  refine s_nc ?_
  refine s_fa yF125_0 ?_
  refine s_ld1 yA51 ?_
  refine s_lenT yU51 ?_
  obtain ⟨hk8, hF6⟩ := chk_some hF5
  refine s_rem (h0 := not_zero hk8) ?_
  replace hF6 := bind_some' hF6
  obtain ⟨v9, hv9, hF7⟩ := hF6
  refine s_ixT rB hv9 rfl yE51 ?_
  refine s_ld1 yA5 ?_
  refine s_int yU5 yU3 rfl ?_
  refine s_mul rfl ?_
  refine s_add rfl ?_
  refine s_mv ?_
  refine s_mul rfl ?_
  refine s_add rfl ?_
  refine s_mv ?_
  refine s_mv ?_
  refine s_nc ?_
  refine s_fa yF125_0 ?_
  refine s_ld1 yA51 ?_
  refine s_lenT yU51 ?_
  obtain ⟨hk10, hF8⟩ := chk_some hF7
  refine s_quo (h0 := not_zero hk10) rfl ?_
  refine s_mul rfl ?_
  refine s_add rfl ?_
  refine s_as ?_
  refine k_nilD (by kernel_rfl) ?_
  refine k_seq ?_
  refine awp_seq ?_
  refine awp_region ?_
  refine s_mv ?_
  refine s_mv ?_
  refine s_quo rfl ?_
  refine s_xor rfl ?_
  refine s_as ?_
  refine k_nil ?_
  refine k_seq ?_
  refine awp_seq ?_
  refine awp_region ?_
  refine s_mv ?_
  refine s_mv ?_
  obtain ⟨hk11, hF9⟩ := chk_some hF8
  refine s_rem (h0 := not_zero hk11) ?_
  refine s_as ?_
  refine k_nil ?_
  refine k_seq ?_
  refine awp_ret ?_
  refine k_fin ?_
  obtain rfl := Option.some.inj hF9
  exact ends_gen _ [] (by rw [Try.results73]; exact (res_tmp (by conv => lhs; whnf) res_nil))
def m_spec_l1Skip_AC (fuel : Nat) : Prop := ∀ (x1 : ByteArray) (x2 : Int) (r : Int), m_spec_l1Skip fuel x1 x2 = some r → AC Try.prog 141 [.t (.sc (.str x1)), .t (.sc (.int .i64 x2))] noOb (.t (.sc (.int .i64 r))) noOb
theorem m_spec_l1Skip_ok (fuel : Nat) : m_spec_l1Skip_AC fuel := by
  intro x1 x2 r hF0
  unfold m_spec_l1Skip at hF0
  refine AC_intro (rs := [.t (.sc (.int .i64 r))]) Try.func141 rfl (by kernel_rfl) (by simp [Try.ntmps141]) (by simp [noOb]) ?_
  intro C hC
  rw [Try.ntmps141]
  refine awp_seq ?_
  refine awp_region ?_
  refine s_as ?_
  refine k_nil ?_
  refine k_seq ?_
  refine awp_seq ?_
  refine awp_block ?_
  refine awp_frame2 [1, 5, 6, 7, 8, 9, 10, 11, 12, 13, 14, 15, 16] [] [] [] (fun a : Nat × Int => a.1) (fun a : Nat × Int => [(1, .t (.sc (.int .i64 a.2)))]) (fun a : Nat × Int => []) (fun a : Nat × Int => a.1 ≤ fuel ∧ m_spec_l1Skip_l1 a.1 x1 a.2 = some r) (fuel, x2) ⟨Nat.le_refl _, hF0⟩ (by rfl) (by rfl) (fun _ => rfl) (hasF_cons (by conv => lhs; whnf) (by rfl) hasF_nil) hasO_nil (fun _ h => by cases h) freshS_nil freshM_nil ?_
  clear hF0
  rintro ⟨fu, g1⟩ ⟨hl2, hF1⟩
  dsimp only at hl2 hF1 ⊢
  obtain _ | fu := fu
  · rw [m_spec_l1Skip_l1] at hF1; cases hF1
  rw [m_spec_l1Skip_l1] at hF1
  refine awp_seq ?_
  refine awp_seq ?_
  refine awp_region ?_
  refine s_mv ?_
  refine s_mv ?_
  refine s_lenS yU9 ?_
  refine s_lt ?_
  refine s_mv ?_
  refine w_guard _ 9 hF1 (fun hc3 hF2 => ?_) (fun hc3 hF2 => ?_) <;> clear hF1
  refine s_mv ?_
  refine s_mv ?_
  replace hF2 := bind_some' hF2
  obtain ⟨v4, hv4, hF3⟩ := hF2
  refine s_ixS hv4 yU9 ?_
  refine s_eq ?_
  refine s_pkt ?_
  refine k_nil ?_
  refine k_seq ?_
  refine w_cond hF3 (fun hc5 hF4 => ?_) (fun hc5 hF4 => ?_) <;> clear hF3
  refine awp_skip ?_
  refine k_seq ?_
  refine awp_block ?_
  refine awp_region ?_
  refine s_mv ?_
  refine s_add rfl ?_
  refine s_as ?_
  refine k_nil ?_
  refine k_blk ?_
  exact s_rnd2 (fu, (w64 (g1 + 1))) [] ⟨by first | omega | (dsimp only; omega), hF4⟩ (hasR_cons (by conv => lhs; whnf) (by rfl) rfl trivial) trivial
  refine awp_exit ?_
  refine k_seq_exit ?_
  refine k_rnd_exit2 ?_
  refine k_blk_exit ?_
  refine k_seq ?_
  refine awp_seq ?_
  refine awp_region ?_
  refine s_mv ?_
  refine s_as ?_
  refine k_nil ?_
  refine k_seq ?_
  refine awp_ret ?_
  refine k_fin ?_
  obtain rfl := Option.some.inj hF4
  exact ends_gen [] [] (by rw [Try.results141]; exact (res_tmp (by conv => lhs; whnf) res_nil))
  iterate 4 refine r_no rfl ?_
  refine s_pkf ?_
  refine k_nil ?_
  refine k_seq ?_
  refine awp_false rfl ?_
  refine awp_exit ?_
  refine k_seq_exit ?_
  refine k_rnd_exit2 ?_
  refine k_blk_exit ?_
  refine k_seq ?_
  refine awp_seq ?_
  refine awp_region ?_
  refine s_mv ?_
  refine s_as ?_
  refine k_nil ?_
  refine k_seq ?_
  refine awp_ret ?_
  refine k_fin ?_
  obtain rfl := Option.some.inj hF2
  exact ends_gen [] [] (by rw [Try.results141]; exact (res_tmp (by conv => lhs; whnf) res_nil))
def m_spec_l1Word_AC (fuel : Nat) : Prop := ∀ (x1 : ByteArray) (x2 : Int) (r : Int), m_spec_l1Word fuel x1 x2 = some r → AC Try.prog 155 [.t (.sc (.str x1)), .t (.sc (.int .i64 x2))] noOb (.t (.sc (.int .i64 r))) noOb
theorem m_spec_l1Word_ok (fuel : Nat) : m_spec_l1Word_AC fuel := by
  intro x1 x2 r hF0
  unfold m_spec_l1Word at hF0
  refine AC_intro (rs := [.t (.sc (.int .i64 r))]) Try.func155 rfl (by kernel_rfl) (by simp [Try.ntmps155]) (by simp [noOb]) ?_
  intro C hC
  rw [Try.ntmps155]
  refine awp_seq ?_
  refine awp_region ?_
  refine s_as ?_
  refine k_nil ?_
  refine k_seq ?_
  refine awp_seq ?_
  refine awp_block ?_
  refine awp_frame2 [1, 5, 6, 7, 8, 9, 10, 11, 12, 13, 14, 15, 16, 17, 18, 19, 20, 21, 22, 23, 24, 25, 26, 27, 28, 29, 30, 31, 32, 33, 34] [] [] [] (fun a : Nat × Int => a.1) (fun a : Nat × Int => [(1, .t (.sc (.int .i64 a.2)))]) (fun a : Nat × Int => []) (fun a : Nat × Int => a.1 ≤ fuel ∧ m_spec_l1Word_l1 a.1 x1 a.2 = some r) (fuel, x2) ⟨Nat.le_refl _, hF0⟩ (by rfl) (by rfl) (fun _ => rfl) (hasF_cons (by conv => lhs; whnf) (by rfl) hasF_nil) hasO_nil (fun _ h => by cases h) freshS_nil freshM_nil ?_
  clear hF0
  rintro ⟨fu, g1⟩ ⟨hl2, hF1⟩
  dsimp only at hl2 hF1 ⊢
  obtain _ | fu := fu
  · rw [m_spec_l1Word_l1] at hF1; cases hF1
  rw [m_spec_l1Word_l1] at hF1
  refine awp_seq ?_
  refine awp_seq ?_
  refine awp_region ?_
  refine s_mv ?_
  refine s_mv ?_
  refine s_lenS yU9 ?_
  refine s_lt ?_
  refine s_mv ?_
  refine w_guard _ 9 hF1 (fun hc3 hF2 => ?_) (fun hc3 hF2 => ?_) <;> clear hF1
  refine s_mv ?_
  refine s_mv ?_
  replace hF2 := bind_some' hF2
  obtain ⟨v4, hv4, hF3⟩ := hF2
  refine s_ixS hv4 yU9 ?_
  refine s_ne ?_
  refine s_pkt ?_
  refine s_mv ?_
  refine w_guard _ 15 hF3 (fun hc5 hF4 => ?_) (fun hc5 hF4 => ?_) <;> clear hF3
  refine s_mv ?_
  refine s_mv ?_
  replace hF4 := bind_some' hF4
  obtain ⟨v6, hv6, hF5⟩ := hF4
  refine s_ixS hv6 yU9 ?_
  refine s_ne ?_
  refine s_pkt ?_
  refine s_mv ?_
  refine w_guard _ 21 hF5 (fun hc7 hF6 => ?_) (fun hc7 hF6 => ?_) <;> clear hF5
  refine s_mv ?_
  refine s_mv ?_
  replace hF6 := bind_some' hF6
  obtain ⟨v8, hv8, hF7⟩ := hF6
  refine s_ixS hv8 yU9 ?_
  refine s_ne ?_
  refine s_pkt ?_
  refine s_mv ?_
  refine w_guard _ 27 hF7 (fun hc9 hF8 => ?_) (fun hc9 hF8 => ?_) <;> clear hF7
  refine s_mv ?_
  refine s_mv ?_
  replace hF8 := bind_some' hF8
  obtain ⟨v10, hv10, hF9⟩ := hF8
  refine s_ixS hv10 yU9 ?_
  refine s_ne ?_
  refine s_pkt ?_
  refine k_nil ?_
  refine k_seq ?_
  refine w_cond hF9 (fun hc11 hF10 => ?_) (fun hc11 hF10 => ?_) <;> clear hF9
  refine awp_skip ?_
  refine k_seq ?_
  refine awp_block ?_
  refine awp_region ?_
  refine s_mv ?_
  refine s_add rfl ?_
  refine s_as ?_
  refine k_nil ?_
  refine k_blk ?_
  exact s_rnd2 (fu, (w64 (g1 + 1))) [] ⟨by first | omega | (dsimp only; omega), hF10⟩ (hasR_cons (by conv => lhs; whnf) (by rfl) rfl trivial) trivial
  refine awp_exit ?_
  refine k_seq_exit ?_
  refine k_rnd_exit2 ?_
  refine k_blk_exit ?_
  refine k_seq ?_
  refine awp_seq ?_
  refine awp_region ?_
  refine s_mv ?_
  refine s_as ?_
  refine k_nil ?_
  refine k_seq ?_
  refine awp_ret ?_
  refine k_fin ?_
  obtain rfl := Option.some.inj hF10
  exact ends_gen [] [] (by rw [Try.results155]; exact (res_tmp (by conv => lhs; whnf) res_nil))
  iterate 4 refine r_no rfl ?_
  refine s_pkf ?_
  refine k_nil ?_
  refine k_seq ?_
  refine awp_false rfl ?_
  refine awp_exit ?_
  refine k_seq_exit ?_
  refine k_rnd_exit2 ?_
  refine k_blk_exit ?_
  refine k_seq ?_
  refine awp_seq ?_
  refine awp_region ?_
  refine s_mv ?_
  refine s_as ?_
  refine k_nil ?_
  refine k_seq ?_
  refine awp_ret ?_
  refine k_fin ?_
  obtain rfl := Option.some.inj hF8
  exact ends_gen [] [] (by rw [Try.results155]; exact (res_tmp (by conv => lhs; whnf) res_nil))
  iterate 4 refine r_no rfl ?_
  refine s_pkf ?_
  refine s_mv ?_
  iterate 4 refine r_no rfl ?_
  refine s_pkf ?_
  refine k_nil ?_
  refine k_seq ?_
  refine awp_false rfl ?_
  refine awp_exit ?_
  refine k_seq_exit ?_
  refine k_rnd_exit2 ?_
  refine k_blk_exit ?_
  refine k_seq ?_
  refine awp_seq ?_
  refine awp_region ?_
  refine s_mv ?_
  refine s_as ?_
  refine k_nil ?_
  refine k_seq ?_
  refine awp_ret ?_
  refine k_fin ?_
  obtain rfl := Option.some.inj hF6
  exact ends_gen [] [] (by rw [Try.results155]; exact (res_tmp (by conv => lhs; whnf) res_nil))
  iterate 4 refine r_no rfl ?_
  refine s_pkf ?_
  refine s_mv ?_
  iterate 4 refine r_no rfl ?_
  refine s_pkf ?_
  refine s_mv ?_
  iterate 4 refine r_no rfl ?_
  refine s_pkf ?_
  refine k_nil ?_
  refine k_seq ?_
  refine awp_false rfl ?_
  refine awp_exit ?_
  refine k_seq_exit ?_
  refine k_rnd_exit2 ?_
  refine k_blk_exit ?_
  refine k_seq ?_
  refine awp_seq ?_
  refine awp_region ?_
  refine s_mv ?_
  refine s_as ?_
  refine k_nil ?_
  refine k_seq ?_
  refine awp_ret ?_
  refine k_fin ?_
  obtain rfl := Option.some.inj hF4
  exact ends_gen [] [] (by rw [Try.results155]; exact (res_tmp (by conv => lhs; whnf) res_nil))
  iterate 4 refine r_no rfl ?_
  refine s_pkf ?_
  refine s_mv ?_
  iterate 4 refine r_no rfl ?_
  refine s_pkf ?_
  refine s_mv ?_
  iterate 4 refine r_no rfl ?_
  refine s_pkf ?_
  refine s_mv ?_
  iterate 4 refine r_no rfl ?_
  refine s_pkf ?_
  refine k_nil ?_
  refine k_seq ?_
  refine awp_false rfl ?_
  refine awp_exit ?_
  refine k_seq_exit ?_
  refine k_rnd_exit2 ?_
  refine k_blk_exit ?_
  refine k_seq ?_
  refine awp_seq ?_
  refine awp_region ?_
  refine s_mv ?_
  refine s_as ?_
  refine k_nil ?_
  refine k_seq ?_
  refine awp_ret ?_
  refine k_fin ?_
  obtain rfl := Option.some.inj hF2
  exact ends_gen [] [] (by rw [Try.results155]; exact (res_tmp (by conv => lhs; whnf) res_nil))
def m_spec_l15Num_AC (fuel : Nat) : Prop := ∀ (x1 : ByteArray) (r : (Int × Bool)), m_spec_l15Num fuel x1 = some r → AC Try.prog 156 [.t (.sc (.str x1))] noOb (.tp [.t (.sc (.int .i64 r.1)), .t (.sc (.bool r.2))]) noOb
theorem m_spec_l15Num_ok (fuel : Nat) : m_spec_l15Num_AC fuel := by
  intro x1 r hF0
  unfold m_spec_l15Num at hF0
  refine AC_intro (rs := [.t (.sc (.int .i64 r.1)), .t (.sc (.bool r.2))]) Try.func156 rfl (by kernel_rfl) (by simp [Try.ntmps156]) (by simp [noOb]) ?_
  intro C hC
  rw [Try.ntmps156]
  refine awp_seq ?_
  refine awp_region ?_
  refine s_as ?_
  refine s_as ?_
  refine k_nil ?_
  refine k_seq ?_
  refine awp_seqJ [4, 7, 8, 9, 10, 11, 12, 13, 14] [] [] [] (fun a : Nat × Bool => [(4, .t (.sc (.bool a.2)))]) (fun a : Nat × Bool => []) (fun a : Nat × Bool => a.1 ≤ fuel ∧ m_spec_l15Num_j1 a.1 x1 a.2 = some r) (by rfl) (fun _ => rfl) (fun _ h => by cases h) freshS_nil freshM_nil ?_ ?_
  refine awp_region ?_
  refine s_mv ?_
  refine s_lenS yU9 ?_
  refine s_gt ?_
  refine s_mv ?_
  refine w_guard _ 10 hF0 (fun hc1 hF1 => ?_) (fun hc1 hF1 => ?_) <;> clear hF0
  refine s_mv ?_
  replace hF1 := bind_some' hF1
  obtain ⟨v2, hv2, hF2⟩ := hF1
  refine s_ixS hv2 yU9 ?_
  refine s_eq ?_
  refine s_pkt ?_
  refine s_as ?_
  refine k_nil ?_
  exact s_join (fuel, (decide (v2 = 45))) [] ⟨by first | omega | (dsimp only; omega), hF2⟩ (hasR_cons (by conv => lhs; whnf) (by rfl) rfl trivial) trivial
  iterate 3 refine r_no rfl ?_
  refine s_pkf ?_
  refine s_as ?_
  refine k_nil ?_
  exact s_join (fuel, false) [] ⟨by first | omega | (dsimp only; omega), hF1⟩ (hasR_cons (by conv => lhs; whnf) (by rfl) rfl trivial) trivial
  clear hF0
  rintro ⟨fu, g3⟩ ⟨hl4, hF1⟩
  dsimp only at hl4 hF1 ⊢
  obtain _ | fu := fu
  · rw [m_spec_l15Num_j1] at hF1; cases hF1
  rw [m_spec_l15Num_j1] at hF1
  refine awp_seqJ [0, 15, 16, 17] [] [] [] (fun a : Nat × ByteArray => [(0, .t (.sc (.str a.2)))]) (fun a : Nat × ByteArray => []) (fun a : Nat × ByteArray => a.1 ≤ fu ∧ m_spec_l15Num_j2 a.1 g3 a.2 = some r) (by rfl) (fun _ => rfl) (fun _ h => by cases h) freshS_nil freshM_nil ?_ ?_
  refine awp_seq ?_
  refine awp_region ?_
  refine s_mv ?_
  refine k_nil ?_
  refine k_seq ?_
  refine w_cond hF1 (fun hc5 hF2 => ?_) (fun hc5 hF2 => ?_) <;> clear hF1
  refine awp_region ?_
  refine s_mv ?_
  replace hF2 := bind_some' hF2
  obtain ⟨v6, hv6, hF3⟩ := hF2
  refine s_ss10 hv6 yU9 ?_
  refine s_as ?_
  refine k_nil ?_
  exact s_join (fu, v6) [] ⟨by first | omega | (dsimp only; omega), hF3⟩ (hasR_cons (by conv => lhs; whnf) (by rfl) rfl trivial) trivial
  refine awp_skip ?_
  exact s_join (fu, x1) [] ⟨by first | omega | (dsimp only; omega), hF2⟩ (hasR_cons (by conv => lhs; whnf) (by rfl) rfl trivial) trivial
  clear hF1
  rintro ⟨fu, g7⟩ ⟨hl8, hF2⟩
  dsimp only at hl8 hF2 ⊢
  obtain _ | fu := fu
  · rw [m_spec_l15Num_j2] at hF2; cases hF2
  rw [m_spec_l15Num_j2] at hF2
  refine awp_seqJ [2, 3, 18, 19, 20, 21, 22, 23, 24, 25, 26, 27, 28, 29, 30, 31, 32, 33, 34, 35, 36, 37, 38] [] [] [] (fun a : Nat => []) (fun a : Nat => []) (fun a : Nat => a ≤ fu ∧ m_spec_l15Num_j3 a g3 g7  = some r) (by rfl) (fun _ => rfl) (fun _ h => by cases h) freshS_nil freshM_nil ?_ ?_
  refine awp_seq ?_
  refine awp_region ?_
  refine s_mv ?_
  refine s_lenS yU9 ?_
  refine s_eq ?_
  refine s_mv ?_
  refine w_guard _ 21 hF2 (fun hc9 hF3 => ?_) (fun hc9 hF3 => ?_) <;> clear hF2
  iterate 3 refine r_no rfl ?_
  refine s_pkt ?_
  refine s_mv ?_
  iterate 11 refine r_no rfl ?_
  refine s_pkt ?_
  refine k_nil ?_
  refine k_seq ?_
  refine awp_true rfl ?_
  refine awp_seq ?_
  refine awp_region ?_
  refine s_as ?_
  refine s_as ?_
  refine k_nil ?_
  refine k_seq ?_
  refine awp_ret ?_
  refine k_jn_ret ?_
  refine k_fin ?_
  obtain rfl := Option.some.inj hF3
  exact ends_gen [] [] (by rw [Try.results156]; exact (res_tmp (by conv => lhs; whnf) (res_tmp (by conv => lhs; whnf) res_nil)))
  refine s_mv ?_
  refine s_lenS yU9 ?_
  refine s_gt ?_
  refine s_pkf ?_
  refine s_mv ?_
  refine w_guard _ 26 hF3 (fun hc10 hF4 => ?_) (fun hc10 hF4 => ?_) <;> clear hF3
  iterate 11 refine r_no rfl ?_
  refine s_pkt ?_
  refine k_nil ?_
  refine k_seq ?_
  refine awp_true rfl ?_
  refine awp_seq ?_
  refine awp_region ?_
  refine s_as ?_
  refine s_as ?_
  refine k_nil ?_
  refine k_seq ?_
  refine awp_ret ?_
  refine k_jn_ret ?_
  refine k_fin ?_
  obtain rfl := Option.some.inj hF4
  exact ends_gen [] [] (by rw [Try.results156]; exact (res_tmp (by conv => lhs; whnf) (res_tmp (by conv => lhs; whnf) res_nil)))
  refine s_mv ?_
  replace hF4 := bind_some' hF4
  obtain ⟨v11, hv11, hF5⟩ := hF4
  refine s_ixS hv11 yU9 ?_
  refine s_eq ?_
  refine s_mv ?_
  refine w_guard _ 30 hF5 (fun hc12 hF6 => ?_) (fun hc12 hF6 => ?_) <;> clear hF5
  refine s_mv ?_
  refine s_lenS yU9 ?_
  refine s_gt ?_
  refine s_mv ?_
  refine w_guard _ 34 hF6 (fun hc13 hF7 => ?_) (fun hc13 hF7 => ?_) <;> clear hF6
  refine r_no rfl ?_
  refine s_pkt ?_
  refine s_pkt ?_
  refine s_pkf ?_
  refine k_nil ?_
  refine k_seq ?_
  refine awp_true rfl ?_
  refine awp_seq ?_
  refine awp_region ?_
  refine s_as ?_
  refine s_as ?_
  refine k_nil ?_
  refine k_seq ?_
  refine awp_ret ?_
  refine k_jn_ret ?_
  refine k_fin ?_
  obtain rfl := Option.some.inj hF7
  exact ends_gen [] [] (by rw [Try.results156]; exact (res_tmp (by conv => lhs; whnf) (res_tmp (by conv => lhs; whnf) res_nil)))
  refine s_mv ?_
  refine s_pkf ?_
  refine s_pkt ?_
  refine s_pkf ?_
  refine k_nil ?_
  refine k_seq ?_
  refine w_cond hF7 (fun hc14 hF8 => ?_) (fun hc14 hF8 => ?_) <;> clear hF7
  refine awp_seq ?_
  refine awp_region ?_
  refine s_as ?_
  refine s_as ?_
  refine k_nil ?_
  refine k_seq ?_
  refine awp_ret ?_
  refine k_jn_ret ?_
  refine k_fin ?_
  obtain rfl := Option.some.inj hF8
  exact ends_gen [] [] (by rw [Try.results156]; exact (res_tmp (by conv => lhs; whnf) (res_tmp (by conv => lhs; whnf) res_nil)))
  refine awp_skip ?_
  exact s_join (fu) [] ⟨by first | omega | (dsimp only; omega), hF8⟩ trivial trivial
  iterate 6 refine r_no rfl ?_
  refine s_pkf ?_
  refine s_pkf ?_
  refine k_nil ?_
  refine k_seq ?_
  refine awp_false rfl ?_
  refine awp_skip ?_
  exact s_join (fu) [] ⟨by first | omega | (dsimp only; omega), hF6⟩ trivial trivial
  clear hF2
  rintro fu ⟨hl15, hF3⟩
  obtain _ | fu := fu
  · rw [m_spec_l15Num_j3] at hF3; cases hF3
  rw [m_spec_l15Num_j3] at hF3
  refine awp_seq ?_
  refine awp_region ?_
  refine s_as ?_
  refine k_nil ?_
  refine k_seq ?_
  refine awp_seq ?_
  refine awp_seq ?_
  refine awp_region ?_
  refine s_as ?_
  refine k_nil ?_
  refine k_seq ?_
  refine awp_block ?_
  refine awp_frame2 [2, 3, 5, 6, 39, 40, 41, 42, 43, 44, 45, 46, 47, 48, 49, 50, 51, 52, 53, 54, 55, 56, 57, 58, 59, 60, 61, 62] [] [] [] (fun a : Nat × Int × Int => a.1) (fun a : Nat × Int × Int => [(5, .t (.sc (.int .i64 a.2.1))), (6, .t (.sc (.int .i64 a.2.2)))]) (fun a : Nat × Int × Int => []) (fun a : Nat × Int × Int => a.1 ≤ fu ∧ m_spec_l15Num_l4 a.1 g3 g7 a.2.1 a.2.2 = some r) (fu, 0, 0) ⟨Nat.le_refl _, hF3⟩ (by rfl) (by rfl) (fun _ => rfl) (hasF_cons (by conv => lhs; whnf) (by rfl) (hasF_cons (by conv => lhs; whnf) (by rfl) hasF_nil)) hasO_nil (fun _ h => by cases h) freshS_nil freshM_nil ?_
  clear hF3
  rintro ⟨fu, g16, g17⟩ ⟨hl18, hF4⟩
  dsimp only at hl18 hF4 ⊢
  obtain _ | fu := fu
  · rw [m_spec_l15Num_l4] at hF4; cases hF4
  rw [m_spec_l15Num_l4] at hF4
  refine awp_seq ?_
  refine awp_seq ?_
  refine awp_region ?_
  refine s_mv ?_
  refine s_mv ?_
  refine s_lenS yU9 ?_
  refine s_lt ?_
  refine k_nil ?_
  refine k_seq ?_
  refine w_cond hF4 (fun hc19 hF5 => ?_) (fun hc19 hF5 => ?_) <;> clear hF4
  refine awp_skip ?_
  refine k_seq ?_
  refine awp_seq ?_
  refine awp_block ?_
  refine awp_seq ?_
  refine awp_seqJ [45, 46, 47, 48, 49, 50, 51, 52, 53, 54] [] [] [] (fun a : Nat × Bool => [(54, .t (.sc (.bool a.2)))]) (fun a : Nat × Bool => []) (fun a : Nat × Bool => a.1 ≤ fu ∧ m_spec_l15Num_j5 a.1 g3 g7 g16 g17 a.2 = some r) (by rfl) (fun _ => rfl) (fun _ h => by cases h) freshS_nil freshM_nil ?_ ?_
  refine awp_region ?_
  refine s_mv ?_
  refine s_mv ?_
  replace hF5 := bind_some' hF5
  obtain ⟨v20, hv20, hF6⟩ := hF5
  refine s_ixS hv20 yU9 ?_
  refine s_lt ?_
  refine s_mv ?_
  refine w_guard _ 49 hF6 (fun hc21 hF7 => ?_) (fun hc21 hF7 => ?_) <;> clear hF6
  iterate 4 refine r_no rfl ?_
  refine s_pkt ?_
  refine k_nil ?_
  exact s_join (fu, true) [] ⟨by first | omega | (dsimp only; omega), hF7⟩ (hasR_cons (by conv => lhs; whnf) (by rfl) rfl trivial) trivial
  refine s_mv ?_
  refine s_mv ?_
  replace hF7 := bind_some' hF7
  obtain ⟨v22, hv22, hF8⟩ := hF7
  refine s_ixS hv22 yU9 ?_
  refine s_gt ?_
  refine s_pkf ?_
  refine k_nil ?_
  exact s_join (fu, (decide (57 < v22))) [] ⟨by first | omega | (dsimp only; omega), hF8⟩ (hasR_cons (by conv => lhs; whnf) (by rfl) rfl trivial) trivial
  clear hF5
  rintro ⟨fu, g23⟩ ⟨hl24, hF6⟩
  dsimp only at hl24 hF6 ⊢
  obtain _ | fu := fu
  · rw [m_spec_l15Num_j5] at hF6; cases hF6
  rw [m_spec_l15Num_j5] at hF6
  refine w_cond hF6 (fun hc25 hF7 => ?_) (fun hc25 hF7 => ?_) <;> clear hF6
  refine awp_seq ?_
  refine awp_region ?_
  refine s_as ?_
  refine s_as ?_
  refine k_nil ?_
  refine k_seq ?_
  refine awp_ret ?_
  refine k_seq_ret ?_
  refine k_blk_ret ?_
  refine k_seq_ret ?_
  refine k_rnd_ret2 ?_
  refine k_blk_ret ?_
  refine k_seq_ret ?_
  refine k_fin ?_
  obtain rfl := Option.some.inj hF7
  exact ends_gen [] [] (by rw [Try.results156]; exact (res_tmp (by conv => lhs; whnf) (res_tmp (by conv => lhs; whnf) res_nil)))
  refine awp_skip ?_
  refine k_seq ?_
  refine awp_region ?_
  refine s_mv ?_
  refine s_mul rfl ?_
  refine s_mv ?_
  refine s_mv ?_
  replace hF7 := bind_some' hF7
  obtain ⟨v26, hv26, hF8⟩ := hF7
  refine s_ixS hv26 yU9 ?_
  refine s_sub rfl ?_
  refine s_int yU5 yU3 rfl ?_
  refine s_add rfl ?_
  refine s_as ?_
  refine k_nil ?_
  refine k_blk ?_
  refine k_seq ?_
  refine awp_region ?_
  refine s_mv ?_
  refine s_add rfl ?_
  refine s_as ?_
  refine k_nil ?_
  exact s_rnd2 (fu, (w64 ((w64 (g16 * 10)) + (w64 (w8 (v26 - 48))))), (w64 (g17 + 1))) [] ⟨by first | omega | (dsimp only; omega), hF8⟩ (hasR_cons (by conv => lhs; whnf) (by rfl) rfl (hasR_cons (by conv => lhs; whnf) (by rfl) rfl trivial)) trivial
  refine awp_exit ?_
  refine k_seq_exit ?_
  refine k_rnd_exit2 ?_
  refine k_blk_exit ?_
  refine k_seq ?_
  refine awp_seq ?_
  refine awp_seq ?_
  refine awp_region ?_
  refine s_mv ?_
  refine k_nil ?_
  refine k_seq ?_
  refine w_cond hF5 (fun hc27 hF6 => ?_) (fun hc27 hF6 => ?_) <;> clear hF5
  refine awp_region ?_
  refine s_mv ?_
  refine s_neg rfl ?_
  refine s_as ?_
  refine k_nil ?_
  refine k_seq ?_
  refine awp_seq ?_
  refine awp_region ?_
  refine s_mv ?_
  refine s_as ?_
  refine s_as ?_
  refine k_nil ?_
  refine k_seq ?_
  refine awp_ret ?_
  refine k_fin ?_
  obtain rfl := Option.some.inj hF6
  exact ends_gen [] [] (by rw [Try.results156]; exact (res_tmp (by conv => lhs; whnf) (res_tmp (by conv => lhs; whnf) res_nil)))
  refine awp_skip ?_
  refine k_seq ?_
  refine awp_seq ?_
  refine awp_region ?_
  refine s_mv ?_
  refine s_as ?_
  refine s_as ?_
  refine k_nil ?_
  refine k_seq ?_
  refine awp_ret ?_
  refine k_fin ?_
  obtain rfl := Option.some.inj hF6
  exact ends_gen [] [] (by rw [Try.results156]; exact (res_tmp (by conv => lhs; whnf) (res_tmp (by conv => lhs; whnf) res_nil)))
def m_spec_l15Cut_AC (fuel : Nat) : Prop := ∀ (x1 : ByteArray) (x2 : Int) (r : (List ByteArray)), m_spec_l15Cut fuel x1 x2 = some r → AC Try.prog 161 [.t (.sc (.str x1)), .t (.sc (.int .u8 x2))] noOb (.t (.sl (r.map rS))) noOb
theorem m_spec_l15Cut_ok (fuel : Nat) : m_spec_l15Cut_AC fuel := by
  intro x1 x2 r hF0
  unfold m_spec_l15Cut at hF0
  refine AC_intro (rs := [.t (.sl (r.map rS))]) Try.func161 rfl (by kernel_rfl) (by simp [Try.ntmps161]) (by simp [noOb]) ?_
  intro C hC
  rw [Try.ntmps161]
  refine awp_seq ?_
  refine awp_region ?_
  refine s_as ?_
  refine k_nil ?_
  refine k_seq ?_
  refine awp_seq ?_
  refine awp_region ?_
  refine s_bs rS ([] : List ByteArray) yP95 yR9 ?_
  refine s_as ?_
  refine k_nil ?_
  refine k_seq ?_
  refine awp_seq ?_
  refine awp_region ?_
  refine s_as ?_
  refine k_nil ?_
  refine k_seq ?_
  refine awp_seq ?_
  refine awp_seq ?_
  refine awp_region ?_
  refine s_as ?_
  refine k_nil ?_
  refine k_seq ?_
  refine awp_block ?_
  refine awp_mv 5 8 5020 (by conv => lhs; whnf) (by conv => lhs; whnf) rfl ?_
  refine awp_frame2 [5, 6, 7, 9, 10, 11, 12, 13, 14, 15, 16, 17, 18, 19, 20, 21, 22, 23, 24, 25, 26, 27, 28, 29, 30, 31, 32, 33, 34] [5020] [31, 32] [5020] (fun a : Nat × (List ByteArray) × Int × Int => a.1) (fun a : Nat × (List ByteArray) × Int × Int => [(5, .ar 5020), (6, .t (.sc (.int .i64 a.2.2.1))), (7, .t (.sc (.int .i64 a.2.2.2)))]) (fun a : Nat × (List ByteArray) × Int × Int => [(5020, .arr (a.2.1.map rS) 9 true)]) (fun a : Nat × (List ByteArray) × Int × Int => a.1 ≤ fuel ∧ m_spec_l15Cut_l1 a.1 x1 x2 a.2.1 a.2.2.1 a.2.2.2 = some r) (fuel, ([] : List ByteArray), 0, 0) ⟨Nat.le_refl _, hF0⟩ (by rfl) (by rfl) (fun _ => rfl) (hasF_cons (by conv => lhs; whnf) (by rfl) (hasF_cons (by conv => lhs; whnf) (by rfl) (hasF_cons (by conv => lhs; whnf) (by rfl) hasF_nil))) (hasO_cons (by conv => lhs; whnf) (by rfl) hasO_nil) (fresh_C hC rfl) (by repeat (first | exact freshS_args rfl | refine freshS_upd rfl ?_ | refine freshS_frame rfl ?_)) (by repeat (first | exact freshM_no | exact objs_fresh rfl | refine freshM_upd rfl ?_ | refine freshM_frame rfl ?_)) ?_
  clear hF0
  rintro ⟨fu, g1, g2, g3⟩ ⟨hl4, hF1⟩
  dsimp only at hl4 hF1 ⊢
  obtain _ | fu := fu
  · rw [m_spec_l15Cut_l1] at hF1; cases hF1
  rw [m_spec_l15Cut_l1] at hF1
  refine awp_seq ?_
  refine awp_seq ?_
  refine awp_region ?_
  refine s_mv ?_
  refine s_mv ?_
  refine s_lenS yU9 ?_
  refine s_le ?_
  refine k_nil ?_
  refine k_seq ?_
  refine w_cond hF1 (fun hc5 hF2 => ?_) (fun hc5 hF2 => ?_) <;> clear hF1
  refine awp_skip ?_
  refine k_seq ?_
  refine awp_seq ?_
  refine awp_block ?_
  refine awp_seqJ [15, 16, 17, 18, 19, 20, 21, 22, 23, 24, 25] [] [] [] (fun a : Nat × Bool => [(25, .t (.sc (.bool a.2)))]) (fun a : Nat × Bool => []) (fun a : Nat × Bool => a.1 ≤ fu ∧ m_spec_l15Cut_j2 a.1 x1 x2 g1 g2 g3 a.2 = some r) (by rfl) (fun _ => rfl) (fun _ h => by cases h) freshS_nil freshM_nil ?_ ?_
  refine awp_region ?_
  refine s_mv ?_
  refine s_mv ?_
  refine s_lenS yU9 ?_
  refine s_eq ?_
  refine s_mv ?_
  refine w_guard _ 19 hF2 (fun hc6 hF3 => ?_) (fun hc6 hF3 => ?_) <;> clear hF2
  iterate 5 refine r_no rfl ?_
  refine s_pkt ?_
  refine k_nil ?_
  exact s_join (fu, true) [] ⟨by first | omega | (dsimp only; omega), hF3⟩ (hasR_cons (by conv => lhs; whnf) (by rfl) rfl trivial) trivial
  refine s_mv ?_
  refine s_mv ?_
  replace hF3 := bind_some' hF3
  obtain ⟨v7, hv7, hF4⟩ := hF3
  refine s_ixS hv7 yU9 ?_
  refine s_mv ?_
  refine s_eq ?_
  refine s_pkf ?_
  refine k_nil ?_
  exact s_join (fu, (decide (v7 = x2))) [] ⟨by first | omega | (dsimp only; omega), hF4⟩ (hasR_cons (by conv => lhs; whnf) (by rfl) rfl trivial) trivial
  clear hF2
  rintro ⟨fu, g8⟩ ⟨hl9, hF3⟩
  dsimp only at hl9 hF3 ⊢
  obtain _ | fu := fu
  · rw [m_spec_l15Cut_j2] at hF3; cases hF3
  rw [m_spec_l15Cut_j2] at hF3
  refine w_cond hF3 (fun hc10 hF4 => ?_) (fun hc10 hF4 => ?_) <;> clear hF3
  refine awp_seq ?_
  refine awp_region ?_
  iterate 4 refine s_mv ?_
  replace hF4 := bind_some' hF4
  obtain ⟨v11, hv11, hF5⟩ := hF4
  refine s_ss11 hv11 yU9 ?_
  refine s_bs rS [v11] yP95 yR9 ?_
  obtain ⟨hk12, hF6⟩ := chk_some hF5
  refine s_apT rS (fun _ => rfl) hk12 yP95 ?_
  refine s_as ?_
  refine k_nil ?_
  refine k_seq ?_
  refine awp_region ?_
  refine s_mv ?_
  refine s_add rfl ?_
  refine s_as ?_
  refine k_nil ?_
  refine k_blk ?_
  refine k_seq ?_
  refine awp_region ?_
  refine s_mv ?_
  refine s_add rfl ?_
  refine s_as ?_
  refine k_nil ?_
  exact s_rnd2 (fu, (g1 ++ [v11]), (w64 (g3 + 1)), (w64 (g3 + 1))) [(5020, 32)] ⟨by first | omega | (dsimp only; omega), hF6⟩ (hasR_cons (by conv => lhs; whnf) (by rfl) rfl (hasR_cons (by conv => lhs; whnf) (by rfl) rfl (hasR_cons (by conv => lhs; whnf) (by rfl) rfl trivial))) (hasQ_cons (by conv => lhs; whnf) (by rfl) rfl trivial)
  refine awp_skip ?_
  refine k_blk ?_
  refine k_seq ?_
  refine awp_region ?_
  refine s_mv ?_
  refine s_add rfl ?_
  refine s_as ?_
  refine k_nil ?_
  exact s_rnd2 (fu, g1, g2, (w64 (g3 + 1))) [] ⟨by first | omega | (dsimp only; omega), hF4⟩ (hasR_cons (by conv => lhs; whnf) (by rfl) rfl (hasR_cons (by conv => lhs; whnf) (by rfl) rfl (hasR_cons (by conv => lhs; whnf) (by rfl) rfl trivial))) (hasQ_cons (by conv => lhs; whnf) (by rfl) rfl trivial)
  refine awp_exit ?_
  refine k_seq_exit ?_
  refine k_rnd_exit2 ?_
  refine k_blk_exit ?_
  refine k_seq ?_
  refine awp_seq ?_
  refine awp_region ?_
  refine s_mv ?_
  refine s_as ?_
  refine k_nil ?_
  refine k_seq ?_
  refine awp_ret ?_
  refine k_fin ?_
  obtain rfl := Option.some.inj hF2
  exact ends_gen [] [5020] (by rw [Try.results161]; exact (res_tmp (by conv => lhs; whnf) res_nil))
def m_spec_l1Sets_AC (fuel : Nat) : Prop := ∀ (x1 : ByteArray) (x2 : Int) (r : ((List Int) × Int)), m_spec_l1Sets fuel x1 x2 = some r → AC Try.prog 157 [.t (.sc (.str x1)), .t (.sc (.int .i64 x2))] noOb (.tp [.t (.sl (r.1.map rI)), .t (.sc (.int .i64 r.2))]) noOb
theorem m_spec_l1Sets_ok (fuel : Nat) : m_spec_l1Sets_AC fuel := by
  intro x1 x2 r hF0
  unfold m_spec_l1Sets at hF0
  refine AC_intro (rs := [.t (.sl (r.1.map rI)), .t (.sc (.int .i64 r.2))]) Try.func157 rfl (by kernel_rfl) (by simp [Try.ntmps157]) (by simp [noOb]) ?_
  intro C hC
  rw [Try.ntmps157]
  refine awp_seq ?_
  refine awp_region ?_
  refine s_as ?_
  refine s_as ?_
  refine k_nil ?_
  refine k_seq ?_
  refine awp_seq ?_
  refine awp_region ?_
  refine s_bs rI ([] : List Int) yP22 yR3 ?_
  refine s_as ?_
  refine k_nil ?_
  refine k_seq ?_
  refine awp_seq ?_
  refine awp_seqJ [13, 14, 15, 16, 17, 18, 19, 20, 21, 22] [] [] [] (fun a : Nat × Bool => [(22, .t (.sc (.bool a.2)))]) (fun a : Nat × Bool => []) (fun a : Nat × Bool => a.1 ≤ fuel ∧ m_spec_l1Sets_j1 a.1 x1 x2 a.2 = some r) (by rfl) (fun _ => rfl) (fun _ h => by cases h) freshS_nil freshM_nil ?_ ?_
  refine awp_region ?_
  refine s_mv ?_
  refine s_mv ?_
  refine s_lenS yU9 ?_
  refine s_ge ?_
  refine s_mv ?_
  refine w_guard _ 17 hF0 (fun hc1 hF1 => ?_) (fun hc1 hF1 => ?_) <;> clear hF0
  iterate 4 refine r_no rfl ?_
  refine s_pkt ?_
  refine k_nil ?_
  exact s_join (fuel, true) [] ⟨by first | omega | (dsimp only; omega), hF1⟩ (hasR_cons (by conv => lhs; whnf) (by rfl) rfl trivial) trivial
  refine s_mv ?_
  refine s_mv ?_
  replace hF1 := bind_some' hF1
  obtain ⟨v2, hv2, hF2⟩ := hF1
  refine s_ixS hv2 yU9 ?_
  refine s_ne ?_
  refine s_pkf ?_
  refine k_nil ?_
  exact s_join (fuel, (decide (v2 ≠ 123))) [] ⟨by first | omega | (dsimp only; omega), hF2⟩ (hasR_cons (by conv => lhs; whnf) (by rfl) rfl trivial) trivial
  clear hF0
  rintro ⟨fu, g3⟩ ⟨hl4, hF1⟩
  dsimp only at hl4 hF1 ⊢
  obtain _ | fu := fu
  · rw [m_spec_l1Sets_j1] at hF1; cases hF1
  rw [m_spec_l1Sets_j1] at hF1
  refine w_cond hF1 (fun hc5 hF2 => ?_) (fun hc5 hF2 => ?_) <;> clear hF1
  refine awp_seq ?_
  refine awp_region ?_
  refine s_mv ?_
  refine s_mv ?_
  refine s_as ?_
  refine s_as ?_
  refine k_nil ?_
  refine k_seq ?_
  refine awp_ret ?_
  refine k_seq_ret ?_
  refine k_fin ?_
  obtain rfl := Option.some.inj hF2
  exact ends_gen [] [12] (by rw [Try.results157]; exact (res_tmp (by conv => lhs; whnf) (res_tmp (by conv => lhs; whnf) res_nil)))
  refine awp_skip ?_
  refine k_seq ?_
  refine awp_seq ?_
  refine awp_region ?_
  refine s_mv ?_
  refine s_as ?_
  refine k_nil ?_
  refine k_seq ?_
  refine awp_seqJ [7, 26, 27, 28, 29, 30, 31, 32, 33, 34, 35, 36, 37] [] [] [] (fun a : Nat × Int => [(7, .t (.sc (.int .i64 a.2)))]) (fun a : Nat × Int => []) (fun a : Nat × Int => a.1 ≤ fu ∧ m_spec_l1Sets_j2 a.1 x1 x2 a.2 = some r) (by rfl) (fun _ => rfl) (fun _ h => by cases h) freshS_nil freshM_nil ?_ ?_
  refine awp_block ?_
  refine awp_frame2 [7, 26, 27, 28, 29, 30, 31, 32, 33, 34, 35, 36, 37] [] [] [] (fun a : Nat × Int => a.1) (fun a : Nat × Int => [(7, .t (.sc (.int .i64 a.2)))]) (fun a : Nat × Int => []) (fun a : Nat × Int => a.1 ≤ fu ∧ m_spec_l1Sets_l3 a.1 x1 x2 a.2 = some r) (fu, x2) ⟨Nat.le_refl _, hF2⟩ (by rfl) (by rfl) (fun _ => rfl) (hasF_cons (by conv => lhs; whnf) (by rfl) hasF_nil) hasO_nil (fun _ h => by cases h) freshS_nil freshM_nil ?_
  clear hF2
  rintro ⟨fu, g6⟩ ⟨hl7, hF3⟩
  dsimp only at hl7 hF3 ⊢
  obtain _ | fu := fu
  · rw [m_spec_l1Sets_l3] at hF3; cases hF3
  rw [m_spec_l1Sets_l3] at hF3
  refine awp_seq ?_
  refine awp_seq ?_
  refine awp_region ?_
  refine s_mv ?_
  refine s_mv ?_
  refine s_lenS yU9 ?_
  refine s_lt ?_
  refine s_mv ?_
  refine w_guard _ 30 hF3 (fun hc8 hF4 => ?_) (fun hc8 hF4 => ?_) <;> clear hF3
  refine s_mv ?_
  refine s_mv ?_
  replace hF4 := bind_some' hF4
  obtain ⟨v9, hv9, hF5⟩ := hF4
  refine s_ixS hv9 yU9 ?_
  refine s_ne ?_
  refine s_pkt ?_
  refine k_nil ?_
  refine k_seq ?_
  refine w_cond hF5 (fun hc10 hF6 => ?_) (fun hc10 hF6 => ?_) <;> clear hF5
  refine awp_skip ?_
  refine k_seq ?_
  refine awp_block ?_
  refine awp_region ?_
  refine s_mv ?_
  refine s_add rfl ?_
  refine s_as ?_
  refine k_nil ?_
  refine k_blk ?_
  exact s_rnd2 (fu, (w64 (g6 + 1))) [] ⟨by first | omega | (dsimp only; omega), hF6⟩ (hasR_cons (by conv => lhs; whnf) (by rfl) rfl trivial) trivial
  refine awp_exit ?_
  refine k_seq_exit ?_
  refine k_rnd_exit2 ?_
  refine k_blk_exit ?_
  exact s_join (fu, g6) [] ⟨by first | omega | (dsimp only; omega), hF6⟩ (hasR_cons (by conv => lhs; whnf) (by rfl) rfl trivial) trivial
  iterate 4 refine r_no rfl ?_
  refine s_pkf ?_
  refine k_nil ?_
  refine k_seq ?_
  refine awp_false rfl ?_
  refine awp_exit ?_
  refine k_seq_exit ?_
  refine k_rnd_exit2 ?_
  refine k_blk_exit ?_
  exact s_join (fu, g6) [] ⟨by first | omega | (dsimp only; omega), hF4⟩ (hasR_cons (by conv => lhs; whnf) (by rfl) rfl trivial) trivial
  clear hF2
  rintro ⟨fu, g11⟩ ⟨hl12, hF3⟩
  dsimp only at hl12 hF3 ⊢
  obtain _ | fu := fu
  · rw [m_spec_l1Sets_j2] at hF3; cases hF3
  rw [m_spec_l1Sets_j2] at hF3
  refine awp_seq ?_
  refine awp_seq ?_
  refine awp_region ?_
  refine s_mv ?_
  refine s_mv ?_
  refine s_lenS yU9 ?_
  refine s_eq ?_
  refine k_nil ?_
  refine k_seq ?_
  refine w_cond hF3 (fun hc13 hF4 => ?_) (fun hc13 hF4 => ?_) <;> clear hF3
  refine awp_seq ?_
  refine awp_region ?_
  refine s_mv ?_
  refine s_as ?_
  refine s_as ?_
  refine k_nil ?_
  refine k_seq ?_
  refine awp_ret ?_
  refine k_seq_ret ?_
  refine k_fin ?_
  obtain rfl := Option.some.inj hF4
  exact ends_gen [] [12] (by rw [Try.results157]; exact (res_tmp (by conv => lhs; whnf) (res_tmp (by conv => lhs; whnf) res_nil)))
  refine awp_skip ?_
  refine k_seq ?_
  refine awp_seq ?_
  refine awp_region ?_
  refine s_mv ?_
  refine s_mv ?_
  refine s_add rfl ?_
  refine s_mv ?_
  replace hF4 := bind_some' hF4
  obtain ⟨v14, hv14, hF5⟩ := hF4
  refine s_ss11 hv14 yU9 ?_
  replace hF5 := bind_some' hF5
  obtain ⟨v15, hv15, hF6⟩ := hF5
  refine s_pure [] (m_spec_l15Cut_ok fu _ _ _ hv15) ?_
  refine s_as ?_
  refine k_nil ?_
  refine k_seq ?_
  refine awp_seq ?_
  refine awp_seq ?_
  refine awp_region ?_
  refine s_as ?_
  refine k_nil ?_
  refine k_seq ?_
  refine awp_block ?_
  refine awp_mv 6 12 5080 (by conv => lhs; whnf) (by conv => lhs; whnf) rfl ?_
  refine awp_frame2 [4, 5, 6, 9, 10, 11, 49, 50, 51, 52, 53, 54, 55, 56, 57, 58, 59, 60, 61, 62, 63, 64, 65, 66, 67, 68, 69, 70, 71, 72, 73] [5080] [72, 73] [5080] (fun a : Nat × (List Int) × Int => a.1) (fun a : Nat × (List Int) × Int => [(6, .ar 5080), (9, .t (.sc (.int .i64 a.2.2)))]) (fun a : Nat × (List Int) × Int => [(5080, .arr (a.2.1.map rI) 3 true)]) (fun a : Nat × (List Int) × Int => a.1 ≤ fu ∧ m_spec_l1Sets_l4 a.1 g11 v15 a.2.1 a.2.2 = some r) (fu, ([] : List Int), 0) ⟨Nat.le_refl _, hF6⟩ (by rfl) (by rfl) (fun _ => rfl) (hasF_cons (by conv => lhs; whnf) (by rfl) (hasF_cons (by conv => lhs; whnf) (by rfl) hasF_nil)) (hasO_cons (by conv => lhs; whnf) (by rfl) hasO_nil) (fresh_C hC rfl) (by repeat (first | exact freshS_args rfl | refine freshS_upd rfl ?_ | refine freshS_frame rfl ?_)) (by repeat (first | exact freshM_no | exact objs_fresh rfl | refine freshM_upd rfl ?_ | refine freshM_frame rfl ?_)) ?_
  clear hF6
  rintro ⟨fu, g16, g17⟩ ⟨hl18, hF7⟩
  dsimp only at hl18 hF7 ⊢
  obtain _ | fu := fu
  · rw [m_spec_l1Sets_l4] at hF7; cases hF7
  rw [m_spec_l1Sets_l4] at hF7
  refine awp_seq ?_
  refine awp_seqJ [49, 50, 51, 52, 53, 54, 55, 56] [] [] [] (fun a : Nat × Bool => [(56, .t (.sc (.bool a.2)))]) (fun a : Nat × Bool => []) (fun a : Nat × Bool => a.1 ≤ fu ∧ m_spec_l1Sets_j5 a.1 g11 v15 g16 g17 a.2 = some r) (by rfl) (fun _ => rfl) (fun _ h => by cases h) freshS_nil freshM_nil ?_ ?_
  refine awp_region ?_
  refine s_mv ?_
  refine s_mv ?_
  refine s_lenT yU95 ?_
  refine s_lt ?_
  refine s_mv ?_
  refine w_guard _ 53 hF7 (fun hc19 hF8 => ?_) (fun hc19 hF8 => ?_) <;> clear hF7
  refine s_mv ?_
  refine s_le ?_
  refine s_pkt ?_
  refine k_nil ?_
  exact s_join (fu, (decide (g17 ≤ 24))) [] ⟨by first | omega | (dsimp only; omega), hF8⟩ (hasR_cons (by conv => lhs; whnf) (by rfl) rfl trivial) trivial
  refine r_no rfl ?_
  refine r_no rfl ?_
  refine s_pkf ?_
  refine k_nil ?_
  exact s_join (fu, false) [] ⟨by first | omega | (dsimp only; omega), hF8⟩ (hasR_cons (by conv => lhs; whnf) (by rfl) rfl trivial) trivial
  clear hF7
  rintro ⟨fu, g20⟩ ⟨hl21, hF8⟩
  dsimp only at hl21 hF8 ⊢
  obtain _ | fu := fu
  · rw [m_spec_l1Sets_j5] at hF8; cases hF8
  rw [m_spec_l1Sets_j5] at hF8
  refine w_cond hF8 (fun hc22 hF9 => ?_) (fun hc22 hF9 => ?_) <;> clear hF8
  refine awp_skip ?_
  refine k_seq ?_
  refine awp_seq ?_
  refine awp_block ?_
  refine awp_seq ?_
  refine awp_region ?_
  refine s_mv ?_
  refine s_mv ?_
  replace hF9 := bind_some' hF9
  obtain ⟨v23, hv23, hF10⟩ := hF9
  refine s_ixT rS hv23 rfl yE95 ?_
  refine s_ld1 yA9 ?_
  replace hF10 := bind_some' hF10
  obtain ⟨v24, hv24, hF11⟩ := hF10
  refine s_pure [] (m_spec_l15Num_ok fu _ _ hv24) ?_
  refine s_mv ?_
  refine s_ext ?_
  refine s_ext ?_
  refine s_as ?_
  refine s_as ?_
  refine k_nil ?_
  refine k_seq ?_
  refine awp_seq ?_
  refine awp_seq ?_
  refine awp_region ?_
  refine s_mv ?_
  refine s_not ?_
  refine k_nil ?_
  refine k_seq ?_
  refine w_cond hF11 (fun hc25 hF12 => ?_) (fun hc25 hF12 => ?_) <;> clear hF11
  refine awp_seq ?_
  refine awp_region ?_
  refine s_mv ?_
  refine s_as ?_
  refine s_as ?_
  refine k_nil ?_
  refine k_seq ?_
  refine awp_ret ?_
  refine k_seq_ret ?_
  refine k_blk_ret ?_
  refine k_seq_ret ?_
  refine k_rnd_ret2 ?_
  refine k_blk_ret ?_
  refine k_seq_ret ?_
  refine k_fin ?_
  obtain rfl := Option.some.inj hF12
  exact ends_gen [] [5080] (by rw [Try.results157]; exact (res_tmp (by conv => lhs; whnf) (res_tmp (by conv => lhs; whnf) res_nil)))
  refine awp_skip ?_
  refine k_seq ?_
  refine awp_region ?_
  refine s_mv ?_
  refine s_mv ?_
  refine s_bs rI [v24.1] yP22 yR3 ?_
  obtain ⟨hk26, hF13⟩ := chk_some hF12
  refine s_apT rI (fun _ => rfl) hk26 yP22 ?_
  refine s_as ?_
  refine k_nil ?_
  refine k_blk ?_
  refine k_seq ?_
  refine awp_region ?_
  refine s_mv ?_
  refine s_add rfl ?_
  refine s_as ?_
  refine k_nil ?_
  exact s_rnd2 (fu, (g16 ++ [v24.1]), (w64 (g17 + 1))) [(5080, 73)] ⟨by first | omega | (dsimp only; omega), hF13⟩ (hasR_cons (by conv => lhs; whnf) (by rfl) rfl (hasR_cons (by conv => lhs; whnf) (by rfl) rfl trivial)) (hasQ_cons (by conv => lhs; whnf) (by rfl) rfl trivial)
  refine awp_exit ?_
  refine k_seq_exit ?_
  refine k_rnd_exit2 ?_
  refine k_blk_exit ?_
  refine k_seq ?_
  refine awp_seq ?_
  refine awp_region ?_
  refine s_mv ?_
  refine s_mv ?_
  refine s_add rfl ?_
  refine s_as ?_
  refine s_as ?_
  refine k_nil ?_
  refine k_seq ?_
  refine awp_ret ?_
  refine k_fin ?_
  obtain rfl := Option.some.inj hF9
  exact ends_gen [] [5080] (by rw [Try.results157]; exact (res_tmp (by conv => lhs; whnf) (res_tmp (by conv => lhs; whnf) res_nil)))
end Go.Abs
end
