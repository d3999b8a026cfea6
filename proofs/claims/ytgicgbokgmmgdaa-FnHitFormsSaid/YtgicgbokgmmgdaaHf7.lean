/- A part of the proof: what the functions that the law calls answer, as pure values. -/
import Derived.Test.YtgicgbokgmmgdaaHf6
import Derived.Test.YtgicgbokgmmgdaaChecked
import Derived.Lib.Strings
import Derived.Lib.Slices
import Derived.Lib.Walk
set_option linter.unusedSimpArgs false
set_option linter.unusedVariables false
section
namespace Go.Proofs
set_option maxHeartbeats 1000000 in
set_option maxRecDepth 100000 in
theorem Try.stringslite_IndexByte (s : ByteArray) (c : Int) (w : World) :
    Calls Try.prog 158 #[.string s, .int .u8 c] w fun e w' => e = .returned (.int .i64 (Lib.indexByte s.data.toList c.toNat.toUInt8)) ∧ w' = w := by
  go_enter Try.func158, Try.ntmps158
  go_wp2
  rw [run_callFunc_extern Try.func162 (by kernel_rfl) (by kernel_rfl) (by kernel_rfl) (e := Extern.BytealgIndexByte.indexByte) (by kernel_rfl), Lib.run_indexByteString]
  simp only [Result.andThen]
  rw [Oper.upon_value]
  go_wp2
  go_ret
  exact ⟨rfl, rfl⟩
end Go.Proofs
namespace Go.Proofs
set_option maxHeartbeats 1000000 in
theorem Try.strings_IndexByte (s : ByteArray) (c : Int) (w : World) :
    Calls Try.prog 152 #[.string s, .int .u8 c] w fun e w' => e = .returned (.int .i64 (Lib.indexByte s.data.toList c.toNat.toUInt8)) ∧ w' = w := by
  go_enter Try.func152, Try.ntmps152
  go_wp2_with (go_at_call 158; refine (Try.stringslite_IndexByte _ _ _).mono ?_; rintro e w' ⟨rfl, rfl⟩)
  go_ret
  exact ⟨rfl, rfl⟩
end Go.Proofs
end
section
set_option maxRecDepth 100000
set_option maxHeartbeats 4000000
set_option linter.unusedVariables false
namespace Go.Abs
open Go.Proofs
def m_spec_l4Dots_AC (fuel : Nat) : Prop := ∀ (x1 : Form) (r : Bool), m_spec_l4Dots fuel x1 = some r → AC Try.prog 100 [.ag [.t (.sc (.int .i64 x1.kind)), .t (.sc (.str x1.name)), .t (.sc (.int .i64 x1.n)), .t (.sl (x1.scopes.map rI)), .t (.sl (x1.kids.map Form.row))]] noOb (.t (.sc (.bool r))) noOb
theorem m_spec_l4Dots_ok (fuel : Nat) : m_spec_l4Dots_AC fuel := by
  intro x1 r hF0
  unfold m_spec_l4Dots at hF0
  refine AC_intro (rs := [.t (.sc (.bool r))]) Try.func100 rfl (by kernel_rfl) (by simp [Try.ntmps100]) (by simp [noOb]) ?_
  intro C hC
  rw [Try.ntmps100]
  refine awp_seq ?_
  refine awp_region ?_
  refine s_box ?_
  refine s_as ?_
  refine k_nil ?_
  refine k_seq ?_
  refine awp_seq ?_
  refine awp_region ?_
  refine s_fa yF32_0 ?_
  refine s_ld1 yA3 ?_
  refine s_eq ?_
  refine s_mv ?_
  refine w_guard _ 6 hF0 (fun hc1 hF1 => ?_) (fun hc1 hF1 => ?_) <;> clear hF0
  refine s_fa yF32_1 ?_
  refine s_ld1 yA9 ?_
  refine s_eqS ?_
  refine s_pkt ?_
  refine s_as ?_
  refine k_nil ?_
  refine k_seq ?_
  refine awp_ret ?_
  refine k_fin ?_
  obtain rfl := Option.some.inj hF1
  exact ends_gen [] [] (by rw [Try.results100]; exact (res_tmp (by conv => lhs; whnf) res_nil))
  iterate 3 refine r_no rfl ?_
  refine s_pkf ?_
  refine s_as ?_
  refine k_nil ?_
  refine k_seq ?_
  refine awp_ret ?_
  refine k_fin ?_
  obtain rfl := Option.some.inj hF1
  exact ends_gen [] [] (by rw [Try.results100]; exact (res_tmp (by conv => lhs; whnf) res_nil))
def m_strings_IndexByte_AC (fuel : Nat) : Prop := ∀ (x1 : ByteArray) (x2 : Int) (r : Int), m_strings_IndexByte fuel x1 x2 = some r → AC Try.prog 152 [.t (.sc (.str x1)), .t (.sc (.int .u8 x2))] noOb (.t (.sc (.int .i64 r))) noOb
theorem m_strings_IndexByte_ok (fuel : Nat) : m_strings_IndexByte_AC fuel := by
  intro x1 x2 r h
  obtain rfl := Option.some.inj h
  exact ac_two (a := .str x1) (b := .int .u8 x2) (r := .int .i64 _) ⟨_, Try.func152, by kernel_rfl, by kernel_rfl⟩ (fun w => Try.strings_IndexByte x1 x2 w)
def m_impl_within_AC (fuel : Nat) : Prop := ∀ (x1 : Int) (x2 : Int) (x3 : Int) (r : Bool), m_impl_within fuel x1 x2 x3 = some r → AC Try.prog 128 [.t (.sc (.int .i64 x1)), .t (.sc (.int .i64 x2)), .t (.sc (.int .i64 x3))] noOb (.t (.sc (.bool r))) noOb
theorem m_impl_within_ok (fuel : Nat) : m_impl_within_AC fuel := by
  intro x1 x2 x3 r hF0
  unfold m_impl_within at hF0
  refine AC_intro (rs := [.t (.sc (.bool r))]) Try.func128 rfl (by kernel_rfl) (by simp [Try.ntmps128]) (by simp [noOb]) ?_
  intro C hC
  rw [Try.ntmps128]
  refine awp_seq ?_
  refine awp_region ?_
  refine s_as ?_
  refine k_nil ?_
  refine k_seq ?_
  refine awp_seq ?_
  refine awp_region ?_
  refine s_mv ?_
  refine s_mv ?_
  refine s_ge ?_
  refine s_mv ?_
  refine w_guard _ 10 hF0 (fun hc1 hF1 => ?_) (fun hc1 hF1 => ?_) <;> clear hF0
  refine s_mv ?_
  refine s_mv ?_
  refine s_le ?_
  refine s_pkt ?_
  refine s_as ?_
  refine k_nil ?_
  refine k_seq ?_
  refine awp_ret ?_
  refine k_fin ?_
  obtain rfl := Option.some.inj hF1
  exact ends_gen [] [] (by rw [Try.results128]; exact (res_tmp (by conv => lhs; whnf) res_nil))
  iterate 3 refine r_no rfl ?_
  refine s_pkf ?_
  refine s_as ?_
  refine k_nil ?_
  refine k_seq ?_
  refine awp_ret ?_
  refine k_fin ?_
  obtain rfl := Option.some.inj hF1
  exact ends_gen [] [] (by rw [Try.results128]; exact (res_tmp (by conv => lhs; whnf) res_nil))
end Go.Abs
end
section
set_option maxRecDepth 100000
set_option maxHeartbeats 4000000
set_option linter.unusedVariables false
namespace Go.Abs
open Go.Proofs
def m_impl_NameValid_AC (fuel : Nat) : Prop := ∀ (x1 : ByteArray) (r : Bool), m_impl_NameValid fuel x1 = some r → AC Try.prog 142 [.t (.sc (.str x1))] noOb (.t (.sc (.bool r))) noOb
theorem m_impl_NameValid_ok (fuel : Nat) : m_impl_NameValid_AC fuel := by
  intro x1 r hF0
  unfold m_impl_NameValid at hF0
  refine AC_intro (rs := [.t (.sc (.bool r))]) Try.func142 rfl (by kernel_rfl) (by simp [Try.ntmps142]) (by simp [noOb]) ?_
  intro C hC
  rw [Try.ntmps142]
  refine awp_seq ?_
  refine awp_region ?_
  refine s_as ?_
  refine k_nil ?_
  refine k_seq ?_
  refine awp_seq ?_
  refine awp_seq ?_
  refine awp_region ?_
  refine s_mv ?_
  refine s_eqS ?_
  refine s_mv ?_
  refine w_guard _ 7 hF0 (fun hc1 hF1 => ?_) (fun hc1 hF1 => ?_) <;> clear hF0
  refine r_no rfl ?_
  refine r_no rfl ?_
  refine s_pkt ?_
  refine k_nil ?_
  refine k_seq ?_
  refine awp_true rfl ?_
  refine awp_seq ?_
  refine awp_region ?_
  refine s_as ?_
  refine k_nil ?_
  refine k_seq ?_
  refine awp_ret ?_
  refine k_seq_ret ?_
  refine k_fin ?_
  obtain rfl := Option.some.inj hF1
  exact ends_gen [] [] (by rw [Try.results142]; exact (res_tmp (by conv => lhs; whnf) res_nil))
  refine s_mv ?_
  refine s_eqS ?_
  refine s_pkf ?_
  refine k_nil ?_
  refine k_seq ?_
  refine w_cond hF1 (fun hc2 hF2 => ?_) (fun hc2 hF2 => ?_) <;> clear hF1
  refine awp_seq ?_
  refine awp_region ?_
  refine s_as ?_
  refine k_nil ?_
  refine k_seq ?_
  refine awp_ret ?_
  refine k_seq_ret ?_
  refine k_fin ?_
  obtain rfl := Option.some.inj hF2
  exact ends_gen [] [] (by rw [Try.results142]; exact (res_tmp (by conv => lhs; whnf) res_nil))
  refine awp_skip ?_
  refine k_seq ?_
  refine awp_seq ?_
  refine awp_seq ?_
  refine awp_region ?_
  refine s_as ?_
  refine k_nil ?_
  refine k_seq ?_
  refine awp_block ?_
  refine awp_frame2 [2, 3, 4, 11, 12, 13, 14, 15, 16, 17, 18, 19, 20, 21, 22, 23, 24, 25, 26, 27, 28, 29, 30, 31, 32, 33, 34, 35, 36, 37, 38, 39, 40, 41, 42, 43, 44, 45, 46] [] [] [] (fun a : Nat × Int => a.1) (fun a : Nat × Int => [(3, .t (.sc (.int .i64 a.2)))]) (fun a : Nat × Int => []) (fun a : Nat × Int => a.1 ≤ fuel ∧ m_impl_NameValid_l1 a.1 x1 a.2 = some r) (fuel, 0) ⟨Nat.le_refl _, hF2⟩ (by rfl) (by rfl) (fun _ => rfl) (hasF_cons (by conv => lhs; whnf) (by rfl) hasF_nil) hasO_nil (fun _ h => by cases h) freshS_nil freshM_nil ?_
  clear hF2
  rintro ⟨fu, g3⟩ ⟨hl4, hF3⟩
  dsimp only at hl4 hF3 ⊢
  obtain _ | fu := fu
  · rw [m_impl_NameValid_l1] at hF3; cases hF3
  rw [m_impl_NameValid_l1] at hF3
  refine awp_seq ?_
  refine awp_seq ?_
  refine awp_region ?_
  refine s_mv ?_
  refine s_mv ?_
  refine s_lenS yU9 ?_
  refine s_lt ?_
  refine k_nil ?_
  refine k_seq ?_
  refine w_cond hF3 (fun hc5 hF4 => ?_) (fun hc5 hF4 => ?_) <;> clear hF3
  refine awp_skip ?_
  refine k_seq ?_
  refine awp_seq ?_
  refine awp_block ?_
  refine awp_seq ?_
  refine awp_region ?_
  refine s_mv ?_
  refine s_mv ?_
  replace hF4 := bind_some' hF4
  obtain ⟨v6, hv6, hF5⟩ := hF4
  refine s_ixS hv6 yU9 ?_
  refine s_as ?_
  refine k_nil ?_
  refine k_seq ?_
  refine awp_block ?_
  refine awp_seq ?_
  refine awp_region ?_
  refine s_mv ?_
  refine s_ge ?_
  refine s_mv ?_
  refine w_guard _ 23 hF5 (fun hc7 hF6 => ?_) (fun hc7 hF6 => ?_) <;> clear hF5
  refine s_mv ?_
  refine s_le ?_
  refine s_pkt ?_
  refine s_mv ?_
  refine w_guard _ 27 hF6 (fun hc8 hF7 => ?_) (fun hc8 hF7 => ?_) <;> clear hF6
  iterate 3 refine r_no rfl ?_
  refine s_pkt ?_
  refine s_as ?_
  refine k_nil ?_
  refine k_seq ?_
  refine awp_true rfl ?_
  refine awp_skip ?_
  refine k_blk ?_
  refine k_blk ?_
  refine k_seq ?_
  refine awp_region ?_
  refine s_mv ?_
  refine s_add rfl ?_
  refine s_as ?_
  refine k_nil ?_
  exact s_rnd2 (fu, (w64 (g3 + 1))) [] ⟨by first | omega | (dsimp only; omega), hF7⟩ (hasR_cons (by conv => lhs; whnf) (by rfl) rfl trivial) trivial
  refine s_mv ?_
  replace hF7 := bind_some' hF7
  obtain ⟨v9, hv9, hF8⟩ := hF7
  refine s_pure [] (m_strings_IndexByte_ok fu _ _ _ hv9) ?_
  refine s_ge ?_
  refine s_pkf ?_
  refine s_as ?_
  refine k_nil ?_
  refine k_seq ?_
  refine w_cond hF8 (fun hc10 hF9 => ?_) (fun hc10 hF9 => ?_) <;> clear hF8
  refine awp_skip ?_
  refine k_blk ?_
  refine k_blk ?_
  refine k_seq ?_
  refine awp_region ?_
  refine s_mv ?_
  refine s_add rfl ?_
  refine s_as ?_
  refine k_nil ?_
  exact s_rnd2 (fu, (w64 (g3 + 1))) [] ⟨by first | omega | (dsimp only; omega), hF9⟩ (hasR_cons (by conv => lhs; whnf) (by rfl) rfl trivial) trivial
  refine awp_seq ?_
  refine awp_region ?_
  refine s_mv ?_
  refine s_gt ?_
  refine s_mv ?_
  refine w_guard _ 35 hF9 (fun hc11 hF10 => ?_) (fun hc11 hF10 => ?_) <;> clear hF9
  refine s_mv ?_
  refine s_ge ?_
  refine s_mv ?_
  refine w_guard _ 38 hF10 (fun hc12 hF11 => ?_) (fun hc12 hF11 => ?_) <;> clear hF10
  refine s_mv ?_
  refine s_le ?_
  refine s_pkt ?_
  refine s_mv ?_
  refine w_guard _ 42 hF11 (fun hc13 hF12 => ?_) (fun hc13 hF12 => ?_) <;> clear hF11
  refine r_no rfl ?_
  refine r_no rfl ?_
  refine s_pkt ?_
  refine s_pkt ?_
  refine s_as ?_
  refine k_nil ?_
  refine k_seq ?_
  refine awp_true rfl ?_
  refine awp_skip ?_
  refine k_blk ?_
  refine k_blk ?_
  refine k_seq ?_
  refine awp_region ?_
  refine s_mv ?_
  refine s_add rfl ?_
  refine s_as ?_
  refine k_nil ?_
  exact s_rnd2 (fu, (w64 (g3 + 1))) [] ⟨by first | omega | (dsimp only; omega), hF12⟩ (hasR_cons (by conv => lhs; whnf) (by rfl) rfl trivial) trivial
  refine s_mv ?_
  refine s_eq ?_
  refine s_pkf ?_
  refine s_pkt ?_
  refine s_as ?_
  refine k_nil ?_
  refine k_seq ?_
  refine w_cond hF12 (fun hc14 hF13 => ?_) (fun hc14 hF13 => ?_) <;> clear hF12
  refine awp_skip ?_
  refine k_blk ?_
  refine k_blk ?_
  refine k_seq ?_
  refine awp_region ?_
  refine s_mv ?_
  refine s_add rfl ?_
  refine s_as ?_
  refine k_nil ?_
  exact s_rnd2 (fu, (w64 (g3 + 1))) [] ⟨by first | omega | (dsimp only; omega), hF13⟩ (hasR_cons (by conv => lhs; whnf) (by rfl) rfl trivial) trivial
  refine awp_seq ?_
  refine awp_region ?_
  refine s_as ?_
  refine k_nil ?_
  refine k_seq ?_
  refine awp_ret ?_
  refine k_blk_ret ?_
  refine k_blk_ret ?_
  refine k_seq_ret ?_
  refine k_rnd_ret2 ?_
  refine k_blk_ret ?_
  refine k_seq_ret ?_
  refine k_fin ?_
  obtain rfl := Option.some.inj hF13
  exact ends_gen [] [] (by rw [Try.results142]; exact (res_tmp (by conv => lhs; whnf) res_nil))
  refine r_no rfl ?_
  refine r_no rfl ?_
  refine s_pkf ?_
  refine s_mv ?_
  refine s_mv ?_
  refine s_eq ?_
  refine s_pkf ?_
  refine s_pkt ?_
  refine s_as ?_
  refine k_nil ?_
  refine k_seq ?_
  refine w_cond hF11 (fun hc15 hF12 => ?_) (fun hc15 hF12 => ?_) <;> clear hF11
  refine awp_skip ?_
  refine k_blk ?_
  refine k_blk ?_
  refine k_seq ?_
  refine awp_region ?_
  refine s_mv ?_
  refine s_add rfl ?_
  refine s_as ?_
  refine k_nil ?_
  exact s_rnd2 (fu, (w64 (g3 + 1))) [] ⟨by first | omega | (dsimp only; omega), hF12⟩ (hasR_cons (by conv => lhs; whnf) (by rfl) rfl trivial) trivial
  refine awp_seq ?_
  refine awp_region ?_
  refine s_as ?_
  refine k_nil ?_
  refine k_seq ?_
  refine awp_ret ?_
  refine k_blk_ret ?_
  refine k_blk_ret ?_
  refine k_seq_ret ?_
  refine k_rnd_ret2 ?_
  refine k_blk_ret ?_
  refine k_seq_ret ?_
  refine k_fin ?_
  obtain rfl := Option.some.inj hF12
  exact ends_gen [] [] (by rw [Try.results142]; exact (res_tmp (by conv => lhs; whnf) res_nil))
  iterate 10 refine r_no rfl ?_
  refine s_pkf ?_
  refine s_as ?_
  refine k_nil ?_
  refine k_seq ?_
  refine awp_false rfl ?_
  refine awp_seq ?_
  refine awp_region ?_
  refine s_as ?_
  refine k_nil ?_
  refine k_seq ?_
  refine awp_ret ?_
  refine k_blk_ret ?_
  refine k_blk_ret ?_
  refine k_seq_ret ?_
  refine k_rnd_ret2 ?_
  refine k_blk_ret ?_
  refine k_seq_ret ?_
  refine k_fin ?_
  obtain rfl := Option.some.inj hF10
  exact ends_gen [] [] (by rw [Try.results142]; exact (res_tmp (by conv => lhs; whnf) res_nil))
  refine r_no rfl ?_
  refine r_no rfl ?_
  refine s_pkf ?_
  refine s_mv ?_
  refine s_mv ?_
  replace hF6 := bind_some' hF6
  obtain ⟨v16, hv16, hF7⟩ := hF6
  refine s_pure [] (m_strings_IndexByte_ok fu _ _ _ hv16) ?_
  refine s_ge ?_
  refine s_pkf ?_
  refine s_as ?_
  refine k_nil ?_
  refine k_seq ?_
  refine w_cond hF7 (fun hc17 hF8 => ?_) (fun hc17 hF8 => ?_) <;> clear hF7
  refine awp_skip ?_
  refine k_blk ?_
  refine k_blk ?_
  refine k_seq ?_
  refine awp_region ?_
  refine s_mv ?_
  refine s_add rfl ?_
  refine s_as ?_
  refine k_nil ?_
  exact s_rnd2 (fu, (w64 (g3 + 1))) [] ⟨by first | omega | (dsimp only; omega), hF8⟩ (hasR_cons (by conv => lhs; whnf) (by rfl) rfl trivial) trivial
  refine awp_seq ?_
  refine awp_region ?_
  refine s_mv ?_
  refine s_gt ?_
  refine s_mv ?_
  refine w_guard _ 35 hF8 (fun hc18 hF9 => ?_) (fun hc18 hF9 => ?_) <;> clear hF8
  refine s_mv ?_
  refine s_ge ?_
  refine s_mv ?_
  refine w_guard _ 38 hF9 (fun hc19 hF10 => ?_) (fun hc19 hF10 => ?_) <;> clear hF9
  refine s_mv ?_
  refine s_le ?_
  refine s_pkt ?_
  refine s_mv ?_
  refine w_guard _ 42 hF10 (fun hc20 hF11 => ?_) (fun hc20 hF11 => ?_) <;> clear hF10
  refine r_no rfl ?_
  refine r_no rfl ?_
  refine s_pkt ?_
  refine s_pkt ?_
  refine s_as ?_
  refine k_nil ?_
  refine k_seq ?_
  refine awp_true rfl ?_
  refine awp_skip ?_
  refine k_blk ?_
  refine k_blk ?_
  refine k_seq ?_
  refine awp_region ?_
  refine s_mv ?_
  refine s_add rfl ?_
  refine s_as ?_
  refine k_nil ?_
  exact s_rnd2 (fu, (w64 (g3 + 1))) [] ⟨by first | omega | (dsimp only; omega), hF11⟩ (hasR_cons (by conv => lhs; whnf) (by rfl) rfl trivial) trivial
  refine s_mv ?_
  refine s_eq ?_
  refine s_pkf ?_
  refine s_pkt ?_
  refine s_as ?_
  refine k_nil ?_
  refine k_seq ?_
  refine w_cond hF11 (fun hc21 hF12 => ?_) (fun hc21 hF12 => ?_) <;> clear hF11
  refine awp_skip ?_
  refine k_blk ?_
  refine k_blk ?_
  refine k_seq ?_
  refine awp_region ?_
  refine s_mv ?_
  refine s_add rfl ?_
  refine s_as ?_
  refine k_nil ?_
  exact s_rnd2 (fu, (w64 (g3 + 1))) [] ⟨by first | omega | (dsimp only; omega), hF12⟩ (hasR_cons (by conv => lhs; whnf) (by rfl) rfl trivial) trivial
  refine awp_seq ?_
  refine awp_region ?_
  refine s_as ?_
  refine k_nil ?_
  refine k_seq ?_
  refine awp_ret ?_
  refine k_blk_ret ?_
  refine k_blk_ret ?_
  refine k_seq_ret ?_
  refine k_rnd_ret2 ?_
  refine k_blk_ret ?_
  refine k_seq_ret ?_
  refine k_fin ?_
  obtain rfl := Option.some.inj hF12
  exact ends_gen [] [] (by rw [Try.results142]; exact (res_tmp (by conv => lhs; whnf) res_nil))
  refine r_no rfl ?_
  refine r_no rfl ?_
  refine s_pkf ?_
  refine s_mv ?_
  refine s_mv ?_
  refine s_eq ?_
  refine s_pkf ?_
  refine s_pkt ?_
  refine s_as ?_
  refine k_nil ?_
  refine k_seq ?_
  refine w_cond hF10 (fun hc22 hF11 => ?_) (fun hc22 hF11 => ?_) <;> clear hF10
  refine awp_skip ?_
  refine k_blk ?_
  refine k_blk ?_
  refine k_seq ?_
  refine awp_region ?_
  refine s_mv ?_
  refine s_add rfl ?_
  refine s_as ?_
  refine k_nil ?_
  exact s_rnd2 (fu, (w64 (g3 + 1))) [] ⟨by first | omega | (dsimp only; omega), hF11⟩ (hasR_cons (by conv => lhs; whnf) (by rfl) rfl trivial) trivial
  refine awp_seq ?_
  refine awp_region ?_
  refine s_as ?_
  refine k_nil ?_
  refine k_seq ?_
  refine awp_ret ?_
  refine k_blk_ret ?_
  refine k_blk_ret ?_
  refine k_seq_ret ?_
  refine k_rnd_ret2 ?_
  refine k_blk_ret ?_
  refine k_seq_ret ?_
  refine k_fin ?_
  obtain rfl := Option.some.inj hF11
  exact ends_gen [] [] (by rw [Try.results142]; exact (res_tmp (by conv => lhs; whnf) res_nil))
  iterate 10 refine r_no rfl ?_
  refine s_pkf ?_
  refine s_as ?_
  refine k_nil ?_
  refine k_seq ?_
  refine awp_false rfl ?_
  refine awp_seq ?_
  refine awp_region ?_
  refine s_as ?_
  refine k_nil ?_
  refine k_seq ?_
  refine awp_ret ?_
  refine k_blk_ret ?_
  refine k_blk_ret ?_
  refine k_seq_ret ?_
  refine k_rnd_ret2 ?_
  refine k_blk_ret ?_
  refine k_seq_ret ?_
  refine k_fin ?_
  obtain rfl := Option.some.inj hF9
  exact ends_gen [] [] (by rw [Try.results142]; exact (res_tmp (by conv => lhs; whnf) res_nil))
  refine awp_exit ?_
  refine k_seq_exit ?_
  refine k_rnd_exit2 ?_
  refine k_blk_exit ?_
  refine k_seq ?_
  refine awp_seq ?_
  refine awp_region ?_
  refine s_mv ?_
  refine s_lenS yU9 ?_
  replace hF4 := bind_some' hF4
  obtain ⟨v23, hv23, hF5⟩ := hF4
  refine s_pure [] (m_impl_within_ok fu _ _ _ _ hv23) ?_
  refine s_as ?_
  refine k_nil ?_
  refine k_seq ?_
  refine awp_ret ?_
  refine k_fin ?_
  obtain rfl := Option.some.inj hF5
  exact ends_gen [] [] (by rw [Try.results142]; exact (res_tmp (by conv => lhs; whnf) res_nil))
def m_impl_scopesOk_AC (fuel : Nat) : Prop := ∀ (x1 : (List Int)) (r : Bool), m_impl_scopesOk fuel x1 = some r → AC Try.prog 143 [.t (.sl (x1.map rI))] noOb (.t (.sc (.bool r))) noOb
theorem m_impl_scopesOk_ok (fuel : Nat) : m_impl_scopesOk_AC fuel := by
  intro x1 r hF0
  unfold m_impl_scopesOk at hF0
  refine AC_intro (rs := [.t (.sc (.bool r))]) Try.func143 rfl (by kernel_rfl) (by simp [Try.ntmps143]) (by simp [noOb]) ?_
  intro C hC
  rw [Try.ntmps143]
  refine awp_seq ?_
  refine awp_region ?_
  refine s_as ?_
  refine k_nil ?_
  refine k_seq ?_
  refine awp_seq ?_
  refine awp_seq ?_
  refine awp_region ?_
  refine s_mv ?_
  refine s_lenT yU22 ?_
  refine s_mv ?_
  refine k_nil ?_
  refine k_seq ?_
  refine awp_block ?_
  refine awp_frame2 [2, 3, 4, 7, 8, 9, 10, 11, 12, 13, 14, 15, 16, 17, 18, 19, 20, 21, 22, 23, 24, 25, 26, 27, 28] [] [] [] (fun a : Nat × Int => a.1) (fun a : Nat × Int => [(7, .t (.sc (.int .i64 a.2)))]) (fun a : Nat × Int => []) (fun a : Nat × Int => a.1 ≤ fuel ∧ m_impl_scopesOk_l1 a.1 x1 a.2 = some r ∧ 0 ≤ a.2) (fuel, 0) ⟨Nat.le_refl _, hF0, by simp⟩ (by rfl) (by rfl) (fun _ => rfl) (hasF_cons (by conv => lhs; whnf) (by rfl) hasF_nil) hasO_nil (fun _ h => by cases h) freshS_nil freshM_nil ?_
  clear hF0
  rintro ⟨fu, g1⟩ ⟨hl2, hF1, hn_g1⟩
  dsimp only at hl2 hF1 hn_g1 ⊢
  obtain _ | fu := fu
  · rw [m_impl_scopesOk_l1] at hF1; cases hF1
  rw [m_impl_scopesOk_l1] at hF1
  refine awp_seq ?_
  refine awp_region ?_
  refine s_lt ?_
  refine k_nil ?_
  refine k_seq ?_
  refine awp_seq ?_
  refine w_cond hF1 (fun hc3 hF2 => ?_) (fun hc3 hF2 => ?_) <;> clear hF1
  refine awp_lenT 0 (fun hb4 => ?_)
  refine awp_skip ?_
  refine k_seq ?_
  refine awp_seq ?_
  refine awp_block ?_
  refine awp_seq ?_
  refine awp_region ?_
  refine s_mv ?_
  replace hF2 := bind_some' hF2
  obtain ⟨v5, hv5, hF3⟩ := hF2
  refine s_ixT rI hv5 rfl yE22 ?_
  refine s_ld1 yA3 ?_
  refine s_as ?_
  refine s_as ?_
  refine k_nil ?_
  refine k_seq ?_
  refine awp_seq ?_
  refine awp_region ?_
  refine s_mv ?_
  replace hF3 := bind_some' hF3
  obtain ⟨v6, hv6, hF4⟩ := hF3
  refine s_pure [] (m_impl_within_ok fu _ _ _ _ hv6) ?_
  refine s_not ?_
  refine s_mv ?_
  refine w_guard _ 15 hF4 (fun hc7 hF5 => ?_) (fun hc7 hF5 => ?_) <;> clear hF4
  iterate 11 refine r_no rfl ?_
  refine s_pkt ?_
  refine k_nil ?_
  refine k_seq ?_
  refine awp_true rfl ?_
  refine awp_seq ?_
  refine awp_region ?_
  refine s_as ?_
  refine k_nil ?_
  refine k_seq ?_
  refine awp_ret ?_
  refine k_blk_ret ?_
  refine k_seq_ret ?_
  refine k_rnd_ret2 ?_
  refine k_blk_ret ?_
  refine k_seq_ret ?_
  refine k_fin ?_
  obtain rfl := Option.some.inj hF5
  exact ends_gen [] [] (by rw [Try.results143]; exact (res_tmp (by conv => lhs; whnf) res_nil))
  refine s_mv ?_
  refine s_gt ?_
  refine s_mv ?_
  refine w_guard _ 18 hF5 (fun hc8 hF6 => ?_) (fun hc8 hF6 => ?_) <;> clear hF5
  refine s_mv ?_
  refine s_mv ?_
  refine s_sub rfl ?_
  replace hF6 := bind_some' hF6
  obtain ⟨v9, hv9, hF7⟩ := hF6
  refine s_ixT rI hv9 rfl yE22 ?_
  refine s_ld1 yA3 ?_
  refine s_mv ?_
  refine s_ge ?_
  refine s_pkt ?_
  refine s_pkf ?_
  refine k_nil ?_
  refine k_seq ?_
  refine w_cond hF7 (fun hc10 hF8 => ?_) (fun hc10 hF8 => ?_) <;> clear hF7
  refine awp_seq ?_
  refine awp_region ?_
  refine s_as ?_
  refine k_nil ?_
  refine k_seq ?_
  refine awp_ret ?_
  refine k_blk_ret ?_
  refine k_seq_ret ?_
  refine k_rnd_ret2 ?_
  refine k_blk_ret ?_
  refine k_seq_ret ?_
  refine k_fin ?_
  obtain rfl := Option.some.inj hF8
  exact ends_gen [] [] (by rw [Try.results143]; exact (res_tmp (by conv => lhs; whnf) res_nil))
  refine awp_skip ?_
  refine k_blk ?_
  refine k_seq ?_
  refine awp_region ?_
  refine s_add (winc2 hc3 hb4 hn_g1) ?_
  refine s_mv ?_
  refine k_nil ?_
  exact s_rnd2 (fu, (g1 + 1)) [] ⟨by first | omega | (dsimp only; omega), hF8, by first | omega | (dsimp only; omega)⟩ (hasR_cons (by conv => lhs; whnf) (by rfl) rfl trivial) trivial
  iterate 7 refine r_no rfl ?_
  refine s_pkf ?_
  refine s_pkf ?_
  refine k_nil ?_
  refine k_seq ?_
  refine awp_false rfl ?_
  refine awp_skip ?_
  refine k_blk ?_
  refine k_seq ?_
  refine awp_region ?_
  refine s_add (winc2 hc3 hb4 hn_g1) ?_
  refine s_mv ?_
  refine k_nil ?_
  exact s_rnd2 (fu, (g1 + 1)) [] ⟨by first | omega | (dsimp only; omega), hF6, by first | omega | (dsimp only; omega)⟩ (hasR_cons (by conv => lhs; whnf) (by rfl) rfl trivial) trivial
  refine awp_exit ?_
  refine k_seq_exit ?_
  refine k_rnd_exit2 ?_
  refine k_blk_exit ?_
  refine k_seq ?_
  refine awp_seq ?_
  refine awp_region ?_
  refine s_mv ?_
  refine s_lenT yU22 ?_
  refine s_le ?_
  refine s_as ?_
  refine k_nil ?_
  refine k_seq ?_
  refine awp_ret ?_
  refine k_fin ?_
  obtain rfl := Option.some.inj hF2
  exact ends_gen [] [] (by rw [Try.results143]; exact (res_tmp (by conv => lhs; whnf) res_nil))
def m_impl_formOk_AC (fuel : Nat) : Prop := ∀ (x1 : Form) (x2 : Int) (o1 : Int) (r : (Bool × Int)), m_impl_formOk fuel x1 x2 o1 = some r → AC Try.prog 116 [.ag [.t (.sc (.int .i64 x1.kind)), .t (.sc (.str x1.name)), .t (.sc (.int .i64 x1.n)), .t (.sl (x1.scopes.map rI)), .t (.sl (x1.kids.map Form.row))], .t (.sc (.int .i64 x2)), .rf 9000 0] (objs [(9000, .box [.t (.sc (.int .i64 o1))])]) (.t (.sc (.bool r.1))) (objs [(9000, .box [.t (.sc (.int .i64 r.2))])])
theorem m_impl_formOk_st (fu : Nat) (ih_m_impl_formOk : ∀ k, k ≤ fu → m_impl_formOk_AC k) : m_impl_formOk_AC (fu + 1) := by
  intro x1 x2 o1 r hF0
  rw [m_impl_formOk] at hF0
  refine AC_intro (rs := [.t (.sc (.bool r.1))]) Try.func116 rfl (by kernel_rfl) (by simp [Try.ntmps116]) (keep_all rfl) ?_
  intro C hC
  rw [Try.ntmps116]
  refine awp_seq ?_
  refine awp_region ?_
  refine s_box ?_
  refine s_as ?_
  refine k_nil ?_
  refine k_seq ?_
  refine awp_seq ?_
  refine awp_region ?_
  refine s_mv ?_
  refine s_nc ?_
  refine s_ld1 yA3 ?_
  refine s_sub rfl ?_
  refine s_nc ?_
  refine s_stW yS3 ?_
  refine k_nil ?_
  refine k_seq ?_
  refine awp_seq ?_
  refine awp_seq ?_
  refine awp_region ?_
  refine s_mv ?_
  refine s_nc ?_
  refine s_ld1 yA3 ?_
  refine s_lt ?_
  refine s_mv ?_
  refine w_guard _ 18 hF0 (fun hc1 hF1 => ?_) (fun hc1 hF1 => ?_) <;> clear hF0
  refine r_no rfl ?_
  refine r_no rfl ?_
  refine s_pkt ?_
  refine k_nil ?_
  refine k_seq ?_
  refine awp_true rfl ?_
  refine awp_seq ?_
  refine awp_region ?_
  refine s_as ?_
  refine k_nil ?_
  refine k_seq ?_
  refine awp_ret ?_
  refine k_seq_ret ?_
  refine k_fin ?_
  obtain rfl := Option.some.inj hF1
  exact ends_gen _ [] (by rw [Try.results116]; exact (res_tmp (by conv => lhs; whnf) res_nil))
  refine s_mv ?_
  refine s_gt ?_
  refine s_pkf ?_
  refine k_nil ?_
  refine k_seq ?_
  refine w_cond hF1 (fun hc2 hF2 => ?_) (fun hc2 hF2 => ?_) <;> clear hF1
  refine awp_seq ?_
  refine awp_region ?_
  refine s_as ?_
  refine k_nil ?_
  refine k_seq ?_
  refine awp_ret ?_
  refine k_seq_ret ?_
  refine k_fin ?_
  obtain rfl := Option.some.inj hF2
  exact ends_gen _ [] (by rw [Try.results116]; exact (res_tmp (by conv => lhs; whnf) res_nil))
  refine awp_skip ?_
  refine k_seq ?_
  refine awp_seq ?_
  refine awp_seq ?_
  refine awp_region ?_
  refine s_fa yF32_0 ?_
  refine s_ld1 yA3 ?_
  refine k_nil ?_
  refine k_seq ?_
  refine awp_block ?_
  refine awp_seq ?_
  refine awp_region ?_
  refine s_eq ?_
  refine s_as ?_
  refine k_nil ?_
  refine k_seq ?_
  refine w_cond hF2 (fun hc3 hF3 => ?_) (fun hc3 hF3 => ?_) <;> clear hF2
  refine awp_seq ?_
  refine awp_region ?_
  refine s_fa yF32_1 ?_
  refine s_ld1 yA9 ?_
  replace hF3 := bind_some' hF3
  obtain ⟨v4, hv4, hF4⟩ := hF3
  refine s_pure [] (m_impl_NameValid_ok fu _ _ hv4) ?_
  refine s_mv ?_
  refine w_guard _ 29 hF4 (fun hc5 hF5 => ?_) (fun hc5 hF5 => ?_) <;> clear hF4
  refine s_fa yF32_2 ?_
  refine s_ld1 yA3 ?_
  refine s_eq ?_
  refine s_pkt ?_
  refine s_mv ?_
  refine w_guard _ 34 hF5 (fun hc6 hF6 => ?_) (fun hc6 hF6 => ?_) <;> clear hF5
  refine s_fa yF32_3 ?_
  refine s_ld1 yA22 ?_
  replace hF6 := bind_some' hF6
  obtain ⟨v7, hv7, hF7⟩ := hF6
  refine s_pure [] (m_impl_scopesOk_ok fu _ _ hv7) ?_
  refine s_pkt ?_
  refine s_mv ?_
  refine w_guard _ 39 hF7 (fun hc8 hF8 => ?_) (fun hc8 hF8 => ?_) <;> clear hF7
  refine s_fa yF32_4 ?_
  refine s_ld1 yA30 ?_
  refine s_lenT yU30 ?_
  refine s_eq ?_
  refine s_pkt ?_
  refine s_as ?_
  refine k_nil ?_
  refine k_seq ?_
  refine awp_ret ?_
  refine k_blk_ret ?_
  refine k_seq_ret ?_
  refine k_fin ?_
  obtain rfl := Option.some.inj hF8
  exact ends_gen _ [] (by rw [Try.results116]; exact (res_tmp (by conv => lhs; whnf) res_nil))
  iterate 4 refine r_no rfl ?_
  refine s_pkf ?_
  refine s_as ?_
  refine k_nil ?_
  refine k_seq ?_
  refine awp_ret ?_
  refine k_blk_ret ?_
  refine k_seq_ret ?_
  refine k_fin ?_
  obtain rfl := Option.some.inj hF8
  exact ends_gen _ [] (by rw [Try.results116]; exact (res_tmp (by conv => lhs; whnf) res_nil))
  iterate 3 refine r_no rfl ?_
  refine s_pkf ?_
  refine s_mv ?_
  iterate 4 refine r_no rfl ?_
  refine s_pkf ?_
  refine s_as ?_
  refine k_nil ?_
  refine k_seq ?_
  refine awp_ret ?_
  refine k_blk_ret ?_
  refine k_seq_ret ?_
  refine k_fin ?_
  obtain rfl := Option.some.inj hF6
  exact ends_gen _ [] (by rw [Try.results116]; exact (res_tmp (by conv => lhs; whnf) res_nil))
  iterate 3 refine r_no rfl ?_
  refine s_pkf ?_
  refine s_mv ?_
  iterate 3 refine r_no rfl ?_
  refine s_pkf ?_
  refine s_mv ?_
  iterate 4 refine r_no rfl ?_
  refine s_pkf ?_
  refine s_as ?_
  refine k_nil ?_
  refine k_seq ?_
  refine awp_ret ?_
  refine k_blk_ret ?_
  refine k_seq_ret ?_
  refine k_fin ?_
  obtain rfl := Option.some.inj hF5
  exact ends_gen _ [] (by rw [Try.results116]; exact (res_tmp (by conv => lhs; whnf) res_nil))
  refine awp_seq ?_
  refine awp_region ?_
  refine s_eq ?_
  refine s_as ?_
  refine k_nil ?_
  refine k_seq ?_
  refine w_cond hF3 (fun hc9 hF4 => ?_) (fun hc9 hF4 => ?_) <;> clear hF3
  refine awp_seq ?_
  refine awp_region ?_
  refine s_fa yF32_1 ?_
  refine s_ld1 yA9 ?_
  refine s_eqS ?_
  refine s_mv ?_
  refine w_guard _ 50 hF4 (fun hc10 hF5 => ?_) (fun hc10 hF5 => ?_) <;> clear hF4
  refine s_fa yF32_2 ?_
  refine s_ld1 yA3 ?_
  replace hF5 := bind_some' hF5
  obtain ⟨v11, hv11, hF6⟩ := hF5
  refine s_pure [] (m_impl_within_ok fu _ _ _ _ hv11) ?_
  refine s_pkt ?_
  refine s_mv ?_
  refine w_guard _ 55 hF6 (fun hc12 hF7 => ?_) (fun hc12 hF7 => ?_) <;> clear hF6
  refine s_fa yF32_3 ?_
  refine s_ld1 yA22 ?_
  refine s_lenT yU22 ?_
  refine s_eq ?_
  refine s_pkt ?_
  refine s_mv ?_
  refine w_guard _ 61 hF7 (fun hc13 hF8 => ?_) (fun hc13 hF8 => ?_) <;> clear hF7
  refine s_fa yF32_4 ?_
  refine s_ld1 yA30 ?_
  refine s_lenT yU30 ?_
  refine s_eq ?_
  refine s_pkt ?_
  refine s_as ?_
  refine k_nil ?_
  refine k_seq ?_
  refine awp_ret ?_
  refine k_blk_ret ?_
  refine k_seq_ret ?_
  refine k_fin ?_
  obtain rfl := Option.some.inj hF8
  exact ends_gen _ [] (by rw [Try.results116]; exact (res_tmp (by conv => lhs; whnf) res_nil))
  iterate 4 refine r_no rfl ?_
  refine s_pkf ?_
  refine s_as ?_
  refine k_nil ?_
  refine k_seq ?_
  refine awp_ret ?_
  refine k_blk_ret ?_
  refine k_seq_ret ?_
  refine k_fin ?_
  obtain rfl := Option.some.inj hF8
  exact ends_gen _ [] (by rw [Try.results116]; exact (res_tmp (by conv => lhs; whnf) res_nil))
  iterate 4 refine r_no rfl ?_
  refine s_pkf ?_
  refine s_mv ?_
  iterate 4 refine r_no rfl ?_
  refine s_pkf ?_
  refine s_as ?_
  refine k_nil ?_
  refine k_seq ?_
  refine awp_ret ?_
  refine k_blk_ret ?_
  refine k_seq_ret ?_
  refine k_fin ?_
  obtain rfl := Option.some.inj hF7
  exact ends_gen _ [] (by rw [Try.results116]; exact (res_tmp (by conv => lhs; whnf) res_nil))
  iterate 3 refine r_no rfl ?_
  refine s_pkf ?_
  refine s_mv ?_
  iterate 4 refine r_no rfl ?_
  refine s_pkf ?_
  refine s_mv ?_
  iterate 4 refine r_no rfl ?_
  refine s_pkf ?_
  refine s_as ?_
  refine k_nil ?_
  refine k_seq ?_
  refine awp_ret ?_
  refine k_blk_ret ?_
  refine k_seq_ret ?_
  refine k_fin ?_
  obtain rfl := Option.some.inj hF5
  exact ends_gen _ [] (by rw [Try.results116]; exact (res_tmp (by conv => lhs; whnf) res_nil))
  refine awp_seq ?_
  refine awp_region ?_
  refine s_eq ?_
  refine s_as ?_
  refine k_nil ?_
  refine k_seq ?_
  refine w_cond hF4 (fun hc14 hF5 => ?_) (fun hc14 hF5 => ?_) <;> clear hF4
  refine awp_seq ?_
  refine awp_seq ?_
  refine awp_region ?_
  refine s_fa yF32_1 ?_
  refine s_ld1 yA9 ?_
  refine s_neS ?_
  refine s_mv ?_
  refine w_guard _ 72 hF5 (fun hc15 hF6 => ?_) (fun hc15 hF6 => ?_) <;> clear hF5
  iterate 3 refine r_no rfl ?_
  refine s_pkt ?_
  refine s_mv ?_
  iterate 4 refine r_no rfl ?_
  refine s_pkt ?_
  refine k_nil ?_
  refine k_seq ?_
  refine awp_true rfl ?_
  refine awp_seq ?_
  refine awp_region ?_
  refine s_as ?_
  refine k_nil ?_
  refine k_seq ?_
  refine awp_ret ?_
  refine k_seq_ret ?_
  refine k_blk_ret ?_
  refine k_seq_ret ?_
  refine k_fin ?_
  obtain rfl := Option.some.inj hF6
  exact ends_gen _ [] (by rw [Try.results116]; exact (res_tmp (by conv => lhs; whnf) res_nil))
  refine s_fa yF32_2 ?_
  refine s_ld1 yA3 ?_
  refine s_ne ?_
  refine s_pkf ?_
  refine s_mv ?_
  refine w_guard _ 77 hF6 (fun hc16 hF7 => ?_) (fun hc16 hF7 => ?_) <;> clear hF6
  iterate 4 refine r_no rfl ?_
  refine s_pkt ?_
  refine k_nil ?_
  refine k_seq ?_
  refine awp_true rfl ?_
  refine awp_seq ?_
  refine awp_region ?_
  refine s_as ?_
  refine k_nil ?_
  refine k_seq ?_
  refine awp_ret ?_
  refine k_seq_ret ?_
  refine k_blk_ret ?_
  refine k_seq_ret ?_
  refine k_fin ?_
  obtain rfl := Option.some.inj hF7
  exact ends_gen _ [] (by rw [Try.results116]; exact (res_tmp (by conv => lhs; whnf) res_nil))
  refine s_fa yF32_3 ?_
  refine s_ld1 yA22 ?_
  refine s_lenT yU22 ?_
  refine s_gt ?_
  refine s_pkf ?_
  refine k_nil ?_
  refine k_seq ?_
  refine w_cond hF7 (fun hc17 hF8 => ?_) (fun hc17 hF8 => ?_) <;> clear hF7
  refine awp_lenT 79 (fun hb18 => ?_)
  refine awp_seq ?_
  refine awp_region ?_
  refine s_as ?_
  refine k_nil ?_
  refine k_seq ?_
  refine awp_ret ?_
  refine k_seq_ret ?_
  refine k_blk_ret ?_
  refine k_seq_ret ?_
  refine k_fin ?_
  obtain rfl := Option.some.inj hF8
  exact ends_gen _ [] (by rw [Try.results116]; exact (res_tmp (by conv => lhs; whnf) res_nil))
  refine awp_skip ?_
  refine k_seq ?_
  refine awp_seq ?_
  refine awp_seq ?_
  refine awp_region ?_
  refine s_fa yF32_4 ?_
  refine s_ld1 yA30 ?_
  refine s_lenT yU30 ?_
  refine s_mv ?_
  refine k_nil ?_
  refine k_seq ?_
  refine awp_block ?_
  refine awp_frame2 [6, 8, 86, 87, 88, 89, 90, 91, 92, 93, 94, 95, 96] [9000] [8] [] (fun a : Nat × Int × Int => a.1) (fun a : Nat × Int × Int => [(86, .t (.sc (.int .i64 a.2.1)))]) (fun a : Nat × Int × Int => [(9000, .box [.t (.sc (.int .i64 a.2.2))])]) (fun a : Nat × Int × Int => a.1 ≤ fu ∧ m_impl_formOk_l1 a.1 x1 x2 a.2.1 a.2.2 = some r ∧ 0 ≤ a.2.1) (fu, 0, (w64 (o1 - 1))) ⟨Nat.le_refl _, hF8, by simp⟩ (by rfl) (by rfl) (fun _ => rfl) (hasF_cons (by conv => lhs; whnf) (by rfl) hasF_nil) (hasO_cons (by conv => lhs; whnf) (by rfl) hasO_nil) (fun _ h => by cases h) freshS_nil freshM_nil ?_
  clear hF8
  rintro ⟨fu, g19, g20⟩ ⟨hl21, hF9, hn_g19⟩
  dsimp only at hl21 hF9 hn_g19 ⊢
  obtain _ | fu := fu
  · rw [m_impl_formOk_l1] at hF9; cases hF9
  rw [m_impl_formOk_l1] at hF9
  refine awp_seq ?_
  refine awp_region ?_
  refine s_lt ?_
  refine k_nil ?_
  refine k_seq ?_
  refine awp_seq ?_
  refine w_cond hF9 (fun hc22 hF10 => ?_) (fun hc22 hF10 => ?_) <;> clear hF9
  refine awp_lenT 84 (fun hb23 => ?_)
  refine awp_skip ?_
  refine k_seq ?_
  refine awp_seq ?_
  refine awp_block ?_
  refine awp_seq ?_
  refine awp_region ?_
  replace hF10 := bind_some' hF10
  obtain ⟨v24, hv24, hF11⟩ := hF10
  refine s_ixT Form.row hv24 (Form.row_eq _) yE30 ?_
  refine s_ldN yA32 yS32 ?_
  refine s_alloc yZ32 ?_
  refine s_stW yS32 ?_
  refine k_nil ?_
  refine k_seq ?_
  refine awp_seq ?_
  refine awp_region ?_
  refine s_ldW yA32 yS32 ?_
  refine s_mv ?_
  refine s_add rfl ?_
  refine s_mv ?_
  replace hF11 := bind_some' hF11
  obtain ⟨v25, hv25, hF12⟩ := hF11
  refine s_call [(9000, 9000)] [] _ _ (ih_m_impl_formOk fu (by omega) _ _ _ _ hv25) ?_
  refine s_not ?_
  refine k_nil ?_
  refine k_seq ?_
  refine w_cond hF12 (fun hc26 hF13 => ?_) (fun hc26 hF13 => ?_) <;> clear hF12
  refine awp_seq ?_
  refine awp_region ?_
  refine s_as ?_
  refine k_nil ?_
  refine k_seq ?_
  refine awp_ret ?_
  refine k_blk_ret ?_
  refine k_seq_ret ?_
  refine k_rnd_ret2 ?_
  refine k_blk_ret ?_
  refine k_seq_ret ?_
  refine k_blk_ret ?_
  refine k_seq_ret ?_
  refine k_fin ?_
  obtain rfl := Option.some.inj hF13
  exact ends_gen _ [] (by rw [Try.results116]; exact (res_tmp (by conv => lhs; whnf) res_nil))
  refine awp_skip ?_
  refine k_blk ?_
  refine k_seq ?_
  refine awp_region ?_
  refine s_add (winc2 hc22 hb23 hn_g19) ?_
  refine s_mv ?_
  refine k_nil ?_
  exact s_rnd2 (fu, (g19 + 1), v25.2) [] ⟨by first | omega | (dsimp only; omega), hF13, by first | omega | (dsimp only; omega)⟩ (hasR_cons (by conv => lhs; whnf) (by rfl) rfl trivial) (hasQ_cons (by conv => lhs; whnf) (by rfl) rfl trivial)
  refine awp_exit ?_
  refine k_seq_exit ?_
  refine k_rnd_exit2 ?_
  refine k_blk_exit ?_
  refine k_seq ?_
  refine awp_seq ?_
  refine awp_region ?_
  refine s_as ?_
  refine k_nil ?_
  refine k_seq ?_
  refine awp_ret ?_
  refine k_blk_ret ?_
  refine k_seq_ret ?_
  refine k_fin ?_
  obtain rfl := Option.some.inj hF10
  exact ends_gen _ [] (by rw [Try.results116]; exact (res_tmp (by conv => lhs; whnf) res_nil))
  refine awp_skip ?_
  refine k_blk ?_
  refine k_seq ?_
  refine awp_seq ?_
  refine awp_region ?_
  refine s_as ?_
  refine k_nil ?_
  refine k_seq ?_
  refine awp_ret ?_
  refine k_fin ?_
  obtain rfl := Option.some.inj hF5
  exact ends_gen _ [] (by rw [Try.results116]; exact (res_tmp (by conv => lhs; whnf) res_nil))
theorem m_impl_formOk_all (fuel : Nat) : m_impl_formOk_AC fuel := by
  induction fuel using Nat.strongRecOn with
  | _ N ih =>
    cases N with
    | zero => exact (by intro x1 x2 o1 r h; rw [m_impl_formOk] at h; cases h)
    | succ fu => exact m_impl_formOk_st fu (fun k hk => (ih k (by omega)))
theorem m_impl_formOk_ok (fuel : Nat) : m_impl_formOk_AC fuel := (m_impl_formOk_all fuel)
def m_impl_FormValid_AC (fuel : Nat) : Prop := ∀ (x1 : Form) (r : Bool), m_impl_FormValid fuel x1 = some r → AC Try.prog 77 [.ag [.t (.sc (.int .i64 x1.kind)), .t (.sc (.str x1.name)), .t (.sc (.int .i64 x1.n)), .t (.sl (x1.scopes.map rI)), .t (.sl (x1.kids.map Form.row))]] noOb (.t (.sc (.bool r))) noOb
theorem m_impl_FormValid_ok (fuel : Nat) : m_impl_FormValid_AC fuel := by
  intro x1 r hF0
  unfold m_impl_FormValid at hF0
  refine AC_intro (rs := [.t (.sc (.bool r))]) Try.func77 rfl (by kernel_rfl) (by simp [Try.ntmps77]) (by simp [noOb]) ?_
  intro C hC
  rw [Try.ntmps77]
  refine awp_seq ?_
  refine awp_region ?_
  refine s_box ?_
  refine s_as ?_
  refine k_nil ?_
  refine k_seq ?_
  refine awp_seq ?_
  refine awp_region ?_
  refine s_alloc yZ3 ?_
  refine s_stW yS3 ?_
  refine k_nil ?_
  refine k_seq ?_
  refine awp_seq ?_
  refine awp_region ?_
  refine s_ldW yA32 yS32 ?_
  replace hF0 := bind_some' hF0
  obtain ⟨v1, hv1, hF1⟩ := hF0
  refine s_call [(9000, 3)] [] _ _ (m_impl_formOk_ok fuel _ _ _ _ hv1) ?_
  refine s_as ?_
  refine k_nil ?_
  refine k_seq ?_
  refine awp_ret ?_
  refine k_fin ?_
  obtain rfl := Option.some.inj hF1
  exact ends_gen [] [] (by rw [Try.results77]; exact (res_tmp (by conv => lhs; whnf) res_nil))
def m_impl_isName_AC (fuel : Nat) : Prop := ∀ (x1 : Form) (r : Bool), m_impl_isName fuel x1 = some r → AC Try.prog 117 [.ag [.t (.sc (.int .i64 x1.kind)), .t (.sc (.str x1.name)), .t (.sc (.int .i64 x1.n)), .t (.sl (x1.scopes.map rI)), .t (.sl (x1.kids.map Form.row))]] noOb (.t (.sc (.bool r))) noOb
theorem m_impl_isName_ok (fuel : Nat) : m_impl_isName_AC fuel := by
  intro x1 r hF0
  unfold m_impl_isName at hF0
  refine AC_intro (rs := [.t (.sc (.bool r))]) Try.func117 rfl (by kernel_rfl) (by simp [Try.ntmps117]) (by simp [noOb]) ?_
  intro C hC
  rw [Try.ntmps117]
  refine awp_seq ?_
  refine awp_region ?_
  refine s_box ?_
  refine s_as ?_
  refine k_nil ?_
  refine k_seq ?_
  refine awp_seq ?_
  refine awp_region ?_
  refine s_fa yF32_0 ?_
  refine s_ld1 yA3 ?_
  refine s_eq ?_
  refine s_mv ?_
  refine w_guard _ 6 hF0 (fun hc1 hF1 => ?_) (fun hc1 hF1 => ?_) <;> clear hF0
  refine s_ldW yA32 yS32 ?_
  replace hF1 := bind_some' hF1
  obtain ⟨v2, hv2, hF2⟩ := hF1
  refine s_pure [] (m_impl_FormValid_ok fuel _ _ hv2) ?_
  refine s_pkt ?_
  refine s_as ?_
  refine k_nil ?_
  refine k_seq ?_
  refine awp_ret ?_
  refine k_fin ?_
  obtain rfl := Option.some.inj hF2
  exact ends_gen [] [] (by rw [Try.results117]; exact (res_tmp (by conv => lhs; whnf) res_nil))
  refine r_no rfl ?_
  refine r_no rfl ?_
  refine s_pkf ?_
  refine s_as ?_
  refine k_nil ?_
  refine k_seq ?_
  refine awp_ret ?_
  refine k_fin ?_
  obtain rfl := Option.some.inj hF1
  exact ends_gen [] [] (by rw [Try.results117]; exact (res_tmp (by conv => lhs; whnf) res_nil))
def m_slices_Equal_int_AC (fuel : Nat) : Prop := ∀ (x1 : (List Int)) (x2 : (List Int)) (r : Bool), m_slices_Equal_int fuel x1 x2 = some r → AC Try.prog 69 [.t (.sl (x1.map rI)), .t (.sl (x2.map rI))] noOb (.t (.sc (.bool r))) noOb
theorem m_slices_Equal_int_ok (fuel : Nat) : m_slices_Equal_int_AC fuel := by
  intro x1 x2 r hF0
  unfold m_slices_Equal_int at hF0
  refine AC_intro (rs := [.t (.sc (.bool r))]) Try.func69 rfl (by kernel_rfl) (by simp [Try.ntmps69]) (by simp [noOb]) ?_
  intro C hC
  rw [Try.ntmps69]
  refine awp_seq ?_
  refine awp_region ?_
  refine s_as ?_
  refine k_nil ?_
  refine k_seq ?_
  refine awp_seq ?_
  refine awp_seq ?_
  refine awp_region ?_
  refine s_mv ?_
  refine s_lenT yU22 ?_
  refine s_mv ?_
  refine s_lenT yU22 ?_
  refine s_ne ?_
  refine k_nil ?_
  refine k_seq ?_
  refine w_cond hF0 (fun hc1 hF1 => ?_) (fun hc1 hF1 => ?_) <;> clear hF0
  refine awp_seq ?_
  refine awp_region ?_
  refine s_as ?_
  refine k_nil ?_
  refine k_seq ?_
  refine awp_ret ?_
  refine k_seq_ret ?_
  refine k_fin ?_
  obtain rfl := Option.some.inj hF1
  exact ends_gen [] [] (by rw [Try.results69]; exact (res_tmp (by conv => lhs; whnf) res_nil))
  refine awp_skip ?_
  refine k_seq ?_
  refine awp_seq ?_
  refine awp_seq ?_
  refine awp_region ?_
  refine s_mv ?_
  refine s_lenT yU22 ?_
  refine s_mv ?_
  refine k_nil ?_
  refine k_seq ?_
  refine awp_block ?_
  refine awp_frame2 [4, 5, 13, 14, 15, 16, 17, 18, 19, 20, 21, 22, 23, 24, 25] [] [] [] (fun a : Nat × Int => a.1) (fun a : Nat × Int => [(13, .t (.sc (.int .i64 a.2)))]) (fun a : Nat × Int => []) (fun a : Nat × Int => a.1 ≤ fuel ∧ m_slices_Equal_int_l1 a.1 x1 x2 a.2 = some r ∧ 0 ≤ a.2) (fuel, 0) ⟨Nat.le_refl _, hF1, by simp⟩ (by rfl) (by rfl) (fun _ => rfl) (hasF_cons (by conv => lhs; whnf) (by rfl) hasF_nil) hasO_nil (fun _ h => by cases h) freshS_nil freshM_nil ?_
  clear hF1
  rintro ⟨fu, g2⟩ ⟨hl3, hF2, hn_g2⟩
  dsimp only at hl3 hF2 hn_g2 ⊢
  obtain _ | fu := fu
  · rw [m_slices_Equal_int_l1] at hF2; cases hF2
  rw [m_slices_Equal_int_l1] at hF2
  refine awp_seq ?_
  refine awp_region ?_
  refine s_lt ?_
  refine k_nil ?_
  refine k_seq ?_
  refine awp_seq ?_
  refine w_cond hF2 (fun hc4 hF3 => ?_) (fun hc4 hF3 => ?_) <;> clear hF2
  refine awp_lenT 0 (fun hb5 => ?_)
  refine awp_skip ?_
  refine k_seq ?_
  refine awp_seq ?_
  refine awp_block ?_
  refine awp_seq ?_
  refine awp_region ?_
  refine s_mv ?_
  refine s_as ?_
  refine k_nil ?_
  refine k_seq ?_
  refine awp_seq ?_
  refine awp_draw yMix (by kernel_rfl) ?_
  refine s_mv ?_
  refine s_mv ?_
  replace hF3 := bind_some' hF3
  obtain ⟨v6, hv6, hF4⟩ := hF3
  refine s_ixT rI hv6 rfl yE22 ?_
  refine s_ld1 yA3 ?_
  refine s_mv ?_
  refine s_mv ?_
  replace hF4 := bind_some' hF4
  obtain ⟨v7, hv7, hF5⟩ := hF4
  refine s_ixT rI hv7 rfl yE22 ?_
  refine s_ld1 yA3 ?_
  refine s_ne ?_
  refine k_nilD (by kernel_rfl) ?_
  refine k_seq ?_
  refine w_cond hF5 (fun hc8 hF6 => ?_) (fun hc8 hF6 => ?_) <;> clear hF5
  refine awp_seq ?_
  refine awp_region ?_
  refine s_as ?_
  refine k_nil ?_
  refine k_seq ?_
  refine awp_ret ?_
  refine k_blk_ret ?_
  refine k_seq_ret ?_
  refine k_rnd_ret2 ?_
  refine k_blk_ret ?_
  refine k_seq_ret ?_
  refine k_fin ?_
  obtain rfl := Option.some.inj hF6
  exact ends_gen [] [] (by rw [Try.results69]; exact (res_tmp (by conv => lhs; whnf) res_nil))
  refine awp_skip ?_
  refine k_blk ?_
  refine k_seq ?_
  refine awp_region ?_
  refine s_add (winc2 hc4 hb5 hn_g2) ?_
  refine s_mv ?_
  refine k_nil ?_
  exact s_rnd2 (fu, (g2 + 1)) [] ⟨by first | omega | (dsimp only; omega), hF6, by first | omega | (dsimp only; omega)⟩ (hasR_cons (by conv => lhs; whnf) (by rfl) rfl trivial) trivial
  refine awp_exit ?_
  refine k_seq_exit ?_
  refine k_rnd_exit2 ?_
  refine k_blk_exit ?_
  refine k_seq ?_
  refine awp_seq ?_
  refine awp_region ?_
  refine s_as ?_
  refine k_nil ?_
  refine k_seq ?_
  refine awp_ret ?_
  refine k_fin ?_
  obtain rfl := Option.some.inj hF3
  exact ends_gen [] [] (by rw [Try.results69]; exact (res_tmp (by conv => lhs; whnf) res_nil))
def m_impl_FormSame_AC (fuel : Nat) : Prop := ∀ (x1 : Form) (x2 : Form) (r : Bool), m_impl_FormSame fuel x1 x2 = some r → AC Try.prog 33 [.ag [.t (.sc (.int .i64 x1.kind)), .t (.sc (.str x1.name)), .t (.sc (.int .i64 x1.n)), .t (.sl (x1.scopes.map rI)), .t (.sl (x1.kids.map Form.row))], .ag [.t (.sc (.int .i64 x2.kind)), .t (.sc (.str x2.name)), .t (.sc (.int .i64 x2.n)), .t (.sl (x2.scopes.map rI)), .t (.sl (x2.kids.map Form.row))]] noOb (.t (.sc (.bool r))) noOb
def m_slices_EqualFunc_Form_FormSame_AC (fuel : Nat) : Prop := ∀ (x1 : (List Form)) (x2 : (List Form)) (r : Bool), m_slices_EqualFunc_Form_FormSame fuel x1 x2 = some r → AC Try.prog 70 [.t (.sl (x1.map Form.row)), .t (.sl (x2.map Form.row)), .fn 33 []] noOb (.t (.sc (.bool r))) noOb
theorem m_impl_FormSame_st (fu : Nat) (ih_m_impl_FormSame : ∀ k, k ≤ fu → m_impl_FormSame_AC k) (ih_m_slices_EqualFunc_Form_FormSame : ∀ k, k ≤ fu → m_slices_EqualFunc_Form_FormSame_AC k) : m_impl_FormSame_AC (fu + 1) := by
  intro x1 x2 r hF0
  rw [m_impl_FormSame] at hF0
  refine AC_intro (rs := [.t (.sc (.bool r))]) Try.func33 rfl (by kernel_rfl) (by simp [Try.ntmps33]) (by simp [noOb]) ?_
  intro C hC
  rw [Try.ntmps33]
  refine awp_seq ?_
  refine awp_region ?_
  refine s_box ?_
  refine s_box ?_
  refine s_as ?_
  refine k_nil ?_
  refine k_seq ?_
  refine awp_seq ?_
  refine awp_region ?_
  refine s_fa yF32_0 ?_
  refine s_ld1 yA3 ?_
  refine s_fa yF32_0 ?_
  refine s_ld1 yA3 ?_
  refine s_eq ?_
  refine s_mv ?_
  refine w_guard _ 10 hF0 (fun hc1 hF1 => ?_) (fun hc1 hF1 => ?_) <;> clear hF0
  refine s_fa yF32_1 ?_
  refine s_ld1 yA9 ?_
  refine s_fa yF32_1 ?_
  refine s_ld1 yA9 ?_
  refine s_eqS ?_
  refine s_pkt ?_
  refine s_mv ?_
  refine w_guard _ 17 hF1 (fun hc2 hF2 => ?_) (fun hc2 hF2 => ?_) <;> clear hF1
  refine s_fa yF32_2 ?_
  refine s_ld1 yA3 ?_
  refine s_fa yF32_2 ?_
  refine s_ld1 yA3 ?_
  refine s_eq ?_
  refine s_pkt ?_
  refine s_mv ?_
  refine w_guard _ 24 hF2 (fun hc3 hF3 => ?_) (fun hc3 hF3 => ?_) <;> clear hF2
  refine s_fa yF32_3 ?_
  refine s_ld1 yA22 ?_
  refine s_fa yF32_3 ?_
  refine s_ld1 yA22 ?_
  replace hF3 := bind_some' hF3
  obtain ⟨v4, hv4, hF4⟩ := hF3
  refine s_pure [] (m_slices_Equal_int_ok fu _ _ _ hv4) ?_
  refine s_pkt ?_
  refine s_mv ?_
  refine w_guard _ 31 hF4 (fun hc5 hF5 => ?_) (fun hc5 hF5 => ?_) <;> clear hF4
  refine s_fa yF32_4 ?_
  refine s_ld1 yA30 ?_
  refine s_fa yF32_4 ?_
  refine s_ld1 yA30 ?_
  replace hF5 := bind_some' hF5
  obtain ⟨v6, hv6, hF6⟩ := hF5
  refine s_pure [] (ih_m_slices_EqualFunc_Form_FormSame fu (by omega) _ _ _ hv6) ?_
  refine s_pkt ?_
  refine s_as ?_
  refine k_nil ?_
  refine k_seq ?_
  refine awp_ret ?_
  refine k_fin ?_
  obtain rfl := Option.some.inj hF6
  exact ends_gen [] [] (by rw [Try.results33]; exact (res_tmp (by conv => lhs; whnf) res_nil))
  iterate 5 refine r_no rfl ?_
  refine s_pkf ?_
  refine s_as ?_
  refine k_nil ?_
  refine k_seq ?_
  refine awp_ret ?_
  refine k_fin ?_
  obtain rfl := Option.some.inj hF5
  exact ends_gen [] [] (by rw [Try.results33]; exact (res_tmp (by conv => lhs; whnf) res_nil))
  iterate 5 refine r_no rfl ?_
  refine s_pkf ?_
  refine s_mv ?_
  iterate 5 refine r_no rfl ?_
  refine s_pkf ?_
  refine s_as ?_
  refine k_nil ?_
  refine k_seq ?_
  refine awp_ret ?_
  refine k_fin ?_
  obtain rfl := Option.some.inj hF3
  exact ends_gen [] [] (by rw [Try.results33]; exact (res_tmp (by conv => lhs; whnf) res_nil))
  iterate 5 refine r_no rfl ?_
  refine s_pkf ?_
  refine s_mv ?_
  iterate 5 refine r_no rfl ?_
  refine s_pkf ?_
  refine s_mv ?_
  iterate 5 refine r_no rfl ?_
  refine s_pkf ?_
  refine s_as ?_
  refine k_nil ?_
  refine k_seq ?_
  refine awp_ret ?_
  refine k_fin ?_
  obtain rfl := Option.some.inj hF2
  exact ends_gen [] [] (by rw [Try.results33]; exact (res_tmp (by conv => lhs; whnf) res_nil))
  iterate 5 refine r_no rfl ?_
  refine s_pkf ?_
  refine s_mv ?_
  iterate 5 refine r_no rfl ?_
  refine s_pkf ?_
  refine s_mv ?_
  iterate 5 refine r_no rfl ?_
  refine s_pkf ?_
  refine s_mv ?_
  iterate 5 refine r_no rfl ?_
  refine s_pkf ?_
  refine s_as ?_
  refine k_nil ?_
  refine k_seq ?_
  refine awp_ret ?_
  refine k_fin ?_
  obtain rfl := Option.some.inj hF1
  exact ends_gen [] [] (by rw [Try.results33]; exact (res_tmp (by conv => lhs; whnf) res_nil))
theorem m_slices_EqualFunc_Form_FormSame_st (fu : Nat) (ih_m_impl_FormSame : ∀ k, k ≤ fu → m_impl_FormSame_AC k) (ih_m_slices_EqualFunc_Form_FormSame : ∀ k, k ≤ fu → m_slices_EqualFunc_Form_FormSame_AC k) : m_slices_EqualFunc_Form_FormSame_AC (fu + 1) := by
  intro x1 x2 r hF0
  rw [m_slices_EqualFunc_Form_FormSame] at hF0
  refine AC_intro (rs := [.t (.sc (.bool r))]) Try.func70 rfl (by kernel_rfl) (by simp [Try.ntmps70]) (by simp [noOb]) ?_
  intro C hC
  rw [Try.ntmps70]
  refine awp_seq ?_
  refine awp_region ?_
  refine s_as ?_
  refine k_nil ?_
  refine k_seq ?_
  refine awp_seq ?_
  refine awp_seq ?_
  refine awp_region ?_
  refine s_mv ?_
  refine s_lenT yU30 ?_
  refine s_mv ?_
  refine s_lenT yU30 ?_
  refine s_ne ?_
  refine k_nil ?_
  refine k_seq ?_
  refine w_cond hF0 (fun hc1 hF1 => ?_) (fun hc1 hF1 => ?_) <;> clear hF0
  refine awp_seq ?_
  refine awp_region ?_
  refine s_as ?_
  refine k_nil ?_
  refine k_seq ?_
  refine awp_ret ?_
  refine k_seq_ret ?_
  refine k_fin ?_
  obtain rfl := Option.some.inj hF1
  exact ends_gen [] [] (by rw [Try.results70]; exact (res_tmp (by conv => lhs; whnf) res_nil))
  refine awp_skip ?_
  refine k_seq ?_
  refine awp_seq ?_
  refine awp_seq ?_
  refine awp_region ?_
  refine s_mv ?_
  refine s_lenT yU30 ?_
  refine s_mv ?_
  refine k_nil ?_
  refine k_seq ?_
  refine awp_block ?_
  refine awp_frame2 [6, 7, 8, 9, 17, 18, 19, 20, 21, 22, 23, 24, 25, 26, 27, 28, 29, 30, 31] [] [8, 9] [] (fun a : Nat × Int => a.1) (fun a : Nat × Int => [(17, .t (.sc (.int .i64 a.2)))]) (fun a : Nat × Int => []) (fun a : Nat × Int => a.1 ≤ fu ∧ m_slices_EqualFunc_Form_FormSame_l1 a.1 x1 x2 a.2 = some r ∧ 0 ≤ a.2) (fu, 0) ⟨Nat.le_refl _, hF1, by simp⟩ (by rfl) (by rfl) (fun _ => rfl) (hasF_cons (by conv => lhs; whnf) (by rfl) hasF_nil) hasO_nil (fun _ h => by cases h) freshS_nil freshM_nil ?_
  clear hF1
  rintro ⟨fu, g2⟩ ⟨hl3, hF2, hn_g2⟩
  dsimp only at hl3 hF2 hn_g2 ⊢
  obtain _ | fu := fu
  · rw [m_slices_EqualFunc_Form_FormSame_l1] at hF2; cases hF2
  rw [m_slices_EqualFunc_Form_FormSame_l1] at hF2
  refine awp_seq ?_
  refine awp_region ?_
  refine s_lt ?_
  refine k_nil ?_
  refine k_seq ?_
  refine awp_seq ?_
  refine w_cond hF2 (fun hc4 hF3 => ?_) (fun hc4 hF3 => ?_) <;> clear hF2
  refine awp_lenT 0 (fun hb5 => ?_)
  refine awp_skip ?_
  refine k_seq ?_
  refine awp_seq ?_
  refine awp_block ?_
  refine awp_seq ?_
  refine awp_region ?_
  refine s_mv ?_
  replace hF3 := bind_some' hF3
  obtain ⟨v6, hv6, hF4⟩ := hF3
  refine s_ixT Form.row hv6 (Form.row_eq _) yE30 ?_
  refine s_ldN yA32 yS32 ?_
  refine s_alloc yZ32 ?_
  refine s_as ?_
  refine s_stW yS32 ?_
  refine k_nil ?_
  refine k_seq ?_
  refine awp_seq ?_
  refine awp_region ?_
  refine s_mv ?_
  refine s_mv ?_
  replace hF4 := bind_some' hF4
  obtain ⟨v7, hv7, hF5⟩ := hF4
  refine s_ixT Form.row hv7 (Form.row_eq _) yE30 ?_
  refine s_ldN yA32 yS32 ?_
  refine s_alloc yZ32 ?_
  refine s_stW yS32 ?_
  refine k_nil ?_
  refine k_seq ?_
  refine awp_seq ?_
  refine awp_region ?_
  refine s_mv ?_
  refine s_ldW yA32 yS32 ?_
  refine s_ldW yA32 yS32 ?_
  replace hF5 := bind_some' hF5
  obtain ⟨v8, hv8, hF6⟩ := hF5
  refine s_pure [] (ih_m_impl_FormSame fu (by omega) _ _ _ hv8) ?_
  refine s_not ?_
  refine k_nil ?_
  refine k_seq ?_
  refine w_cond hF6 (fun hc9 hF7 => ?_) (fun hc9 hF7 => ?_) <;> clear hF6
  refine awp_seq ?_
  refine awp_region ?_
  refine s_as ?_
  refine k_nil ?_
  refine k_seq ?_
  refine awp_ret ?_
  refine k_blk_ret ?_
  refine k_seq_ret ?_
  refine k_rnd_ret2 ?_
  refine k_blk_ret ?_
  refine k_seq_ret ?_
  refine k_fin ?_
  obtain rfl := Option.some.inj hF7
  exact ends_gen [] [] (by rw [Try.results70]; exact (res_tmp (by conv => lhs; whnf) res_nil))
  refine awp_skip ?_
  refine k_blk ?_
  refine k_seq ?_
  refine awp_region ?_
  refine s_add (winc2 hc4 hb5 hn_g2) ?_
  refine s_mv ?_
  refine k_nil ?_
  exact s_rnd2 (fu, (g2 + 1)) [] ⟨by first | omega | (dsimp only; omega), hF7, by first | omega | (dsimp only; omega)⟩ (hasR_cons (by conv => lhs; whnf) (by rfl) rfl trivial) trivial
  refine awp_exit ?_
  refine k_seq_exit ?_
  refine k_rnd_exit2 ?_
  refine k_blk_exit ?_
  refine k_seq ?_
  refine awp_seq ?_
  refine awp_region ?_
  refine s_as ?_
  refine k_nil ?_
  refine k_seq ?_
  refine awp_ret ?_
  refine k_fin ?_
  obtain rfl := Option.some.inj hF3
  exact ends_gen [] [] (by rw [Try.results70]; exact (res_tmp (by conv => lhs; whnf) res_nil))
theorem m_impl_FormSame_all (fuel : Nat) : m_impl_FormSame_AC fuel ∧ m_slices_EqualFunc_Form_FormSame_AC fuel := by
  induction fuel using Nat.strongRecOn with
  | _ N ih =>
    cases N with
    | zero => exact ⟨(by intro x1 x2 r h; rw [m_impl_FormSame] at h; cases h), (by intro x1 x2 r h; rw [m_slices_EqualFunc_Form_FormSame] at h; cases h)⟩
    | succ fu => exact ⟨m_impl_FormSame_st fu (fun k hk => (ih k (by omega)).1) (fun k hk => (ih k (by omega)).2), m_slices_EqualFunc_Form_FormSame_st fu (fun k hk => (ih k (by omega)).1) (fun k hk => (ih k (by omega)).2)⟩
theorem m_impl_FormSame_ok (fuel : Nat) : m_impl_FormSame_AC fuel := (m_impl_FormSame_all fuel).1
end Go.Abs
end
section
set_option maxRecDepth 100000
set_option maxHeartbeats 4000000
set_option linter.unusedVariables false
namespace Go.Abs
open Go.Proofs
def m_impl_hitOk_AC (fuel : Nat) : Prop := ∀ (x1 : Hit) (r : Bool), m_impl_hitOk fuel x1 = some r → AC Try.prog 90 [.ag [.t (.sc (.int .i64 x1.name.kind)), .t (.sc (.str x1.name.name)), .t (.sc (.int .i64 x1.name.n)), .t (.sl (x1.name.scopes.map rI)), .t (.sl (x1.name.kids.map Form.row)), .t (.sc (.int .i64 x1.depth)), .t (.sc (.int .i64 x1.one.kind)), .t (.sc (.str x1.one.name)), .t (.sc (.int .i64 x1.one.n)), .t (.sl (x1.one.scopes.map rI)), .t (.sl (x1.one.kids.map Form.row)), .t (.sl (x1.many.map Hit.row))]] noOb (.t (.sc (.bool r))) noOb
def m_impl_hitOk_1_AC (fuel : Nat) : Prop := ∀ (x1 : Hit) (o1 : Hit) (r : Bool), m_impl_hitOk_1 fuel x1 o1 = some r → AC Try.prog 130 [.ag [.t (.sc (.int .i64 x1.name.kind)), .t (.sc (.str x1.name.name)), .t (.sc (.int .i64 x1.name.n)), .t (.sl (x1.name.scopes.map rI)), .t (.sl (x1.name.kids.map Form.row)), .t (.sc (.int .i64 x1.depth)), .t (.sc (.int .i64 x1.one.kind)), .t (.sc (.str x1.one.name)), .t (.sc (.int .i64 x1.one.n)), .t (.sl (x1.one.scopes.map rI)), .t (.sl (x1.one.kids.map Form.row)), .t (.sl (x1.many.map Hit.row))], .rf 9000 0] (objs [(9000, .box [.t (.sc (.int .i64 o1.name.kind)), .t (.sc (.str o1.name.name)), .t (.sc (.int .i64 o1.name.n)), .t (.sl (o1.name.scopes.map rI)), .t (.sl (o1.name.kids.map Form.row)), .t (.sc (.int .i64 o1.depth)), .t (.sc (.int .i64 o1.one.kind)), .t (.sc (.str o1.one.name)), .t (.sc (.int .i64 o1.one.n)), .t (.sl (o1.one.scopes.map rI)), .t (.sl (o1.one.kids.map Form.row)), .t (.sl (o1.many.map Hit.row))])]) (.t (.sc (.bool r))) (objs [(9000, .box [.t (.sc (.int .i64 o1.name.kind)), .t (.sc (.str o1.name.name)), .t (.sc (.int .i64 o1.name.n)), .t (.sl (o1.name.scopes.map rI)), .t (.sl (o1.name.kids.map Form.row)), .t (.sc (.int .i64 o1.depth)), .t (.sc (.int .i64 o1.one.kind)), .t (.sc (.str o1.one.name)), .t (.sc (.int .i64 o1.one.n)), .t (.sl (o1.one.scopes.map rI)), .t (.sl (o1.one.kids.map Form.row)), .t (.sl (o1.many.map Hit.row))])])
def m_slices_ContainsFunc_Hit_hitOk_1_AC (fuel : Nat) : Prop := ∀ (x1 : (List Hit)) (o1 : Hit) (r : Bool), m_slices_ContainsFunc_Hit_hitOk_1 fuel x1 o1 = some r → AC Try.prog 129 [.t (.sl (x1.map Hit.row)), .fn 130 [.rf 9000 0]] (objs [(9000, .box [.t (.sc (.int .i64 o1.name.kind)), .t (.sc (.str o1.name.name)), .t (.sc (.int .i64 o1.name.n)), .t (.sl (o1.name.scopes.map rI)), .t (.sl (o1.name.kids.map Form.row)), .t (.sc (.int .i64 o1.depth)), .t (.sc (.int .i64 o1.one.kind)), .t (.sc (.str o1.one.name)), .t (.sc (.int .i64 o1.one.n)), .t (.sl (o1.one.scopes.map rI)), .t (.sl (o1.one.kids.map Form.row)), .t (.sl (o1.many.map Hit.row))])]) (.t (.sc (.bool r))) (objs [(9000, .box [.t (.sc (.int .i64 o1.name.kind)), .t (.sc (.str o1.name.name)), .t (.sc (.int .i64 o1.name.n)), .t (.sl (o1.name.scopes.map rI)), .t (.sl (o1.name.kids.map Form.row)), .t (.sc (.int .i64 o1.depth)), .t (.sc (.int .i64 o1.one.kind)), .t (.sc (.str o1.one.name)), .t (.sc (.int .i64 o1.one.n)), .t (.sl (o1.one.scopes.map rI)), .t (.sl (o1.one.kids.map Form.row)), .t (.sl (o1.many.map Hit.row))])])
def m_slices_IndexFunc_Hit_hitOk_1_AC (fuel : Nat) : Prop := ∀ (x1 : (List Hit)) (o1 : Hit) (r : Int), m_slices_IndexFunc_Hit_hitOk_1 fuel x1 o1 = some r → AC Try.prog 131 [.t (.sl (x1.map Hit.row)), .fn 130 [.rf 9000 0]] (objs [(9000, .box [.t (.sc (.int .i64 o1.name.kind)), .t (.sc (.str o1.name.name)), .t (.sc (.int .i64 o1.name.n)), .t (.sl (o1.name.scopes.map rI)), .t (.sl (o1.name.kids.map Form.row)), .t (.sc (.int .i64 o1.depth)), .t (.sc (.int .i64 o1.one.kind)), .t (.sc (.str o1.one.name)), .t (.sc (.int .i64 o1.one.n)), .t (.sl (o1.one.scopes.map rI)), .t (.sl (o1.one.kids.map Form.row)), .t (.sl (o1.many.map Hit.row))])]) (.t (.sc (.int .i64 r))) (objs [(9000, .box [.t (.sc (.int .i64 o1.name.kind)), .t (.sc (.str o1.name.name)), .t (.sc (.int .i64 o1.name.n)), .t (.sl (o1.name.scopes.map rI)), .t (.sl (o1.name.kids.map Form.row)), .t (.sc (.int .i64 o1.depth)), .t (.sc (.int .i64 o1.one.kind)), .t (.sc (.str o1.one.name)), .t (.sc (.int .i64 o1.one.n)), .t (.sl (o1.one.scopes.map rI)), .t (.sl (o1.one.kids.map Form.row)), .t (.sl (o1.many.map Hit.row))])])
theorem m_impl_hitOk_st (fu : Nat) (ih_m_impl_hitOk : ∀ k, k ≤ fu → m_impl_hitOk_AC k) (ih_m_impl_hitOk_1 : ∀ k, k ≤ fu → m_impl_hitOk_1_AC k) (ih_m_slices_ContainsFunc_Hit_hitOk_1 : ∀ k, k ≤ fu → m_slices_ContainsFunc_Hit_hitOk_1_AC k) (ih_m_slices_IndexFunc_Hit_hitOk_1 : ∀ k, k ≤ fu → m_slices_IndexFunc_Hit_hitOk_1_AC k) : m_impl_hitOk_AC (fu + 1) := by
  intro x1 r hF0
  rw [m_impl_hitOk] at hF0
  refine AC_intro (rs := [.t (.sc (.bool r))]) Try.func90 rfl (by kernel_rfl) (by simp [Try.ntmps90]) (by simp [noOb]) ?_
  intro C hC
  rw [Try.ntmps90]
  refine awp_seq ?_
  refine awp_region ?_
  refine s_box ?_
  refine s_as ?_
  refine k_nil ?_
  refine k_seq ?_
  refine awp_seq ?_
  refine awp_seq ?_
  refine awp_region ?_
  refine s_fa yF65_0 ?_
  refine s_ldN yA32 yS32 ?_
  replace hF0 := bind_some' hF0
  obtain ⟨v1, hv1, hF1⟩ := hF0
  refine s_pure [] (m_impl_isName_ok fu _ _ hv1) ?_
  refine s_not ?_
  refine s_mv ?_
  refine w_guard _ 7 hF1 (fun hc2 hF2 => ?_) (fun hc2 hF2 => ?_) <;> clear hF1
  iterate 4 refine r_no rfl ?_
  refine s_pkt ?_
  refine s_mv ?_
  iterate 4 refine r_no rfl ?_
  refine s_pkt ?_
  refine s_mv ?_
  iterate 4 refine r_no rfl ?_
  refine s_pkt ?_
  refine k_nil ?_
  refine k_seq ?_
  refine awp_true rfl ?_
  refine awp_seq ?_
  refine awp_region ?_
  refine s_as ?_
  refine k_nil ?_
  refine k_seq ?_
  refine awp_ret ?_
  refine k_seq_ret ?_
  refine k_fin ?_
  obtain rfl := Option.some.inj hF2
  exact ends_gen [] [] (by rw [Try.results90]; exact (res_tmp (by conv => lhs; whnf) res_nil))
  refine s_fa yF65_0 ?_
  refine s_fa yF32_1 ?_
  refine s_ld1 yA9 ?_
  refine s_eqS ?_
  refine s_pkf ?_
  refine s_mv ?_
  refine w_guard _ 13 hF2 (fun hc3 hF3 => ?_) (fun hc3 hF3 => ?_) <;> clear hF2
  iterate 4 refine r_no rfl ?_
  refine s_pkt ?_
  refine s_mv ?_
  iterate 4 refine r_no rfl ?_
  refine s_pkt ?_
  refine k_nil ?_
  refine k_seq ?_
  refine awp_true rfl ?_
  refine awp_seq ?_
  refine awp_region ?_
  refine s_as ?_
  refine k_nil ?_
  refine k_seq ?_
  refine awp_ret ?_
  refine k_seq_ret ?_
  refine k_fin ?_
  obtain rfl := Option.some.inj hF3
  exact ends_gen [] [] (by rw [Try.results90]; exact (res_tmp (by conv => lhs; whnf) res_nil))
  refine s_fa yF65_0 ?_
  refine s_fa yF32_1 ?_
  refine s_ld1 yA9 ?_
  refine s_eqS ?_
  refine s_pkf ?_
  refine s_mv ?_
  refine w_guard _ 19 hF3 (fun hc4 hF4 => ?_) (fun hc4 hF4 => ?_) <;> clear hF3
  iterate 4 refine r_no rfl ?_
  refine s_pkt ?_
  refine k_nil ?_
  refine k_seq ?_
  refine awp_true rfl ?_
  refine awp_seq ?_
  refine awp_region ?_
  refine s_as ?_
  refine k_nil ?_
  refine k_seq ?_
  refine awp_ret ?_
  refine k_seq_ret ?_
  refine k_fin ?_
  obtain rfl := Option.some.inj hF4
  exact ends_gen [] [] (by rw [Try.results90]; exact (res_tmp (by conv => lhs; whnf) res_nil))
  refine s_fa yF65_1 ?_
  refine s_ld1 yA3 ?_
  replace hF4 := bind_some' hF4
  obtain ⟨v5, hv5, hF5⟩ := hF4
  refine s_pure [] (m_impl_within_ok fu _ _ _ _ hv5) ?_
  refine s_not ?_
  refine s_pkf ?_
  refine k_nil ?_
  refine k_seq ?_
  refine w_cond hF5 (fun hc6 hF6 => ?_) (fun hc6 hF6 => ?_) <;> clear hF5
  refine awp_seq ?_
  refine awp_region ?_
  refine s_as ?_
  refine k_nil ?_
  refine k_seq ?_
  refine awp_ret ?_
  refine k_seq_ret ?_
  refine k_fin ?_
  obtain rfl := Option.some.inj hF6
  exact ends_gen [] [] (by rw [Try.results90]; exact (res_tmp (by conv => lhs; whnf) res_nil))
  refine awp_skip ?_
  refine k_seq ?_
  refine awp_seq ?_
  refine awp_seq ?_
  refine awp_region ?_
  refine s_fa yF65_1 ?_
  refine s_ld1 yA3 ?_
  refine s_eq ?_
  refine k_nil ?_
  refine k_seq ?_
  refine w_cond hF6 (fun hc7 hF7 => ?_) (fun hc7 hF7 => ?_) <;> clear hF6
  refine awp_seq ?_
  refine awp_region ?_
  refine s_fa yF65_2 ?_
  refine s_ldN yA32 yS32 ?_
  replace hF7 := bind_some' hF7
  obtain ⟨v8, hv8, hF8⟩ := hF7
  refine s_pure [] (m_impl_FormValid_ok fu _ _ hv8) ?_
  refine s_mv ?_
  refine w_guard _ 31 hF8 (fun hc9 hF9 => ?_) (fun hc9 hF9 => ?_) <;> clear hF8
  refine s_fa yF65_3 ?_
  refine s_ld1 yA34 ?_
  refine s_lenT yU34 ?_
  refine s_eq ?_
  refine s_pkt ?_
  refine s_as ?_
  refine k_nil ?_
  refine k_seq ?_
  refine awp_ret ?_
  refine k_seq_ret ?_
  refine k_fin ?_
  obtain rfl := Option.some.inj hF9
  exact ends_gen [] [] (by rw [Try.results90]; exact (res_tmp (by conv => lhs; whnf) res_nil))
  iterate 4 refine r_no rfl ?_
  refine s_pkf ?_
  refine s_as ?_
  refine k_nil ?_
  refine k_seq ?_
  refine awp_ret ?_
  refine k_seq_ret ?_
  refine k_fin ?_
  obtain rfl := Option.some.inj hF9
  exact ends_gen [] [] (by rw [Try.results90]; exact (res_tmp (by conv => lhs; whnf) res_nil))
  refine awp_skip ?_
  refine k_seq ?_
  refine awp_seq ?_
  refine awp_region ?_
  refine s_fa yF65_2 ?_
  refine s_ldN yA32 yS32 ?_
  refine s_bld yZ32 yL32 ?_
  replace hF7 := bind_some' hF7
  obtain ⟨v10, hv10, hF8⟩ := hF7
  refine s_pure [] (m_impl_FormSame_ok fu _ _ _ hv10) ?_
  refine s_mv ?_
  refine w_guard _ 41 hF8 (fun hc11 hF9 => ?_) (fun hc11 hF9 => ?_) <;> clear hF8
  refine s_fa yF65_3 ?_
  refine s_ld1 yA34 ?_
  refine s_lenT yU34 ?_
  refine s_le ?_
  refine s_pkt ?_
  refine s_mv ?_
  refine w_guard _ 47 hF9 (fun hc12 hF10 => ?_) (fun hc12 hF10 => ?_) <;> clear hF9
  refine s_fa yF65_3 ?_
  refine s_ld1 yA34 ?_
  refine s_fn ?_
  replace hF10 := bind_some' hF10
  obtain ⟨v13, hv13, hF11⟩ := hF10
  refine s_call [(9000, 1)] [] _ _ (ih_m_slices_ContainsFunc_Hit_hitOk_1 fu (by omega) _ _ _ hv13) ?_
  refine s_not ?_
  refine s_pkt ?_
  refine s_as ?_
  refine k_nil ?_
  refine k_seq ?_
  refine awp_ret ?_
  refine k_fin ?_
  obtain rfl := Option.some.inj hF11
  exact ends_gen [] [] (by rw [Try.results90]; exact (res_tmp (by conv => lhs; whnf) res_nil))
  iterate 5 refine r_no rfl ?_
  refine s_pkf ?_
  refine s_as ?_
  refine k_nil ?_
  refine k_seq ?_
  refine awp_ret ?_
  refine k_fin ?_
  obtain rfl := Option.some.inj hF10
  exact ends_gen [] [] (by rw [Try.results90]; exact (res_tmp (by conv => lhs; whnf) res_nil))
  iterate 4 refine r_no rfl ?_
  refine s_pkf ?_
  refine s_mv ?_
  iterate 5 refine r_no rfl ?_
  refine s_pkf ?_
  refine s_as ?_
  refine k_nil ?_
  refine k_seq ?_
  refine awp_ret ?_
  refine k_fin ?_
  obtain rfl := Option.some.inj hF9
  exact ends_gen [] [] (by rw [Try.results90]; exact (res_tmp (by conv => lhs; whnf) res_nil))
theorem m_impl_hitOk_1_st (fu : Nat) (ih_m_impl_hitOk : ∀ k, k ≤ fu → m_impl_hitOk_AC k) (ih_m_impl_hitOk_1 : ∀ k, k ≤ fu → m_impl_hitOk_1_AC k) (ih_m_slices_ContainsFunc_Hit_hitOk_1 : ∀ k, k ≤ fu → m_slices_ContainsFunc_Hit_hitOk_1_AC k) (ih_m_slices_IndexFunc_Hit_hitOk_1 : ∀ k, k ≤ fu → m_slices_IndexFunc_Hit_hitOk_1_AC k) : m_impl_hitOk_1_AC (fu + 1) := by
  intro x1 o1 r hF0
  rw [m_impl_hitOk_1] at hF0
  refine AC_intro (rs := [.t (.sc (.bool r))]) Try.func130 rfl (by kernel_rfl) (by simp [Try.ntmps130]) (keep_all rfl) ?_
  intro C hC
  rw [Try.ntmps130]
  refine awp_seq ?_
  refine awp_region ?_
  refine s_box ?_
  refine s_as ?_
  refine k_nil ?_
  refine k_seq ?_
  refine awp_seq ?_
  refine awp_region ?_
  refine s_fa yF65_0 ?_
  refine s_ldN yA32 yS32 ?_
  refine s_fa yF65_0 ?_
  refine s_ldN yA32 yS32 ?_
  replace hF0 := bind_some' hF0
  obtain ⟨v1, hv1, hF1⟩ := hF0
  refine s_pure [] (m_impl_FormSame_ok fu _ _ _ hv1) ?_
  refine s_not ?_
  refine s_mv ?_
  refine w_guard _ 10 hF1 (fun hc2 hF2 => ?_) (fun hc2 hF2 => ?_) <;> clear hF1
  iterate 6 refine r_no rfl ?_
  refine s_pkt ?_
  refine s_mv ?_
  iterate 3 refine r_no rfl ?_
  refine s_pkt ?_
  refine s_as ?_
  refine k_nil ?_
  refine k_seq ?_
  refine awp_ret ?_
  refine k_fin ?_
  obtain rfl := Option.some.inj hF2
  exact ends_gen _ [] (by rw [Try.results130]; exact (res_tmp (by conv => lhs; whnf) res_nil))
  refine s_fa yF65_1 ?_
  refine s_ld1 yA3 ?_
  refine s_fa yF65_1 ?_
  refine s_ld1 yA3 ?_
  refine s_sub rfl ?_
  refine s_ne ?_
  refine s_pkf ?_
  refine s_mv ?_
  refine w_guard _ 18 hF2 (fun hc3 hF3 => ?_) (fun hc3 hF3 => ?_) <;> clear hF2
  iterate 3 refine r_no rfl ?_
  refine s_pkt ?_
  refine s_as ?_
  refine k_nil ?_
  refine k_seq ?_
  refine awp_ret ?_
  refine k_fin ?_
  obtain rfl := Option.some.inj hF3
  exact ends_gen _ [] (by rw [Try.results130]; exact (res_tmp (by conv => lhs; whnf) res_nil))
  refine s_ldW yA65 yS65 ?_
  replace hF3 := bind_some' hF3
  obtain ⟨v4, hv4, hF4⟩ := hF3
  refine s_pure [] (ih_m_impl_hitOk fu (by omega) _ _ hv4) ?_
  refine s_not ?_
  refine s_pkf ?_
  refine s_as ?_
  refine k_nil ?_
  refine k_seq ?_
  refine awp_ret ?_
  refine k_fin ?_
  obtain rfl := Option.some.inj hF4
  exact ends_gen _ [] (by rw [Try.results130]; exact (res_tmp (by conv => lhs; whnf) res_nil))
theorem m_slices_ContainsFunc_Hit_hitOk_1_st (fu : Nat) (ih_m_impl_hitOk : ∀ k, k ≤ fu → m_impl_hitOk_AC k) (ih_m_impl_hitOk_1 : ∀ k, k ≤ fu → m_impl_hitOk_1_AC k) (ih_m_slices_ContainsFunc_Hit_hitOk_1 : ∀ k, k ≤ fu → m_slices_ContainsFunc_Hit_hitOk_1_AC k) (ih_m_slices_IndexFunc_Hit_hitOk_1 : ∀ k, k ≤ fu → m_slices_IndexFunc_Hit_hitOk_1_AC k) : m_slices_ContainsFunc_Hit_hitOk_1_AC (fu + 1) := by
  intro x1 o1 r hF0
  rw [m_slices_ContainsFunc_Hit_hitOk_1] at hF0
  refine AC_intro (rs := [.t (.sc (.bool r))]) Try.func129 rfl (by kernel_rfl) (by simp [Try.ntmps129]) (keep_all rfl) ?_
  intro C hC
  rw [Try.ntmps129]
  refine awp_seq ?_
  refine awp_region ?_
  refine s_as ?_
  refine k_nil ?_
  refine k_seq ?_
  refine awp_seq ?_
  refine awp_region ?_
  refine s_mv ?_
  refine s_mv ?_
  replace hF0 := bind_some' hF0
  obtain ⟨v1, hv1, hF1⟩ := hF0
  refine s_call [(9000, 9000)] [] _ _ (ih_m_slices_IndexFunc_Hit_hitOk_1 fu (by omega) _ _ _ hv1) ?_
  refine s_ge ?_
  refine s_as ?_
  refine k_nil ?_
  refine k_seq ?_
  refine awp_ret ?_
  refine k_fin ?_
  obtain rfl := Option.some.inj hF1
  exact ends_gen _ [] (by rw [Try.results129]; exact (res_tmp (by conv => lhs; whnf) res_nil))
theorem m_slices_IndexFunc_Hit_hitOk_1_st (fu : Nat) (ih_m_impl_hitOk : ∀ k, k ≤ fu → m_impl_hitOk_AC k) (ih_m_impl_hitOk_1 : ∀ k, k ≤ fu → m_impl_hitOk_1_AC k) (ih_m_slices_ContainsFunc_Hit_hitOk_1 : ∀ k, k ≤ fu → m_slices_ContainsFunc_Hit_hitOk_1_AC k) (ih_m_slices_IndexFunc_Hit_hitOk_1 : ∀ k, k ≤ fu → m_slices_IndexFunc_Hit_hitOk_1_AC k) : m_slices_IndexFunc_Hit_hitOk_1_AC (fu + 1) := by
  intro x1 o1 r hF0
  rw [m_slices_IndexFunc_Hit_hitOk_1] at hF0
  refine AC_intro (rs := [.t (.sc (.int .i64 r))]) Try.func131 rfl (by kernel_rfl) (by simp [Try.ntmps131]) (keep_all rfl) ?_
  intro C hC
  rw [Try.ntmps131]
  refine awp_seq ?_
  refine awp_region ?_
  refine s_as ?_
  refine k_nil ?_
  refine k_seq ?_
  refine awp_seq ?_
  refine awp_seq ?_
  refine awp_region ?_
  refine s_mv ?_
  refine s_lenT yU34 ?_
  refine s_mv ?_
  refine k_nil ?_
  refine k_seq ?_
  refine awp_block ?_
  refine awp_frame2 [4, 5, 8, 9, 10, 11, 12, 13, 14, 15, 16, 17, 18] [] [] [] (fun a : Nat × Int => a.1) (fun a : Nat × Int => [(8, .t (.sc (.int .i64 a.2)))]) (fun a : Nat × Int => []) (fun a : Nat × Int => a.1 ≤ fu ∧ m_slices_IndexFunc_Hit_hitOk_1_l1 a.1 x1 o1 a.2 = some r ∧ 0 ≤ a.2) (fu, 0) ⟨Nat.le_refl _, hF0, by simp⟩ (by rfl) (by rfl) (fun _ => rfl) (hasF_cons (by conv => lhs; whnf) (by rfl) hasF_nil) hasO_nil (fun _ h => by cases h) freshS_nil freshM_nil ?_
  clear hF0
  rintro ⟨fu, g1⟩ ⟨hl2, hF1, hn_g1⟩
  dsimp only at hl2 hF1 hn_g1 ⊢
  obtain _ | fu := fu
  · rw [m_slices_IndexFunc_Hit_hitOk_1_l1] at hF1; cases hF1
  rw [m_slices_IndexFunc_Hit_hitOk_1_l1] at hF1
  refine awp_seq ?_
  refine awp_region ?_
  refine s_lt ?_
  refine k_nil ?_
  refine k_seq ?_
  refine awp_seq ?_
  refine w_cond hF1 (fun hc3 hF2 => ?_) (fun hc3 hF2 => ?_) <;> clear hF1
  refine awp_lenT 0 (fun hb4 => ?_)
  refine awp_skip ?_
  refine k_seq ?_
  refine awp_seq ?_
  refine awp_block ?_
  refine awp_seq ?_
  refine awp_region ?_
  refine s_mv ?_
  refine s_as ?_
  refine k_nil ?_
  refine k_seq ?_
  refine awp_seq ?_
  refine awp_region ?_
  iterate 3 refine s_mv ?_
  replace hF2 := bind_some' hF2
  obtain ⟨v5, hv5, hF3⟩ := hF2
  refine s_ixT Hit.row hv5 (Hit.row_eq _) yE34 ?_
  refine s_ldN yA65 yS65 ?_
  replace hF3 := bind_some' hF3
  obtain ⟨v6, hv6, hF4⟩ := hF3
  refine s_call [(9000, 9000)] [] _ _ (ih_m_impl_hitOk_1 fu (by omega) _ _ _ hv6) ?_
  refine k_nil ?_
  refine k_seq ?_
  refine w_cond hF4 (fun hc7 hF5 => ?_) (fun hc7 hF5 => ?_) <;> clear hF4
  refine awp_seq ?_
  refine awp_region ?_
  refine s_mv ?_
  refine s_as ?_
  refine k_nil ?_
  refine k_seq ?_
  refine awp_ret ?_
  refine k_blk_ret ?_
  refine k_seq_ret ?_
  refine k_rnd_ret2 ?_
  refine k_blk_ret ?_
  refine k_seq_ret ?_
  refine k_fin ?_
  obtain rfl := Option.some.inj hF5
  exact ends_gen _ [] (by rw [Try.results131]; exact (res_tmp (by conv => lhs; whnf) res_nil))
  refine awp_skip ?_
  refine k_blk ?_
  refine k_seq ?_
  refine awp_region ?_
  refine s_add (winc2 hc3 hb4 hn_g1) ?_
  refine s_mv ?_
  refine k_nil ?_
  exact s_rnd2 (fu, (g1 + 1)) [] ⟨by first | omega | (dsimp only; omega), hF5, by first | omega | (dsimp only; omega)⟩ (hasR_cons (by conv => lhs; whnf) (by rfl) rfl trivial) trivial
  refine awp_exit ?_
  refine k_seq_exit ?_
  refine k_rnd_exit2 ?_
  refine k_blk_exit ?_
  refine k_seq ?_
  refine awp_seq ?_
  refine awp_region ?_
  refine s_as ?_
  refine k_nil ?_
  refine k_seq ?_
  refine awp_ret ?_
  refine k_fin ?_
  obtain rfl := Option.some.inj hF2
  exact ends_gen _ [] (by rw [Try.results131]; exact (res_tmp (by conv => lhs; whnf) res_nil))
theorem m_impl_hitOk_all (fuel : Nat) : m_impl_hitOk_AC fuel ∧ m_impl_hitOk_1_AC fuel ∧ m_slices_ContainsFunc_Hit_hitOk_1_AC fuel ∧ m_slices_IndexFunc_Hit_hitOk_1_AC fuel := by
  induction fuel using Nat.strongRecOn with
  | _ N ih =>
    cases N with
    | zero => exact ⟨(by intro x1 r h; rw [m_impl_hitOk] at h; cases h), (by intro x1 o1 r h; rw [m_impl_hitOk_1] at h; cases h), (by intro x1 o1 r h; rw [m_slices_ContainsFunc_Hit_hitOk_1] at h; cases h), (by intro x1 o1 r h; rw [m_slices_IndexFunc_Hit_hitOk_1] at h; cases h)⟩
    | succ fu => exact ⟨m_impl_hitOk_st fu (fun k hk => (ih k (by omega)).1) (fun k hk => (ih k (by omega)).2.1) (fun k hk => (ih k (by omega)).2.2.1) (fun k hk => (ih k (by omega)).2.2.2), m_impl_hitOk_1_st fu (fun k hk => (ih k (by omega)).1) (fun k hk => (ih k (by omega)).2.1) (fun k hk => (ih k (by omega)).2.2.1) (fun k hk => (ih k (by omega)).2.2.2), m_slices_ContainsFunc_Hit_hitOk_1_st fu (fun k hk => (ih k (by omega)).1) (fun k hk => (ih k (by omega)).2.1) (fun k hk => (ih k (by omega)).2.2.1) (fun k hk => (ih k (by omega)).2.2.2), m_slices_IndexFunc_Hit_hitOk_1_st fu (fun k hk => (ih k (by omega)).1) (fun k hk => (ih k (by omega)).2.1) (fun k hk => (ih k (by omega)).2.2.1) (fun k hk => (ih k (by omega)).2.2.2)⟩
theorem m_impl_hitOk_ok (fuel : Nat) : m_impl_hitOk_AC fuel := (m_impl_hitOk_all fuel).1
def m_impl_hitAt_1_AC (fuel : Nat) : Prop := ∀ (x1 : Hit) (o1 : Form) (r : Bool), m_impl_hitAt_1 fuel x1 o1 = some r → AC Try.prog 132 [.ag [.t (.sc (.int .i64 x1.name.kind)), .t (.sc (.str x1.name.name)), .t (.sc (.int .i64 x1.name.n)), .t (.sl (x1.name.scopes.map rI)), .t (.sl (x1.name.kids.map Form.row)), .t (.sc (.int .i64 x1.depth)), .t (.sc (.int .i64 x1.one.kind)), .t (.sc (.str x1.one.name)), .t (.sc (.int .i64 x1.one.n)), .t (.sl (x1.one.scopes.map rI)), .t (.sl (x1.one.kids.map Form.row)), .t (.sl (x1.many.map Hit.row))], .rf 9000 0] (objs [(9000, .box [.t (.sc (.int .i64 o1.kind)), .t (.sc (.str o1.name)), .t (.sc (.int .i64 o1.n)), .t (.sl (o1.scopes.map rI)), .t (.sl (o1.kids.map Form.row))])]) (.t (.sc (.bool r))) (objs [(9000, .box [.t (.sc (.int .i64 o1.kind)), .t (.sc (.str o1.name)), .t (.sc (.int .i64 o1.n)), .t (.sl (o1.scopes.map rI)), .t (.sl (o1.kids.map Form.row))])])
theorem m_impl_hitAt_1_ok (fuel : Nat) : m_impl_hitAt_1_AC fuel := by
  intro x1 o1 r hF0
  unfold m_impl_hitAt_1 at hF0
  refine AC_intro (rs := [.t (.sc (.bool r))]) Try.func132 rfl (by kernel_rfl) (by simp [Try.ntmps132]) (keep_all rfl) ?_
  intro C hC
  rw [Try.ntmps132]
  refine awp_seq ?_
  refine awp_region ?_
  refine s_box ?_
  refine s_as ?_
  refine k_nil ?_
  refine k_seq ?_
  refine awp_seq ?_
  refine awp_region ?_
  refine s_fa yF65_0 ?_
  refine s_ldN yA32 yS32 ?_
  refine s_ldW yA32 yS32 ?_
  replace hF0 := bind_some' hF0
  obtain ⟨v1, hv1, hF1⟩ := hF0
  refine s_pure [] (m_impl_FormSame_ok fuel _ _ _ hv1) ?_
  refine s_as ?_
  refine k_nil ?_
  refine k_seq ?_
  refine awp_ret ?_
  refine k_fin ?_
  obtain rfl := Option.some.inj hF1
  exact ends_gen _ [] (by rw [Try.results132]; exact (res_tmp (by conv => lhs; whnf) res_nil))
def m_slices_IndexFunc_Hit_hitAt_1_AC (fuel : Nat) : Prop := ∀ (x1 : (List Hit)) (o1 : Form) (r : Int), m_slices_IndexFunc_Hit_hitAt_1 fuel x1 o1 = some r → AC Try.prog 131 [.t (.sl (x1.map Hit.row)), .fn 132 [.rf 9000 0]] (objs [(9000, .box [.t (.sc (.int .i64 o1.kind)), .t (.sc (.str o1.name)), .t (.sc (.int .i64 o1.n)), .t (.sl (o1.scopes.map rI)), .t (.sl (o1.kids.map Form.row))])]) (.t (.sc (.int .i64 r))) (objs [(9000, .box [.t (.sc (.int .i64 o1.kind)), .t (.sc (.str o1.name)), .t (.sc (.int .i64 o1.n)), .t (.sl (o1.scopes.map rI)), .t (.sl (o1.kids.map Form.row))])])
theorem m_slices_IndexFunc_Hit_hitAt_1_ok (fuel : Nat) : m_slices_IndexFunc_Hit_hitAt_1_AC fuel := by
  intro x1 o1 r hF0
  unfold m_slices_IndexFunc_Hit_hitAt_1 at hF0
  refine AC_intro (rs := [.t (.sc (.int .i64 r))]) Try.func131 rfl (by kernel_rfl) (by simp [Try.ntmps131]) (keep_all rfl) ?_
  intro C hC
  rw [Try.ntmps131]
  refine awp_seq ?_
  refine awp_region ?_
  refine s_as ?_
  refine k_nil ?_
  refine k_seq ?_
  refine awp_seq ?_
  refine awp_seq ?_
  refine awp_region ?_
  refine s_mv ?_
  refine s_lenT yU34 ?_
  refine s_mv ?_
  refine k_nil ?_
  refine k_seq ?_
  refine awp_block ?_
  refine awp_frame2 [4, 5, 8, 9, 10, 11, 12, 13, 14, 15, 16, 17, 18] [] [] [] (fun a : Nat × Int => a.1) (fun a : Nat × Int => [(8, .t (.sc (.int .i64 a.2)))]) (fun a : Nat × Int => []) (fun a : Nat × Int => a.1 ≤ fuel ∧ m_slices_IndexFunc_Hit_hitAt_1_l1 a.1 x1 o1 a.2 = some r ∧ 0 ≤ a.2) (fuel, 0) ⟨Nat.le_refl _, hF0, by simp⟩ (by rfl) (by rfl) (fun _ => rfl) (hasF_cons (by conv => lhs; whnf) (by rfl) hasF_nil) hasO_nil (fun _ h => by cases h) freshS_nil freshM_nil ?_
  clear hF0
  rintro ⟨fu, g1⟩ ⟨hl2, hF1, hn_g1⟩
  dsimp only at hl2 hF1 hn_g1 ⊢
  obtain _ | fu := fu
  · rw [m_slices_IndexFunc_Hit_hitAt_1_l1] at hF1; cases hF1
  rw [m_slices_IndexFunc_Hit_hitAt_1_l1] at hF1
  refine awp_seq ?_
  refine awp_region ?_
  refine s_lt ?_
  refine k_nil ?_
  refine k_seq ?_
  refine awp_seq ?_
  refine w_cond hF1 (fun hc3 hF2 => ?_) (fun hc3 hF2 => ?_) <;> clear hF1
  refine awp_lenT 0 (fun hb4 => ?_)
  refine awp_skip ?_
  refine k_seq ?_
  refine awp_seq ?_
  refine awp_block ?_
  refine awp_seq ?_
  refine awp_region ?_
  refine s_mv ?_
  refine s_as ?_
  refine k_nil ?_
  refine k_seq ?_
  refine awp_seq ?_
  refine awp_region ?_
  iterate 3 refine s_mv ?_
  replace hF2 := bind_some' hF2
  obtain ⟨v5, hv5, hF3⟩ := hF2
  refine s_ixT Hit.row hv5 (Hit.row_eq _) yE34 ?_
  refine s_ldN yA65 yS65 ?_
  replace hF3 := bind_some' hF3
  obtain ⟨v6, hv6, hF4⟩ := hF3
  refine s_call [(9000, 9000)] [] _ _ (m_impl_hitAt_1_ok fu _ _ _ hv6) ?_
  refine k_nil ?_
  refine k_seq ?_
  refine w_cond hF4 (fun hc7 hF5 => ?_) (fun hc7 hF5 => ?_) <;> clear hF4
  refine awp_seq ?_
  refine awp_region ?_
  refine s_mv ?_
  refine s_as ?_
  refine k_nil ?_
  refine k_seq ?_
  refine awp_ret ?_
  refine k_blk_ret ?_
  refine k_seq_ret ?_
  refine k_rnd_ret2 ?_
  refine k_blk_ret ?_
  refine k_seq_ret ?_
  refine k_fin ?_
  obtain rfl := Option.some.inj hF5
  exact ends_gen _ [] (by rw [Try.results131]; exact (res_tmp (by conv => lhs; whnf) res_nil))
  refine awp_skip ?_
  refine k_blk ?_
  refine k_seq ?_
  refine awp_region ?_
  refine s_add (winc2 hc3 hb4 hn_g1) ?_
  refine s_mv ?_
  refine k_nil ?_
  exact s_rnd2 (fu, (g1 + 1)) [] ⟨by first | omega | (dsimp only; omega), hF5, by first | omega | (dsimp only; omega)⟩ (hasR_cons (by conv => lhs; whnf) (by rfl) rfl trivial) trivial
  refine awp_exit ?_
  refine k_seq_exit ?_
  refine k_rnd_exit2 ?_
  refine k_blk_exit ?_
  refine k_seq ?_
  refine awp_seq ?_
  refine awp_region ?_
  refine s_as ?_
  refine k_nil ?_
  refine k_seq ?_
  refine awp_ret ?_
  refine k_fin ?_
  obtain rfl := Option.some.inj hF2
  exact ends_gen _ [] (by rw [Try.results131]; exact (res_tmp (by conv => lhs; whnf) res_nil))
def m_impl_hitAt_AC (fuel : Nat) : Prop := ∀ (x1 : (List Hit)) (x2 : Form) (r : Int), m_impl_hitAt fuel x1 x2 = some r → AC Try.prog 92 [.t (.sl (x1.map Hit.row)), .ag [.t (.sc (.int .i64 x2.kind)), .t (.sc (.str x2.name)), .t (.sc (.int .i64 x2.n)), .t (.sl (x2.scopes.map rI)), .t (.sl (x2.kids.map Form.row))]] noOb (.t (.sc (.int .i64 r))) noOb
theorem m_impl_hitAt_ok (fuel : Nat) : m_impl_hitAt_AC fuel := by
  intro x1 x2 r hF0
  unfold m_impl_hitAt at hF0
  refine AC_intro (rs := [.t (.sc (.int .i64 r))]) Try.func92 rfl (by kernel_rfl) (by simp [Try.ntmps92]) (by simp [noOb]) ?_
  intro C hC
  rw [Try.ntmps92]
  refine awp_seq ?_
  refine awp_region ?_
  refine s_box ?_
  refine s_as ?_
  refine k_nil ?_
  refine k_seq ?_
  refine awp_seq ?_
  refine awp_region ?_
  refine s_mv ?_
  refine s_fn ?_
  replace hF0 := bind_some' hF0
  obtain ⟨v1, hv1, hF1⟩ := hF0
  refine s_call [(9000, 3)] [] _ _ (m_slices_IndexFunc_Hit_hitAt_1_ok fuel _ _ _ hv1) ?_
  refine s_as ?_
  refine k_nil ?_
  refine k_seq ?_
  refine awp_ret ?_
  refine k_fin ?_
  obtain rfl := Option.some.inj hF1
  exact ends_gen [] [] (by rw [Try.results92]; exact (res_tmp (by conv => lhs; whnf) res_nil))
def m_impl_HitsValid_AC (fuel : Nat) : Prop := ∀ (x1 : (List Hit)) (r : Bool), m_impl_HitsValid fuel x1 = some r → AC Try.prog 46 [.t (.sl (x1.map Hit.row))] noOb (.t (.sc (.bool r))) noOb
theorem m_impl_HitsValid_ok (fuel : Nat) : m_impl_HitsValid_AC fuel := by
  intro x1 r hF0
  unfold m_impl_HitsValid at hF0
  refine AC_intro (rs := [.t (.sc (.bool r))]) Try.func46 rfl (by kernel_rfl) (by simp [Try.ntmps46]) (by simp [noOb]) ?_
  intro C hC
  rw [Try.ntmps46]
  refine awp_seq ?_
  refine awp_region ?_
  refine s_as ?_
  refine k_nil ?_
  refine k_seq ?_
  refine awp_seq ?_
  refine awp_seq ?_
  refine awp_region ?_
  refine s_mv ?_
  refine s_lenT yU34 ?_
  refine s_mv ?_
  refine k_nil ?_
  refine k_seq ?_
  refine awp_block ?_
  refine awp_frame2 [2, 3, 4, 7, 8, 9, 10, 11, 12, 13, 14, 15, 16, 17, 18, 19, 20, 21, 22, 23, 24] [] [4] [] (fun a : Nat × Int => a.1) (fun a : Nat × Int => [(7, .t (.sc (.int .i64 a.2)))]) (fun a : Nat × Int => []) (fun a : Nat × Int => a.1 ≤ fuel ∧ m_impl_HitsValid_l1 a.1 x1 a.2 = some r ∧ 0 ≤ a.2) (fuel, 0) ⟨Nat.le_refl _, hF0, by simp⟩ (by rfl) (by rfl) (fun _ => rfl) (hasF_cons (by conv => lhs; whnf) (by rfl) hasF_nil) hasO_nil (fun _ h => by cases h) freshS_nil freshM_nil ?_
  clear hF0
  rintro ⟨fu, g1⟩ ⟨hl2, hF1, hn_g1⟩
  dsimp only at hl2 hF1 hn_g1 ⊢
  obtain _ | fu := fu
  · rw [m_impl_HitsValid_l1] at hF1; cases hF1
  rw [m_impl_HitsValid_l1] at hF1
  refine awp_seq ?_
  refine awp_region ?_
  refine s_lt ?_
  refine k_nil ?_
  refine k_seq ?_
  refine awp_seq ?_
  refine w_cond hF1 (fun hc3 hF2 => ?_) (fun hc3 hF2 => ?_) <;> clear hF1
  refine awp_lenT 0 (fun hb4 => ?_)
  refine awp_skip ?_
  refine k_seq ?_
  refine awp_seq ?_
  refine awp_block ?_
  refine awp_seq ?_
  refine awp_region ?_
  refine s_mv ?_
  replace hF2 := bind_some' hF2
  obtain ⟨v5, hv5, hF3⟩ := hF2
  refine s_ixT Hit.row hv5 (Hit.row_eq _) yE34 ?_
  refine s_ldN yA65 yS65 ?_
  refine s_alloc yZ65 ?_
  refine s_as ?_
  refine s_stW yS65 ?_
  refine k_nil ?_
  refine k_seq ?_
  refine awp_seq ?_
  refine awp_draw yMix (by kernel_rfl) ?_
  refine s_ldW yA65 yS65 ?_
  replace hF3 := bind_some' hF3
  obtain ⟨v6, hv6, hF4⟩ := hF3
  refine s_pure [] (m_impl_hitOk_ok fu _ _ hv6) ?_
  refine s_not ?_
  refine s_mv ?_
  refine w_guard _ 15 hF4 (fun hc7 hF5 => ?_) (fun hc7 hF5 => ?_) <;> clear hF4
  iterate 7 refine r_no rfl ?_
  refine s_pkt ?_
  refine k_nilD (by kernel_rfl) ?_
  refine k_seq ?_
  refine awp_true rfl ?_
  refine awp_seq ?_
  refine awp_region ?_
  refine s_as ?_
  refine k_nil ?_
  refine k_seq ?_
  refine awp_ret ?_
  refine k_blk_ret ?_
  refine k_seq_ret ?_
  refine k_rnd_ret2 ?_
  refine k_blk_ret ?_
  refine k_seq_ret ?_
  refine k_fin ?_
  obtain rfl := Option.some.inj hF5
  exact ends_gen [] [] (by rw [Try.results46]; exact (res_tmp (by conv => lhs; whnf) res_nil))
  refine s_mv ?_
  refine s_mv ?_
  replace hF5 := bind_some' hF5
  obtain ⟨v8, hv8, hF6⟩ := hF5
  refine s_sl01 Hit.row (fun y => Hit.row_len y) hv8 yU34 yE34 ?_
  refine s_fa yF65_0 ?_
  refine s_ldN yA32 yS32 ?_
  replace hF6 := bind_some' hF6
  obtain ⟨v9, hv9, hF7⟩ := hF6
  refine s_pure [] (m_impl_hitAt_ok fu _ _ _ hv9) ?_
  refine s_ge ?_
  refine s_pkf ?_
  refine k_nilD (by kernel_rfl) ?_
  refine k_seq ?_
  refine w_cond hF7 (fun hc10 hF8 => ?_) (fun hc10 hF8 => ?_) <;> clear hF7
  refine awp_seq ?_
  refine awp_region ?_
  refine s_as ?_
  refine k_nil ?_
  refine k_seq ?_
  refine awp_ret ?_
  refine k_blk_ret ?_
  refine k_seq_ret ?_
  refine k_rnd_ret2 ?_
  refine k_blk_ret ?_
  refine k_seq_ret ?_
  refine k_fin ?_
  obtain rfl := Option.some.inj hF8
  exact ends_gen [] [] (by rw [Try.results46]; exact (res_tmp (by conv => lhs; whnf) res_nil))
  refine awp_skip ?_
  refine k_blk ?_
  refine k_seq ?_
  refine awp_region ?_
  refine s_add (winc2 hc3 hb4 hn_g1) ?_
  refine s_mv ?_
  refine k_nil ?_
  exact s_rnd2 (fu, (g1 + 1)) [] ⟨by first | omega | (dsimp only; omega), hF8, by first | omega | (dsimp only; omega)⟩ (hasR_cons (by conv => lhs; whnf) (by rfl) rfl trivial) trivial
  refine awp_exit ?_
  refine k_seq_exit ?_
  refine k_rnd_exit2 ?_
  refine k_blk_exit ?_
  refine k_seq ?_
  refine awp_seq ?_
  refine awp_region ?_
  refine s_mv ?_
  refine s_lenT yU34 ?_
  refine s_le ?_
  refine s_as ?_
  refine k_nil ?_
  refine k_seq ?_
  refine awp_ret ?_
  refine k_fin ?_
  obtain rfl := Option.some.inj hF2
  exact ends_gen [] [] (by rw [Try.results46]; exact (res_tmp (by conv => lhs; whnf) res_nil))
end Go.Abs
end
section
set_option maxRecDepth 100000
set_option maxHeartbeats 4000000
set_option linter.unusedVariables false
namespace Go.Abs
open Go.Proofs
def m_spec_l4In_AC (fuel : Nat) : Prop := ∀ (x1 : (List Form)) (x2 : Form) (r : Bool), m_spec_l4In fuel x1 x2 = some r → AC Try.prog 111 [.t (.sl (x1.map Form.row)), .ag [.t (.sc (.int .i64 x2.kind)), .t (.sc (.str x2.name)), .t (.sc (.int .i64 x2.n)), .t (.sl (x2.scopes.map rI)), .t (.sl (x2.kids.map Form.row))]] noOb (.t (.sc (.bool r))) noOb
theorem m_spec_l4In_ok (fuel : Nat) : m_spec_l4In_AC fuel := by
  intro x1 x2 r hF0
  unfold m_spec_l4In at hF0
  refine AC_intro (rs := [.t (.sc (.bool r))]) Try.func111 rfl (by kernel_rfl) (by simp [Try.ntmps111]) (by simp [noOb]) ?_
  intro C hC
  rw [Try.ntmps111]
  refine awp_seq ?_
  refine awp_region ?_
  refine s_box ?_
  refine s_as ?_
  refine k_nil ?_
  refine k_seq ?_
  refine awp_seq ?_
  refine awp_seq ?_
  refine awp_region ?_
  refine s_as ?_
  refine k_nil ?_
  refine k_seq ?_
  refine awp_block ?_
  refine awp_frame2 [4, 5, 6, 7, 8, 9, 10, 11, 12, 13, 14, 15, 16, 17] [] [] [] (fun a : Nat × Int => a.1) (fun a : Nat × Int => [(5, .t (.sc (.int .i64 a.2)))]) (fun a : Nat × Int => []) (fun a : Nat × Int => a.1 ≤ fuel ∧ m_spec_l4In_l1 a.1 x1 x2 a.2 = some r ∧ 0 ≤ a.2) (fuel, 0) ⟨Nat.le_refl _, hF0, by simp⟩ (by rfl) (by rfl) (fun _ => rfl) (hasF_cons (by conv => lhs; whnf) (by rfl) hasF_nil) hasO_nil (fun _ h => by cases h) freshS_nil freshM_nil ?_
  clear hF0
  rintro ⟨fu, g1⟩ ⟨hl2, hF1, hn_g1⟩
  dsimp only at hl2 hF1 hn_g1 ⊢
  obtain _ | fu := fu
  · rw [m_spec_l4In_l1] at hF1; cases hF1
  rw [m_spec_l4In_l1] at hF1
  refine awp_seq ?_
  refine awp_seq ?_
  refine awp_region ?_
  refine s_mv ?_
  refine s_mv ?_
  refine s_lenT yU30 ?_
  refine s_lt ?_
  refine k_nil ?_
  refine k_seq ?_
  refine w_cond hF1 (fun hc3 hF2 => ?_) (fun hc3 hF2 => ?_) <;> clear hF1
  refine awp_lenT 0 (fun hb4 => ?_)
  refine awp_skip ?_
  refine k_seq ?_
  refine awp_seq ?_
  refine awp_block ?_
  refine awp_seq ?_
  refine awp_draw yMix (by kernel_rfl) ?_
  refine s_mv ?_
  refine s_mv ?_
  replace hF2 := bind_some' hF2
  obtain ⟨v5, hv5, hF3⟩ := hF2
  refine s_ixT Form.row hv5 (Form.row_eq _) yE30 ?_
  refine s_ldN yA32 yS32 ?_
  refine s_ldW yA32 yS32 ?_
  replace hF3 := bind_some' hF3
  obtain ⟨v6, hv6, hF4⟩ := hF3
  refine s_pure [] (m_spec_FormSame_ok fu _ _ _ hv6) ?_
  refine k_nilD (by kernel_rfl) ?_
  refine k_seq ?_
  refine w_cond hF4 (fun hc7 hF5 => ?_) (fun hc7 hF5 => ?_) <;> clear hF4
  refine awp_seq ?_
  refine awp_region ?_
  refine s_as ?_
  refine k_nil ?_
  refine k_seq ?_
  refine awp_ret ?_
  refine k_blk_ret ?_
  refine k_seq_ret ?_
  refine k_rnd_ret2 ?_
  refine k_blk_ret ?_
  refine k_seq_ret ?_
  refine k_fin ?_
  obtain rfl := Option.some.inj hF5
  exact ends_gen [] [] (by rw [Try.results111]; exact (res_tmp (by conv => lhs; whnf) res_nil))
  refine awp_skip ?_
  refine k_blk ?_
  refine k_seq ?_
  refine awp_region ?_
  refine s_mv ?_
  refine s_add (winc2 hc3 hb4 hn_g1) ?_
  refine s_as ?_
  refine k_nil ?_
  exact s_rnd2 (fu, (g1 + 1)) [] ⟨by first | omega | (dsimp only; omega), hF5, by first | omega | (dsimp only; omega)⟩ (hasR_cons (by conv => lhs; whnf) (by rfl) rfl trivial) trivial
  refine awp_exit ?_
  refine k_seq_exit ?_
  refine k_rnd_exit2 ?_
  refine k_blk_exit ?_
  refine k_seq ?_
  refine awp_seq ?_
  refine awp_region ?_
  refine s_as ?_
  refine k_nil ?_
  refine k_seq ?_
  refine awp_ret ?_
  refine k_fin ?_
  obtain rfl := Option.some.inj hF2
  exact ends_gen [] [] (by rw [Try.results111]; exact (res_tmp (by conv => lhs; whnf) res_nil))
end Go.Abs
end
section
set_option maxRecDepth 100000
set_option maxHeartbeats 4000000
set_option linter.unusedVariables false
namespace Go.Abs
open Go.Proofs
def m_spec_l4Literals_AC (fuel : Nat) : Prop := ∀ (x1 : (List Form)) (r : Bool), m_spec_l4Literals fuel x1 = some r → AC Try.prog 109 [.t (.sl (x1.map Form.row))] noOb (.t (.sc (.bool r))) noOb
theorem m_spec_l4Literals_ok (fuel : Nat) : m_spec_l4Literals_AC fuel := by
  intro x1 r hF0
  unfold m_spec_l4Literals at hF0
  refine AC_intro (rs := [.t (.sc (.bool r))]) Try.func109 rfl (by kernel_rfl) (by simp [Try.ntmps109]) (by simp [noOb]) ?_
  intro C hC
  rw [Try.ntmps109]
  refine awp_seq ?_
  refine awp_region ?_
  refine s_as ?_
  refine k_nil ?_
  refine k_seq ?_
  refine awp_seq ?_
  refine awp_seq ?_
  refine awp_region ?_
  refine s_as ?_
  refine k_nil ?_
  refine k_seq ?_
  refine awp_block ?_
  refine awp_frame2 [2, 3, 4, 5, 6, 7, 8, 9, 10, 11, 12, 13, 14, 15, 16, 17, 18, 19, 20, 21, 22, 23, 24, 25, 26, 27, 28, 29, 30, 31, 32, 33, 34, 35, 36, 37, 38, 39, 40, 41, 42, 43, 44, 45] [] [] [] (fun a : Nat × Int => a.1) (fun a : Nat × Int => [(3, .t (.sc (.int .i64 a.2)))]) (fun a : Nat × Int => []) (fun a : Nat × Int => a.1 ≤ fuel ∧ m_spec_l4Literals_l1 a.1 x1 a.2 = some r) (fuel, 0) ⟨Nat.le_refl _, hF0⟩ (by rfl) (by rfl) (fun _ => rfl) (hasF_cons (by conv => lhs; whnf) (by rfl) hasF_nil) hasO_nil (fun _ h => by cases h) freshS_nil freshM_nil ?_
  clear hF0
  rintro ⟨fu, g1⟩ ⟨hl2, hF1⟩
  dsimp only at hl2 hF1 ⊢
  obtain _ | fu := fu
  · rw [m_spec_l4Literals_l1] at hF1; cases hF1
  rw [m_spec_l4Literals_l1] at hF1
  refine awp_seq ?_
  refine awp_seq ?_
  refine awp_region ?_
  refine s_mv ?_
  refine s_mv ?_
  refine s_lenT yU30 ?_
  refine s_lt ?_
  refine s_mv ?_
  refine w_guard _ 8 hF1 (fun hc3 hF2 => ?_) (fun hc3 hF2 => ?_) <;> clear hF1
  refine s_mv ?_
  refine s_lt ?_
  refine s_pkt ?_
  refine k_nil ?_
  refine k_seq ?_
  refine w_cond hF2 (fun hc4 hF3 => ?_) (fun hc4 hF3 => ?_) <;> clear hF2
  refine awp_skip ?_
  refine k_seq ?_
  refine awp_seq ?_
  refine awp_block ?_
  refine awp_seq ?_
  refine awp_draw yMix (by kernel_rfl) ?_
  refine s_mv ?_
  refine s_mv ?_
  replace hF3 := bind_some' hF3
  obtain ⟨v5, hv5, hF4⟩ := hF3
  refine s_ixT Form.row hv5 (Form.row_eq _) yE30 ?_
  refine s_ldN yA32 yS32 ?_
  replace hF4 := bind_some' hF4
  obtain ⟨v6, hv6, hF5⟩ := hF4
  refine s_pure [] (m_spec_l3Is_ok fu _ _ hv6) ?_
  refine s_not ?_
  refine s_mv ?_
  refine w_guard _ 20 hF5 (fun hc7 hF6 => ?_) (fun hc7 hF6 => ?_) <;> clear hF5
  iterate 6 refine r_no rfl ?_
  refine s_pkt ?_
  refine s_mv ?_
  iterate 6 refine r_no rfl ?_
  refine s_pkt ?_
  refine s_mv ?_
  iterate 8 refine r_no rfl ?_
  refine s_pkt ?_
  refine k_nilD (by kernel_rfl) ?_
  refine k_seq ?_
  refine awp_true rfl ?_
  refine awp_seq ?_
  refine awp_region ?_
  refine s_as ?_
  refine k_nil ?_
  refine k_seq ?_
  refine awp_ret ?_
  refine k_blk_ret ?_
  refine k_seq_ret ?_
  refine k_rnd_ret2 ?_
  refine k_blk_ret ?_
  refine k_seq_ret ?_
  refine k_fin ?_
  obtain rfl := Option.some.inj hF6
  exact ends_gen [] [] (by rw [Try.results109]; exact (res_tmp (by conv => lhs; whnf) res_nil))
  refine s_mv ?_
  refine s_mv ?_
  replace hF6 := bind_some' hF6
  obtain ⟨v8, hv8, hF7⟩ := hF6
  refine s_ixT Form.row hv8 (Form.row_eq _) yE30 ?_
  refine s_fa yF32_1 ?_
  refine s_ld1 yA9 ?_
  refine s_eqS ?_
  refine s_pkf ?_
  refine s_mv ?_
  refine w_guard _ 28 hF7 (fun hc9 hF8 => ?_) (fun hc9 hF8 => ?_) <;> clear hF7
  iterate 6 refine r_no rfl ?_
  refine s_pkt ?_
  refine s_mv ?_
  iterate 8 refine r_no rfl ?_
  refine s_pkt ?_
  refine k_nilD (by kernel_rfl) ?_
  refine k_seq ?_
  refine awp_true rfl ?_
  refine awp_seq ?_
  refine awp_region ?_
  refine s_as ?_
  refine k_nil ?_
  refine k_seq ?_
  refine awp_ret ?_
  refine k_blk_ret ?_
  refine k_seq_ret ?_
  refine k_rnd_ret2 ?_
  refine k_blk_ret ?_
  refine k_seq_ret ?_
  refine k_fin ?_
  obtain rfl := Option.some.inj hF8
  exact ends_gen [] [] (by rw [Try.results109]; exact (res_tmp (by conv => lhs; whnf) res_nil))
  refine s_mv ?_
  refine s_mv ?_
  replace hF8 := bind_some' hF8
  obtain ⟨v10, hv10, hF9⟩ := hF8
  refine s_ixT Form.row hv10 (Form.row_eq _) yE30 ?_
  refine s_fa yF32_1 ?_
  refine s_ld1 yA9 ?_
  refine s_eqS ?_
  refine s_pkf ?_
  refine s_mv ?_
  refine w_guard _ 36 hF9 (fun hc11 hF10 => ?_) (fun hc11 hF10 => ?_) <;> clear hF9
  iterate 8 refine r_no rfl ?_
  refine s_pkt ?_
  refine k_nilD (by kernel_rfl) ?_
  refine k_seq ?_
  refine awp_true rfl ?_
  refine awp_seq ?_
  refine awp_region ?_
  refine s_as ?_
  refine k_nil ?_
  refine k_seq ?_
  refine awp_ret ?_
  refine k_blk_ret ?_
  refine k_seq_ret ?_
  refine k_rnd_ret2 ?_
  refine k_blk_ret ?_
  refine k_seq_ret ?_
  refine k_fin ?_
  obtain rfl := Option.some.inj hF10
  exact ends_gen [] [] (by rw [Try.results109]; exact (res_tmp (by conv => lhs; whnf) res_nil))
  refine s_mv ?_
  refine s_mv ?_
  replace hF10 := bind_some' hF10
  obtain ⟨v12, hv12, hF11⟩ := hF10
  refine s_sl01 Form.row (fun y => Form.row_len y) hv12 yU30 yE30 ?_
  refine s_mv ?_
  refine s_mv ?_
  replace hF11 := bind_some' hF11
  obtain ⟨v13, hv13, hF12⟩ := hF11
  refine s_ixT Form.row hv13 (Form.row_eq _) yE30 ?_
  refine s_ldN yA32 yS32 ?_
  replace hF12 := bind_some' hF12
  obtain ⟨v14, hv14, hF13⟩ := hF12
  refine s_pure [] (m_spec_l4In_ok fu _ _ _ hv14) ?_
  refine s_pkf ?_
  refine k_nilD (by kernel_rfl) ?_
  refine k_seq ?_
  refine w_cond hF13 (fun hc15 hF14 => ?_) (fun hc15 hF14 => ?_) <;> clear hF13
  refine awp_seq ?_
  refine awp_region ?_
  refine s_as ?_
  refine k_nil ?_
  refine k_seq ?_
  refine awp_ret ?_
  refine k_blk_ret ?_
  refine k_seq_ret ?_
  refine k_rnd_ret2 ?_
  refine k_blk_ret ?_
  refine k_seq_ret ?_
  refine k_fin ?_
  obtain rfl := Option.some.inj hF14
  exact ends_gen [] [] (by rw [Try.results109]; exact (res_tmp (by conv => lhs; whnf) res_nil))
  refine awp_skip ?_
  refine k_blk ?_
  refine k_seq ?_
  refine awp_region ?_
  refine s_mv ?_
  refine s_add rfl ?_
  refine s_as ?_
  refine k_nil ?_
  exact s_rnd2 (fu, (w64 (g1 + 1))) [] ⟨by first | omega | (dsimp only; omega), hF14⟩ (hasR_cons (by conv => lhs; whnf) (by rfl) rfl trivial) trivial
  refine awp_exit ?_
  refine k_seq_exit ?_
  refine k_rnd_exit2 ?_
  refine k_blk_exit ?_
  refine k_seq ?_
  refine awp_seq ?_
  refine awp_region ?_
  refine s_mv ?_
  refine s_lenT yU30 ?_
  refine s_lt ?_
  refine s_as ?_
  refine k_nil ?_
  refine k_seq ?_
  refine awp_ret ?_
  refine k_fin ?_
  obtain rfl := Option.some.inj hF3
  exact ends_gen [] [] (by rw [Try.results109]; exact (res_tmp (by conv => lhs; whnf) res_nil))
  refine r_no rfl ?_
  refine r_no rfl ?_
  refine s_pkf ?_
  refine k_nil ?_
  refine k_seq ?_
  refine awp_false rfl ?_
  refine awp_exit ?_
  refine k_seq_exit ?_
  refine k_rnd_exit2 ?_
  refine k_blk_exit ?_
  refine k_seq ?_
  refine awp_seq ?_
  refine awp_region ?_
  refine s_mv ?_
  refine s_lenT yU30 ?_
  refine s_lt ?_
  refine s_as ?_
  refine k_nil ?_
  refine k_seq ?_
  refine awp_ret ?_
  refine k_fin ?_
  obtain rfl := Option.some.inj hF2
  exact ends_gen [] [] (by rw [Try.results109]; exact (res_tmp (by conv => lhs; whnf) res_nil))
def m_spec_l4Shape_AC (fuel : Nat) : Prop := ∀ (x1 : Form) (r : Bool), m_spec_l4Shape fuel x1 = some r → AC Try.prog 110 [.ag [.t (.sc (.int .i64 x1.kind)), .t (.sc (.str x1.name)), .t (.sc (.int .i64 x1.n)), .t (.sl (x1.scopes.map rI)), .t (.sl (x1.kids.map Form.row))]] noOb (.t (.sc (.bool r))) noOb
theorem m_spec_l4Shape_st (fu : Nat) (ih_m_spec_l4Shape : ∀ k, k ≤ fu → m_spec_l4Shape_AC k) : m_spec_l4Shape_AC (fu + 1) := by
  intro x1 r hF0
  rw [m_spec_l4Shape] at hF0
  refine AC_intro (rs := [.t (.sc (.bool r))]) Try.func110 rfl (by kernel_rfl) (by simp [Try.ntmps110]) (by simp [noOb]) ?_
  intro C hC
  rw [Try.ntmps110]
  refine awp_seq ?_
  refine awp_region ?_
  refine s_box ?_
  refine s_as ?_
  refine k_nil ?_
  refine k_seq ?_
  refine awp_seq ?_
  refine awp_seq ?_
  refine awp_region ?_
  refine s_ldW yA32 yS32 ?_
  replace hF0 := bind_some' hF0
  obtain ⟨v1, hv1, hF1⟩ := hF0
  refine s_pure [] (m_spec_l4Dots_ok fu _ _ hv1) ?_
  refine k_nil ?_
  refine k_seq ?_
  refine w_cond hF1 (fun hc2 hF2 => ?_) (fun hc2 hF2 => ?_) <;> clear hF1
  refine awp_seq ?_
  refine awp_region ?_
  refine s_as ?_
  refine k_nil ?_
  refine k_seq ?_
  refine awp_ret ?_
  refine k_seq_ret ?_
  refine k_fin ?_
  obtain rfl := Option.some.inj hF2
  exact ends_gen [] [] (by rw [Try.results110]; exact (res_tmp (by conv => lhs; whnf) res_nil))
  refine awp_skip ?_
  refine k_seq ?_
  refine awp_seq ?_
  refine awp_region ?_
  refine s_as ?_
  refine k_nil ?_
  refine k_seq ?_
  refine awp_seq ?_
  refine awp_seq ?_
  refine awp_region ?_
  refine s_as ?_
  refine k_nil ?_
  refine k_seq ?_
  refine awp_block ?_
  refine awp_frame2 [2, 3, 4, 7, 8, 9, 10, 11, 12, 13, 14, 15, 16, 17, 18, 19, 20, 21, 22, 23, 24, 25, 26, 27, 28, 29, 30, 31, 32, 33, 34, 35, 36, 37, 38, 39] [] [] [] (fun a : Nat × Int × Int => a.1) (fun a : Nat × Int × Int => [(3, .t (.sc (.int .i64 a.2.1))), (4, .t (.sc (.int .i64 a.2.2)))]) (fun a : Nat × Int × Int => []) (fun a : Nat × Int × Int => a.1 ≤ fu ∧ m_spec_l4Shape_l1 a.1 x1 a.2.1 a.2.2 = some r ∧ 0 ≤ a.2.2) (fu, 0, 0) ⟨Nat.le_refl _, hF2, by simp⟩ (by rfl) (by rfl) (fun _ => rfl) (hasF_cons (by conv => lhs; whnf) (by rfl) (hasF_cons (by conv => lhs; whnf) (by rfl) hasF_nil)) hasO_nil (fun _ h => by cases h) freshS_nil freshM_nil ?_
  clear hF2
  rintro ⟨fu, g3, g4⟩ ⟨hl5, hF3, hn_g4⟩
  dsimp only at hl5 hF3 hn_g4 ⊢
  obtain _ | fu := fu
  · rw [m_spec_l4Shape_l1] at hF3; cases hF3
  rw [m_spec_l4Shape_l1] at hF3
  refine awp_seq ?_
  refine awp_seq ?_
  refine awp_region ?_
  refine s_mv ?_
  refine s_fa yF32_4 ?_
  refine s_ld1 yA30 ?_
  refine s_lenT yU30 ?_
  refine s_lt ?_
  refine k_nil ?_
  refine k_seq ?_
  refine w_cond hF3 (fun hc6 hF4 => ?_) (fun hc6 hF4 => ?_) <;> clear hF3
  refine awp_lenT 9 (fun hb7 => ?_)
  refine awp_skip ?_
  refine k_seq ?_
  refine awp_seq ?_
  refine awp_block ?_
  refine awp_seq ?_
  refine awp_seq ?_
  refine awp_region ?_
  refine s_fa yF32_4 ?_
  refine s_ld1 yA30 ?_
  refine s_mv ?_
  replace hF4 := bind_some' hF4
  obtain ⟨v8, hv8, hF5⟩ := hF4
  refine s_ixT Form.row hv8 (Form.row_eq _) yE30 ?_
  refine s_ldN yA32 yS32 ?_
  replace hF5 := bind_some' hF5
  obtain ⟨v9, hv9, hF6⟩ := hF5
  refine s_pure [] (m_spec_l4Dots_ok fu _ _ hv9) ?_
  refine k_nil ?_
  refine k_seq ?_
  refine w_cond hF6 (fun hc10 hF7 => ?_) (fun hc10 hF7 => ?_) <;> clear hF6
  refine awp_seq ?_
  refine awp_region ?_
  refine s_mv ?_
  refine s_add rfl ?_
  refine s_as ?_
  refine k_nil ?_
  refine k_seq ?_
  refine awp_seq ?_
  refine awp_seq ?_
  refine awp_region ?_
  refine s_mv ?_
  refine s_eq ?_
  refine s_mv ?_
  refine w_guard _ 24 hF7 (fun hc11 hF8 => ?_) (fun hc11 hF8 => ?_) <;> clear hF7
  iterate 7 refine r_no rfl ?_
  refine s_pkt ?_
  refine k_nil ?_
  refine k_seq ?_
  refine awp_true rfl ?_
  refine awp_seq ?_
  refine awp_region ?_
  refine s_as ?_
  refine k_nil ?_
  refine k_seq ?_
  refine awp_ret ?_
  refine k_seq_ret ?_
  refine k_seq_ret ?_
  refine k_blk_ret ?_
  refine k_seq_ret ?_
  refine k_rnd_ret2 ?_
  refine k_blk_ret ?_
  refine k_seq_ret ?_
  refine k_fin ?_
  obtain rfl := Option.some.inj hF8
  exact ends_gen [] [] (by rw [Try.results110]; exact (res_tmp (by conv => lhs; whnf) res_nil))
  refine s_fa yF32_4 ?_
  refine s_ld1 yA30 ?_
  refine s_mv ?_
  refine s_sub rfl ?_
  replace hF8 := bind_some' hF8
  obtain ⟨v12, hv12, hF9⟩ := hF8
  refine s_ixT Form.row hv12 (Form.row_eq _) yE30 ?_
  refine s_ldN yA32 yS32 ?_
  replace hF9 := bind_some' hF9
  obtain ⟨v13, hv13, hF10⟩ := hF9
  refine s_pure [] (m_spec_l4Dots_ok fu _ _ hv13) ?_
  refine s_pkf ?_
  refine k_nil ?_
  refine k_seq ?_
  refine w_cond hF10 (fun hc14 hF11 => ?_) (fun hc14 hF11 => ?_) <;> clear hF10
  refine awp_seq ?_
  refine awp_region ?_
  refine s_as ?_
  refine k_nil ?_
  refine k_seq ?_
  refine awp_ret ?_
  refine k_seq_ret ?_
  refine k_seq_ret ?_
  refine k_blk_ret ?_
  refine k_seq_ret ?_
  refine k_rnd_ret2 ?_
  refine k_blk_ret ?_
  refine k_seq_ret ?_
  refine k_fin ?_
  obtain rfl := Option.some.inj hF11
  exact ends_gen [] [] (by rw [Try.results110]; exact (res_tmp (by conv => lhs; whnf) res_nil))
  refine awp_skip ?_
  refine k_seq ?_
  refine awp_exit ?_
  refine k_seq_exit ?_
  refine k_blk_exit ?_
  refine k_seq ?_
  refine awp_region ?_
  refine s_mv ?_
  refine s_add (winc2 hc6 hb7 hn_g4) ?_
  refine s_as ?_
  refine k_nil ?_
  exact s_rnd2 (fu, (w64 (g3 + 1)), (g4 + 1)) [] ⟨by first | omega | (dsimp only; omega), hF11, by first | omega | (dsimp only; omega)⟩ (hasR_cons (by conv => lhs; whnf) (by rfl) rfl (hasR_cons (by conv => lhs; whnf) (by rfl) rfl trivial)) trivial
  refine awp_skip ?_
  refine k_seq ?_
  refine awp_seq ?_
  refine awp_region ?_
  refine s_fa yF32_4 ?_
  refine s_ld1 yA30 ?_
  refine s_mv ?_
  replace hF7 := bind_some' hF7
  obtain ⟨v15, hv15, hF8⟩ := hF7
  refine s_ixT Form.row hv15 (Form.row_eq _) yE30 ?_
  refine s_ldN yA32 yS32 ?_
  replace hF8 := bind_some' hF8
  obtain ⟨v16, hv16, hF9⟩ := hF8
  refine s_pure [] (ih_m_spec_l4Shape fu (by omega) _ _ hv16) ?_
  refine s_not ?_
  refine k_nil ?_
  refine k_seq ?_
  refine w_cond hF9 (fun hc17 hF10 => ?_) (fun hc17 hF10 => ?_) <;> clear hF9
  refine awp_seq ?_
  refine awp_region ?_
  refine s_as ?_
  refine k_nil ?_
  refine k_seq ?_
  refine awp_ret ?_
  refine k_blk_ret ?_
  refine k_seq_ret ?_
  refine k_rnd_ret2 ?_
  refine k_blk_ret ?_
  refine k_seq_ret ?_
  refine k_fin ?_
  obtain rfl := Option.some.inj hF10
  exact ends_gen [] [] (by rw [Try.results110]; exact (res_tmp (by conv => lhs; whnf) res_nil))
  refine awp_skip ?_
  refine k_blk ?_
  refine k_seq ?_
  refine awp_region ?_
  refine s_mv ?_
  refine s_add (winc2 hc6 hb7 hn_g4) ?_
  refine s_as ?_
  refine k_nil ?_
  exact s_rnd2 (fu, g3, (g4 + 1)) [] ⟨by first | omega | (dsimp only; omega), hF10, by first | omega | (dsimp only; omega)⟩ (hasR_cons (by conv => lhs; whnf) (by rfl) rfl (hasR_cons (by conv => lhs; whnf) (by rfl) rfl trivial)) trivial
  refine awp_exit ?_
  refine k_seq_exit ?_
  refine k_rnd_exit2 ?_
  refine k_blk_exit ?_
  refine k_seq ?_
  refine awp_seq ?_
  refine awp_region ?_
  refine s_mv ?_
  refine s_le ?_
  refine s_as ?_
  refine k_nil ?_
  refine k_seq ?_
  refine awp_ret ?_
  refine k_fin ?_
  obtain rfl := Option.some.inj hF4
  exact ends_gen [] [] (by rw [Try.results110]; exact (res_tmp (by conv => lhs; whnf) res_nil))
theorem m_spec_l4Shape_all (fuel : Nat) : m_spec_l4Shape_AC fuel := by
  induction fuel using Nat.strongRecOn with
  | _ N ih =>
    cases N with
    | zero => exact (by intro x1 r h; rw [m_spec_l4Shape] at h; cases h)
    | succ fu => exact m_spec_l4Shape_st fu (fun k hk => (ih k (by omega)))
theorem m_spec_l4Shape_ok (fuel : Nat) : m_spec_l4Shape_AC fuel := (m_spec_l4Shape_all fuel)
def m_spec_l4Var_AC (fuel : Nat) : Prop := ∀ (x1 : Form) (x2 : (List Form)) (r : Bool), m_spec_l4Var fuel x1 x2 = some r → AC Try.prog 112 [.ag [.t (.sc (.int .i64 x1.kind)), .t (.sc (.str x1.name)), .t (.sc (.int .i64 x1.n)), .t (.sl (x1.scopes.map rI)), .t (.sl (x1.kids.map Form.row))], .t (.sl (x2.map Form.row))] noOb (.t (.sc (.bool r))) noOb
theorem m_spec_l4Var_ok (fuel : Nat) : m_spec_l4Var_AC fuel := by
  intro x1 x2 r hF0
  unfold m_spec_l4Var at hF0
  refine AC_intro (rs := [.t (.sc (.bool r))]) Try.func112 rfl (by kernel_rfl) (by simp [Try.ntmps112]) (by simp [noOb]) ?_
  intro C hC
  rw [Try.ntmps112]
  refine awp_seq ?_
  refine awp_region ?_
  refine s_box ?_
  refine s_as ?_
  refine k_nil ?_
  refine k_seq ?_
  refine awp_seq ?_
  refine awp_region ?_
  refine s_fa yF32_0 ?_
  refine s_ld1 yA3 ?_
  refine s_eq ?_
  refine s_mv ?_
  refine w_guard _ 8 hF0 (fun hc1 hF1 => ?_) (fun hc1 hF1 => ?_) <;> clear hF0
  refine s_fa yF32_1 ?_
  refine s_ld1 yA9 ?_
  refine s_neS ?_
  refine s_pkt ?_
  refine s_mv ?_
  refine w_guard _ 13 hF1 (fun hc2 hF2 => ?_) (fun hc2 hF2 => ?_) <;> clear hF1
  refine s_fa yF32_1 ?_
  refine s_ld1 yA9 ?_
  refine s_neS ?_
  refine s_pkt ?_
  refine s_mv ?_
  refine w_guard _ 18 hF2 (fun hc3 hF3 => ?_) (fun hc3 hF3 => ?_) <;> clear hF2
  refine s_mv ?_
  refine s_ldW yA32 yS32 ?_
  replace hF3 := bind_some' hF3
  obtain ⟨v4, hv4, hF4⟩ := hF3
  refine s_pure [] (m_spec_l4In_ok fuel _ _ _ hv4) ?_
  refine s_not ?_
  refine s_pkt ?_
  refine s_as ?_
  refine k_nil ?_
  refine k_seq ?_
  refine awp_ret ?_
  refine k_fin ?_
  obtain rfl := Option.some.inj hF4
  exact ends_gen [] [] (by rw [Try.results112]; exact (res_tmp (by conv => lhs; whnf) res_nil))
  iterate 4 refine r_no rfl ?_
  refine s_pkf ?_
  refine s_as ?_
  refine k_nil ?_
  refine k_seq ?_
  refine awp_ret ?_
  refine k_fin ?_
  obtain rfl := Option.some.inj hF3
  exact ends_gen [] [] (by rw [Try.results112]; exact (res_tmp (by conv => lhs; whnf) res_nil))
  iterate 3 refine r_no rfl ?_
  refine s_pkf ?_
  refine s_mv ?_
  iterate 4 refine r_no rfl ?_
  refine s_pkf ?_
  refine s_as ?_
  refine k_nil ?_
  refine k_seq ?_
  refine awp_ret ?_
  refine k_fin ?_
  obtain rfl := Option.some.inj hF2
  exact ends_gen [] [] (by rw [Try.results112]; exact (res_tmp (by conv => lhs; whnf) res_nil))
  iterate 3 refine r_no rfl ?_
  refine s_pkf ?_
  refine s_mv ?_
  iterate 3 refine r_no rfl ?_
  refine s_pkf ?_
  refine s_mv ?_
  iterate 4 refine r_no rfl ?_
  refine s_pkf ?_
  refine s_as ?_
  refine k_nil ?_
  refine k_seq ?_
  refine awp_ret ?_
  refine k_fin ?_
  obtain rfl := Option.some.inj hF1
  exact ends_gen [] [] (by rw [Try.results112]; exact (res_tmp (by conv => lhs; whnf) res_nil))
def m_spec_l4Vars_AC (fuel : Nat) : Prop := ∀ (x1 : (List Form)) (x2 : Form) (x3 : (List Form)) (r : (List Form)), m_spec_l4Vars fuel x1 x2 x3 = some r → AC Try.prog 68 [.ar 9300, .ag [.t (.sc (.int .i64 x2.kind)), .t (.sc (.str x2.name)), .t (.sc (.int .i64 x2.n)), .t (.sl (x2.scopes.map rI)), .t (.sl (x2.kids.map Form.row))], .t (.sl (x3.map Form.row))] (objs [(9300, .arr (x1.map Form.row) 32 true)]) (.ar 9200) (objs [(9300, .dead), (9200, .arr (r.map Form.row) 32 true)])
theorem m_spec_l4Vars_st (fu : Nat) (ih_m_spec_l4Vars : ∀ k, k ≤ fu → m_spec_l4Vars_AC k) : m_spec_l4Vars_AC (fu + 1) := by
  intro x1 x2 x3 r hF0
  rw [m_spec_l4Vars] at hF0
  refine AC_intro (rs := [.ar 9200]) Try.func68 rfl (by kernel_rfl) (by simp [Try.ntmps68]) (keep_all rfl) ?_
  intro C hC
  rw [Try.ntmps68]
  refine awp_seq ?_
  refine awp_region ?_
  refine s_box ?_
  refine s_as ?_
  refine k_nil ?_
  refine k_seq ?_
  refine awp_seq ?_
  refine awp_seq ?_
  refine awp_region ?_
  refine s_ldW yA32 yS32 ?_
  refine s_mv ?_
  replace hF0 := bind_some' hF0
  obtain ⟨v1, hv1, hF1⟩ := hF0
  refine s_pure [] (m_spec_l4Var_ok fu _ _ _ hv1) ?_
  refine k_nil ?_
  refine k_seq ?_
  refine w_cond hF1 (fun hc2 hF2 => ?_) (fun hc2 hF2 => ?_) <;> clear hF1
  refine awp_region ?_
  refine s_mv ?_
  refine s_ldW yA32 yS32 ?_
  refine s_bs Form.row [x2] yP30 yR32 ?_
  obtain ⟨hk3, hF3⟩ := chk_some hF2
  refine s_apT Form.row (fun y => Form.row_len y) hk3 yP30 ?_
  refine s_as ?_
  refine k_nil ?_
  refine k_seq ?_
  refine awp_seq ?_
  refine awp_seq ?_
  refine awp_region ?_
  refine s_as ?_
  refine k_nil ?_
  refine k_seq ?_
  refine awp_block ?_
  refine awp_mv 0 14 5020 (by conv => lhs; whnf) (by conv => lhs; whnf) rfl ?_
  refine awp_frame2 [0, 7, 15, 16, 17, 18, 19, 20, 21, 22, 23, 24, 25, 26, 27, 28, 29] [5020] [12029] [5020] (fun a : Nat × (List Form) × Int => a.1) (fun a : Nat × (List Form) × Int => [(0, .ar 5020), (7, .t (.sc (.int .i64 a.2.2)))]) (fun a : Nat × (List Form) × Int => [(5020, .arr (a.2.1.map Form.row) 32 true)]) (fun a : Nat × (List Form) × Int => a.1 ≤ fu ∧ m_spec_l4Vars_l1 a.1 x2 x3 a.2.1 a.2.2 = some r ∧ 0 ≤ a.2.2) (fu, (x1 ++ [x2]), 0) ⟨Nat.le_refl _, hF3, by simp⟩ (by rfl) (by rfl) (fun _ => rfl) (hasF_cons (by conv => lhs; whnf) (by rfl) (hasF_cons (by conv => lhs; whnf) (by rfl) hasF_nil)) (hasO_cons (by conv => lhs; whnf) (by rfl) hasO_nil) (fresh_C hC rfl) (by repeat (first | exact freshS_args rfl | refine freshS_upd rfl ?_ | refine freshS_frame rfl ?_)) (by repeat (first | exact freshM_no | exact objs_fresh rfl | refine freshM_upd rfl ?_ | refine freshM_frame rfl ?_)) ?_
  clear hF3
  rintro ⟨fu, g4, g5⟩ ⟨hl6, hF4, hn_g5⟩
  dsimp only at hl6 hF4 hn_g5 ⊢
  obtain _ | fu := fu
  · rw [m_spec_l4Vars_l1] at hF4; cases hF4
  rw [m_spec_l4Vars_l1] at hF4
  refine awp_seq ?_
  refine awp_seq ?_
  refine awp_region ?_
  refine s_mv ?_
  refine s_fa yF32_4 ?_
  refine s_ld1 yA30 ?_
  refine s_lenT yU30 ?_
  refine s_lt ?_
  refine k_nil ?_
  refine k_seq ?_
  refine w_cond hF4 (fun hc7 hF5 => ?_) (fun hc7 hF5 => ?_) <;> clear hF4
  refine awp_lenT 17 (fun hb8 => ?_)
  refine awp_skip ?_
  refine k_seq ?_
  refine awp_seq ?_
  refine awp_block ?_
  refine awp_region ?_
  refine s_mv ?_
  refine s_fa yF32_4 ?_
  refine s_ld1 yA30 ?_
  refine s_mv ?_
  replace hF5 := bind_some' hF5
  obtain ⟨v9, hv9, hF6⟩ := hF5
  refine s_ixT Form.row hv9 (Form.row_eq _) yE30 ?_
  refine s_ldN yA32 yS32 ?_
  refine s_mv ?_
  replace hF6 := bind_some' hF6
  obtain ⟨v10, hv10, hF7⟩ := hF6
  refine s_call [(9300, 5020), (9200, 12029)] [] _ _ (ih_m_spec_l4Vars fu (by omega) _ _ _ _ hv10) ?_
  refine s_as ?_
  refine k_nil ?_
  refine k_blk ?_
  refine k_seq ?_
  refine awp_region ?_
  refine s_mv ?_
  refine s_add (winc2 hc7 hb8 hn_g5) ?_
  refine s_as ?_
  refine k_nil ?_
  exact s_rnd2 (fu, v10, (g5 + 1)) [(5020, 12029)] ⟨by first | omega | (dsimp only; omega), hF7, by first | omega | (dsimp only; omega)⟩ (hasR_cons (by conv => lhs; whnf) (by rfl) rfl (hasR_cons (by conv => lhs; whnf) (by rfl) rfl trivial)) (hasQ_cons (by conv => lhs; whnf) (by rfl) rfl trivial)
  refine awp_exit ?_
  refine k_seq_exit ?_
  refine k_rnd_exit2 ?_
  refine k_blk_exit ?_
  refine k_seq ?_
  refine awp_seq ?_
  refine awp_region ?_
  refine s_mv ?_
  refine s_as ?_
  refine k_nil ?_
  refine k_seq ?_
  refine awp_mv 6 5020 9200 (by conv => lhs; whnf) (by conv => lhs; whnf) rfl ?_
  refine awp_ret ?_
  refine k_fin ?_
  obtain rfl := Option.some.inj hF5
  exact ends_gen _ [] (by rw [Try.results68]; exact (res_tmp (by conv => lhs; whnf) res_nil))
  refine awp_skip ?_
  refine k_seq ?_
  refine awp_seq ?_
  refine awp_seq ?_
  refine awp_region ?_
  refine s_as ?_
  refine k_nil ?_
  refine k_seq ?_
  refine awp_block ?_
  refine awp_mv 0 9300 5040 (by conv => lhs; whnf) (by conv => lhs; whnf) rfl ?_
  refine awp_frame2 [0, 7, 15, 16, 17, 18, 19, 20, 21, 22, 23, 24, 25, 26, 27, 28, 29] [5040] [12029] [5040] (fun a : Nat × (List Form) × Int => a.1) (fun a : Nat × (List Form) × Int => [(0, .ar 5040), (7, .t (.sc (.int .i64 a.2.2)))]) (fun a : Nat × (List Form) × Int => [(5040, .arr (a.2.1.map Form.row) 32 true)]) (fun a : Nat × (List Form) × Int => a.1 ≤ fu ∧ m_spec_l4Vars_l1 a.1 x2 x3 a.2.1 a.2.2 = some r ∧ 0 ≤ a.2.2) (fu, x1, 0) ⟨Nat.le_refl _, hF2, by simp⟩ (by rfl) (by rfl) (fun _ => rfl) (hasF_cons (by conv => lhs; whnf) (by rfl) (hasF_cons (by conv => lhs; whnf) (by rfl) hasF_nil)) (hasO_cons (by conv => lhs; whnf) (by rfl) hasO_nil) (fresh_C hC rfl) (by repeat (first | exact freshS_args rfl | refine freshS_upd rfl ?_ | refine freshS_frame rfl ?_)) (by repeat (first | exact freshM_no | exact objs_fresh rfl | refine freshM_upd rfl ?_ | refine freshM_frame rfl ?_)) ?_
  clear hF2
  rintro ⟨fu, g11, g12⟩ ⟨hl13, hF3, hn_g12⟩
  dsimp only at hl13 hF3 hn_g12 ⊢
  obtain _ | fu := fu
  · rw [m_spec_l4Vars_l1] at hF3; cases hF3
  rw [m_spec_l4Vars_l1] at hF3
  refine awp_seq ?_
  refine awp_seq ?_
  refine awp_region ?_
  refine s_mv ?_
  refine s_fa yF32_4 ?_
  refine s_ld1 yA30 ?_
  refine s_lenT yU30 ?_
  refine s_lt ?_
  refine k_nil ?_
  refine k_seq ?_
  refine w_cond hF3 (fun hc14 hF4 => ?_) (fun hc14 hF4 => ?_) <;> clear hF3
  refine awp_lenT 17 (fun hb15 => ?_)
  refine awp_skip ?_
  refine k_seq ?_
  refine awp_seq ?_
  refine awp_block ?_
  refine awp_region ?_
  refine s_mv ?_
  refine s_fa yF32_4 ?_
  refine s_ld1 yA30 ?_
  refine s_mv ?_
  replace hF4 := bind_some' hF4
  obtain ⟨v16, hv16, hF5⟩ := hF4
  refine s_ixT Form.row hv16 (Form.row_eq _) yE30 ?_
  refine s_ldN yA32 yS32 ?_
  refine s_mv ?_
  replace hF5 := bind_some' hF5
  obtain ⟨v17, hv17, hF6⟩ := hF5
  refine s_call [(9300, 5040), (9200, 12029)] [] _ _ (ih_m_spec_l4Vars fu (by omega) _ _ _ _ hv17) ?_
  refine s_as ?_
  refine k_nil ?_
  refine k_blk ?_
  refine k_seq ?_
  refine awp_region ?_
  refine s_mv ?_
  refine s_add (winc2 hc14 hb15 hn_g12) ?_
  refine s_as ?_
  refine k_nil ?_
  exact s_rnd2 (fu, v17, (g12 + 1)) [(5040, 12029)] ⟨by first | omega | (dsimp only; omega), hF6, by first | omega | (dsimp only; omega)⟩ (hasR_cons (by conv => lhs; whnf) (by rfl) rfl (hasR_cons (by conv => lhs; whnf) (by rfl) rfl trivial)) (hasQ_cons (by conv => lhs; whnf) (by rfl) rfl trivial)
  refine awp_exit ?_
  refine k_seq_exit ?_
  refine k_rnd_exit2 ?_
  refine k_blk_exit ?_
  refine k_seq ?_
  refine awp_seq ?_
  refine awp_region ?_
  refine s_mv ?_
  refine s_as ?_
  refine k_nil ?_
  refine k_seq ?_
  refine awp_mv 6 5040 9200 (by conv => lhs; whnf) (by conv => lhs; whnf) rfl ?_
  refine awp_ret ?_
  refine k_fin ?_
  obtain rfl := Option.some.inj hF4
  exact ends_gen _ [] (by rw [Try.results68]; exact (res_tmp (by conv => lhs; whnf) res_nil))
theorem m_spec_l4Vars_all (fuel : Nat) : m_spec_l4Vars_AC fuel := by
  induction fuel using Nat.strongRecOn with
  | _ N ih =>
    cases N with
    | zero => exact (by intro x1 x2 x3 r h; rw [m_spec_l4Vars] at h; cases h)
    | succ fu => exact m_spec_l4Vars_st fu (fun k hk => (ih k (by omega)))
theorem m_spec_l4Vars_ok (fuel : Nat) : m_spec_l4Vars_AC fuel := (m_spec_l4Vars_all fuel)
def m_spec_l4Depths_AC (fuel : Nat) : Prop := ∀ (x1 : (List Int)) (x2 : Form) (x3 : (List Form)) (x4 : Int) (r : (List Int)), m_spec_l4Depths fuel x1 x2 x3 x4 = some r → AC Try.prog 82 [.ar 9300, .ag [.t (.sc (.int .i64 x2.kind)), .t (.sc (.str x2.name)), .t (.sc (.int .i64 x2.n)), .t (.sl (x2.scopes.map rI)), .t (.sl (x2.kids.map Form.row))], .t (.sl (x3.map Form.row)), .t (.sc (.int .i64 x4))] (objs [(9300, .arr (x1.map rI) 3 true)]) (.ar 9200) (objs [(9300, .dead), (9200, .arr (r.map rI) 3 true)])
theorem m_spec_l4Depths_st (fu : Nat) (ih_m_spec_l4Depths : ∀ k, k ≤ fu → m_spec_l4Depths_AC k) : m_spec_l4Depths_AC (fu + 1) := by
  intro x1 x2 x3 x4 r hF0
  rw [m_spec_l4Depths] at hF0
  refine AC_intro (rs := [.ar 9200]) Try.func82 rfl (by kernel_rfl) (by simp [Try.ntmps82]) (keep_all rfl) ?_
  intro C hC
  rw [Try.ntmps82]
  refine awp_seq ?_
  refine awp_region ?_
  refine s_box ?_
  refine s_as ?_
  refine k_nil ?_
  refine k_seq ?_
  refine awp_seq ?_
  refine awp_seq ?_
  refine awp_region ?_
  refine s_ldW yA32 yS32 ?_
  refine s_mv ?_
  replace hF0 := bind_some' hF0
  obtain ⟨v1, hv1, hF1⟩ := hF0
  refine s_pure [] (m_spec_l4Var_ok fu _ _ _ hv1) ?_
  refine k_nil ?_
  refine k_seq ?_
  refine w_cond hF1 (fun hc2 hF2 => ?_) (fun hc2 hF2 => ?_) <;> clear hF1
  refine awp_region ?_
  refine s_mv ?_
  refine s_mv ?_
  refine s_bs rI [x4] yP22 yR3 ?_
  obtain ⟨hk3, hF3⟩ := chk_some hF2
  refine s_apT rI (fun _ => rfl) hk3 yP22 ?_
  refine s_as ?_
  refine k_nil ?_
  refine k_seq ?_
  refine awp_seq ?_
  refine awp_seq ?_
  refine awp_region ?_
  refine s_as ?_
  refine k_nil ?_
  refine k_seq ?_
  refine awp_block ?_
  refine awp_mv 0 17 5020 (by conv => lhs; whnf) (by conv => lhs; whnf) rfl ?_
  refine awp_frame2 [0, 9, 10, 18, 19, 20, 21, 22, 23, 24, 25, 26, 27, 28, 29, 30, 31, 32, 33, 34, 35, 36, 37, 38, 39, 40, 41, 42, 43, 44, 45, 46, 47, 48, 49, 50, 51] [5020] [12051] [5020] (fun a : Nat × (List Int) × Int => a.1) (fun a : Nat × (List Int) × Int => [(0, .ar 5020), (9, .t (.sc (.int .i64 a.2.2)))]) (fun a : Nat × (List Int) × Int => [(5020, .arr (a.2.1.map rI) 3 true)]) (fun a : Nat × (List Int) × Int => a.1 ≤ fu ∧ m_spec_l4Depths_l1 a.1 x2 x3 x4 a.2.1 a.2.2 = some r ∧ 0 ≤ a.2.2) (fu, (x1 ++ [x4]), 0) ⟨Nat.le_refl _, hF3, by simp⟩ (by rfl) (by rfl) (fun _ => rfl) (hasF_cons (by conv => lhs; whnf) (by rfl) (hasF_cons (by conv => lhs; whnf) (by rfl) hasF_nil)) (hasO_cons (by conv => lhs; whnf) (by rfl) hasO_nil) (fresh_C hC rfl) (by repeat (first | exact freshS_args rfl | refine freshS_upd rfl ?_ | refine freshS_frame rfl ?_)) (by repeat (first | exact freshM_no | exact objs_fresh rfl | refine freshM_upd rfl ?_ | refine freshM_frame rfl ?_)) ?_
  clear hF3
  rintro ⟨fu, g4, g5⟩ ⟨hl6, hF4, hn_g5⟩
  dsimp only at hl6 hF4 hn_g5 ⊢
  obtain _ | fu := fu
  · rw [m_spec_l4Depths_l1] at hF4; cases hF4
  rw [m_spec_l4Depths_l1] at hF4
  refine awp_seq ?_
  refine awp_seq ?_
  refine awp_region ?_
  refine s_mv ?_
  refine s_fa yF32_4 ?_
  refine s_ld1 yA30 ?_
  refine s_lenT yU30 ?_
  refine s_lt ?_
  refine k_nil ?_
  refine k_seq ?_
  refine w_cond hF4 (fun hc7 hF5 => ?_) (fun hc7 hF5 => ?_) <;> clear hF4
  refine awp_lenT 20 (fun hb8 => ?_)
  refine awp_skip ?_
  refine k_seq ?_
  refine awp_seq ?_
  refine awp_block ?_
  refine awp_seq ?_
  refine awp_region ?_
  refine s_mv ?_
  refine s_as ?_
  refine k_nil ?_
  refine k_seq ?_
  refine awp_seq ?_
  refine awp_seq ?_
  refine awp_region ?_
  refine s_mv ?_
  refine s_add (winc2 hc7 hb8 hn_g5) ?_
  refine s_fa yF32_4 ?_
  refine s_ld1 yA30 ?_
  refine s_lenT yU30 ?_
  refine s_lt ?_
  refine s_mv ?_
  refine w_guard _ 32 hF5 (fun hc9 hF6 => ?_) (fun hc9 hF6 => ?_) <;> clear hF5
  refine s_fa yF32_4 ?_
  refine s_ld1 yA30 ?_
  refine s_mv ?_
  refine s_add (winc2 hc7 hb8 hn_g5) ?_
  replace hF6 := bind_some' hF6
  obtain ⟨v10, hv10, hF7⟩ := hF6
  refine s_ixT Form.row hv10 (Form.row_eq _) yE30 ?_
  refine s_ldN yA32 yS32 ?_
  replace hF7 := bind_some' hF7
  obtain ⟨v11, hv11, hF8⟩ := hF7
  refine s_pure [] (m_spec_l4Dots_ok fu _ _ hv11) ?_
  refine s_pkt ?_
  refine k_nil ?_
  refine k_seq ?_
  refine w_cond hF8 (fun hc12 hF9 => ?_) (fun hc12 hF9 => ?_) <;> clear hF8
  refine awp_region ?_
  refine s_mv ?_
  refine s_add rfl ?_
  refine s_as ?_
  refine k_nil ?_
  refine k_seq ?_
  refine awp_region ?_
  refine s_mv ?_
  refine s_fa yF32_4 ?_
  refine s_ld1 yA30 ?_
  refine s_mv ?_
  replace hF9 := bind_some' hF9
  obtain ⟨v13, hv13, hF10⟩ := hF9
  refine s_ixT Form.row hv13 (Form.row_eq _) yE30 ?_
  refine s_ldN yA32 yS32 ?_
  refine s_mv ?_
  refine s_mv ?_
  replace hF10 := bind_some' hF10
  obtain ⟨v14, hv14, hF11⟩ := hF10
  refine s_call [(9300, 5020), (9200, 12051)] [] _ _ (ih_m_spec_l4Depths fu (by omega) _ _ _ _ _ hv14) ?_
  refine s_as ?_
  refine k_nil ?_
  refine k_blk ?_
  refine k_seq ?_
  refine awp_region ?_
  refine s_mv ?_
  refine s_add (winc2 hc7 hb8 hn_g5) ?_
  refine s_as ?_
  refine k_nil ?_
  exact s_rnd2 (fu, v14, (g5 + 1)) [(5020, 12051)] ⟨by first | omega | (dsimp only; omega), hF11, by first | omega | (dsimp only; omega)⟩ (hasR_cons (by conv => lhs; whnf) (by rfl) rfl (hasR_cons (by conv => lhs; whnf) (by rfl) rfl trivial)) (hasQ_cons (by conv => lhs; whnf) (by rfl) rfl trivial)
  refine awp_skip ?_
  refine k_seq ?_
  refine awp_region ?_
  refine s_mv ?_
  refine s_fa yF32_4 ?_
  refine s_ld1 yA30 ?_
  refine s_mv ?_
  replace hF9 := bind_some' hF9
  obtain ⟨v15, hv15, hF10⟩ := hF9
  refine s_ixT Form.row hv15 (Form.row_eq _) yE30 ?_
  refine s_ldN yA32 yS32 ?_
  refine s_mv ?_
  refine s_mv ?_
  replace hF10 := bind_some' hF10
  obtain ⟨v16, hv16, hF11⟩ := hF10
  refine s_call [(9300, 5020), (9200, 12051)] [] _ _ (ih_m_spec_l4Depths fu (by omega) _ _ _ _ _ hv16) ?_
  refine s_as ?_
  refine k_nil ?_
  refine k_blk ?_
  refine k_seq ?_
  refine awp_region ?_
  refine s_mv ?_
  refine s_add (winc2 hc7 hb8 hn_g5) ?_
  refine s_as ?_
  refine k_nil ?_
  exact s_rnd2 (fu, v16, (g5 + 1)) [(5020, 12051)] ⟨by first | omega | (dsimp only; omega), hF11, by first | omega | (dsimp only; omega)⟩ (hasR_cons (by conv => lhs; whnf) (by rfl) rfl (hasR_cons (by conv => lhs; whnf) (by rfl) rfl trivial)) (hasQ_cons (by conv => lhs; whnf) (by rfl) rfl trivial)
  iterate 7 refine r_no rfl ?_
  refine s_pkf ?_
  refine k_nil ?_
  refine k_seq ?_
  refine awp_false rfl ?_
  refine awp_skip ?_
  refine k_seq ?_
  refine awp_region ?_
  refine s_mv ?_
  refine s_fa yF32_4 ?_
  refine s_ld1 yA30 ?_
  refine s_mv ?_
  replace hF6 := bind_some' hF6
  obtain ⟨v17, hv17, hF7⟩ := hF6
  refine s_ixT Form.row hv17 (Form.row_eq _) yE30 ?_
  refine s_ldN yA32 yS32 ?_
  refine s_mv ?_
  refine s_mv ?_
  replace hF7 := bind_some' hF7
  obtain ⟨v18, hv18, hF8⟩ := hF7
  refine s_call [(9300, 5020), (9200, 12051)] [] _ _ (ih_m_spec_l4Depths fu (by omega) _ _ _ _ _ hv18) ?_
  refine s_as ?_
  refine k_nil ?_
  refine k_blk ?_
  refine k_seq ?_
  refine awp_region ?_
  refine s_mv ?_
  refine s_add (winc2 hc7 hb8 hn_g5) ?_
  refine s_as ?_
  refine k_nil ?_
  exact s_rnd2 (fu, v18, (g5 + 1)) [(5020, 12051)] ⟨by first | omega | (dsimp only; omega), hF8, by first | omega | (dsimp only; omega)⟩ (hasR_cons (by conv => lhs; whnf) (by rfl) rfl (hasR_cons (by conv => lhs; whnf) (by rfl) rfl trivial)) (hasQ_cons (by conv => lhs; whnf) (by rfl) rfl trivial)
  refine awp_exit ?_
  refine k_seq_exit ?_
  refine k_rnd_exit2 ?_
  refine k_blk_exit ?_
  refine k_seq ?_
  refine awp_seq ?_
  refine awp_region ?_
  refine s_mv ?_
  refine s_as ?_
  refine k_nil ?_
  refine k_seq ?_
  refine awp_mv 8 5020 9200 (by conv => lhs; whnf) (by conv => lhs; whnf) rfl ?_
  refine awp_ret ?_
  refine k_fin ?_
  obtain rfl := Option.some.inj hF5
  exact ends_gen _ [] (by rw [Try.results82]; exact (res_tmp (by conv => lhs; whnf) res_nil))
  refine awp_skip ?_
  refine k_seq ?_
  refine awp_seq ?_
  refine awp_seq ?_
  refine awp_region ?_
  refine s_as ?_
  refine k_nil ?_
  refine k_seq ?_
  refine awp_block ?_
  refine awp_mv 0 9300 5040 (by conv => lhs; whnf) (by conv => lhs; whnf) rfl ?_
  refine awp_frame2 [0, 9, 10, 18, 19, 20, 21, 22, 23, 24, 25, 26, 27, 28, 29, 30, 31, 32, 33, 34, 35, 36, 37, 38, 39, 40, 41, 42, 43, 44, 45, 46, 47, 48, 49, 50, 51] [5040] [12051] [5040] (fun a : Nat × (List Int) × Int => a.1) (fun a : Nat × (List Int) × Int => [(0, .ar 5040), (9, .t (.sc (.int .i64 a.2.2)))]) (fun a : Nat × (List Int) × Int => [(5040, .arr (a.2.1.map rI) 3 true)]) (fun a : Nat × (List Int) × Int => a.1 ≤ fu ∧ m_spec_l4Depths_l1 a.1 x2 x3 x4 a.2.1 a.2.2 = some r ∧ 0 ≤ a.2.2) (fu, x1, 0) ⟨Nat.le_refl _, hF2, by simp⟩ (by rfl) (by rfl) (fun _ => rfl) (hasF_cons (by conv => lhs; whnf) (by rfl) (hasF_cons (by conv => lhs; whnf) (by rfl) hasF_nil)) (hasO_cons (by conv => lhs; whnf) (by rfl) hasO_nil) (fresh_C hC rfl) (by repeat (first | exact freshS_args rfl | refine freshS_upd rfl ?_ | refine freshS_frame rfl ?_)) (by repeat (first | exact freshM_no | exact objs_fresh rfl | refine freshM_upd rfl ?_ | refine freshM_frame rfl ?_)) ?_
  clear hF2
  rintro ⟨fu, g19, g20⟩ ⟨hl21, hF3, hn_g20⟩
  dsimp only at hl21 hF3 hn_g20 ⊢
  obtain _ | fu := fu
  · rw [m_spec_l4Depths_l1] at hF3; cases hF3
  rw [m_spec_l4Depths_l1] at hF3
  refine awp_seq ?_
  refine awp_seq ?_
  refine awp_region ?_
  refine s_mv ?_
  refine s_fa yF32_4 ?_
  refine s_ld1 yA30 ?_
  refine s_lenT yU30 ?_
  refine s_lt ?_
  refine k_nil ?_
  refine k_seq ?_
  refine w_cond hF3 (fun hc22 hF4 => ?_) (fun hc22 hF4 => ?_) <;> clear hF3
  refine awp_lenT 20 (fun hb23 => ?_)
  refine awp_skip ?_
  refine k_seq ?_
  refine awp_seq ?_
  refine awp_block ?_
  refine awp_seq ?_
  refine awp_region ?_
  refine s_mv ?_
  refine s_as ?_
  refine k_nil ?_
  refine k_seq ?_
  refine awp_seq ?_
  refine awp_seq ?_
  refine awp_region ?_
  refine s_mv ?_
  refine s_add (winc2 hc22 hb23 hn_g20) ?_
  refine s_fa yF32_4 ?_
  refine s_ld1 yA30 ?_
  refine s_lenT yU30 ?_
  refine s_lt ?_
  refine s_mv ?_
  refine w_guard _ 32 hF4 (fun hc24 hF5 => ?_) (fun hc24 hF5 => ?_) <;> clear hF4
  refine s_fa yF32_4 ?_
  refine s_ld1 yA30 ?_
  refine s_mv ?_
  refine s_add (winc2 hc22 hb23 hn_g20) ?_
  replace hF5 := bind_some' hF5
  obtain ⟨v25, hv25, hF6⟩ := hF5
  refine s_ixT Form.row hv25 (Form.row_eq _) yE30 ?_
  refine s_ldN yA32 yS32 ?_
  replace hF6 := bind_some' hF6
  obtain ⟨v26, hv26, hF7⟩ := hF6
  refine s_pure [] (m_spec_l4Dots_ok fu _ _ hv26) ?_
  refine s_pkt ?_
  refine k_nil ?_
  refine k_seq ?_
  refine w_cond hF7 (fun hc27 hF8 => ?_) (fun hc27 hF8 => ?_) <;> clear hF7
  refine awp_region ?_
  refine s_mv ?_
  refine s_add rfl ?_
  refine s_as ?_
  refine k_nil ?_
  refine k_seq ?_
  refine awp_region ?_
  refine s_mv ?_
  refine s_fa yF32_4 ?_
  refine s_ld1 yA30 ?_
  refine s_mv ?_
  replace hF8 := bind_some' hF8
  obtain ⟨v28, hv28, hF9⟩ := hF8
  refine s_ixT Form.row hv28 (Form.row_eq _) yE30 ?_
  refine s_ldN yA32 yS32 ?_
  refine s_mv ?_
  refine s_mv ?_
  replace hF9 := bind_some' hF9
  obtain ⟨v29, hv29, hF10⟩ := hF9
  refine s_call [(9300, 5040), (9200, 12051)] [] _ _ (ih_m_spec_l4Depths fu (by omega) _ _ _ _ _ hv29) ?_
  refine s_as ?_
  refine k_nil ?_
  refine k_blk ?_
  refine k_seq ?_
  refine awp_region ?_
  refine s_mv ?_
  refine s_add (winc2 hc22 hb23 hn_g20) ?_
  refine s_as ?_
  refine k_nil ?_
  exact s_rnd2 (fu, v29, (g20 + 1)) [(5040, 12051)] ⟨by first | omega | (dsimp only; omega), hF10, by first | omega | (dsimp only; omega)⟩ (hasR_cons (by conv => lhs; whnf) (by rfl) rfl (hasR_cons (by conv => lhs; whnf) (by rfl) rfl trivial)) (hasQ_cons (by conv => lhs; whnf) (by rfl) rfl trivial)
  refine awp_skip ?_
  refine k_seq ?_
  refine awp_region ?_
  refine s_mv ?_
  refine s_fa yF32_4 ?_
  refine s_ld1 yA30 ?_
  refine s_mv ?_
  replace hF8 := bind_some' hF8
  obtain ⟨v30, hv30, hF9⟩ := hF8
  refine s_ixT Form.row hv30 (Form.row_eq _) yE30 ?_
  refine s_ldN yA32 yS32 ?_
  refine s_mv ?_
  refine s_mv ?_
  replace hF9 := bind_some' hF9
  obtain ⟨v31, hv31, hF10⟩ := hF9
  refine s_call [(9300, 5040), (9200, 12051)] [] _ _ (ih_m_spec_l4Depths fu (by omega) _ _ _ _ _ hv31) ?_
  refine s_as ?_
  refine k_nil ?_
  refine k_blk ?_
  refine k_seq ?_
  refine awp_region ?_
  refine s_mv ?_
  refine s_add (winc2 hc22 hb23 hn_g20) ?_
  refine s_as ?_
  refine k_nil ?_
  exact s_rnd2 (fu, v31, (g20 + 1)) [(5040, 12051)] ⟨by first | omega | (dsimp only; omega), hF10, by first | omega | (dsimp only; omega)⟩ (hasR_cons (by conv => lhs; whnf) (by rfl) rfl (hasR_cons (by conv => lhs; whnf) (by rfl) rfl trivial)) (hasQ_cons (by conv => lhs; whnf) (by rfl) rfl trivial)
  iterate 7 refine r_no rfl ?_
  refine s_pkf ?_
  refine k_nil ?_
  refine k_seq ?_
  refine awp_false rfl ?_
  refine awp_skip ?_
  refine k_seq ?_
  refine awp_region ?_
  refine s_mv ?_
  refine s_fa yF32_4 ?_
  refine s_ld1 yA30 ?_
  refine s_mv ?_
  replace hF5 := bind_some' hF5
  obtain ⟨v32, hv32, hF6⟩ := hF5
  refine s_ixT Form.row hv32 (Form.row_eq _) yE30 ?_
  refine s_ldN yA32 yS32 ?_
  refine s_mv ?_
  refine s_mv ?_
  replace hF6 := bind_some' hF6
  obtain ⟨v33, hv33, hF7⟩ := hF6
  refine s_call [(9300, 5040), (9200, 12051)] [] _ _ (ih_m_spec_l4Depths fu (by omega) _ _ _ _ _ hv33) ?_
  refine s_as ?_
  refine k_nil ?_
  refine k_blk ?_
  refine k_seq ?_
  refine awp_region ?_
  refine s_mv ?_
  refine s_add (winc2 hc22 hb23 hn_g20) ?_
  refine s_as ?_
  refine k_nil ?_
  exact s_rnd2 (fu, v33, (g20 + 1)) [(5040, 12051)] ⟨by first | omega | (dsimp only; omega), hF7, by first | omega | (dsimp only; omega)⟩ (hasR_cons (by conv => lhs; whnf) (by rfl) rfl (hasR_cons (by conv => lhs; whnf) (by rfl) rfl trivial)) (hasQ_cons (by conv => lhs; whnf) (by rfl) rfl trivial)
  refine awp_exit ?_
  refine k_seq_exit ?_
  refine k_rnd_exit2 ?_
  refine k_blk_exit ?_
  refine k_seq ?_
  refine awp_seq ?_
  refine awp_region ?_
  refine s_mv ?_
  refine s_as ?_
  refine k_nil ?_
  refine k_seq ?_
  refine awp_mv 8 5040 9200 (by conv => lhs; whnf) (by conv => lhs; whnf) rfl ?_
  refine awp_ret ?_
  refine k_fin ?_
  obtain rfl := Option.some.inj hF4
  exact ends_gen _ [] (by rw [Try.results82]; exact (res_tmp (by conv => lhs; whnf) res_nil))
theorem m_spec_l4Depths_all (fuel : Nat) : m_spec_l4Depths_AC fuel := by
  induction fuel using Nat.strongRecOn with
  | _ N ih =>
    cases N with
    | zero => exact (by intro x1 x2 x3 x4 r h; rw [m_spec_l4Depths] at h; cases h)
    | succ fu => exact m_spec_l4Depths_st fu (fun k hk => (ih k (by omega)))
theorem m_spec_l4Depths_ok (fuel : Nat) : m_spec_l4Depths_AC fuel := (m_spec_l4Depths_all fuel)
def m_spec_l4Is_AC (fuel : Nat) : Prop := ∀ (x1 : Form) (x2 : (List Form)) (r : Bool), m_spec_l4Is fuel x1 x2 = some r → AC Try.prog 67 [.ag [.t (.sc (.int .i64 x1.kind)), .t (.sc (.str x1.name)), .t (.sc (.int .i64 x1.n)), .t (.sl (x1.scopes.map rI)), .t (.sl (x1.kids.map Form.row))], .t (.sl (x2.map Form.row))] noOb (.t (.sc (.bool r))) noOb
theorem m_spec_l4Is_ok (fuel : Nat) : m_spec_l4Is_AC fuel := by
  intro x1 x2 r hF0
  unfold m_spec_l4Is at hF0
  refine AC_intro (rs := [.t (.sc (.bool r))]) Try.func67 rfl (by kernel_rfl) (by simp [Try.ntmps67]) (by simp [noOb]) ?_
  intro C hC
  rw [Try.ntmps67]
  refine awp_seq ?_
  refine awp_region ?_
  refine s_box ?_
  refine s_as ?_
  refine k_nil ?_
  refine k_seq ?_
  refine awp_seq ?_
  refine awp_seq ?_
  refine awp_region ?_
  refine s_ldW yA32 yS32 ?_
  replace hF0 := bind_some' hF0
  obtain ⟨v1, hv1, hF1⟩ := hF0
  refine s_pure [] (m_spec_FormValid_ok fuel _ _ hv1) ?_
  refine s_not ?_
  refine s_mv ?_
  refine w_guard _ 12 hF1 (fun hc2 hF2 => ?_) (fun hc2 hF2 => ?_) <;> clear hF1
  iterate 3 refine r_no rfl ?_
  refine s_pkt ?_
  refine s_mv ?_
  iterate 3 refine r_no rfl ?_
  refine s_pkt ?_
  refine k_nil ?_
  refine k_seq ?_
  refine awp_true rfl ?_
  refine awp_seq ?_
  refine awp_region ?_
  refine s_as ?_
  refine k_nil ?_
  refine k_seq ?_
  refine awp_ret ?_
  refine k_seq_ret ?_
  refine k_fin ?_
  obtain rfl := Option.some.inj hF2
  exact ends_gen [] [] (by rw [Try.results67]; exact (res_tmp (by conv => lhs; whnf) res_nil))
  refine s_mv ?_
  replace hF2 := bind_some' hF2
  obtain ⟨v3, hv3, hF3⟩ := hF2
  refine s_pure [] (m_spec_l4Literals_ok fuel _ _ hv3) ?_
  refine s_not ?_
  refine s_pkf ?_
  refine s_mv ?_
  refine w_guard _ 17 hF3 (fun hc4 hF4 => ?_) (fun hc4 hF4 => ?_) <;> clear hF3
  iterate 3 refine r_no rfl ?_
  refine s_pkt ?_
  refine k_nil ?_
  refine k_seq ?_
  refine awp_true rfl ?_
  refine awp_seq ?_
  refine awp_region ?_
  refine s_as ?_
  refine k_nil ?_
  refine k_seq ?_
  refine awp_ret ?_
  refine k_seq_ret ?_
  refine k_fin ?_
  obtain rfl := Option.some.inj hF4
  exact ends_gen [] [] (by rw [Try.results67]; exact (res_tmp (by conv => lhs; whnf) res_nil))
  refine s_ldW yA32 yS32 ?_
  replace hF4 := bind_some' hF4
  obtain ⟨v5, hv5, hF5⟩ := hF4
  refine s_pure [] (m_spec_l4Shape_ok fuel _ _ hv5) ?_
  refine s_not ?_
  refine s_pkf ?_
  refine k_nil ?_
  refine k_seq ?_
  refine w_cond hF5 (fun hc6 hF6 => ?_) (fun hc6 hF6 => ?_) <;> clear hF5
  refine awp_seq ?_
  refine awp_region ?_
  refine s_as ?_
  refine k_nil ?_
  refine k_seq ?_
  refine awp_ret ?_
  refine k_seq_ret ?_
  refine k_fin ?_
  obtain rfl := Option.some.inj hF6
  exact ends_gen [] [] (by rw [Try.results67]; exact (res_tmp (by conv => lhs; whnf) res_nil))
  refine awp_skip ?_
  refine k_seq ?_
  refine awp_seq ?_
  refine awp_region ?_
  refine s_bs Form.row ([] : List Form) yP30 yR32 ?_
  refine s_ldW yA32 yS32 ?_
  refine s_mv ?_
  replace hF6 := bind_some' hF6
  obtain ⟨v7, hv7, hF7⟩ := hF6
  refine s_call [(9300, 22), (9200, 12025)] [] _ _ (m_spec_l4Vars_ok fuel _ _ _ _ hv7) ?_
  refine s_as ?_
  refine k_nil ?_
  refine k_seq ?_
  refine awp_seq ?_
  refine awp_seq ?_
  refine awp_region ?_
  refine s_as ?_
  refine k_nil ?_
  refine k_seq ?_
  refine awp_block ?_
  refine awp_frz 12025 (by conv => lhs; whnf) ?_
  refine awp_frame2 [4, 6, 26, 27, 28, 29, 30, 31, 32, 33, 34, 35, 36, 37, 38, 39] [12025] [] [] (fun a : Nat × Int × (List Form) => a.1) (fun a : Nat × Int × (List Form) => [(6, .t (.sc (.int .i64 a.2.1)))]) (fun a : Nat × Int × (List Form) => [(12025, .arr (a.2.2.map Form.row) 32 false)]) (fun a : Nat × Int × (List Form) => a.1 ≤ fuel ∧ m_spec_l4Is_l1 a.1 x1 x2 a.2.1 a.2.2 = some r ∧ 0 ≤ a.2.1) (fuel, 0, v7) ⟨Nat.le_refl _, hF7, by simp⟩ (by rfl) (by rfl) (fun _ => rfl) (hasF_cons (by conv => lhs; whnf) (by rfl) hasF_nil) (hasO_cons (by conv => lhs; whnf) (by rfl) hasO_nil) (fun _ h => by cases h) freshS_nil freshM_nil ?_
  clear hF7
  rintro ⟨fu, g8, g9⟩ ⟨hl10, hF8, hn_g8⟩
  dsimp only at hl10 hF8 hn_g8 ⊢
  obtain _ | fu := fu
  · rw [m_spec_l4Is_l1] at hF8; cases hF8
  rw [m_spec_l4Is_l1] at hF8
  refine awp_seq ?_
  refine awp_seq ?_
  refine awp_region ?_
  refine s_mv ?_
  refine s_mv ?_
  refine s_lenA yU30 ?_
  refine s_lt ?_
  refine k_nil ?_
  refine k_seq ?_
  refine w_cond hF8 (fun hc11 hF9 => ?_) (fun hc11 hF9 => ?_) <;> clear hF8
  refine awp_lenA 5 12025 (fun hb12 => ?_)
  refine awp_skip ?_
  refine k_seq ?_
  refine awp_seq ?_
  refine awp_block ?_
  refine awp_seq ?_
  refine awp_draw yMix (by kernel_rfl) ?_
  refine s_mv ?_
  refine s_mv ?_
  replace hF9 := bind_some' hF9
  obtain ⟨v13, hv13, hF10⟩ := hF9
  refine s_sl01 Form.row (fun y => Form.row_len y) hv13 yU30 yE30 ?_
  refine s_mv ?_
  refine s_mv ?_
  replace hF10 := bind_some' hF10
  obtain ⟨v14, hv14, hF11⟩ := hF10
  refine s_ixA Form.row hv14 yE30 ?_
  refine s_lAN Form.row hv14 (Form.row_eq _) yA32 yS32 ?_
  replace hF11 := bind_some' hF11
  obtain ⟨v15, hv15, hF12⟩ := hF11
  refine s_pure [] (m_spec_l4In_ok fu _ _ _ hv15) ?_
  refine k_nilD (by kernel_rfl) ?_
  refine k_seq ?_
  refine w_cond hF12 (fun hc16 hF13 => ?_) (fun hc16 hF13 => ?_) <;> clear hF12
  refine awp_seq ?_
  refine awp_region ?_
  refine s_as ?_
  refine k_nil ?_
  refine k_seq ?_
  refine awp_ret ?_
  refine k_blk_ret ?_
  refine k_seq_ret ?_
  refine k_rnd_ret2 ?_
  refine k_blk_ret ?_
  refine k_seq_ret ?_
  refine k_fin ?_
  obtain rfl := Option.some.inj hF13
  exact ends_gen [] [] (by rw [Try.results67]; exact (res_tmp (by conv => lhs; whnf) res_nil))
  refine awp_skip ?_
  refine k_blk ?_
  refine k_seq ?_
  refine awp_region ?_
  refine s_mv ?_
  refine s_add (winc2 hc11 hb12 hn_g8) ?_
  refine s_as ?_
  refine k_nil ?_
  exact s_rnd2 (fu, (g8 + 1), g9) [] ⟨by first | omega | (dsimp only; omega), hF13, by first | omega | (dsimp only; omega)⟩ (hasR_cons (by conv => lhs; whnf) (by rfl) rfl trivial) (hasQ_cons (by conv => lhs; whnf) (by rfl) rfl trivial)
  refine awp_exit ?_
  refine k_seq_exit ?_
  refine k_rnd_exit2 ?_
  refine k_blk_exit ?_
  refine k_seq ?_
  refine awp_seq ?_
  refine awp_region ?_
  refine s_bs rI ([] : List Int) yP22 yR3 ?_
  refine s_ldW yA32 yS32 ?_
  refine s_mv ?_
  replace hF9 := bind_some' hF9
  obtain ⟨v17, hv17, hF10⟩ := hF9
  refine s_call [(9300, 40), (9200, 12043)] [] _ _ (m_spec_l4Depths_ok fu _ _ _ _ _ hv17) ?_
  refine s_as ?_
  refine k_nil ?_
  refine k_seq ?_
  refine awp_seq ?_
  refine awp_seq ?_
  refine awp_region ?_
  refine s_as ?_
  refine k_nil ?_
  refine k_seq ?_
  refine awp_block ?_
  refine awp_frame2 [4, 8, 44, 45, 46, 47, 48, 49, 50, 51, 52, 53, 54] [] [] [] (fun a : Nat × Int => a.1) (fun a : Nat × Int => [(8, .t (.sc (.int .i64 a.2)))]) (fun a : Nat × Int => []) (fun a : Nat × Int => a.1 ≤ fu ∧ m_spec_l4Is_l2 a.1 g9 v17 a.2 = some r ∧ 0 ≤ a.2) (fu, 0) ⟨Nat.le_refl _, hF10, by simp⟩ (by rfl) (by rfl) (fun _ => rfl) (hasF_cons (by conv => lhs; whnf) (by rfl) hasF_nil) hasO_nil (fun _ h => by cases h) freshS_nil freshM_nil ?_
  clear hF10
  rintro ⟨fu, g18⟩ ⟨hl19, hF11, hn_g18⟩
  dsimp only at hl19 hF11 hn_g18 ⊢
  obtain _ | fu := fu
  · rw [m_spec_l4Is_l2] at hF11; cases hF11
  rw [m_spec_l4Is_l2] at hF11
  refine awp_seq ?_
  refine awp_seq ?_
  refine awp_region ?_
  refine s_mv ?_
  refine s_mv ?_
  refine s_lenA yU22 ?_
  refine s_lt ?_
  refine k_nil ?_
  refine k_seq ?_
  refine w_cond hF11 (fun hc20 hF12 => ?_) (fun hc20 hF12 => ?_) <;> clear hF11
  refine awp_lenA 7 12043 (fun hb21 => ?_)
  refine awp_skip ?_
  refine k_seq ?_
  refine awp_seq ?_
  refine awp_block ?_
  refine awp_seq ?_
  refine awp_region ?_
  refine s_mv ?_
  refine s_mv ?_
  replace hF12 := bind_some' hF12
  obtain ⟨v22, hv22, hF13⟩ := hF12
  refine s_ixA rI hv22 yE22 ?_
  refine s_lA1 rI hv22 rfl yA3 ?_
  refine s_gt ?_
  refine k_nil ?_
  refine k_seq ?_
  refine w_cond hF13 (fun hc23 hF14 => ?_) (fun hc23 hF14 => ?_) <;> clear hF13
  refine awp_seq ?_
  refine awp_region ?_
  refine s_as ?_
  refine k_nil ?_
  refine k_seq ?_
  refine awp_ret ?_
  refine k_blk_ret ?_
  refine k_seq_ret ?_
  refine k_rnd_ret2 ?_
  refine k_blk_ret ?_
  refine k_seq_ret ?_
  refine k_fin ?_
  obtain rfl := Option.some.inj hF14
  exact ends_gen [] [] (by rw [Try.results67]; exact (res_tmp (by conv => lhs; whnf) res_nil))
  refine awp_skip ?_
  refine k_blk ?_
  refine k_seq ?_
  refine awp_region ?_
  refine s_mv ?_
  refine s_add (winc2 hc20 hb21 hn_g18) ?_
  refine s_as ?_
  refine k_nil ?_
  exact s_rnd2 (fu, (g18 + 1)) [] ⟨by first | omega | (dsimp only; omega), hF14, by first | omega | (dsimp only; omega)⟩ (hasR_cons (by conv => lhs; whnf) (by rfl) rfl trivial) trivial
  refine awp_exit ?_
  refine k_seq_exit ?_
  refine k_rnd_exit2 ?_
  refine k_blk_exit ?_
  refine k_seq ?_
  refine awp_seq ?_
  refine awp_region ?_
  refine s_mv ?_
  refine s_lenA yU30 ?_
  refine s_le ?_
  refine s_as ?_
  refine k_nil ?_
  refine k_seq ?_
  refine awp_ret ?_
  refine k_fin ?_
  obtain rfl := Option.some.inj hF12
  exact ends_gen [] [] (by rw [Try.results67]; exact (res_tmp (by conv => lhs; whnf) res_nil))
end Go.Abs
end
section
set_option maxRecDepth 100000
set_option maxHeartbeats 4000000
set_option linter.unusedVariables false
namespace Go.Abs
open Go.Proofs
def m_spec_l15Open_AC (fuel : Nat) : Prop := ∀ (x1 : (List Int)) (r : l15Rd), m_spec_l15Open fuel x1 = some r → AC Try.prog 72 [.t (.sl (x1.map rB))] (objs []) (.rf 10 0) (objs [(10, .box [.t (.sl (r.b.map rB)), .t (.sc (.int .i64 r.p))])])
theorem m_spec_l15Open_ok (fuel : Nat) : m_spec_l15Open_AC fuel := by
  intro x1 r hF0
  unfold m_spec_l15Open at hF0
  refine AC_intro (rs := [.rf 10 0]) Try.func72 rfl (by kernel_rfl) (by simp [Try.ntmps72]) (keep_all rfl) ?_
  intro C hC
  rw [Try.ntmps72]
  refine awp_seq ?_
  refine awp_region ?_
  refine s_as ?_
  refine k_nil ?_
  refine k_seq ?_
  refine awp_seq ?_
  refine awp_seq ?_
  refine awp_region ?_
  refine s_mv ?_
  refine s_lenT yU51 ?_
  refine s_gt ?_
  refine k_nil ?_
  refine k_seq ?_
  refine w_cond hF0 (fun hc1 hF1 => ?_) (fun hc1 hF1 => ?_) <;> clear hF0
  refine awp_lenT 0 (fun hb2 => ?_)
  refine awp_region ?_
  refine s_mv ?_
  replace hF1 := bind_some' hF1
  obtain ⟨v3, hv3, hF2⟩ := hF1
  refine s_sl01 rB (fun _ => rfl) hv3 yU51 yE51 ?_
  refine s_as ?_
  refine k_nil ?_
  refine k_seq ?_
  refine awp_seq ?_
  refine awp_region ?_
  refine s_mv ?_
  refine s_bld yZ125 yL125 ?_
  refine s_box ?_
  refine s_as ?_
  refine k_nil ?_
  refine k_seq ?_
  refine awp_ret ?_
  refine k_fin ?_
  obtain rfl := Option.some.inj hF2
  exact ends_gen _ [] (by rw [Try.results72]; exact (res_tmp (by conv => lhs; whnf) res_nil))
  refine awp_skip ?_
  refine k_seq ?_
  refine awp_seq ?_
  refine awp_region ?_
  refine s_mv ?_
  refine s_bld yZ125 yL125 ?_
  refine s_box ?_
  refine s_as ?_
  refine k_nil ?_
  refine k_seq ?_
  refine awp_ret ?_
  refine k_fin ?_
  obtain rfl := Option.some.inj hF1
  exact ends_gen _ [] (by rw [Try.results72]; exact (res_tmp (by conv => lhs; whnf) res_nil))
def m_spec_l4Texts_AC (fuel : Nat) : Prop := ∀  (r : (List (List ByteArray))), m_spec_l4Texts fuel  = some r → AC Try.prog 113 [] noOb (.t (.sl (r.map (rL rS)))) noOb
theorem m_spec_l4Texts_ok (fuel : Nat) : m_spec_l4Texts_AC fuel := by
  intro  r hF0
  unfold m_spec_l4Texts at hF0
  refine AC_intro (rs := [.t (.sl (r.map (rL rS)))]) Try.func113 rfl (by kernel_rfl) (by simp [Try.ntmps113]) (by simp [noOb]) ?_
  intro C hC
  rw [Try.ntmps113]
  refine awp_seq ?_
  refine awp_region ?_
  refine s_as ?_
  refine k_nil ?_
  refine k_seq ?_
  refine awp_seq ?_
  refine awp_region ?_
  refine s_bs rS [(⟨#[40, 95, 32, 97, 32, 98, 41]⟩ : ByteArray), (⟨#[40, 115, 119, 97, 112, 32, 120, 32, 121, 41]⟩ : ByteArray)] yP95 yR9 ?_
  refine s_bs rS [(⟨#[40, 95, 32, 97, 32, 46, 46, 46, 41]⟩ : ByteArray), (⟨#[40, 108, 105, 115, 116, 32, 49, 32, 50, 32, 51, 41]⟩ : ByteArray)] yP95 yR9 ?_
  refine s_bs rS [(⟨#[40, 95, 32, 40, 120, 32, 118, 41, 32, 46, 46, 46, 32, 98, 111, 100, 121, 41]⟩ : ByteArray), (⟨#[40, 108, 101, 116, 32, 40, 112, 32, 49, 41, 32, 40, 113, 32, 50, 41, 32, 40, 102, 32, 112, 32, 113, 41, 41]⟩ : ByteArray)] yP95 yR9 ?_
  refine s_bs rS [(⟨#[40, 95, 32, 40, 40, 120, 32, 118, 41, 32, 46, 46, 46, 41, 32, 98, 111, 100, 121, 32, 46, 46, 46, 41]⟩ : ByteArray), (⟨#[40, 108, 101, 116, 32, 40, 40, 112, 32, 49, 41, 32, 40, 113, 32, 40, 103, 32, 50, 41, 41, 41, 32, 112, 32, 113, 41]⟩ : ByteArray)] yP95 yR9 ?_
  refine s_bs rS [(⟨#[40, 95, 32, 40, 97, 32, 98, 32, 46, 46, 46, 41, 32, 46, 46, 46, 41]⟩ : ByteArray), (⟨#[40, 109, 32, 40, 120, 32, 49, 32, 50, 41, 32, 40, 121, 41, 32, 40, 122, 32, 51, 41, 41]⟩ : ByteArray)] yP95 yR9 ?_
  refine s_bs rS [(⟨#[40, 95, 32, 97, 32, 101, 108, 115, 101, 32, 98, 41]⟩ : ByteArray), (⟨#[40, 109, 32, 112, 32, 101, 108, 115, 101, 32, 113, 41]⟩ : ByteArray)] yP95 yR9 ?_
  refine s_bs rS [(⟨#[40, 95, 41]⟩ : ByteArray), (⟨#[40, 109, 41]⟩ : ByteArray)] yP95 yR9 ?_
  refine s_bs rS [(⟨#[40, 95, 32, 53, 32, 97, 41]⟩ : ByteArray), (⟨#[40, 109, 32, 53, 32, 120, 41]⟩ : ByteArray)] yP95 yR9 ?_
  refine s_bs rS [(⟨#[40, 95, 32, 97, 32, 46, 46, 46, 32, 122, 41]⟩ : ByteArray), (⟨#[40, 109, 32, 49, 32, 50, 32, 51, 32, 52, 41]⟩ : ByteArray)] yP95 yR9 ?_
  refine s_bs rS [(⟨#[97]⟩ : ByteArray), (⟨#[40, 102, 32, 120, 41]⟩ : ByteArray)] yP95 yR9 ?_
  refine s_bs rS [(⟨#[40, 95, 32, 40, 97, 32, 40, 98, 32, 46, 46, 46, 41, 32, 46, 46, 46, 41, 32, 46, 46, 46, 41]⟩ : ByteArray), (⟨#[40, 109, 32, 40, 120, 32, 40, 49, 32, 50, 41, 32, 40, 41, 41, 32, 40, 121, 41, 41]⟩ : ByteArray)] yP95 yR9 ?_
  refine s_bs (rL rS) [[(⟨#[40, 95, 32, 97, 32, 98, 41]⟩ : ByteArray), (⟨#[40, 115, 119, 97, 112, 32, 120, 32, 121, 41]⟩ : ByteArray)], [(⟨#[40, 95, 32, 97, 32, 46, 46, 46, 41]⟩ : ByteArray), (⟨#[40, 108, 105, 115, 116, 32, 49, 32, 50, 32, 51, 41]⟩ : ByteArray)], [(⟨#[40, 95, 32, 40, 120, 32, 118, 41, 32, 46, 46, 46, 32, 98, 111, 100, 121, 41]⟩ : ByteArray), (⟨#[40, 108, 101, 116, 32, 40, 112, 32, 49, 41, 32, 40, 113, 32, 50, 41, 32, 40, 102, 32, 112, 32, 113, 41, 41]⟩ : ByteArray)], [(⟨#[40, 95, 32, 40, 40, 120, 32, 118, 41, 32, 46, 46, 46, 41, 32, 98, 111, 100, 121, 32, 46, 46, 46, 41]⟩ : ByteArray), (⟨#[40, 108, 101, 116, 32, 40, 40, 112, 32, 49, 41, 32, 40, 113, 32, 40, 103, 32, 50, 41, 41, 41, 32, 112, 32, 113, 41]⟩ : ByteArray)], [(⟨#[40, 95, 32, 40, 97, 32, 98, 32, 46, 46, 46, 41, 32, 46, 46, 46, 41]⟩ : ByteArray), (⟨#[40, 109, 32, 40, 120, 32, 49, 32, 50, 41, 32, 40, 121, 41, 32, 40, 122, 32, 51, 41, 41]⟩ : ByteArray)], [(⟨#[40, 95, 32, 97, 32, 101, 108, 115, 101, 32, 98, 41]⟩ : ByteArray), (⟨#[40, 109, 32, 112, 32, 101, 108, 115, 101, 32, 113, 41]⟩ : ByteArray)], [(⟨#[40, 95, 41]⟩ : ByteArray), (⟨#[40, 109, 41]⟩ : ByteArray)], [(⟨#[40, 95, 32, 53, 32, 97, 41]⟩ : ByteArray), (⟨#[40, 109, 32, 53, 32, 120, 41]⟩ : ByteArray)], [(⟨#[40, 95, 32, 97, 32, 46, 46, 46, 32, 122, 41]⟩ : ByteArray), (⟨#[40, 109, 32, 49, 32, 50, 32, 51, 32, 52, 41]⟩ : ByteArray)], [(⟨#[97]⟩ : ByteArray), (⟨#[40, 102, 32, 120, 41]⟩ : ByteArray)], [(⟨#[40, 95, 32, 40, 97, 32, 40, 98, 32, 46, 46, 46, 41, 32, 46, 46, 46, 41, 32, 46, 46, 46, 41]⟩ : ByteArray), (⟨#[40, 109, 32, 40, 120, 32, 40, 49, 32, 50, 41, 32, 40, 41, 41, 32, 40, 121, 41, 41]⟩ : ByteArray)]] yP122 yR95 ?_
  refine s_as ?_
  refine k_nil ?_
  refine k_seq ?_
  refine awp_ret ?_
  refine k_fin ?_
  obtain rfl := Option.some.inj hF0
  exact ends_gen [] [12] (by rw [Try.results113]; exact (res_tmp (by conv => lhs; whnf) res_nil))
def m_spec_l15Rd_pick_AC (fuel : Nat) : Prop := ∀ (o1 : l15Rd) (x2 : Int) (r : (Int × l15Rd)), m_spec_l15Rd_pick fuel o1 x2 = some r → AC Try.prog 73 [.rf 9000 0, .t (.sc (.int .i64 x2))] (objs [(9000, .box [.t (.sl (o1.b.map rB)), .t (.sc (.int .i64 o1.p))])]) (.t (.sc (.int .i64 r.1))) (objs [(9000, .box [.t (.sl (r.2.b.map rB)), .t (.sc (.int .i64 r.2.p))])])
theorem m_spec_l15Rd_pick_ok (fuel : Nat) : m_spec_l15Rd_pick_AC fuel := by
  intro o1 x2 r hF0
  unfold m_spec_l15Rd_pick at hF0
  refine AC_intro (rs := [.t (.sc (.int .i64 r.1))]) Try.func73 rfl (by kernel_rfl) (by simp [Try.ntmps73]) (keep_all rfl) ?_
  intro C hC
  rw [Try.ntmps73]
  refine awp_seq ?_
  refine awp_region ?_
  refine s_as ?_
  refine k_nil ?_
  refine k_seq ?_
  refine awp_seq ?_
  refine awp_region ?_
  refine s_mv ?_
  refine s_mv ?_
  refine s_nc ?_
  refine s_fa yF125_1 ?_
  refine s_ld1 yA3 ?_
  refine s_add rfl ?_
  refine s_nc ?_
  refine s_fa yF125_1 ?_
  refine s_stP yS3 ?_
  refine k_nil ?_
  refine k_seq ?_
  refine awp_seq ?_
  refine awp_seq ?_
  refine awp_region ?_
  refine s_mv ?_
  refine s_lt ?_
  refine s_mv ?_
  refine w_guard _ 17 hF0 (fun hc1 hF1 => ?_) (fun hc1 hF1 => ?_) <;> clear hF0
  iterate 6 refine r_no rfl ?_
  refine s_pkt ?_
  refine k_nil ?_
  refine k_seq ?_
  refine awp_true rfl ?_
  refine awp_seq ?_
  refine awp_region ?_
  refine s_as ?_
  refine k_nil ?_
  refine k_seq ?_
  refine awp_ret ?_
  refine k_seq_ret ?_
  refine k_fin ?_
  obtain rfl := Option.some.inj hF1
  exact ends_gen _ [] (by rw [Try.results73]; exact (res_tmp (by conv => lhs; whnf) res_nil))
  refine s_mv ?_
  refine s_nc ?_
  refine s_fa yF125_0 ?_
  refine s_ld1 yA51 ?_
  refine s_lenT yU51 ?_
  refine s_eq ?_
  refine s_pkf ?_
  refine k_nil ?_
  refine k_seq ?_
  refine w_cond hF1 (fun hc2 hF2 => ?_) (fun hc2 hF2 => ?_) <;> clear hF1
  refine awp_seq ?_
  refine awp_region ?_
  refine s_as ?_
  refine k_nil ?_
  refine k_seq ?_
  refine awp_ret ?_
  refine k_seq_ret ?_
  refine k_fin ?_
  obtain rfl := Option.some.inj hF2
  exact ends_gen _ [] (by rw [Try.results73]; exact (res_tmp (by conv => lhs; whnf) res_nil))
  refine awp_skip ?_
  refine k_seq ?_
  refine awp_seq ?_
  refine awp_region ?_
  refine s_mv ?_
  refine s_nc ?_
  refine s_fa yF125_1 ?_
  refine s_ld1 yA3 ?_
  refine s_sub rfl ?_
  refine s_as ?_
  refine k_nil ?_
  refine k_seq ?_
  refine awp_seq ?_
  refine awp_seq ?_
  refine awp_region ?_
  refine s_mv ?_
  refine s_mv ?_
  refine s_nc ?_
  refine s_fa yF125_0 ?_
  refine s_ld1 yA51 ?_
  refine s_lenT yU51 ?_
  refine s_lt ?_
  refine k_nil ?_
  refine k_seq ?_
  refine w_cond hF2 (fun hc3 hF3 => ?_) (fun hc3 hF3 => ?_) <;> clear hF2
  refine awp_seq ?_
  refine awp_region ?_
  refine s_mv ?_
  refine s_nc ?_
  refine s_fa yF125_0 ?_
  refine s_ld1 yA51 ?_
  refine s_mv ?_
  replace hF3 := bind_some' hF3
  obtain ⟨v4, hv4, hF4⟩ := hF3
  refine s_ixT rB hv4 rfl yE51 ?_
  refine s_ld1 yA5 ?_
  refine s_int yU5 yU3 rfl ?_
  refine s_mv ?_
  obtain ⟨hk5, hF5⟩ := chk_some hF4
  refine s_rem (h0 := not_zero hk5) ?_
  refine s_as ?_
  refine k_nil ?_
  refine k_seq ?_
  refine awp_ret ?_
  refine k_seq_ret ?_
  refine k_fin ?_
  obtain rfl := Option.some.inj hF5
  exact ends_gen _ [] (by rw [Try.results73]; exact (res_tmp (by conv => lhs; whnf) res_nil))
  refine awp_skip ?_
  refine k_seq ?_
  refine awp_seq ?_
  refine awp_draw yMix (by kernel_rfl) ?_
  refine s_mv ?_
  refine s_nc ?_
  refine s_fa yF125_0 ?_
  refine s_ld1 yA51 ?_
  refine s_mv ?_
  refine s_mv ?_
  refine s_nc ?_
  refine s_fa yF125_0 ?_
  refine s_ld1 yA51 ?_
  refine s_lenT yU51 ?_
  obtain ⟨hk6, hF4⟩ := chk_some hF3
  refine s_rem (h0 := not_zero hk6) ?_
  replace hF4 := bind_some' hF4
  obtain ⟨v7, hv7, hF5⟩ := hF4
  refine s_ixT rB hv7 rfl yE51 ?_
  refine s_ld1 yA5 ?_
  refine s_int yU5 yU3 rfl ?_
  refine s_mul rfl ?_
  refine s_mv ?_
  refine s_nc ?_
  refine s_fa yF125_0 ?_
  refine s_ld1 yA51 ?_
  refine s_mv ?_
  refine s_mul rfl ?_
  refine s_add rfl ?_
  refine s_mv ?_
  refine s_nc ?_
  refine s_fa yF125_0 ?_
  refine s_ld1 yA51 ?_
  refine s_lenT yU51 ?_
  obtain ⟨hk8, hF6⟩ := chk_some hF5
  refine s_rem (h0 := not_zero hk8) ?_
  replace hF6 := bind_some' hF6
  obtain ⟨v9, hv9, hF7⟩ := hF6
  refine s_ixT rB hv9 rfl yE51 ?_
  refine s_ld1 yA5 ?_
  refine s_int yU5 yU3 rfl ?_
  refine s_mul rfl ?_
  refine s_add rfl ?_
  refine s_mv ?_
  refine s_mul rfl ?_
  refine s_add rfl ?_
  refine s_mv ?_
  refine s_mv ?_
  refine s_nc ?_
  refine s_fa yF125_0 ?_
  refine s_ld1 yA51 ?_
  refine s_lenT yU51 ?_
  obtain ⟨hk10, hF8⟩ := chk_some hF7
  refine s_quo (h0 := not_zero hk10) rfl ?_
  refine s_mul rfl ?_
  refine s_add rfl ?_
  refine s_as ?_
  refine k_nilD (by kernel_rfl) ?_
  refine k_seq ?_
  refine awp_seq ?_
  refine awp_region ?_
  refine s_mv ?_
  refine s_mv ?_
  refine s_quo rfl ?_
  refine s_xor rfl ?_
  refine s_as ?_
  refine k_nil ?_
  refine k_seq ?_
  refine awp_seq ?_
  refine awp_region ?_
  refine s_mv ?_
  refine s_mv ?_
  obtain ⟨hk11, hF9⟩ := chk_some hF8
  refine s_rem (h0 := not_zero hk11) ?_
  refine s_as ?_
  refine k_nil ?_
  refine k_seq ?_
  refine awp_ret ?_
  refine k_fin ?_
  obtain rfl := Option.some.inj hF9
  exact ends_gen _ [] (by rw [Try.results73]; exact (res_tmp (by conv => lhs; whnf) res_nil))
def m_spec_l1Skip_AC (fuel : Nat) : Prop := ∀ (x1 : ByteArray) (x2 : Int) (r : Int), m_spec_l1Skip fuel x1 x2 = some r → AC Try.prog 141 [.t (.sc (.str x1)), .t (.sc (.int .i64 x2))] noOb (.t (.sc (.int .i64 r))) noOb
theorem m_spec_l1Skip_ok (fuel : Nat) : m_spec_l1Skip_AC fuel := by
  intro x1 x2 r hF0
  unfold m_spec_l1Skip at hF0
  refine AC_intro (rs := [.t (.sc (.int .i64 r))]) Try.func141 rfl (by kernel_rfl) (by simp [Try.ntmps141]) (by simp [noOb]) ?_
  intro C hC
  rw [Try.ntmps141]
  refine awp_seq ?_
  refine awp_region ?_
  refine s_as ?_
  refine k_nil ?_
  refine k_seq ?_
  refine awp_seq ?_
  refine awp_block ?_
  refine awp_frame2 [1, 5, 6, 7, 8, 9, 10, 11, 12, 13, 14, 15, 16] [] [] [] (fun a : Nat × Int => a.1) (fun a : Nat × Int => [(1, .t (.sc (.int .i64 a.2)))]) (fun a : Nat × Int => []) (fun a : Nat × Int => a.1 ≤ fuel ∧ m_spec_l1Skip_l1 a.1 x1 a.2 = some r) (fuel, x2) ⟨Nat.le_refl _, hF0⟩ (by rfl) (by rfl) (fun _ => rfl) (hasF_cons (by conv => lhs; whnf) (by rfl) hasF_nil) hasO_nil (fun _ h => by cases h) freshS_nil freshM_nil ?_
  clear hF0
  rintro ⟨fu, g1⟩ ⟨hl2, hF1⟩
  dsimp only at hl2 hF1 ⊢
  obtain _ | fu := fu
  · rw [m_spec_l1Skip_l1] at hF1; cases hF1
  rw [m_spec_l1Skip_l1] at hF1
  refine awp_seq ?_
  refine awp_seq ?_
  refine awp_region ?_
  refine s_mv ?_
  refine s_mv ?_
  refine s_lenS yU9 ?_
  refine s_lt ?_
  refine s_mv ?_
  refine w_guard _ 9 hF1 (fun hc3 hF2 => ?_) (fun hc3 hF2 => ?_) <;> clear hF1
  refine s_mv ?_
  refine s_mv ?_
  replace hF2 := bind_some' hF2
  obtain ⟨v4, hv4, hF3⟩ := hF2
  refine s_ixS hv4 yU9 ?_
  refine s_eq ?_
  refine s_pkt ?_
  refine k_nil ?_
  refine k_seq ?_
  refine w_cond hF3 (fun hc5 hF4 => ?_) (fun hc5 hF4 => ?_) <;> clear hF3
  refine awp_skip ?_
  refine k_seq ?_
  refine awp_block ?_
  refine awp_region ?_
  refine s_mv ?_
  refine s_add rfl ?_
  refine s_as ?_
  refine k_nil ?_
  refine k_blk ?_
  exact s_rnd2 (fu, (w64 (g1 + 1))) [] ⟨by first | omega | (dsimp only; omega), hF4⟩ (hasR_cons (by conv => lhs; whnf) (by rfl) rfl trivial) trivial
  refine awp_exit ?_
  refine k_seq_exit ?_
  refine k_rnd_exit2 ?_
  refine k_blk_exit ?_
  refine k_seq ?_
  refine awp_seq ?_
  refine awp_region ?_
  refine s_mv ?_
  refine s_as ?_
  refine k_nil ?_
  refine k_seq ?_
  refine awp_ret ?_
  refine k_fin ?_
  obtain rfl := Option.some.inj hF4
  exact ends_gen [] [] (by rw [Try.results141]; exact (res_tmp (by conv => lhs; whnf) res_nil))
  iterate 4 refine r_no rfl ?_
  refine s_pkf ?_
  refine k_nil ?_
  refine k_seq ?_
  refine awp_false rfl ?_
  refine awp_exit ?_
  refine k_seq_exit ?_
  refine k_rnd_exit2 ?_
  refine k_blk_exit ?_
  refine k_seq ?_
  refine awp_seq ?_
  refine awp_region ?_
  refine s_mv ?_
  refine s_as ?_
  refine k_nil ?_
  refine k_seq ?_
  refine awp_ret ?_
  refine k_fin ?_
  obtain rfl := Option.some.inj hF2
  exact ends_gen [] [] (by rw [Try.results141]; exact (res_tmp (by conv => lhs; whnf) res_nil))
def m_spec_l1Word_AC (fuel : Nat) : Prop := ∀ (x1 : ByteArray) (x2 : Int) (r : Int), m_spec_l1Word fuel x1 x2 = some r → AC Try.prog 155 [.t (.sc (.str x1)), .t (.sc (.int .i64 x2))] noOb (.t (.sc (.int .i64 r))) noOb
theorem m_spec_l1Word_ok (fuel : Nat) : m_spec_l1Word_AC fuel := by
  intro x1 x2 r hF0
  unfold m_spec_l1Word at hF0
  refine AC_intro (rs := [.t (.sc (.int .i64 r))]) Try.func155 rfl (by kernel_rfl) (by simp [Try.ntmps155]) (by simp [noOb]) ?_
  intro C hC
  rw [Try.ntmps155]
  refine awp_seq ?_
  refine awp_region ?_
  refine s_as ?_
  refine k_nil ?_
  refine k_seq ?_
  refine awp_seq ?_
  refine awp_block ?_
  refine awp_frame2 [1, 5, 6, 7, 8, 9, 10, 11, 12, 13, 14, 15, 16, 17, 18, 19, 20, 21, 22, 23, 24, 25, 26, 27, 28, 29, 30, 31, 32, 33, 34] [] [] [] (fun a : Nat × Int => a.1) (fun a : Nat × Int => [(1, .t (.sc (.int .i64 a.2)))]) (fun a : Nat × Int => []) (fun a : Nat × Int => a.1 ≤ fuel ∧ m_spec_l1Word_l1 a.1 x1 a.2 = some r) (fuel, x2) ⟨Nat.le_refl _, hF0⟩ (by rfl) (by rfl) (fun _ => rfl) (hasF_cons (by conv => lhs; whnf) (by rfl) hasF_nil) hasO_nil (fun _ h => by cases h) freshS_nil freshM_nil ?_
  clear hF0
  rintro ⟨fu, g1⟩ ⟨hl2, hF1⟩
  dsimp only at hl2 hF1 ⊢
  obtain _ | fu := fu
  · rw [m_spec_l1Word_l1] at hF1; cases hF1
  rw [m_spec_l1Word_l1] at hF1
  refine awp_seq ?_
  refine awp_seq ?_
  refine awp_region ?_
  refine s_mv ?_
  refine s_mv ?_
  refine s_lenS yU9 ?_
  refine s_lt ?_
  refine s_mv ?_
  refine w_guard _ 9 hF1 (fun hc3 hF2 => ?_) (fun hc3 hF2 => ?_) <;> clear hF1
  refine s_mv ?_
  refine s_mv ?_
  replace hF2 := bind_some' hF2
  obtain ⟨v4, hv4, hF3⟩ := hF2
  refine s_ixS hv4 yU9 ?_
  refine s_ne ?_
  refine s_pkt ?_
  refine s_mv ?_
  refine w_guard _ 15 hF3 (fun hc5 hF4 => ?_) (fun hc5 hF4 => ?_) <;> clear hF3
  refine s_mv ?_
  refine s_mv ?_
  replace hF4 := bind_some' hF4
  obtain ⟨v6, hv6, hF5⟩ := hF4
  refine s_ixS hv6 yU9 ?_
  refine s_ne ?_
  refine s_pkt ?_
  refine s_mv ?_
  refine w_guard _ 21 hF5 (fun hc7 hF6 => ?_) (fun hc7 hF6 => ?_) <;> clear hF5
  refine s_mv ?_
  refine s_mv ?_
  replace hF6 := bind_some' hF6
  obtain ⟨v8, hv8, hF7⟩ := hF6
  refine s_ixS hv8 yU9 ?_
  refine s_ne ?_
  refine s_pkt ?_
  refine s_mv ?_
  refine w_guard _ 27 hF7 (fun hc9 hF8 => ?_) (fun hc9 hF8 => ?_) <;> clear hF7
  refine s_mv ?_
  refine s_mv ?_
  replace hF8 := bind_some' hF8
  obtain ⟨v10, hv10, hF9⟩ := hF8
  refine s_ixS hv10 yU9 ?_
  refine s_ne ?_
  refine s_pkt ?_
  refine k_nil ?_
  refine k_seq ?_
  refine w_cond hF9 (fun hc11 hF10 => ?_) (fun hc11 hF10 => ?_) <;> clear hF9
  refine awp_skip ?_
  refine k_seq ?_
  refine awp_block ?_
  refine awp_region ?_
  refine s_mv ?_
  refine s_add rfl ?_
  refine s_as ?_
  refine k_nil ?_
  refine k_blk ?_
  exact s_rnd2 (fu, (w64 (g1 + 1))) [] ⟨by first | omega | (dsimp only; omega), hF10⟩ (hasR_cons (by conv => lhs; whnf) (by rfl) rfl trivial) trivial
  refine awp_exit ?_
  refine k_seq_exit ?_
  refine k_rnd_exit2 ?_
  refine k_blk_exit ?_
  refine k_seq ?_
  refine awp_seq ?_
  refine awp_region ?_
  refine s_mv ?_
  refine s_as ?_
  refine k_nil ?_
  refine k_seq ?_
  refine awp_ret ?_
  refine k_fin ?_
  obtain rfl := Option.some.inj hF10
  exact ends_gen [] [] (by rw [Try.results155]; exact (res_tmp (by conv => lhs; whnf) res_nil))
  iterate 4 refine r_no rfl ?_
  refine s_pkf ?_
  refine k_nil ?_
  refine k_seq ?_
  refine awp_false rfl ?_
  refine awp_exit ?_
  refine k_seq_exit ?_
  refine k_rnd_exit2 ?_
  refine k_blk_exit ?_
  refine k_seq ?_
  refine awp_seq ?_
  refine awp_region ?_
  refine s_mv ?_
  refine s_as ?_
  refine k_nil ?_
  refine k_seq ?_
  refine awp_ret ?_
  refine k_fin ?_
  obtain rfl := Option.some.inj hF8
  exact ends_gen [] [] (by rw [Try.results155]; exact (res_tmp (by conv => lhs; whnf) res_nil))
  iterate 4 refine r_no rfl ?_
  refine s_pkf ?_
  refine s_mv ?_
  iterate 4 refine r_no rfl ?_
  refine s_pkf ?_
  refine k_nil ?_
  refine k_seq ?_
  refine awp_false rfl ?_
  refine awp_exit ?_
  refine k_seq_exit ?_
  refine k_rnd_exit2 ?_
  refine k_blk_exit ?_
  refine k_seq ?_
  refine awp_seq ?_
  refine awp_region ?_
  refine s_mv ?_
  refine s_as ?_
  refine k_nil ?_
  refine k_seq ?_
  refine awp_ret ?_
  refine k_fin ?_
  obtain rfl := Option.some.inj hF6
  exact ends_gen [] [] (by rw [Try.results155]; exact (res_tmp (by conv => lhs; whnf) res_nil))
  iterate 4 refine r_no rfl ?_
  refine s_pkf ?_
  refine s_mv ?_
  iterate 4 refine r_no rfl ?_
  refine s_pkf ?_
  refine s_mv ?_
  iterate 4 refine r_no rfl ?_
  refine s_pkf ?_
  refine k_nil ?_
  refine k_seq ?_
  refine awp_false rfl ?_
  refine awp_exit ?_
  refine k_seq_exit ?_
  refine k_rnd_exit2 ?_
  refine k_blk_exit ?_
  refine k_seq ?_
  refine awp_seq ?_
  refine awp_region ?_
  refine s_mv ?_
  refine s_as ?_
  refine k_nil ?_
  refine k_seq ?_
  refine awp_ret ?_
  refine k_fin ?_
  obtain rfl := Option.some.inj hF4
  exact ends_gen [] [] (by rw [Try.results155]; exact (res_tmp (by conv => lhs; whnf) res_nil))
  iterate 4 refine r_no rfl ?_
  refine s_pkf ?_
  refine s_mv ?_
  iterate 4 refine r_no rfl ?_
  refine s_pkf ?_
  refine s_mv ?_
  iterate 4 refine r_no rfl ?_
  refine s_pkf ?_
  refine s_mv ?_
  iterate 4 refine r_no rfl ?_
  refine s_pkf ?_
  refine k_nil ?_
  refine k_seq ?_
  refine awp_false rfl ?_
  refine awp_exit ?_
  refine k_seq_exit ?_
  refine k_rnd_exit2 ?_
  refine k_blk_exit ?_
  refine k_seq ?_
  refine awp_seq ?_
  refine awp_region ?_
  refine s_mv ?_
  refine s_as ?_
  refine k_nil ?_
  refine k_seq ?_
  refine awp_ret ?_
  refine k_fin ?_
  obtain rfl := Option.some.inj hF2
  exact ends_gen [] [] (by rw [Try.results155]; exact (res_tmp (by conv => lhs; whnf) res_nil))
def m_spec_l15Num_AC (fuel : Nat) : Prop := ∀ (x1 : ByteArray) (r : (Int × Bool)), m_spec_l15Num fuel x1 = some r → AC Try.prog 156 [.t (.sc (.str x1))] noOb (.tp [.t (.sc (.int .i64 r.1)), .t (.sc (.bool r.2))]) noOb
theorem m_spec_l15Num_ok (fuel : Nat) : m_spec_l15Num_AC fuel := by
  intro x1 r hF0
  unfold m_spec_l15Num at hF0
  refine AC_intro (rs := [.t (.sc (.int .i64 r.1)), .t (.sc (.bool r.2))]) Try.func156 rfl (by kernel_rfl) (by simp [Try.ntmps156]) (by simp [noOb]) ?_
  intro C hC
  rw [Try.ntmps156]
  refine awp_seq ?_
  refine awp_region ?_
  refine s_as ?_
  refine s_as ?_
  refine k_nil ?_
  refine k_seq ?_
  refine awp_seqJ [4, 7, 8, 9, 10, 11, 12, 13, 14] [] [] [] (fun a : Nat × Bool => [(4, .t (.sc (.bool a.2)))]) (fun a : Nat × Bool => []) (fun a : Nat × Bool => a.1 ≤ fuel ∧ m_spec_l15Num_j1 a.1 x1 a.2 = some r) (by rfl) (fun _ => rfl) (fun _ h => by cases h) freshS_nil freshM_nil ?_ ?_
  refine awp_region ?_
  refine s_mv ?_
  refine s_lenS yU9 ?_
  refine s_gt ?_
  refine s_mv ?_
  refine w_guard _ 10 hF0 (fun hc1 hF1 => ?_) (fun hc1 hF1 => ?_) <;> clear hF0
  refine s_mv ?_
  replace hF1 := bind_some' hF1
  obtain ⟨v2, hv2, hF2⟩ := hF1
  refine s_ixS hv2 yU9 ?_
  refine s_eq ?_
  refine s_pkt ?_
  refine s_as ?_
  refine k_nil ?_
  exact s_join (fuel, (decide (v2 = 45))) [] ⟨by first | omega | (dsimp only; omega), hF2⟩ (hasR_cons (by conv => lhs; whnf) (by rfl) rfl trivial) trivial
  iterate 3 refine r_no rfl ?_
  refine s_pkf ?_
  refine s_as ?_
  refine k_nil ?_
  exact s_join (fuel, false) [] ⟨by first | omega | (dsimp only; omega), hF1⟩ (hasR_cons (by conv => lhs; whnf) (by rfl) rfl trivial) trivial
  clear hF0
  rintro ⟨fu, g3⟩ ⟨hl4, hF1⟩
  dsimp only at hl4 hF1 ⊢
  obtain _ | fu := fu
  · rw [m_spec_l15Num_j1] at hF1; cases hF1
  rw [m_spec_l15Num_j1] at hF1
  refine awp_seqJ [0, 15, 16, 17] [] [] [] (fun a : Nat × ByteArray => [(0, .t (.sc (.str a.2)))]) (fun a : Nat × ByteArray => []) (fun a : Nat × ByteArray => a.1 ≤ fu ∧ m_spec_l15Num_j2 a.1 g3 a.2 = some r) (by rfl) (fun _ => rfl) (fun _ h => by cases h) freshS_nil freshM_nil ?_ ?_
  refine awp_seq ?_
  refine awp_region ?_
  refine s_mv ?_
  refine k_nil ?_
  refine k_seq ?_
  refine w_cond hF1 (fun hc5 hF2 => ?_) (fun hc5 hF2 => ?_) <;> clear hF1
  refine awp_region ?_
  refine s_mv ?_
  replace hF2 := bind_some' hF2
  obtain ⟨v6, hv6, hF3⟩ := hF2
  refine s_ss10 hv6 yU9 ?_
  refine s_as ?_
  refine k_nil ?_
  exact s_join (fu, v6) [] ⟨by first | omega | (dsimp only; omega), hF3⟩ (hasR_cons (by conv => lhs; whnf) (by rfl) rfl trivial) trivial
  refine awp_skip ?_
  exact s_join (fu, x1) [] ⟨by first | omega | (dsimp only; omega), hF2⟩ (hasR_cons (by conv => lhs; whnf) (by rfl) rfl trivial) trivial
  clear hF1
  rintro ⟨fu, g7⟩ ⟨hl8, hF2⟩
  dsimp only at hl8 hF2 ⊢
  obtain _ | fu := fu
  · rw [m_spec_l15Num_j2] at hF2; cases hF2
  rw [m_spec_l15Num_j2] at hF2
  refine awp_seqJ [2, 3, 18, 19, 20, 21, 22, 23, 24, 25, 26, 27, 28, 29, 30, 31, 32, 33, 34, 35, 36, 37, 38] [] [] [] (fun a : Nat => []) (fun a : Nat => []) (fun a : Nat => a ≤ fu ∧ m_spec_l15Num_j3 a g3 g7  = some r) (by rfl) (fun _ => rfl) (fun _ h => by cases h) freshS_nil freshM_nil ?_ ?_
  refine awp_seq ?_
  refine awp_region ?_
  refine s_mv ?_
  refine s_lenS yU9 ?_
  refine s_eq ?_
  refine s_mv ?_
  refine w_guard _ 21 hF2 (fun hc9 hF3 => ?_) (fun hc9 hF3 => ?_) <;> clear hF2
  iterate 3 refine r_no rfl ?_
  refine s_pkt ?_
  refine s_mv ?_
  iterate 11 refine r_no rfl ?_
  refine s_pkt ?_
  refine k_nil ?_
  refine k_seq ?_
  refine awp_true rfl ?_
  refine awp_seq ?_
  refine awp_region ?_
  refine s_as ?_
  refine s_as ?_
  refine k_nil ?_
  refine k_seq ?_
  refine awp_ret ?_
  refine k_jn_ret ?_
  refine k_fin ?_
  obtain rfl := Option.some.inj hF3
  exact ends_gen [] [] (by rw [Try.results156]; exact (res_tmp (by conv => lhs; whnf) (res_tmp (by conv => lhs; whnf) res_nil)))
  refine s_mv ?_
  refine s_lenS yU9 ?_
  refine s_gt ?_
  refine s_pkf ?_
  refine s_mv ?_
  refine w_guard _ 26 hF3 (fun hc10 hF4 => ?_) (fun hc10 hF4 => ?_) <;> clear hF3
  iterate 11 refine r_no rfl ?_
  refine s_pkt ?_
  refine k_nil ?_
  refine k_seq ?_
  refine awp_true rfl ?_
  refine awp_seq ?_
  refine awp_region ?_
  refine s_as ?_
  refine s_as ?_
  refine k_nil ?_
  refine k_seq ?_
  refine awp_ret ?_
  refine k_jn_ret ?_
  refine k_fin ?_
  obtain rfl := Option.some.inj hF4
  exact ends_gen [] [] (by rw [Try.results156]; exact (res_tmp (by conv => lhs; whnf) (res_tmp (by conv => lhs; whnf) res_nil)))
  refine s_mv ?_
  replace hF4 := bind_some' hF4
  obtain ⟨v11, hv11, hF5⟩ := hF4
  refine s_ixS hv11 yU9 ?_
  refine s_eq ?_
  refine s_mv ?_
  refine w_guard _ 30 hF5 (fun hc12 hF6 => ?_) (fun hc12 hF6 => ?_) <;> clear hF5
  refine s_mv ?_
  refine s_lenS yU9 ?_
  refine s_gt ?_
  refine s_mv ?_
  refine w_guard _ 34 hF6 (fun hc13 hF7 => ?_) (fun hc13 hF7 => ?_) <;> clear hF6
  refine r_no rfl ?_
  refine s_pkt ?_
  refine s_pkt ?_
  refine s_pkf ?_
  refine k_nil ?_
  refine k_seq ?_
  refine awp_true rfl ?_
  refine awp_seq ?_
  refine awp_region ?_
  refine s_as ?_
  refine s_as ?_
  refine k_nil ?_
  refine k_seq ?_
  refine awp_ret ?_
  refine k_jn_ret ?_
  refine k_fin ?_
  obtain rfl := Option.some.inj hF7
  exact ends_gen [] [] (by rw [Try.results156]; exact (res_tmp (by conv => lhs; whnf) (res_tmp (by conv => lhs; whnf) res_nil)))
  refine s_mv ?_
  refine s_pkf ?_
  refine s_pkt ?_
  refine s_pkf ?_
  refine k_nil ?_
  refine k_seq ?_
  refine w_cond hF7 (fun hc14 hF8 => ?_) (fun hc14 hF8 => ?_) <;> clear hF7
  refine awp_seq ?_
  refine awp_region ?_
  refine s_as ?_
  refine s_as ?_
  refine k_nil ?_
  refine k_seq ?_
  refine awp_ret ?_
  refine k_jn_ret ?_
  refine k_fin ?_
  obtain rfl := Option.some.inj hF8
  exact ends_gen [] [] (by rw [Try.results156]; exact (res_tmp (by conv => lhs; whnf) (res_tmp (by conv => lhs; whnf) res_nil)))
  refine awp_skip ?_
  exact s_join (fu) [] ⟨by first | omega | (dsimp only; omega), hF8⟩ trivial trivial
  iterate 6 refine r_no rfl ?_
  refine s_pkf ?_
  refine s_pkf ?_
  refine k_nil ?_
  refine k_seq ?_
  refine awp_false rfl ?_
  refine awp_skip ?_
  exact s_join (fu) [] ⟨by first | omega | (dsimp only; omega), hF6⟩ trivial trivial
  clear hF2
  rintro fu ⟨hl15, hF3⟩
  obtain _ | fu := fu
  · rw [m_spec_l15Num_j3] at hF3; cases hF3
  rw [m_spec_l15Num_j3] at hF3
  refine awp_seq ?_
  refine awp_region ?_
  refine s_as ?_
  refine k_nil ?_
  refine k_seq ?_
  refine awp_seq ?_
  refine awp_seq ?_
  refine awp_region ?_
  refine s_as ?_
  refine k_nil ?_
  refine k_seq ?_
  refine awp_block ?_
  refine awp_frame2 [2, 3, 5, 6, 39, 40, 41, 42, 43, 44, 45, 46, 47, 48, 49, 50, 51, 52, 53, 54, 55, 56, 57, 58, 59, 60, 61, 62] [] [] [] (fun a : Nat × Int × Int => a.1) (fun a : Nat × Int × Int => [(5, .t (.sc (.int .i64 a.2.1))), (6, .t (.sc (.int .i64 a.2.2)))]) (fun a : Nat × Int × Int => []) (fun a : Nat × Int × Int => a.1 ≤ fu ∧ m_spec_l15Num_l4 a.1 g3 g7 a.2.1 a.2.2 = some r) (fu, 0, 0) ⟨Nat.le_refl _, hF3⟩ (by rfl) (by rfl) (fun _ => rfl) (hasF_cons (by conv => lhs; whnf) (by rfl) (hasF_cons (by conv => lhs; whnf) (by rfl) hasF_nil)) hasO_nil (fun _ h => by cases h) freshS_nil freshM_nil ?_
  clear hF3
  rintro ⟨fu, g16, g17⟩ ⟨hl18, hF4⟩
  dsimp only at hl18 hF4 ⊢
  obtain _ | fu := fu
  · rw [m_spec_l15Num_l4] at hF4; cases hF4
  rw [m_spec_l15Num_l4] at hF4
  refine awp_seq ?_
  refine awp_seq ?_
  refine awp_region ?_
  refine s_mv ?_
  refine s_mv ?_
  refine s_lenS yU9 ?_
  refine s_lt ?_
  refine k_nil ?_
  refine k_seq ?_
  refine w_cond hF4 (fun hc19 hF5 => ?_) (fun hc19 hF5 => ?_) <;> clear hF4
  refine awp_skip ?_
  refine k_seq ?_
  refine awp_seq ?_
  refine awp_block ?_
  refine awp_seq ?_
  refine awp_seqJ [45, 46, 47, 48, 49, 50, 51, 52, 53, 54] [] [] [] (fun a : Nat × Bool => [(54, .t (.sc (.bool a.2)))]) (fun a : Nat × Bool => []) (fun a : Nat × Bool => a.1 ≤ fu ∧ m_spec_l15Num_j5 a.1 g3 g7 g16 g17 a.2 = some r) (by rfl) (fun _ => rfl) (fun _ h => by cases h) freshS_nil freshM_nil ?_ ?_
  refine awp_region ?_
  refine s_mv ?_
  refine s_mv ?_
  replace hF5 := bind_some' hF5
  obtain ⟨v20, hv20, hF6⟩ := hF5
  refine s_ixS hv20 yU9 ?_
  refine s_lt ?_
  refine s_mv ?_
  refine w_guard _ 49 hF6 (fun hc21 hF7 => ?_) (fun hc21 hF7 => ?_) <;> clear hF6
  iterate 4 refine r_no rfl ?_
  refine s_pkt ?_
  refine k_nil ?_
  exact s_join (fu, true) [] ⟨by first | omega | (dsimp only; omega), hF7⟩ (hasR_cons (by conv => lhs; whnf) (by rfl) rfl trivial) trivial
  refine s_mv ?_
  refine s_mv ?_
  replace hF7 := bind_some' hF7
  obtain ⟨v22, hv22, hF8⟩ := hF7
  refine s_ixS hv22 yU9 ?_
  refine s_gt ?_
  refine s_pkf ?_
  refine k_nil ?_
  exact s_join (fu, (decide (57 < v22))) [] ⟨by first | omega | (dsimp only; omega), hF8⟩ (hasR_cons (by conv => lhs; whnf) (by rfl) rfl trivial) trivial
  clear hF5
  rintro ⟨fu, g23⟩ ⟨hl24, hF6⟩
  dsimp only at hl24 hF6 ⊢
  obtain _ | fu := fu
  · rw [m_spec_l15Num_j5] at hF6; cases hF6
  rw [m_spec_l15Num_j5] at hF6
  refine w_cond hF6 (fun hc25 hF7 => ?_) (fun hc25 hF7 => ?_) <;> clear hF6
  refine awp_seq ?_
  refine awp_region ?_
  refine s_as ?_
  refine s_as ?_
  refine k_nil ?_
  refine k_seq ?_
  refine awp_ret ?_
  refine k_seq_ret ?_
  refine k_blk_ret ?_
  refine k_seq_ret ?_
  refine k_rnd_ret2 ?_
  refine k_blk_ret ?_
  refine k_seq_ret ?_
  refine k_fin ?_
  obtain rfl := Option.some.inj hF7
  exact ends_gen [] [] (by rw [Try.results156]; exact (res_tmp (by conv => lhs; whnf) (res_tmp (by conv => lhs; whnf) res_nil)))
  refine awp_skip ?_
  refine k_seq ?_
  refine awp_region ?_
  refine s_mv ?_
  refine s_mul rfl ?_
  refine s_mv ?_
  refine s_mv ?_
  replace hF7 := bind_some' hF7
  obtain ⟨v26, hv26, hF8⟩ := hF7
  refine s_ixS hv26 yU9 ?_
  refine s_sub rfl ?_
  refine s_int yU5 yU3 rfl ?_
  refine s_add rfl ?_
  refine s_as ?_
  refine k_nil ?_
  refine k_blk ?_
  refine k_seq ?_
  refine awp_region ?_
  refine s_mv ?_
  refine s_add rfl ?_
  refine s_as ?_
  refine k_nil ?_
  exact s_rnd2 (fu, (w64 ((w64 (g16 * 10)) + (w64 (w8 (v26 - 48))))), (w64 (g17 + 1))) [] ⟨by first | omega | (dsimp only; omega), hF8⟩ (hasR_cons (by conv => lhs; whnf) (by rfl) rfl (hasR_cons (by conv => lhs; whnf) (by rfl) rfl trivial)) trivial
  refine awp_exit ?_
  refine k_seq_exit ?_
  refine k_rnd_exit2 ?_
  refine k_blk_exit ?_
  refine k_seq ?_
  refine awp_seq ?_
  refine awp_seq ?_
  refine awp_region ?_
  refine s_mv ?_
  refine k_nil ?_
  refine k_seq ?_
  refine w_cond hF5 (fun hc27 hF6 => ?_) (fun hc27 hF6 => ?_) <;> clear hF5
  refine awp_region ?_
  refine s_mv ?_
  refine s_neg rfl ?_
  refine s_as ?_
  refine k_nil ?_
  refine k_seq ?_
  refine awp_seq ?_
  refine awp_region ?_
  refine s_mv ?_
  refine s_as ?_
  refine s_as ?_
  refine k_nil ?_
  refine k_seq ?_
  refine awp_ret ?_
  refine k_fin ?_
  obtain rfl := Option.some.inj hF6
  exact ends_gen [] [] (by rw [Try.results156]; exact (res_tmp (by conv => lhs; whnf) (res_tmp (by conv => lhs; whnf) res_nil)))
  refine awp_skip ?_
  refine k_seq ?_
  refine awp_seq ?_
  refine awp_region ?_
  refine s_mv ?_
  refine s_as ?_
  refine s_as ?_
  refine k_nil ?_
  refine k_seq ?_
  refine awp_ret ?_
  refine k_fin ?_
  obtain rfl := Option.some.inj hF6
  exact ends_gen [] [] (by rw [Try.results156]; exact (res_tmp (by conv => lhs; whnf) (res_tmp (by conv => lhs; whnf) res_nil)))
def m_spec_l15Cut_AC (fuel : Nat) : Prop := ∀ (x1 : ByteArray) (x2 : Int) (r : (List ByteArray)), m_spec_l15Cut fuel x1 x2 = some r → AC Try.prog 161 [.t (.sc (.str x1)), .t (.sc (.int .u8 x2))] noOb (.t (.sl (r.map rS))) noOb
theorem m_spec_l15Cut_ok (fuel : Nat) : m_spec_l15Cut_AC fuel := by
  intro x1 x2 r hF0
  unfold m_spec_l15Cut at hF0
  refine AC_intro (rs := [.t (.sl (r.map rS))]) Try.func161 rfl (by kernel_rfl) (by simp [Try.ntmps161]) (by simp [noOb]) ?_
  intro C hC
  rw [Try.ntmps161]
  refine awp_seq ?_
  refine awp_region ?_
  refine s_as ?_
  refine k_nil ?_
  refine k_seq ?_
  refine awp_seq ?_
  refine awp_region ?_
  refine s_bs rS ([] : List ByteArray) yP95 yR9 ?_
  refine s_as ?_
  refine k_nil ?_
  refine k_seq ?_
  refine awp_seq ?_
  refine awp_region ?_
  refine s_as ?_
  refine k_nil ?_
  refine k_seq ?_
  refine awp_seq ?_
  refine awp_seq ?_
  refine awp_region ?_
  refine s_as ?_
  refine k_nil ?_
  refine k_seq ?_
  refine awp_block ?_
  refine awp_mv 5 8 5020 (by conv => lhs; whnf) (by conv => lhs; whnf) rfl ?_
  refine awp_frame2 [5, 6, 7, 9, 10, 11, 12, 13, 14, 15, 16, 17, 18, 19, 20, 21, 22, 23, 24, 25, 26, 27, 28, 29, 30, 31, 32, 33, 34] [5020] [31, 32] [5020] (fun a : Nat × (List ByteArray) × Int × Int => a.1) (fun a : Nat × (List ByteArray) × Int × Int => [(5, .ar 5020), (6, .t (.sc (.int .i64 a.2.2.1))), (7, .t (.sc (.int .i64 a.2.2.2)))]) (fun a : Nat × (List ByteArray) × Int × Int => [(5020, .arr (a.2.1.map rS) 9 true)]) (fun a : Nat × (List ByteArray) × Int × Int => a.1 ≤ fuel ∧ m_spec_l15Cut_l1 a.1 x1 x2 a.2.1 a.2.2.1 a.2.2.2 = some r) (fuel, ([] : List ByteArray), 0, 0) ⟨Nat.le_refl _, hF0⟩ (by rfl) (by rfl) (fun _ => rfl) (hasF_cons (by conv => lhs; whnf) (by rfl) (hasF_cons (by conv => lhs; whnf) (by rfl) (hasF_cons (by conv => lhs; whnf) (by rfl) hasF_nil))) (hasO_cons (by conv => lhs; whnf) (by rfl) hasO_nil) (fresh_C hC rfl) (by repeat (first | exact freshS_args rfl | refine freshS_upd rfl ?_ | refine freshS_frame rfl ?_)) (by repeat (first | exact freshM_no | exact objs_fresh rfl | refine freshM_upd rfl ?_ | refine freshM_frame rfl ?_)) ?_
  clear hF0
  rintro ⟨fu, g1, g2, g3⟩ ⟨hl4, hF1⟩
  dsimp only at hl4 hF1 ⊢
  obtain _ | fu := fu
  · rw [m_spec_l15Cut_l1] at hF1; cases hF1
  rw [m_spec_l15Cut_l1] at hF1
  refine awp_seq ?_
  refine awp_seq ?_
  refine awp_region ?_
  refine s_mv ?_
  refine s_mv ?_
  refine s_lenS yU9 ?_
  refine s_le ?_
  refine k_nil ?_
  refine k_seq ?_
  refine w_cond hF1 (fun hc5 hF2 => ?_) (fun hc5 hF2 => ?_) <;> clear hF1
  refine awp_skip ?_
  refine k_seq ?_
  refine awp_seq ?_
  refine awp_block ?_
  refine awp_seqJ [15, 16, 17, 18, 19, 20, 21, 22, 23, 24, 25] [] [] [] (fun a : Nat × Bool => [(25, .t (.sc (.bool a.2)))]) (fun a : Nat × Bool => []) (fun a : Nat × Bool => a.1 ≤ fu ∧ m_spec_l15Cut_j2 a.1 x1 x2 g1 g2 g3 a.2 = some r) (by rfl) (fun _ => rfl) (fun _ h => by cases h) freshS_nil freshM_nil ?_ ?_
  refine awp_region ?_
  refine s_mv ?_
  refine s_mv ?_
  refine s_lenS yU9 ?_
  refine s_eq ?_
  refine s_mv ?_
  refine w_guard _ 19 hF2 (fun hc6 hF3 => ?_) (fun hc6 hF3 => ?_) <;> clear hF2
  iterate 5 refine r_no rfl ?_
  refine s_pkt ?_
  refine k_nil ?_
  exact s_join (fu, true) [] ⟨by first | omega | (dsimp only; omega), hF3⟩ (hasR_cons (by conv => lhs; whnf) (by rfl) rfl trivial) trivial
  refine s_mv ?_
  refine s_mv ?_
  replace hF3 := bind_some' hF3
  obtain ⟨v7, hv7, hF4⟩ := hF3
  refine s_ixS hv7 yU9 ?_
  refine s_mv ?_
  refine s_eq ?_
  refine s_pkf ?_
  refine k_nil ?_
  exact s_join (fu, (decide (v7 = x2))) [] ⟨by first | omega | (dsimp only; omega), hF4⟩ (hasR_cons (by conv => lhs; whnf) (by rfl) rfl trivial) trivial
  clear hF2
  rintro ⟨fu, g8⟩ ⟨hl9, hF3⟩
  dsimp only at hl9 hF3 ⊢
  obtain _ | fu := fu
  · rw [m_spec_l15Cut_j2] at hF3; cases hF3
  rw [m_spec_l15Cut_j2] at hF3
  refine w_cond hF3 (fun hc10 hF4 => ?_) (fun hc10 hF4 => ?_) <;> clear hF3
  refine awp_seq ?_
  refine awp_region ?_
  iterate 4 refine s_mv ?_
  replace hF4 := bind_some' hF4
  obtain ⟨v11, hv11, hF5⟩ := hF4
  refine s_ss11 hv11 yU9 ?_
  refine s_bs rS [v11] yP95 yR9 ?_
  obtain ⟨hk12, hF6⟩ := chk_some hF5
  refine s_apT rS (fun _ => rfl) hk12 yP95 ?_
  refine s_as ?_
  refine k_nil ?_
  refine k_seq ?_
  refine awp_region ?_
  refine s_mv ?_
  refine s_add rfl ?_
  refine s_as ?_
  refine k_nil ?_
  refine k_blk ?_
  refine k_seq ?_
  refine awp_region ?_
  refine s_mv ?_
  refine s_add rfl ?_
  refine s_as ?_
  refine k_nil ?_
  exact s_rnd2 (fu, (g1 ++ [v11]), (w64 (g3 + 1)), (w64 (g3 + 1))) [(5020, 32)] ⟨by first | omega | (dsimp only; omega), hF6⟩ (hasR_cons (by conv => lhs; whnf) (by rfl) rfl (hasR_cons (by conv => lhs; whnf) (by rfl) rfl (hasR_cons (by conv => lhs; whnf) (by rfl) rfl trivial))) (hasQ_cons (by conv => lhs; whnf) (by rfl) rfl trivial)
  refine awp_skip ?_
  refine k_blk ?_
  refine k_seq ?_
  refine awp_region ?_
  refine s_mv ?_
  refine s_add rfl ?_
  refine s_as ?_
  refine k_nil ?_
  exact s_rnd2 (fu, g1, g2, (w64 (g3 + 1))) [] ⟨by first | omega | (dsimp only; omega), hF4⟩ (hasR_cons (by conv => lhs; whnf) (by rfl) rfl (hasR_cons (by conv => lhs; whnf) (by rfl) rfl (hasR_cons (by conv => lhs; whnf) (by rfl) rfl trivial))) (hasQ_cons (by conv => lhs; whnf) (by rfl) rfl trivial)
  refine awp_exit ?_
  refine k_seq_exit ?_
  refine k_rnd_exit2 ?_
  refine k_blk_exit ?_
  refine k_seq ?_
  refine awp_seq ?_
  refine awp_region ?_
  refine s_mv ?_
  refine s_as ?_
  refine k_nil ?_
  refine k_seq ?_
  refine awp_ret ?_
  refine k_fin ?_
  obtain rfl := Option.some.inj hF2
  exact ends_gen [] [5020] (by rw [Try.results161]; exact (res_tmp (by conv => lhs; whnf) res_nil))
def m_spec_l1Sets_AC (fuel : Nat) : Prop := ∀ (x1 : ByteArray) (x2 : Int) (r : ((List Int) × Int)), m_spec_l1Sets fuel x1 x2 = some r → AC Try.prog 157 [.t (.sc (.str x1)), .t (.sc (.int .i64 x2))] noOb (.tp [.t (.sl (r.1.map rI)), .t (.sc (.int .i64 r.2))]) noOb
theorem m_spec_l1Sets_ok (fuel : Nat) : m_spec_l1Sets_AC fuel := by
  intro x1 x2 r hF0
  unfold m_spec_l1Sets at hF0
  refine AC_intro (rs := [.t (.sl (r.1.map rI)), .t (.sc (.int .i64 r.2))]) Try.func157 rfl (by kernel_rfl) (by simp [Try.ntmps157]) (by simp [noOb]) ?_
  intro C hC
  rw [Try.ntmps157]
  refine awp_seq ?_
  refine awp_region ?_
  refine s_as ?_
  refine s_as ?_
  refine k_nil ?_
  refine k_seq ?_
  refine awp_seq ?_
  refine awp_region ?_
  refine s_bs rI ([] : List Int) yP22 yR3 ?_
  refine s_as ?_
  refine k_nil ?_
  refine k_seq ?_
  refine awp_seq ?_
  refine awp_seqJ [13, 14, 15, 16, 17, 18, 19, 20, 21, 22] [] [] [] (fun a : Nat × Bool => [(22, .t (.sc (.bool a.2)))]) (fun a : Nat × Bool => []) (fun a : Nat × Bool => a.1 ≤ fuel ∧ m_spec_l1Sets_j1 a.1 x1 x2 a.2 = some r) (by rfl) (fun _ => rfl) (fun _ h => by cases h) freshS_nil freshM_nil ?_ ?_
  refine awp_region ?_
  refine s_mv ?_
  refine s_mv ?_
  refine s_lenS yU9 ?_
  refine s_ge ?_
  refine s_mv ?_
  refine w_guard _ 17 hF0 (fun hc1 hF1 => ?_) (fun hc1 hF1 => ?_) <;> clear hF0
  iterate 4 refine r_no rfl ?_
  refine s_pkt ?_
  refine k_nil ?_
  exact s_join (fuel, true) [] ⟨by first | omega | (dsimp only; omega), hF1⟩ (hasR_cons (by conv => lhs; whnf) (by rfl) rfl trivial) trivial
  refine s_mv ?_
  refine s_mv ?_
  replace hF1 := bind_some' hF1
  obtain ⟨v2, hv2, hF2⟩ := hF1
  refine s_ixS hv2 yU9 ?_
  refine s_ne ?_
  refine s_pkf ?_
  refine k_nil ?_
  exact s_join (fuel, (decide (v2 ≠ 123))) [] ⟨by first | omega | (dsimp only; omega), hF2⟩ (hasR_cons (by conv => lhs; whnf) (by rfl) rfl trivial) trivial
  clear hF0
  rintro ⟨fu, g3⟩ ⟨hl4, hF1⟩
  dsimp only at hl4 hF1 ⊢
  obtain _ | fu := fu
  · rw [m_spec_l1Sets_j1] at hF1; cases hF1
  rw [m_spec_l1Sets_j1] at hF1
  refine w_cond hF1 (fun hc5 hF2 => ?_) (fun hc5 hF2 => ?_) <;> clear hF1
  refine awp_seq ?_
  refine awp_region ?_
  refine s_mv ?_
  refine s_mv ?_
  refine s_as ?_
  refine s_as ?_
  refine k_nil ?_
  refine k_seq ?_
  refine awp_ret ?_
  refine k_seq_ret ?_
  refine k_fin ?_
  obtain rfl := Option.some.inj hF2
  exact ends_gen [] [12] (by rw [Try.results157]; exact (res_tmp (by conv => lhs; whnf) (res_tmp (by conv => lhs; whnf) res_nil)))
  refine awp_skip ?_
  refine k_seq ?_
  refine awp_seq ?_
  refine awp_region ?_
  refine s_mv ?_
  refine s_as ?_
  refine k_nil ?_
  refine k_seq ?_
  refine awp_seqJ [7, 26, 27, 28, 29, 30, 31, 32, 33, 34, 35, 36, 37] [] [] [] (fun a : Nat × Int => [(7, .t (.sc (.int .i64 a.2)))]) (fun a : Nat × Int => []) (fun a : Nat × Int => a.1 ≤ fu ∧ m_spec_l1Sets_j2 a.1 x1 x2 a.2 = some r) (by rfl) (fun _ => rfl) (fun _ h => by cases h) freshS_nil freshM_nil ?_ ?_
  refine awp_block ?_
  refine awp_frame2 [7, 26, 27, 28, 29, 30, 31, 32, 33, 34, 35, 36, 37] [] [] [] (fun a : Nat × Int => a.1) (fun a : Nat × Int => [(7, .t (.sc (.int .i64 a.2)))]) (fun a : Nat × Int => []) (fun a : Nat × Int => a.1 ≤ fu ∧ m_spec_l1Sets_l3 a.1 x1 x2 a.2 = some r) (fu, x2) ⟨Nat.le_refl _, hF2⟩ (by rfl) (by rfl) (fun _ => rfl) (hasF_cons (by conv => lhs; whnf) (by rfl) hasF_nil) hasO_nil (fun _ h => by cases h) freshS_nil freshM_nil ?_
  clear hF2
  rintro ⟨fu, g6⟩ ⟨hl7, hF3⟩
  dsimp only at hl7 hF3 ⊢
  obtain _ | fu := fu
  · rw [m_spec_l1Sets_l3] at hF3; cases hF3
  rw [m_spec_l1Sets_l3] at hF3
  refine awp_seq ?_
  refine awp_seq ?_
  refine awp_region ?_
  refine s_mv ?_
  refine s_mv ?_
  refine s_lenS yU9 ?_
  refine s_lt ?_
  refine s_mv ?_
  refine w_guard _ 30 hF3 (fun hc8 hF4 => ?_) (fun hc8 hF4 => ?_) <;> clear hF3
  refine s_mv ?_
  refine s_mv ?_
  replace hF4 := bind_some' hF4
  obtain ⟨v9, hv9, hF5⟩ := hF4
  refine s_ixS hv9 yU9 ?_
  refine s_ne ?_
  refine s_pkt ?_
  refine k_nil ?_
  refine k_seq ?_
  refine w_cond hF5 (fun hc10 hF6 => ?_) (fun hc10 hF6 => ?_) <;> clear hF5
  refine awp_skip ?_
  refine k_seq ?_
  refine awp_block ?_
  refine awp_region ?_
  refine s_mv ?_
  refine s_add rfl ?_
  refine s_as ?_
  refine k_nil ?_
  refine k_blk ?_
  exact s_rnd2 (fu, (w64 (g6 + 1))) [] ⟨by first | omega | (dsimp only; omega), hF6⟩ (hasR_cons (by conv => lhs; whnf) (by rfl) rfl trivial) trivial
  refine awp_exit ?_
  refine k_seq_exit ?_
  refine k_rnd_exit2 ?_
  refine k_blk_exit ?_
  exact s_join (fu, g6) [] ⟨by first | omega | (dsimp only; omega), hF6⟩ (hasR_cons (by conv => lhs; whnf) (by rfl) rfl trivial) trivial
  iterate 4 refine r_no rfl ?_
  refine s_pkf ?_
  refine k_nil ?_
  refine k_seq ?_
  refine awp_false rfl ?_
  refine awp_exit ?_
  refine k_seq_exit ?_
  refine k_rnd_exit2 ?_
  refine k_blk_exit ?_
  exact s_join (fu, g6) [] ⟨by first | omega | (dsimp only; omega), hF4⟩ (hasR_cons (by conv => lhs; whnf) (by rfl) rfl trivial) trivial
  clear hF2
  rintro ⟨fu, g11⟩ ⟨hl12, hF3⟩
  dsimp only at hl12 hF3 ⊢
  obtain _ | fu := fu
  · rw [m_spec_l1Sets_j2] at hF3; cases hF3
  rw [m_spec_l1Sets_j2] at hF3
  refine awp_seq ?_
  refine awp_seq ?_
  refine awp_region ?_
  refine s_mv ?_
  refine s_mv ?_
  refine s_lenS yU9 ?_
  refine s_eq ?_
  refine k_nil ?_
  refine k_seq ?_
  refine w_cond hF3 (fun hc13 hF4 => ?_) (fun hc13 hF4 => ?_) <;> clear hF3
  refine awp_seq ?_
  refine awp_region ?_
  refine s_mv ?_
  refine s_as ?_
  refine s_as ?_
  refine k_nil ?_
  refine k_seq ?_
  refine awp_ret ?_
  refine k_seq_ret ?_
  refine k_fin ?_
  obtain rfl := Option.some.inj hF4
  exact ends_gen [] [12] (by rw [Try.results157]; exact (res_tmp (by conv => lhs; whnf) (res_tmp (by conv => lhs; whnf) res_nil)))
  refine awp_skip ?_
  refine k_seq ?_
  refine awp_seq ?_
  refine awp_region ?_
  refine s_mv ?_
  refine s_mv ?_
  refine s_add rfl ?_
  refine s_mv ?_
  replace hF4 := bind_some' hF4
  obtain ⟨v14, hv14, hF5⟩ := hF4
  refine s_ss11 hv14 yU9 ?_
  replace hF5 := bind_some' hF5
  obtain ⟨v15, hv15, hF6⟩ := hF5
  refine s_pure [] (m_spec_l15Cut_ok fu _ _ _ hv15) ?_
  refine s_as ?_
  refine k_nil ?_
  refine k_seq ?_
  refine awp_seq ?_
  refine awp_seq ?_
  refine awp_region ?_
  refine s_as ?_
  refine k_nil ?_
  refine k_seq ?_
  refine awp_block ?_
  refine awp_mv 6 12 5080 (by conv => lhs; whnf) (by conv => lhs; whnf) rfl ?_
  refine awp_frame2 [4, 5, 6, 9, 10, 11, 49, 50, 51, 52, 53, 54, 55, 56, 57, 58, 59, 60, 61, 62, 63, 64, 65, 66, 67, 68, 69, 70, 71, 72, 73] [5080] [72, 73] [5080] (fun a : Nat × (List Int) × Int => a.1) (fun a : Nat × (List Int) × Int => [(6, .ar 5080), (9, .t (.sc (.int .i64 a.2.2)))]) (fun a : Nat × (List Int) × Int => [(5080, .arr (a.2.1.map rI) 3 true)]) (fun a : Nat × (List Int) × Int => a.1 ≤ fu ∧ m_spec_l1Sets_l4 a.1 g11 v15 a.2.1 a.2.2 = some r) (fu, ([] : List Int), 0) ⟨Nat.le_refl _, hF6⟩ (by rfl) (by rfl) (fun _ => rfl) (hasF_cons (by conv => lhs; whnf) (by rfl) (hasF_cons (by conv => lhs; whnf) (by rfl) hasF_nil)) (hasO_cons (by conv => lhs; whnf) (by rfl) hasO_nil) (fresh_C hC rfl) (by repeat (first | exact freshS_args rfl | refine freshS_upd rfl ?_ | refine freshS_frame rfl ?_)) (by repeat (first | exact freshM_no | exact objs_fresh rfl | refine freshM_upd rfl ?_ | refine freshM_frame rfl ?_)) ?_
  clear hF6
  rintro ⟨fu, g16, g17⟩ ⟨hl18, hF7⟩
  dsimp only at hl18 hF7 ⊢
  obtain _ | fu := fu
  · rw [m_spec_l1Sets_l4] at hF7; cases hF7
  rw [m_spec_l1Sets_l4] at hF7
  refine awp_seq ?_
  refine awp_seqJ [49, 50, 51, 52, 53, 54, 55, 56] [] [] [] (fun a : Nat × Bool => [(56, .t (.sc (.bool a.2)))]) (fun a : Nat × Bool => []) (fun a : Nat × Bool => a.1 ≤ fu ∧ m_spec_l1Sets_j5 a.1 g11 v15 g16 g17 a.2 = some r) (by rfl) (fun _ => rfl) (fun _ h => by cases h) freshS_nil freshM_nil ?_ ?_
  refine awp_region ?_
  refine s_mv ?_
  refine s_mv ?_
  refine s_lenT yU95 ?_
  refine s_lt ?_
  refine s_mv ?_
  refine w_guard _ 53 hF7 (fun hc19 hF8 => ?_) (fun hc19 hF8 => ?_) <;> clear hF7
  refine s_mv ?_
  refine s_le ?_
  refine s_pkt ?_
  refine k_nil ?_
  exact s_join (fu, (decide (g17 ≤ 24))) [] ⟨by first | omega | (dsimp only; omega), hF8⟩ (hasR_cons (by conv => lhs; whnf) (by rfl) rfl trivial) trivial
  refine r_no rfl ?_
  refine r_no rfl ?_
  refine s_pkf ?_
  refine k_nil ?_
  exact s_join (fu, false) [] ⟨by first | omega | (dsimp only; omega), hF8⟩ (hasR_cons (by conv => lhs; whnf) (by rfl) rfl trivial) trivial
  clear hF7
  rintro ⟨fu, g20⟩ ⟨hl21, hF8⟩
  dsimp only at hl21 hF8 ⊢
  obtain _ | fu := fu
  · rw [m_spec_l1Sets_j5] at hF8; cases hF8
  rw [m_spec_l1Sets_j5] at hF8
  refine w_cond hF8 (fun hc22 hF9 => ?_) (fun hc22 hF9 => ?_) <;> clear hF8
  refine awp_skip ?_
  refine k_seq ?_
  refine awp_seq ?_
  refine awp_block ?_
  refine awp_seq ?_
  refine awp_region ?_
  refine s_mv ?_
  refine s_mv ?_
  replace hF9 := bind_some' hF9
  obtain ⟨v23, hv23, hF10⟩ := hF9
  refine s_ixT rS hv23 rfl yE95 ?_
  refine s_ld1 yA9 ?_
  replace hF10 := bind_some' hF10
  obtain ⟨v24, hv24, hF11⟩ := hF10
  refine s_pure [] (m_spec_l15Num_ok fu _ _ hv24) ?_
  refine s_mv ?_
  refine s_ext ?_
  refine s_ext ?_
  refine s_as ?_
  refine s_as ?_
  refine k_nil ?_
  refine k_seq ?_
  refine awp_seq ?_
  refine awp_seq ?_
  refine awp_region ?_
  refine s_mv ?_
  refine s_not ?_
  refine k_nil ?_
  refine k_seq ?_
  refine w_cond hF11 (fun hc25 hF12 => ?_) (fun hc25 hF12 => ?_) <;> clear hF11
  refine awp_seq ?_
  refine awp_region ?_
  refine s_mv ?_
  refine s_as ?_
  refine s_as ?_
  refine k_nil ?_
  refine k_seq ?_
  refine awp_ret ?_
  refine k_seq_ret ?_
  refine k_blk_ret ?_
  refine k_seq_ret ?_
  refine k_rnd_ret2 ?_
  refine k_blk_ret ?_
  refine k_seq_ret ?_
  refine k_fin ?_
  obtain rfl := Option.some.inj hF12
  exact ends_gen [] [5080] (by rw [Try.results157]; exact (res_tmp (by conv => lhs; whnf) (res_tmp (by conv => lhs; whnf) res_nil)))
  refine awp_skip ?_
  refine k_seq ?_
  refine awp_region ?_
  refine s_mv ?_
  refine s_mv ?_
  refine s_bs rI [v24.1] yP22 yR3 ?_
  obtain ⟨hk26, hF13⟩ := chk_some hF12
  refine s_apT rI (fun _ => rfl) hk26 yP22 ?_
  refine s_as ?_
  refine k_nil ?_
  refine k_blk ?_
  refine k_seq ?_
  refine awp_region ?_
  refine s_mv ?_
  refine s_add rfl ?_
  refine s_as ?_
  refine k_nil ?_
  exact s_rnd2 (fu, (g16 ++ [v24.1]), (w64 (g17 + 1))) [(5080, 73)] ⟨by first | omega | (dsimp only; omega), hF13⟩ (hasR_cons (by conv => lhs; whnf) (by rfl) rfl (hasR_cons (by conv => lhs; whnf) (by rfl) rfl trivial)) (hasQ_cons (by conv => lhs; whnf) (by rfl) rfl trivial)
  refine awp_exit ?_
  refine k_seq_exit ?_
  refine k_rnd_exit2 ?_
  refine k_blk_exit ?_
  refine k_seq ?_
  refine awp_seq ?_
  refine awp_region ?_
  refine s_mv ?_
  refine s_mv ?_
  refine s_add rfl ?_
  refine s_as ?_
  refine s_as ?_
  refine k_nil ?_
  refine k_seq ?_
  refine awp_ret ?_
  refine k_fin ?_
  obtain rfl := Option.some.inj hF9
  exact ends_gen [] [5080] (by rw [Try.results157]; exact (res_tmp (by conv => lhs; whnf) (res_tmp (by conv => lhs; whnf) res_nil)))
end Go.Abs
end
section
set_option maxRecDepth 100000
set_option maxHeartbeats 4000000
set_option linter.unusedVariables false
namespace Go.Abs
open Go.Proofs
def m_spec_l1Atom_AC (fuel : Nat) : Prop := ∀ (x1 : ByteArray) (x2 : Int) (r : (Form × Int)), m_spec_l1Atom fuel x1 x2 = some r → AC Try.prog 151 [.t (.sc (.str x1)), .t (.sc (.int .i64 x2))] noOb (.tp [.ag [.t (.sc (.int .i64 r.1.kind)), .t (.sc (.str r.1.name)), .t (.sc (.int .i64 r.1.n)), .t (.sl (r.1.scopes.map rI)), .t (.sl (r.1.kids.map Form.row))], .t (.sc (.int .i64 r.2))]) noOb
theorem m_spec_l1Atom_ok (fuel : Nat) : m_spec_l1Atom_AC fuel := by
  intro x1 x2 r hF0
  unfold m_spec_l1Atom at hF0
  refine AC_intro (rs := [.ag [.t (.sc (.int .i64 r.1.kind)), .t (.sc (.str r.1.name)), .t (.sc (.int .i64 r.1.n)), .t (.sl (r.1.scopes.map rI)), .t (.sl (r.1.kids.map Form.row))], .t (.sc (.int .i64 r.2))]) Try.func151 rfl (by kernel_rfl) (by simp [Try.ntmps151]) (by simp [noOb]) ?_
  intro C hC
  rw [Try.ntmps151]
  refine awp_seq ?_
  refine awp_region ?_
  refine s_alloc yZ32 ?_
  refine s_as ?_
  refine k_nil ?_
  refine k_seq ?_
  refine awp_seq ?_
  refine awp_region ?_
  refine s_mv ?_
  refine s_mv ?_
  replace hF0 := bind_some' hF0
  obtain ⟨v1, hv1, hF1⟩ := hF0
  refine s_pure [] (m_spec_l1Word_ok fuel _ _ _ hv1) ?_
  refine s_as ?_
  refine k_nil ?_
  refine k_seq ?_
  refine awp_seq ?_
  refine awp_region ?_
  iterate 3 refine s_mv ?_
  replace hF1 := bind_some' hF1
  obtain ⟨v2, hv2, hF2⟩ := hF1
  refine s_ss11 hv2 yU9 ?_
  refine s_as ?_
  refine k_nil ?_
  refine k_seq ?_
  refine awp_seq ?_
  refine awp_region ?_
  refine s_mv ?_
  replace hF2 := bind_some' hF2
  obtain ⟨v3, hv3, hF3⟩ := hF2
  refine s_pure [] (m_spec_l15Num_ok fuel _ _ hv3) ?_
  refine s_mv ?_
  refine s_ext ?_
  refine s_ext ?_
  refine s_as ?_
  refine s_as ?_
  refine k_nil ?_
  refine k_seq ?_
  refine awp_seq ?_
  refine awp_seq ?_
  refine awp_region ?_
  refine s_mv ?_
  refine k_nil ?_
  refine k_seq ?_
  refine w_cond hF3 (fun hc4 hF4 => ?_) (fun hc4 hF4 => ?_) <;> clear hF3
  refine awp_seq ?_
  refine awp_region ?_
  refine s_mv ?_
  refine s_bld yZ32 yL32 ?_
  refine s_mv ?_
  refine s_stW yS32 ?_
  refine s_as ?_
  refine k_nil ?_
  refine k_seq ?_
  refine awp_ret ?_
  refine k_seq_ret ?_
  refine k_fin ?_
  obtain rfl := Option.some.inj hF4
  exact ends_gen [] [] (by rw [Try.results151]; exact (res_agg (by conv => lhs; whnf) (by conv => lhs; whnf) yA32 yS32 rfl (res_tmp (by conv => lhs; whnf) res_nil)))
  refine awp_skip ?_
  refine k_seq ?_
  refine awp_seq ?_
  refine awp_seq ?_
  refine awp_region ?_
  refine s_mv ?_
  refine s_eqS ?_
  refine k_nil ?_
  refine k_seq ?_
  refine w_cond hF4 (fun hc5 hF5 => ?_) (fun hc5 hF5 => ?_) <;> clear hF4
  refine awp_seq ?_
  refine awp_region ?_
  refine s_bld yZ32 yL32 ?_
  refine s_stW yS32 ?_
  refine s_as ?_
  refine k_nil ?_
  refine k_seq ?_
  refine awp_ret ?_
  refine k_seq_ret ?_
  refine k_fin ?_
  obtain rfl := Option.some.inj hF5
  exact ends_gen [] [] (by rw [Try.results151]; exact (res_agg (by conv => lhs; whnf) (by conv => lhs; whnf) yA32 yS32 rfl (res_tmp (by conv => lhs; whnf) res_nil)))
  refine awp_skip ?_
  refine k_seq ?_
  refine awp_seq ?_
  refine awp_region ?_
  refine s_mv ?_
  refine s_mv ?_
  replace hF5 := bind_some' hF5
  obtain ⟨v6, hv6, hF6⟩ := hF5
  refine s_pure [] (m_spec_l1Sets_ok fuel _ _ _ hv6) ?_
  refine s_mv ?_
  refine s_ext ?_
  refine s_ext ?_
  refine s_as ?_
  refine s_as ?_
  refine k_nil ?_
  refine k_seq ?_
  refine awp_seq ?_
  refine awp_region ?_
  refine s_mv ?_
  refine s_mv ?_
  refine s_bld yZ32 yL32 ?_
  refine s_mv ?_
  refine s_stW yS32 ?_
  refine s_as ?_
  refine k_nil ?_
  refine k_seq ?_
  refine awp_ret ?_
  refine k_fin ?_
  obtain rfl := Option.some.inj hF6
  exact ends_gen [] [] (by rw [Try.results151]; exact (res_agg (by conv => lhs; whnf) (by conv => lhs; whnf) yA32 yS32 rfl (res_tmp (by conv => lhs; whnf) res_nil)))
def m_spec_l1Read_AC (fuel : Nat) : Prop := ∀ (x1 : ByteArray) (x2 : Int) (x3 : Int) (r : (Form × Int)), m_spec_l1Read fuel x1 x2 x3 = some r → AC Try.prog 140 [.t (.sc (.str x1)), .t (.sc (.int .i64 x2)), .t (.sc (.int .i64 x3))] noOb (.tp [.ag [.t (.sc (.int .i64 r.1.kind)), .t (.sc (.str r.1.name)), .t (.sc (.int .i64 r.1.n)), .t (.sl (r.1.scopes.map rI)), .t (.sl (r.1.kids.map Form.row))], .t (.sc (.int .i64 r.2))]) noOb
theorem m_spec_l1Read_st (fu : Nat) (ih_m_spec_l1Read : ∀ k, k ≤ fu → m_spec_l1Read_AC k) : m_spec_l1Read_AC (fu + 1) := by
  intro x1 x2 x3 r hF0
  rw [m_spec_l1Read] at hF0
  refine AC_intro (rs := [.ag [.t (.sc (.int .i64 r.1.kind)), .t (.sc (.str r.1.name)), .t (.sc (.int .i64 r.1.n)), .t (.sl (r.1.scopes.map rI)), .t (.sl (r.1.kids.map Form.row))], .t (.sc (.int .i64 r.2))]) Try.func140 rfl (by kernel_rfl) (by simp [Try.ntmps140]) (by simp [noOb]) ?_
  intro C hC
  rw [Try.ntmps140]
  refine awp_seq ?_
  refine awp_region ?_
  refine s_alloc yZ32 ?_
  refine s_as ?_
  refine k_nil ?_
  refine k_seq ?_
  refine awp_seq ?_
  refine awp_region ?_
  refine s_mv ?_
  refine s_mv ?_
  replace hF0 := bind_some' hF0
  obtain ⟨v1, hv1, hF1⟩ := hF0
  refine s_pure [] (m_spec_l1Skip_ok fu _ _ _ hv1) ?_
  refine s_as ?_
  refine k_nil ?_
  refine k_seq ?_
  refine awp_seq ?_
  refine awp_seqJ [14, 15, 16, 17, 18, 19, 20, 21] [] [] [] (fun a : Nat × Bool => [(21, .t (.sc (.bool a.2)))]) (fun a : Nat × Bool => []) (fun a : Nat × Bool => a.1 ≤ fu ∧ m_spec_l1Read_j1 a.1 x1 x3 v1 a.2 = some r) (by rfl) (fun _ => rfl) (fun _ h => by cases h) freshS_nil freshM_nil ?_ ?_
  refine awp_region ?_
  refine s_mv ?_
  refine s_mv ?_
  refine s_lenS yU9 ?_
  refine s_ge ?_
  refine s_mv ?_
  refine w_guard _ 18 hF1 (fun hc2 hF2 => ?_) (fun hc2 hF2 => ?_) <;> clear hF1
  refine r_no rfl ?_
  refine r_no rfl ?_
  refine s_pkt ?_
  refine k_nil ?_
  exact s_join (fu, true) [] ⟨by first | omega | (dsimp only; omega), hF2⟩ (hasR_cons (by conv => lhs; whnf) (by rfl) rfl trivial) trivial
  refine s_mv ?_
  refine s_eq ?_
  refine s_pkf ?_
  refine k_nil ?_
  exact s_join (fu, (decide (x3 = 0))) [] ⟨by first | omega | (dsimp only; omega), hF2⟩ (hasR_cons (by conv => lhs; whnf) (by rfl) rfl trivial) trivial
  clear hF1
  rintro ⟨fu, g3⟩ ⟨hl4, hF2⟩
  dsimp only at hl4 hF2 ⊢
  obtain _ | fu := fu
  · rw [m_spec_l1Read_j1] at hF2; cases hF2
  rw [m_spec_l1Read_j1] at hF2
  refine w_cond hF2 (fun hc5 hF3 => ?_) (fun hc5 hF3 => ?_) <;> clear hF2
  refine awp_seq ?_
  refine awp_region ?_
  refine s_bld yZ32 yL32 ?_
  refine s_stW yS32 ?_
  refine s_as ?_
  refine k_nil ?_
  refine k_seq ?_
  refine awp_ret ?_
  refine k_seq_ret ?_
  refine k_fin ?_
  obtain rfl := Option.some.inj hF3
  exact ends_gen [] [] (by rw [Try.results140]; exact (res_agg (by conv => lhs; whnf) (by conv => lhs; whnf) yA32 yS32 rfl (res_tmp (by conv => lhs; whnf) res_nil)))
  refine awp_skip ?_
  refine k_seq ?_
  refine awp_seq ?_
  refine awp_seq ?_
  refine awp_region ?_
  refine s_mv ?_
  refine s_mv ?_
  replace hF3 := bind_some' hF3
  obtain ⟨v6, hv6, hF4⟩ := hF3
  refine s_ixS hv6 yU9 ?_
  refine s_ne ?_
  refine k_nil ?_
  refine k_seq ?_
  refine w_cond hF4 (fun hc7 hF5 => ?_) (fun hc7 hF5 => ?_) <;> clear hF4
  refine awp_seq ?_
  refine awp_region ?_
  refine s_mv ?_
  refine s_mv ?_
  replace hF5 := bind_some' hF5
  obtain ⟨v8, hv8, hF6⟩ := hF5
  refine s_pure [] (m_spec_l1Atom_ok fu _ _ _ hv8) ?_
  refine s_ext ?_
  refine s_ext ?_
  refine s_stW yS32 ?_
  refine s_as ?_
  refine k_nil ?_
  refine k_seq ?_
  refine awp_ret ?_
  refine k_seq_ret ?_
  refine k_fin ?_
  obtain rfl := Option.some.inj hF6
  exact ends_gen [] [] (by rw [Try.results140]; exact (res_agg (by conv => lhs; whnf) (by conv => lhs; whnf) yA32 yS32 rfl (res_tmp (by conv => lhs; whnf) res_nil)))
  refine awp_skip ?_
  refine k_seq ?_
  refine awp_seq ?_
  refine awp_region ?_
  refine s_bld yZ32 yL32 ?_
  refine s_alloc yZ32 ?_
  refine s_stW yS32 ?_
  refine k_nil ?_
  refine k_seq ?_
  refine awp_seq ?_
  refine awp_region ?_
  refine s_mv ?_
  refine s_mv ?_
  refine s_add rfl ?_
  replace hF5 := bind_some' hF5
  obtain ⟨v9, hv9, hF6⟩ := hF5
  refine s_pure [] (m_spec_l1Skip_ok fu _ _ _ hv9) ?_
  refine s_as ?_
  refine k_nil ?_
  refine k_seq ?_
  refine awp_seqJ [1, 7, 9, 10, 37, 38, 39, 40, 41, 42, 43, 44, 45, 46, 47, 48, 49, 50, 51, 52, 53, 54, 55, 56, 57, 58, 59, 60, 61, 62, 63, 64, 65, 66, 67, 68, 69, 70, 71, 72] [8, 5060] [] [] (fun a : Nat × Int × (List Form) => [(1, .t (.sc (.int .i64 a.2.1)))]) (fun a : Nat × Int × (List Form) => [(8, .box [.t (.sc (.int .i64 3)), .t (.sc (.str (⟨#[]⟩ : ByteArray))), .t (.sc (.int .i64 0)), .nl, .ar 5060]), (5060, .arr (a.2.2.map Form.row) 32 true)]) (fun a : Nat × Int × (List Form) => a.1 ≤ fu ∧ m_spec_l1Read_j2 a.1 x1 a.2.1 a.2.2 = some r) (by rfl) (fun _ => rfl) (fun _ h => by cases h) freshS_nil freshM_nil ?_ ?_
  refine awp_block ?_
  refine awp_ownB 8 5060 32 [.t (.sc (.int .i64 3)), .t (.sc (.str (⟨#[]⟩ : ByteArray))), .t (.sc (.int .i64 0)), .nl, .ar 5060] yI32.choose_spec ?_
  refine awp_frame2 [1, 7, 9, 10, 37, 38, 39, 40, 41, 42, 43, 44, 45, 46, 47, 48, 49, 50, 51, 52, 53, 54, 55, 56, 57, 58, 59, 60, 61, 62, 63, 64, 65, 66, 67, 68, 69, 70, 71, 72] [8, 5060] [9, 67, 68] [5060] (fun a : Nat × Int × (List Form) => a.1) (fun a : Nat × Int × (List Form) => [(1, .t (.sc (.int .i64 a.2.1)))]) (fun a : Nat × Int × (List Form) => [(8, .box [.t (.sc (.int .i64 3)), .t (.sc (.str (⟨#[]⟩ : ByteArray))), .t (.sc (.int .i64 0)), .nl, .ar 5060]), (5060, .arr (a.2.2.map Form.row) 32 true)]) (fun a : Nat × Int × (List Form) => a.1 ≤ fu ∧ m_spec_l1Read_l3 a.1 x1 x3 a.2.1 a.2.2 = some r) (fu, v9, ([] : List Form)) ⟨Nat.le_refl _, hF6⟩ (by rfl) (by rfl) (fun _ => rfl) (hasF_cons (by conv => lhs; whnf) (by rfl) hasF_nil) (hasO_cons (by conv => lhs; whnf) (by rfl) (hasO_cons (by conv => lhs; whnf) (by rfl) hasO_nil)) (fresh_C hC rfl) (by repeat (first | exact freshS_args rfl | refine freshS_upd rfl ?_ | refine freshS_frame rfl ?_)) (by repeat (first | exact freshM_no | exact objs_fresh rfl | refine freshM_upd rfl ?_ | refine freshM_frame rfl ?_)) ?_
  clear hF6
  rintro ⟨fu, g10, g11⟩ ⟨hl12, hF7⟩
  dsimp only at hl12 hF7 ⊢
  obtain _ | fu := fu
  · rw [m_spec_l1Read_l3] at hF7; cases hF7
  rw [m_spec_l1Read_l3] at hF7
  refine awp_seq ?_
  refine awp_seqJ [37, 38, 39, 40, 41, 42, 43, 44, 45, 46, 47, 48, 49, 50, 51, 52] [] [] [] (fun a : Nat × Bool => [(52, .t (.sc (.bool a.2)))]) (fun a : Nat × Bool => []) (fun a : Nat × Bool => a.1 ≤ fu ∧ m_spec_l1Read_j4 a.1 x1 x3 g10 g11 a.2 = some r) (by rfl) (fun _ => rfl) (fun _ h => by cases h) freshS_nil freshM_nil ?_ ?_
  refine awp_region ?_
  refine s_mv ?_
  refine s_mv ?_
  refine s_lenS yU9 ?_
  refine s_lt ?_
  refine s_mv ?_
  refine w_guard _ 41 hF7 (fun hc13 hF8 => ?_) (fun hc13 hF8 => ?_) <;> clear hF7
  refine s_mv ?_
  refine s_mv ?_
  replace hF8 := bind_some' hF8
  obtain ⟨v14, hv14, hF9⟩ := hF8
  refine s_ixS hv14 yU9 ?_
  refine s_ne ?_
  refine s_pkt ?_
  refine s_mv ?_
  refine w_guard _ 47 hF9 (fun hc15 hF10 => ?_) (fun hc15 hF10 => ?_) <;> clear hF9
  refine s_fa yF32_4 ?_
  refine s_ld1 yA30 ?_
  refine s_lenA yU30 ?_
  refine s_lt ?_
  refine s_pkt ?_
  refine k_nil ?_
  exact s_join (fu, (decide ((g11.length : Int) < 400))) [] ⟨by first | omega | (dsimp only; omega), hF10⟩ (hasR_cons (by conv => lhs; whnf) (by rfl) rfl trivial) trivial
  iterate 4 refine r_no rfl ?_
  refine s_pkf ?_
  refine k_nil ?_
  exact s_join (fu, false) [] ⟨by first | omega | (dsimp only; omega), hF10⟩ (hasR_cons (by conv => lhs; whnf) (by rfl) rfl trivial) trivial
  iterate 4 refine r_no rfl ?_
  refine s_pkf ?_
  refine s_mv ?_
  iterate 4 refine r_no rfl ?_
  refine s_pkf ?_
  refine k_nil ?_
  exact s_join (fu, false) [] ⟨by first | omega | (dsimp only; omega), hF8⟩ (hasR_cons (by conv => lhs; whnf) (by rfl) rfl trivial) trivial
  clear hF7
  rintro ⟨fu, g16⟩ ⟨hl17, hF8⟩
  dsimp only at hl17 hF8 ⊢
  obtain _ | fu := fu
  · rw [m_spec_l1Read_j4] at hF8; cases hF8
  rw [m_spec_l1Read_j4] at hF8
  refine w_cond hF8 (fun hc18 hF9 => ?_) (fun hc18 hF9 => ?_) <;> clear hF8
  refine awp_skip ?_
  refine k_seq ?_
  refine awp_block ?_
  refine awp_seq ?_
  refine awp_region ?_
  iterate 3 refine s_mv ?_
  refine s_sub rfl ?_
  replace hF9 := bind_some' hF9
  obtain ⟨v19, hv19, hF10⟩ := hF9
  refine s_pure [] (ih_m_spec_l1Read fu (by omega) _ _ _ _ hv19) ?_
  refine s_mv ?_
  refine s_ext ?_
  refine s_ext ?_
  refine s_alloc yZ32 ?_
  refine s_stW yS32 ?_
  refine s_as ?_
  refine k_nil ?_
  refine k_seq ?_
  refine awp_seq ?_
  refine awp_seq ?_
  refine awp_region ?_
  refine s_mv ?_
  refine s_lt ?_
  refine k_nil ?_
  refine k_seq ?_
  refine w_cond hF10 (fun hc20 hF11 => ?_) (fun hc20 hF11 => ?_) <;> clear hF10
  refine awp_seq ?_
  refine awp_region ?_
  refine s_ldW yA32 yS32 ?_
  refine s_stW yS32 ?_
  refine s_as ?_
  refine k_nil ?_
  refine k_seq ?_
  refine awp_ret ?_
  refine k_seq_ret ?_
  refine k_blk_ret ?_
  refine k_rnd_ret2 ?_
  refine k_blk_ret ?_
  refine k_jn_ret ?_
  refine k_fin ?_
  obtain rfl := Option.some.inj hF11
  exact ends_gen [] [5060] (by rw [Try.results140]; exact (res_agg (by conv => lhs; whnf) (by conv => lhs; whnf) yA32 yS32 rfl (res_tmp (by conv => lhs; whnf) res_nil)))
  refine awp_skip ?_
  refine k_seq ?_
  refine awp_seq ?_
  refine awp_region ?_
  refine s_fa yF32_4 ?_
  refine s_ld1 yA30 ?_
  refine s_ldW yA32 yS32 ?_
  refine s_bs Form.row [v19.1] yP30 yR32 ?_
  obtain ⟨hk21, hF12⟩ := chk_some hF11
  refine s_apT Form.row (fun y => Form.row_len y) hk21 yP30 ?_
  refine s_fa yF32_4 ?_
  refine s_stP yS30 ?_
  refine k_nil ?_
  refine k_seq ?_
  refine awp_region ?_
  refine s_mv ?_
  refine s_mv ?_
  replace hF12 := bind_some' hF12
  obtain ⟨v22, hv22, hF13⟩ := hF12
  refine s_pure [] (m_spec_l1Skip_ok fu _ _ _ hv22) ?_
  refine s_as ?_
  refine k_nil ?_
  refine k_blk ?_
  exact s_rnd2 (fu, v22, (g11 ++ [v19.1])) [(5060, 68)] ⟨by first | omega | (dsimp only; omega), hF13⟩ (hasR_cons (by conv => lhs; whnf) (by rfl) rfl trivial) (hasQ_cons (by conv => lhs; whnf) (by rfl) rfl (hasQ_cons (by conv => lhs; whnf) (by rfl) rfl trivial))
  refine awp_exit ?_
  refine k_seq_exit ?_
  refine k_rnd_exit2 ?_
  refine k_blk_exit ?_
  exact s_join (fu, g10, g11) [] ⟨by first | omega | (dsimp only; omega), hF9⟩ (hasR_cons (by conv => lhs; whnf) (by rfl) rfl trivial) (hasQ_cons (by conv => lhs; whnf) (by rfl) rfl (hasQ_cons (by conv => lhs; whnf) (by rfl) rfl trivial))
  clear hF6
  rintro ⟨fu, g23, g24⟩ ⟨hl25, hF7⟩
  dsimp only at hl25 hF7 ⊢
  obtain _ | fu := fu
  · rw [m_spec_l1Read_j2] at hF7; cases hF7
  rw [m_spec_l1Read_j2] at hF7
  refine awp_seq ?_
  refine awp_seqJ [73, 74, 75, 76, 77, 78, 79, 80, 81, 82] [] [] [] (fun a : Nat × Bool => [(82, .t (.sc (.bool a.2)))]) (fun a : Nat × Bool => []) (fun a : Nat × Bool => a.1 ≤ fu ∧ m_spec_l1Read_j5 a.1 g23 g24 a.2 = some r) (by rfl) (fun _ => rfl) (fun _ h => by cases h) freshS_nil freshM_nil ?_ ?_
  refine awp_region ?_
  refine s_mv ?_
  refine s_mv ?_
  refine s_lenS yU9 ?_
  refine s_ge ?_
  refine s_mv ?_
  refine w_guard _ 77 hF7 (fun hc26 hF8 => ?_) (fun hc26 hF8 => ?_) <;> clear hF7
  iterate 4 refine r_no rfl ?_
  refine s_pkt ?_
  refine k_nil ?_
  exact s_join (fu, true) [] ⟨by first | omega | (dsimp only; omega), hF8⟩ (hasR_cons (by conv => lhs; whnf) (by rfl) rfl trivial) trivial
  refine s_mv ?_
  refine s_mv ?_
  replace hF8 := bind_some' hF8
  obtain ⟨v27, hv27, hF9⟩ := hF8
  refine s_ixS hv27 yU9 ?_
  refine s_ne ?_
  refine s_pkf ?_
  refine k_nil ?_
  exact s_join (fu, (decide (v27 ≠ 41))) [] ⟨by first | omega | (dsimp only; omega), hF9⟩ (hasR_cons (by conv => lhs; whnf) (by rfl) rfl trivial) trivial
  clear hF7
  rintro ⟨fu, g28⟩ ⟨hl29, hF8⟩
  dsimp only at hl29 hF8 ⊢
  obtain _ | fu := fu
  · rw [m_spec_l1Read_j5] at hF8; cases hF8
  rw [m_spec_l1Read_j5] at hF8
  refine w_cond hF8 (fun hc30 hF9 => ?_) (fun hc30 hF9 => ?_) <;> clear hF8
  refine awp_seq ?_
  refine awp_region ?_
  refine s_ldW yA32 yS32 ?_
  refine s_stW yS32 ?_
  refine s_as ?_
  refine k_nil ?_
  refine k_seq ?_
  refine awp_ret ?_
  refine k_seq_ret ?_
  refine k_fin ?_
  obtain rfl := Option.some.inj hF9
  exact ends_gen [] [5060] (by rw [Try.results140]; exact (res_agg (by conv => lhs; whnf) (by conv => lhs; whnf) yA32 yS32 rfl (res_tmp (by conv => lhs; whnf) res_nil)))
  refine awp_skip ?_
  refine k_seq ?_
  refine awp_seq ?_
  refine awp_region ?_
  refine s_ldW yA32 yS32 ?_
  refine s_mv ?_
  refine s_add rfl ?_
  refine s_stW yS32 ?_
  refine s_as ?_
  refine k_nil ?_
  refine k_seq ?_
  refine awp_ret ?_
  refine k_fin ?_
  obtain rfl := Option.some.inj hF9
  exact ends_gen [] [5060] (by rw [Try.results140]; exact (res_agg (by conv => lhs; whnf) (by conv => lhs; whnf) yA32 yS32 rfl (res_tmp (by conv => lhs; whnf) res_nil)))
theorem m_spec_l1Read_all (fuel : Nat) : m_spec_l1Read_AC fuel := by
  induction fuel using Nat.strongRecOn with
  | _ N ih =>
    cases N with
    | zero => exact (by intro x1 x2 x3 r h; rw [m_spec_l1Read] at h; cases h)
    | succ fu => exact m_spec_l1Read_st fu (fun k hk => (ih k (by omega)))
theorem m_spec_l1Read_ok (fuel : Nat) : m_spec_l1Read_AC fuel := (m_spec_l1Read_all fuel)
def m_spec_ParseForm_AC (fuel : Nat) : Prop := ∀ (x1 : ByteArray) (r : (Form × Bool)), m_spec_ParseForm fuel x1 = some r → AC Try.prog 115 [.t (.sc (.str x1))] noOb (.tp [.ag [.t (.sc (.int .i64 r.1.kind)), .t (.sc (.str r.1.name)), .t (.sc (.int .i64 r.1.n)), .t (.sl (r.1.scopes.map rI)), .t (.sl (r.1.kids.map Form.row))], .t (.sc (.bool r.2))]) noOb
theorem m_spec_ParseForm_ok (fuel : Nat) : m_spec_ParseForm_AC fuel := by
  intro x1 r hF0
  unfold m_spec_ParseForm at hF0
  refine AC_intro (rs := [.ag [.t (.sc (.int .i64 r.1.kind)), .t (.sc (.str r.1.name)), .t (.sc (.int .i64 r.1.n)), .t (.sl (r.1.scopes.map rI)), .t (.sl (r.1.kids.map Form.row))], .t (.sc (.bool r.2))]) Try.func115 rfl (by kernel_rfl) (by simp [Try.ntmps115]) (by simp [noOb]) ?_
  intro C hC
  rw [Try.ntmps115]
  refine awp_seq ?_
  refine awp_region ?_
  refine s_alloc yZ32 ?_
  refine s_as ?_
  refine k_nil ?_
  refine k_seq ?_
  refine awp_seq ?_
  refine awp_region ?_
  refine s_mv ?_
  replace hF0 := bind_some' hF0
  obtain ⟨v1, hv1, hF1⟩ := hF0
  refine s_pure [] (m_spec_l1Read_ok fuel _ _ _ _ hv1) ?_
  refine s_mv ?_
  refine s_ext ?_
  refine s_ext ?_
  refine s_alloc yZ32 ?_
  refine s_stW yS32 ?_
  refine s_as ?_
  refine k_nil ?_
  refine k_seq ?_
  refine awp_seq ?_
  refine awp_seq ?_
  refine awp_region ?_
  refine s_mv ?_
  refine s_lt ?_
  refine s_mv ?_
  refine w_guard _ 13 hF1 (fun hc2 hF2 => ?_) (fun hc2 hF2 => ?_) <;> clear hF1
  iterate 6 refine r_no rfl ?_
  refine s_pkt ?_
  refine s_mv ?_
  iterate 3 refine r_no rfl ?_
  refine s_pkt ?_
  refine k_nil ?_
  refine k_seq ?_
  refine awp_true rfl ?_
  refine awp_seq ?_
  refine awp_region ?_
  refine s_bld yZ32 yL32 ?_
  refine s_stW yS32 ?_
  refine s_as ?_
  refine k_nil ?_
  refine k_seq ?_
  refine awp_ret ?_
  refine k_seq_ret ?_
  refine k_fin ?_
  obtain rfl := Option.some.inj hF2
  exact ends_gen [] [] (by rw [Try.results115]; exact (res_agg (by conv => lhs; whnf) (by conv => lhs; whnf) yA32 yS32 rfl (res_tmp (by conv => lhs; whnf) res_nil)))
  refine s_mv ?_
  refine s_mv ?_
  replace hF2 := bind_some' hF2
  obtain ⟨v3, hv3, hF3⟩ := hF2
  refine s_pure [] (m_spec_l1Skip_ok fuel _ _ _ hv3) ?_
  refine s_mv ?_
  refine s_lenS yU9 ?_
  refine s_ne ?_
  refine s_pkf ?_
  refine s_mv ?_
  refine w_guard _ 21 hF3 (fun hc4 hF4 => ?_) (fun hc4 hF4 => ?_) <;> clear hF3
  iterate 3 refine r_no rfl ?_
  refine s_pkt ?_
  refine k_nil ?_
  refine k_seq ?_
  refine awp_true rfl ?_
  refine awp_seq ?_
  refine awp_region ?_
  refine s_bld yZ32 yL32 ?_
  refine s_stW yS32 ?_
  refine s_as ?_
  refine k_nil ?_
  refine k_seq ?_
  refine awp_ret ?_
  refine k_seq_ret ?_
  refine k_fin ?_
  obtain rfl := Option.some.inj hF4
  exact ends_gen [] [] (by rw [Try.results115]; exact (res_agg (by conv => lhs; whnf) (by conv => lhs; whnf) yA32 yS32 rfl (res_tmp (by conv => lhs; whnf) res_nil)))
  refine s_ldW yA32 yS32 ?_
  replace hF4 := bind_some' hF4
  obtain ⟨v5, hv5, hF5⟩ := hF4
  refine s_pure [] (m_spec_FormValid_ok fuel _ _ hv5) ?_
  refine s_not ?_
  refine s_pkf ?_
  refine k_nil ?_
  refine k_seq ?_
  refine w_cond hF5 (fun hc6 hF6 => ?_) (fun hc6 hF6 => ?_) <;> clear hF5
  refine awp_seq ?_
  refine awp_region ?_
  refine s_bld yZ32 yL32 ?_
  refine s_stW yS32 ?_
  refine s_as ?_
  refine k_nil ?_
  refine k_seq ?_
  refine awp_ret ?_
  refine k_seq_ret ?_
  refine k_fin ?_
  obtain rfl := Option.some.inj hF6
  exact ends_gen [] [] (by rw [Try.results115]; exact (res_agg (by conv => lhs; whnf) (by conv => lhs; whnf) yA32 yS32 rfl (res_tmp (by conv => lhs; whnf) res_nil)))
  refine awp_skip ?_
  refine k_seq ?_
  refine awp_seq ?_
  refine awp_region ?_
  refine s_ldW yA32 yS32 ?_
  refine s_stW yS32 ?_
  refine s_as ?_
  refine k_nil ?_
  refine k_seq ?_
  refine awp_ret ?_
  refine k_fin ?_
  obtain rfl := Option.some.inj hF6
  exact ends_gen [] [] (by rw [Try.results115]; exact (res_agg (by conv => lhs; whnf) (by conv => lhs; whnf) yA32 yS32 rfl (res_tmp (by conv => lhs; whnf) res_nil)))
def m_spec_l1Parse_AC (fuel : Nat) : Prop := ∀ (x1 : ByteArray) (r : Form), m_spec_l1Parse fuel x1 = some r → AC Try.prog 74 [.t (.sc (.str x1))] noOb (.ag [.t (.sc (.int .i64 r.kind)), .t (.sc (.str r.name)), .t (.sc (.int .i64 r.n)), .t (.sl (r.scopes.map rI)), .t (.sl (r.kids.map Form.row))]) noOb
theorem m_spec_l1Parse_ok (fuel : Nat) : m_spec_l1Parse_AC fuel := by
  intro x1 r hF0
  unfold m_spec_l1Parse at hF0
  refine AC_intro (rs := [.ag [.t (.sc (.int .i64 r.kind)), .t (.sc (.str r.name)), .t (.sc (.int .i64 r.n)), .t (.sl (r.scopes.map rI)), .t (.sl (r.kids.map Form.row))]]) Try.func74 rfl (by kernel_rfl) (by simp [Try.ntmps74]) (by simp [noOb]) ?_
  intro C hC
  rw [Try.ntmps74]
  refine awp_seq ?_
  refine awp_region ?_
  refine s_alloc yZ32 ?_
  refine k_nil ?_
  refine k_seq ?_
  refine awp_seq ?_
  refine awp_region ?_
  refine s_mv ?_
  replace hF0 := bind_some' hF0
  obtain ⟨v1, hv1, hF1⟩ := hF0
  refine s_pure [] (m_spec_ParseForm_ok fuel _ _ hv1) ?_
  refine s_mv ?_
  refine s_ext ?_
  refine s_ext ?_
  refine s_alloc yZ32 ?_
  refine s_stW yS32 ?_
  refine s_as ?_
  refine k_nil ?_
  refine k_seq ?_
  refine awp_seq ?_
  refine awp_region ?_
  refine s_ldW yA32 yS32 ?_
  refine s_stW yS32 ?_
  refine k_nil ?_
  refine k_seq ?_
  refine awp_ret ?_
  refine k_fin ?_
  obtain rfl := Option.some.inj hF1
  exact ends_gen [] [] (by rw [Try.results74]; exact (res_agg (by conv => lhs; whnf) (by conv => lhs; whnf) yA32 yS32 rfl res_nil))
def m_spec_l1Name_AC (fuel : Nat) : Prop := ∀ (x1 : ByteArray) (r : Form), m_spec_l1Name fuel x1 = some r → AC Try.prog 76 [.t (.sc (.str x1))] noOb (.ag [.t (.sc (.int .i64 r.kind)), .t (.sc (.str r.name)), .t (.sc (.int .i64 r.n)), .t (.sl (r.scopes.map rI)), .t (.sl (r.kids.map Form.row))]) noOb
theorem m_spec_l1Name_ok (fuel : Nat) : m_spec_l1Name_AC fuel := by
  intro x1 r hF0
  unfold m_spec_l1Name at hF0
  refine AC_intro (rs := [.ag [.t (.sc (.int .i64 r.kind)), .t (.sc (.str r.name)), .t (.sc (.int .i64 r.n)), .t (.sl (r.scopes.map rI)), .t (.sl (r.kids.map Form.row))]]) Try.func76 rfl (by kernel_rfl) (by simp [Try.ntmps76]) (by simp [noOb]) ?_
  intro C hC
  rw [Try.ntmps76]
  refine awp_seq ?_
  refine awp_region ?_
  refine s_alloc yZ32 ?_
  refine k_nil ?_
  refine k_seq ?_
  refine awp_seq ?_
  refine awp_region ?_
  refine s_mv ?_
  refine s_bld yZ32 yL32 ?_
  refine s_stW yS32 ?_
  refine k_nil ?_
  refine k_seq ?_
  refine awp_ret ?_
  refine k_fin ?_
  obtain rfl := Option.some.inj hF0
  exact ends_gen [] [] (by rw [Try.results76]; exact (res_agg (by conv => lhs; whnf) (by conv => lhs; whnf) yA32 yS32 rfl res_nil))
def m_spec_l1Copy_AC (fuel : Nat) : Prop := ∀ (x1 : Form) (r : Form), m_spec_l1Copy fuel x1 = some r → AC Try.prog 123 [.ag [.t (.sc (.int .i64 x1.kind)), .t (.sc (.str x1.name)), .t (.sc (.int .i64 x1.n)), .t (.sl (x1.scopes.map rI)), .t (.sl (x1.kids.map Form.row))]] (objs []) (.ag [.t (.sc (.int .i64 r.kind)), .t (.sc (.str r.name)), .t (.sc (.int .i64 r.n)), .ar 9203, .ar 9204]) (objs [(9203, .arr (r.scopes.map rI) 3 true), (9204, .arr (r.kids.map Form.row) 32 true)])
theorem m_spec_l1Copy_st (fu : Nat) (ih_m_spec_l1Copy : ∀ k, k ≤ fu → m_spec_l1Copy_AC k) : m_spec_l1Copy_AC (fu + 1) := by
  intro x1 r hF0
  rw [m_spec_l1Copy] at hF0
  refine AC_intro (rs := [.ag [.t (.sc (.int .i64 r.kind)), .t (.sc (.str r.name)), .t (.sc (.int .i64 r.n)), .ar 9203, .ar 9204]]) Try.func123 rfl (by kernel_rfl) (by simp [Try.ntmps123]) (keep_all rfl) ?_
  intro C hC
  rw [Try.ntmps123]
  refine awp_seq ?_
  refine awp_region ?_
  refine s_box ?_
  refine s_alloc yZ32 ?_
  refine k_nil ?_
  refine k_seq ?_
  refine awp_seq ?_
  refine awp_draw yMix (by kernel_rfl) ?_
  refine s_fa yF32_0 ?_
  refine s_ld1 yA3 ?_
  refine s_fa yF32_1 ?_
  refine s_ld1 yA9 ?_
  refine s_fa yF32_2 ?_
  refine s_ld1 yA3 ?_
  refine s_bs rI ([] : List Int) yP22 yR3 ?_
  refine s_fa yF32_3 ?_
  refine s_ld1 yA22 ?_
  obtain ⟨hk1, hF1⟩ := chk_some hF0
  refine s_apT rI (fun _ => rfl) hk1 yP22 ?_
  refine s_bld yZ32 yL32 ?_
  refine s_alloc yZ32 ?_
  refine s_stW yS32 ?_
  refine k_nilD (by kernel_rfl) ?_
  refine k_seq ?_
  refine awp_seq ?_
  refine awp_seq ?_
  refine awp_region ?_
  refine s_as ?_
  refine k_nil ?_
  refine k_seq ?_
  refine awp_block ?_
  refine awp_ownB 3 5020 32 [.t (.sc (.int .i64 x1.kind)), .t (.sc (.str x1.name)), .t (.sc (.int .i64 x1.n)), .ar 14, .ar 5020] yI32.choose_spec ?_
  refine awp_frame2 [4, 16, 17, 18, 19, 20, 21, 22, 23, 24, 25, 26, 27, 28, 29, 30, 31, 32, 33] [3, 5020] [31, 32, 2030, 12030] [5020] (fun a : Nat × Int × (List Form) => a.1) (fun a : Nat × Int × (List Form) => [(4, .t (.sc (.int .i64 a.2.1)))]) (fun a : Nat × Int × (List Form) => [(3, .box [.t (.sc (.int .i64 x1.kind)), .t (.sc (.str x1.name)), .t (.sc (.int .i64 x1.n)), .ar 14, .ar 5020]), (5020, .arr (a.2.2.map Form.row) 32 true)]) (fun a : Nat × Int × (List Form) => a.1 ≤ fu ∧ m_spec_l1Copy_l1 a.1 x1 a.2.1 a.2.2 = some r ∧ 0 ≤ a.2.1) (fu, 0, ([] : List Form)) ⟨Nat.le_refl _, hF1, by simp⟩ (by rfl) (by rfl) (fun _ => rfl) (hasF_cons (by conv => lhs; whnf) (by rfl) hasF_nil) (hasO_cons (by conv => lhs; whnf) (by rfl) (hasO_cons (by conv => lhs; whnf) (by rfl) hasO_nil)) (fresh_C hC rfl) (by repeat (first | exact freshS_args rfl | refine freshS_upd rfl ?_ | refine freshS_frame rfl ?_)) (by repeat (first | exact freshM_no | exact objs_fresh rfl | refine freshM_upd rfl ?_ | refine freshM_frame rfl ?_)) ?_
  clear hF1
  rintro ⟨fu, g2, g3⟩ ⟨hl4, hF2, hn_g2⟩
  dsimp only at hl4 hF2 hn_g2 ⊢
  obtain _ | fu := fu
  · rw [m_spec_l1Copy_l1] at hF2; cases hF2
  rw [m_spec_l1Copy_l1] at hF2
  refine awp_seq ?_
  refine awp_seq ?_
  refine awp_region ?_
  refine s_mv ?_
  refine s_fa yF32_4 ?_
  refine s_ld1 yA30 ?_
  refine s_lenT yU30 ?_
  refine s_lt ?_
  refine k_nil ?_
  refine k_seq ?_
  refine w_cond hF2 (fun hc5 hF3 => ?_) (fun hc5 hF3 => ?_) <;> clear hF2
  refine awp_lenT 18 (fun hb6 => ?_)
  refine awp_skip ?_
  refine k_seq ?_
  refine awp_seq ?_
  refine awp_block ?_
  refine awp_draw yMix (by kernel_rfl) ?_
  refine s_fa yF32_4 ?_
  refine s_ld1 yA30 ?_
  refine s_fa yF32_4 ?_
  refine s_ld1 yA30 ?_
  refine s_mv ?_
  replace hF3 := bind_some' hF3
  obtain ⟨v7, hv7, hF4⟩ := hF3
  refine s_ixT Form.row hv7 (Form.row_eq _) yE30 ?_
  refine s_ldN yA32 yS32 ?_
  replace hF4 := bind_some' hF4
  obtain ⟨v8, hv8, hF5⟩ := hF4
  refine s_call [(9203, 2030), (9204, 12030)] [] _ _ (ih_m_spec_l1Copy fu (by omega) _ _ hv8) ?_
  refine s_bs Form.row [v8] yP30 yR32 ?_
  obtain ⟨hk9, hF6⟩ := chk_some hF5
  refine s_apT Form.row (fun y => Form.row_len y) hk9 yP30 ?_
  refine s_fa yF32_4 ?_
  refine s_stP yS30 ?_
  refine k_nilD (by kernel_rfl) ?_
  refine k_blk ?_
  refine k_seq ?_
  refine awp_region ?_
  refine s_mv ?_
  refine s_add (winc2 hc5 hb6 hn_g2) ?_
  refine s_as ?_
  refine k_nil ?_
  exact s_rnd2 (fu, (g2 + 1), (g3 ++ [v8])) [(5020, 32)] ⟨by first | omega | (dsimp only; omega), hF6, by first | omega | (dsimp only; omega)⟩ (hasR_cons (by conv => lhs; whnf) (by rfl) rfl trivial) (hasQ_cons (by conv => lhs; whnf) (by rfl) rfl (hasQ_cons (by conv => lhs; whnf) (by rfl) rfl trivial))
  refine awp_exit ?_
  refine k_seq_exit ?_
  refine k_rnd_exit2 ?_
  refine k_blk_exit ?_
  refine k_seq ?_
  refine awp_seq ?_
  refine awp_region ?_
  refine s_ldW yA32 yS32 ?_
  refine s_stW yS32 ?_
  refine k_nil ?_
  refine k_seq ?_
  refine awp_mvB 2 14 9203 [.t (.sc (.int .i64 x1.kind)), .t (.sc (.str x1.name)), .t (.sc (.int .i64 x1.n)), .ar 9203, .ar 5020] ?_
  refine awp_mvB 2 5020 9204 [.t (.sc (.int .i64 x1.kind)), .t (.sc (.str x1.name)), .t (.sc (.int .i64 x1.n)), .ar 9203, .ar 9204] ?_
  refine awp_ret ?_
  refine k_fin ?_
  obtain rfl := Option.some.inj hF3
  exact ends_gen _ [] (by rw [Try.results123]; exact (res_agg (by conv => lhs; whnf) (by conv => lhs; whnf) yA32 yS32 rfl res_nil))
theorem m_spec_l1Copy_all (fuel : Nat) : m_spec_l1Copy_AC fuel := by
  induction fuel using Nat.strongRecOn with
  | _ N ih =>
    cases N with
    | zero => exact (by intro x1 r h; rw [m_spec_l1Copy] at h; cases h)
    | succ fu => exact m_spec_l1Copy_st fu (fun k hk => (ih k (by omega)))
theorem m_spec_l1Copy_ok (fuel : Nat) : m_spec_l1Copy_AC fuel := (m_spec_l1Copy_all fuel)
def m_spec_l15Rd_num_AC (fuel : Nat) : Prop := ∀ (o1 : l15Rd) (x2 : (List Int)) (r : (Int × l15Rd)), m_spec_l15Rd_num fuel o1 x2 = some r → AC Try.prog 124 [.rf 9000 0, .t (.sl (x2.map rI))] (objs [(9000, .box [.t (.sl (o1.b.map rB)), .t (.sc (.int .i64 o1.p))])]) (.t (.sc (.int .i64 r.1))) (objs [(9000, .box [.t (.sl (r.2.b.map rB)), .t (.sc (.int .i64 r.2.p))])])
theorem m_spec_l15Rd_num_ok (fuel : Nat) : m_spec_l15Rd_num_AC fuel := by
  intro o1 x2 r hF0
  unfold m_spec_l15Rd_num at hF0
  refine AC_intro (rs := [.t (.sc (.int .i64 r.1))]) Try.func124 rfl (by kernel_rfl) (by simp [Try.ntmps124]) (keep_all rfl) ?_
  intro C hC
  rw [Try.ntmps124]
  refine awp_seq ?_
  refine awp_region ?_
  refine s_as ?_
  refine k_nil ?_
  refine k_seq ?_
  refine awp_seq ?_
  refine awp_region ?_
  iterate 3 refine s_mv ?_
  refine s_lenT yU22 ?_
  replace hF0 := bind_some' hF0
  obtain ⟨v1, hv1, hF1⟩ := hF0
  refine s_call [(9000, 9000)] [] _ _ (m_spec_l15Rd_pick_ok fuel _ _ _ hv1) ?_
  replace hF1 := bind_some' hF1
  obtain ⟨v2, hv2, hF2⟩ := hF1
  refine s_ixT rI hv2 rfl yE22 ?_
  refine s_ld1 yA3 ?_
  refine s_as ?_
  refine k_nil ?_
  refine k_seq ?_
  refine awp_ret ?_
  refine k_fin ?_
  obtain rfl := Option.some.inj hF2
  exact ends_gen _ [] (by rw [Try.results124]; exact (res_tmp (by conv => lhs; whnf) res_nil))
def m_spec_l15Rd_of_AC (fuel : Nat) : Prop := ∀ (o1 : l15Rd) (x2 : (List ByteArray)) (r : (ByteArray × l15Rd)), m_spec_l15Rd_of fuel o1 x2 = some r → AC Try.prog 75 [.rf 9000 0, .t (.sl (x2.map rS))] (objs [(9000, .box [.t (.sl (o1.b.map rB)), .t (.sc (.int .i64 o1.p))])]) (.t (.sc (.str r.1))) (objs [(9000, .box [.t (.sl (r.2.b.map rB)), .t (.sc (.int .i64 r.2.p))])])
theorem m_spec_l15Rd_of_ok (fuel : Nat) : m_spec_l15Rd_of_AC fuel := by
  intro o1 x2 r hF0
  unfold m_spec_l15Rd_of at hF0
  refine AC_intro (rs := [.t (.sc (.str r.1))]) Try.func75 rfl (by kernel_rfl) (by simp [Try.ntmps75]) (keep_all rfl) ?_
  intro C hC
  rw [Try.ntmps75]
  refine awp_seq ?_
  refine awp_region ?_
  refine s_as ?_
  refine k_nil ?_
  refine k_seq ?_
  refine awp_seq ?_
  refine awp_region ?_
  iterate 3 refine s_mv ?_
  refine s_lenT yU95 ?_
  replace hF0 := bind_some' hF0
  obtain ⟨v1, hv1, hF1⟩ := hF0
  refine s_call [(9000, 9000)] [] _ _ (m_spec_l15Rd_pick_ok fuel _ _ _ hv1) ?_
  replace hF1 := bind_some' hF1
  obtain ⟨v2, hv2, hF2⟩ := hF1
  refine s_ixT rS hv2 rfl yE95 ?_
  refine s_ld1 yA9 ?_
  refine s_as ?_
  refine k_nil ?_
  refine k_seq ?_
  refine awp_ret ?_
  refine k_fin ?_
  obtain rfl := Option.some.inj hF2
  exact ends_gen _ [] (by rw [Try.results75]; exact (res_tmp (by conv => lhs; whnf) res_nil))
def m_spec_l1Mutate_AC (fuel : Nat) : Prop := ∀ (o1 : l15Rd) (x2 : Form) (r : (Form × l15Rd)), m_spec_l1Mutate fuel o1 x2 = some r → AC Try.prog 84 [.rf 9000 0, .ag [.t (.sc (.int .i64 x2.kind)), .t (.sc (.str x2.name)), .t (.sc (.int .i64 x2.n)), .t (.sl (x2.scopes.map rI)), .t (.sl (x2.kids.map Form.row))]] (objs [(9000, .box [.t (.sl (o1.b.map rB)), .t (.sc (.int .i64 o1.p))])]) (.ag [.t (.sc (.int .i64 r.1.kind)), .t (.sc (.str r.1.name)), .t (.sc (.int .i64 r.1.n)), .t (.sl (r.1.scopes.map rI)), .t (.sl (r.1.kids.map Form.row))]) (objs [(9000, .box [.t (.sl (r.2.b.map rB)), .t (.sc (.int .i64 r.2.p))])])
theorem m_spec_l1Mutate_st (fu : Nat) (ih_m_spec_l1Mutate : ∀ k, k ≤ fu → m_spec_l1Mutate_AC k) : m_spec_l1Mutate_AC (fu + 1) := by
  intro o1 x2 r hF0
  rw [m_spec_l1Mutate] at hF0
  refine AC_intro (rs := [.ag [.t (.sc (.int .i64 r.1.kind)), .t (.sc (.str r.1.name)), .t (.sc (.int .i64 r.1.n)), .t (.sl (r.1.scopes.map rI)), .t (.sl (r.1.kids.map Form.row))]]) Try.func84 rfl (by kernel_rfl) (by simp [Try.ntmps84]) (keep_all rfl) ?_
  intro C hC
  rw [Try.ntmps84]
  refine awp_seq ?_
  refine awp_region ?_
  refine s_box ?_
  refine s_alloc yZ32 ?_
  refine k_nil ?_
  refine k_seq ?_
  refine awp_seq ?_
  refine awp_region ?_
  refine s_ldW yA32 yS32 ?_
  replace hF0 := bind_some' hF0
  obtain ⟨v1, hv1, hF1⟩ := hF0
  refine s_call [(9203, 2008), (9204, 12008)] [] _ _ (m_spec_l1Copy_ok fu _ _ hv1) ?_
  refine s_alloc yZ32 ?_
  refine s_stW yS32 ?_
  refine k_nil ?_
  refine k_seq ?_
  refine awp_seq ?_
  refine awp_seq ?_
  refine awp_region ?_
  refine s_fa yF32_4 ?_
  refine s_ld1 yA30 ?_
  refine s_lenA yU30 ?_
  refine s_gt ?_
  refine s_mv ?_
  refine w_guard _ 13 hF1 (fun hc2 hF2 => ?_) (fun hc2 hF2 => ?_) <;> clear hF1
  refine s_mv ?_
  replace hF2 := bind_some' hF2
  obtain ⟨v3, hv3, hF3⟩ := hF2
  refine s_call [(9000, 9000)] [] _ _ (m_spec_l15Rd_pick_ok fu _ _ _ hv3) ?_
  refine s_gt ?_
  refine s_pkt ?_
  refine k_nil ?_
  refine k_seq ?_
  refine w_cond hF3 (fun hc4 hF4 => ?_) (fun hc4 hF4 => ?_) <;> clear hF3
  refine awp_seq ?_
  refine awp_region ?_
  refine s_mv ?_
  refine s_fa yF32_4 ?_
  refine s_ld1 yA30 ?_
  refine s_lenA yU30 ?_
  replace hF4 := bind_some' hF4
  obtain ⟨v5, hv5, hF5⟩ := hF4
  refine s_call [(9000, 9000)] [] _ _ (m_spec_l15Rd_pick_ok fu _ _ _ hv5) ?_
  refine s_as ?_
  refine k_nil ?_
  refine k_seq ?_
  refine awp_seq ?_
  refine awp_draw yMix (by kernel_rfl) ?_
  refine s_fa yF32_4 ?_
  refine s_ld1 yA30 ?_
  refine s_mv ?_
  refine s_mv ?_
  refine s_fa yF32_4 ?_
  refine s_ld1 yA30 ?_
  refine s_mv ?_
  replace hF5 := bind_some' hF5
  obtain ⟨v6, hv6, hF6⟩ := hF5
  refine s_ixA Form.row hv6 yE30 ?_
  refine s_lAN Form.row hv6 (Form.row_eq _) yA32 yS32 ?_
  replace hF6 := bind_some' hF6
  obtain ⟨v7, hv7, hF7⟩ := hF6
  refine s_call [(9000, 9000)] [] _ _ (ih_m_spec_l1Mutate fu (by omega) _ _ _ hv7) ?_
  replace hF7 := bind_some' hF7
  obtain ⟨v8, hv8, hF8⟩ := hF7
  refine s_ixA Form.row hv8 yE30 ?_
  refine s_stA Form.row v7.1 hv8 (Form.row_eq _) (Form.row_eq _) yS32 yS32 ?_
  refine k_nilD (by kernel_rfl) ?_
  refine k_seq ?_
  refine awp_seq ?_
  refine awp_region ?_
  refine s_ldW yA32 yS32 ?_
  refine s_stW yS32 ?_
  refine k_nil ?_
  refine k_seq ?_
  refine awp_ret ?_
  refine k_seq_ret ?_
  refine k_fin ?_
  obtain rfl := Option.some.inj hF8
  exact ends_gen _ [2008, 12008] (by rw [Try.results84]; exact (res_agg (by conv => lhs; whnf) (by conv => lhs; whnf) yA32 yS32 rfl res_nil))
  refine awp_skip ?_
  refine k_seq ?_
  refine awp_seq ?_
  refine awp_seq ?_
  refine awp_region ?_
  refine s_mv ?_
  replace hF4 := bind_some' hF4
  obtain ⟨v9, hv9, hF5⟩ := hF4
  refine s_call [(9000, 9000)] [] _ _ (m_spec_l15Rd_pick_ok fu _ _ _ hv9) ?_
  refine k_nil ?_
  refine k_seq ?_
  refine awp_block ?_
  refine awp_seq ?_
  refine awp_region ?_
  refine s_eq ?_
  refine s_as ?_
  refine k_nil ?_
  refine k_seq ?_
  refine w_cond hF5 (fun hc10 hF6 => ?_) (fun hc10 hF6 => ?_) <;> clear hF5
  refine awp_region ?_
  refine s_mv ?_
  refine s_bs rI [0, 4, 1, 3] yP22 yR3 ?_
  replace hF6 := bind_some' hF6
  obtain ⟨v11, hv11, hF7⟩ := hF6
  refine s_call [(9000, 9000)] [40] _ _ (m_spec_l15Rd_num_ok fu _ _ _ hv11) ?_
  refine s_fa yF32_0 ?_
  refine s_stP yS3 ?_
  refine k_nil ?_
  refine k_blk ?_
  refine k_seq ?_
  refine awp_seq ?_
  refine awp_region ?_
  refine s_ldW yA32 yS32 ?_
  refine s_stW yS32 ?_
  refine k_nil ?_
  refine k_seq ?_
  refine awp_ret ?_
  refine k_fin ?_
  obtain rfl := Option.some.inj hF7
  exact ends_gen _ [2008, 12008] (by rw [Try.results84]; exact (res_agg (by conv => lhs; whnf) (by conv => lhs; whnf) yA32 yS32 rfl res_nil))
  refine awp_seq ?_
  refine awp_region ?_
  refine s_eq ?_
  refine s_as ?_
  refine k_nil ?_
  refine k_seq ?_
  refine w_cond hF6 (fun hc12 hF7 => ?_) (fun hc12 hF7 => ?_) <;> clear hF6
  refine awp_region ?_
  refine s_mv ?_
  refine s_bs rS [(⟨#[]⟩ : ByteArray), (⟨#[65]⟩ : ByteArray), (⟨#[116, 111, 111, 108, 111, 110, 103, 97, 110, 97, 109, 101, 49]⟩ : ByteArray), (⟨#[122]⟩ : ByteArray), (⟨#[120, 32, 121]⟩ : ByteArray)] yP95 yR9 ?_
  replace hF7 := bind_some' hF7
  obtain ⟨v13, hv13, hF8⟩ := hF7
  refine s_call [(9000, 9000)] [46] _ _ (m_spec_l15Rd_of_ok fu _ _ _ hv13) ?_
  refine s_fa yF32_1 ?_
  refine s_stP yS9 ?_
  refine k_nil ?_
  refine k_blk ?_
  refine k_seq ?_
  refine awp_seq ?_
  refine awp_region ?_
  refine s_ldW yA32 yS32 ?_
  refine s_stW yS32 ?_
  refine k_nil ?_
  refine k_seq ?_
  refine awp_ret ?_
  refine k_fin ?_
  obtain rfl := Option.some.inj hF8
  exact ends_gen _ [2008, 12008] (by rw [Try.results84]; exact (res_agg (by conv => lhs; whnf) (by conv => lhs; whnf) yA32 yS32 rfl res_nil))
  refine awp_seq ?_
  refine awp_region ?_
  refine s_eq ?_
  refine s_as ?_
  refine k_nil ?_
  refine k_seq ?_
  refine w_cond hF7 (fun hc14 hF8 => ?_) (fun hc14 hF8 => ?_) <;> clear hF7
  refine awp_region ?_
  refine s_mv ?_
  refine s_bs rI [1000, (-1), 5] yP22 yR3 ?_
  replace hF8 := bind_some' hF8
  obtain ⟨v15, hv15, hF9⟩ := hF8
  refine s_call [(9000, 9000)] [52] _ _ (m_spec_l15Rd_num_ok fu _ _ _ hv15) ?_
  refine s_fa yF32_2 ?_
  refine s_stP yS3 ?_
  refine k_nil ?_
  refine k_blk ?_
  refine k_seq ?_
  refine awp_seq ?_
  refine awp_region ?_
  refine s_ldW yA32 yS32 ?_
  refine s_stW yS32 ?_
  refine k_nil ?_
  refine k_seq ?_
  refine awp_ret ?_
  refine k_fin ?_
  obtain rfl := Option.some.inj hF9
  exact ends_gen _ [2008, 12008] (by rw [Try.results84]; exact (res_agg (by conv => lhs; whnf) (by conv => lhs; whnf) yA32 yS32 rfl res_nil))
  refine awp_seq ?_
  refine awp_region ?_
  refine s_eq ?_
  refine s_as ?_
  refine k_nil ?_
  refine k_seq ?_
  refine w_cond hF8 (fun hc16 hF9 => ?_) (fun hc16 hF9 => ?_) <;> clear hF8
  refine awp_draw yMix (by kernel_rfl) ?_
  refine s_fa yF32_3 ?_
  refine s_ld1 yA22 ?_
  refine s_mv ?_
  refine s_bs rI [0, 100, 1, 50] yP22 yR3 ?_
  replace hF9 := bind_some' hF9
  obtain ⟨v17, hv17, hF10⟩ := hF9
  refine s_call [(9000, 9000)] [60] _ _ (m_spec_l15Rd_num_ok fu _ _ _ hv17) ?_
  refine s_bs rI [v17.1] yP22 yR3 ?_
  obtain ⟨hk18, hF11⟩ := chk_some hF10
  refine s_apT rI (fun _ => rfl) hk18 yP22 ?_
  refine s_fa yF32_3 ?_
  refine s_stP yS22 ?_
  refine k_nilD (by kernel_rfl) ?_
  refine k_blk ?_
  refine k_seq ?_
  refine awp_seq ?_
  refine awp_region ?_
  refine s_ldW yA32 yS32 ?_
  refine s_stW yS32 ?_
  refine k_nil ?_
  refine k_seq ?_
  refine awp_ret ?_
  refine k_fin ?_
  obtain rfl := Option.some.inj hF11
  exact ends_gen _ [63, 12008] (by rw [Try.results84]; exact (res_agg (by conv => lhs; whnf) (by conv => lhs; whnf) yA32 yS32 rfl res_nil))
  refine awp_skip ?_
  refine k_blk ?_
  refine k_seq ?_
  refine awp_seq ?_
  refine awp_region ?_
  refine s_ldW yA32 yS32 ?_
  refine s_stW yS32 ?_
  refine k_nil ?_
  refine k_seq ?_
  refine awp_ret ?_
  refine k_fin ?_
  obtain rfl := Option.some.inj hF9
  exact ends_gen _ [2008, 12008] (by rw [Try.results84]; exact (res_agg (by conv => lhs; whnf) (by conv => lhs; whnf) yA32 yS32 rfl res_nil))
  iterate 3 refine r_no rfl ?_
  refine s_pkf ?_
  refine k_nil ?_
  refine k_seq ?_
  refine awp_false rfl ?_
  refine awp_skip ?_
  refine k_seq ?_
  refine awp_seq ?_
  refine awp_seq ?_
  refine awp_region ?_
  refine s_mv ?_
  replace hF2 := bind_some' hF2
  obtain ⟨v19, hv19, hF3⟩ := hF2
  refine s_call [(9000, 9000)] [] _ _ (m_spec_l15Rd_pick_ok fu _ _ _ hv19) ?_
  refine k_nil ?_
  refine k_seq ?_
  refine awp_block ?_
  refine awp_seq ?_
  refine awp_region ?_
  refine s_eq ?_
  refine s_as ?_
  refine k_nil ?_
  refine k_seq ?_
  refine w_cond hF3 (fun hc20 hF4 => ?_) (fun hc20 hF4 => ?_) <;> clear hF3
  refine awp_region ?_
  refine s_mv ?_
  refine s_bs rI [0, 4, 1, 3] yP22 yR3 ?_
  replace hF4 := bind_some' hF4
  obtain ⟨v21, hv21, hF5⟩ := hF4
  refine s_call [(9000, 9000)] [40] _ _ (m_spec_l15Rd_num_ok fu _ _ _ hv21) ?_
  refine s_fa yF32_0 ?_
  refine s_stP yS3 ?_
  refine k_nil ?_
  refine k_blk ?_
  refine k_seq ?_
  refine awp_seq ?_
  refine awp_region ?_
  refine s_ldW yA32 yS32 ?_
  refine s_stW yS32 ?_
  refine k_nil ?_
  refine k_seq ?_
  refine awp_ret ?_
  refine k_fin ?_
  obtain rfl := Option.some.inj hF5
  exact ends_gen _ [2008, 12008] (by rw [Try.results84]; exact (res_agg (by conv => lhs; whnf) (by conv => lhs; whnf) yA32 yS32 rfl res_nil))
  refine awp_seq ?_
  refine awp_region ?_
  refine s_eq ?_
  refine s_as ?_
  refine k_nil ?_
  refine k_seq ?_
  refine w_cond hF4 (fun hc22 hF5 => ?_) (fun hc22 hF5 => ?_) <;> clear hF4
  refine awp_region ?_
  refine s_mv ?_
  refine s_bs rS [(⟨#[]⟩ : ByteArray), (⟨#[65]⟩ : ByteArray), (⟨#[116, 111, 111, 108, 111, 110, 103, 97, 110, 97, 109, 101, 49]⟩ : ByteArray), (⟨#[122]⟩ : ByteArray), (⟨#[120, 32, 121]⟩ : ByteArray)] yP95 yR9 ?_
  replace hF5 := bind_some' hF5
  obtain ⟨v23, hv23, hF6⟩ := hF5
  refine s_call [(9000, 9000)] [46] _ _ (m_spec_l15Rd_of_ok fu _ _ _ hv23) ?_
  refine s_fa yF32_1 ?_
  refine s_stP yS9 ?_
  refine k_nil ?_
  refine k_blk ?_
  refine k_seq ?_
  refine awp_seq ?_
  refine awp_region ?_
  refine s_ldW yA32 yS32 ?_
  refine s_stW yS32 ?_
  refine k_nil ?_
  refine k_seq ?_
  refine awp_ret ?_
  refine k_fin ?_
  obtain rfl := Option.some.inj hF6
  exact ends_gen _ [2008, 12008] (by rw [Try.results84]; exact (res_agg (by conv => lhs; whnf) (by conv => lhs; whnf) yA32 yS32 rfl res_nil))
  refine awp_seq ?_
  refine awp_region ?_
  refine s_eq ?_
  refine s_as ?_
  refine k_nil ?_
  refine k_seq ?_
  refine w_cond hF5 (fun hc24 hF6 => ?_) (fun hc24 hF6 => ?_) <;> clear hF5
  refine awp_region ?_
  refine s_mv ?_
  refine s_bs rI [1000, (-1), 5] yP22 yR3 ?_
  replace hF6 := bind_some' hF6
  obtain ⟨v25, hv25, hF7⟩ := hF6
  refine s_call [(9000, 9000)] [52] _ _ (m_spec_l15Rd_num_ok fu _ _ _ hv25) ?_
  refine s_fa yF32_2 ?_
  refine s_stP yS3 ?_
  refine k_nil ?_
  refine k_blk ?_
  refine k_seq ?_
  refine awp_seq ?_
  refine awp_region ?_
  refine s_ldW yA32 yS32 ?_
  refine s_stW yS32 ?_
  refine k_nil ?_
  refine k_seq ?_
  refine awp_ret ?_
  refine k_fin ?_
  obtain rfl := Option.some.inj hF7
  exact ends_gen _ [2008, 12008] (by rw [Try.results84]; exact (res_agg (by conv => lhs; whnf) (by conv => lhs; whnf) yA32 yS32 rfl res_nil))
  refine awp_seq ?_
  refine awp_region ?_
  refine s_eq ?_
  refine s_as ?_
  refine k_nil ?_
  refine k_seq ?_
  refine w_cond hF6 (fun hc26 hF7 => ?_) (fun hc26 hF7 => ?_) <;> clear hF6
  refine awp_draw yMix (by kernel_rfl) ?_
  refine s_fa yF32_3 ?_
  refine s_ld1 yA22 ?_
  refine s_mv ?_
  refine s_bs rI [0, 100, 1, 50] yP22 yR3 ?_
  replace hF7 := bind_some' hF7
  obtain ⟨v27, hv27, hF8⟩ := hF7
  refine s_call [(9000, 9000)] [60] _ _ (m_spec_l15Rd_num_ok fu _ _ _ hv27) ?_
  refine s_bs rI [v27.1] yP22 yR3 ?_
  obtain ⟨hk28, hF9⟩ := chk_some hF8
  refine s_apT rI (fun _ => rfl) hk28 yP22 ?_
  refine s_fa yF32_3 ?_
  refine s_stP yS22 ?_
  refine k_nilD (by kernel_rfl) ?_
  refine k_blk ?_
  refine k_seq ?_
  refine awp_seq ?_
  refine awp_region ?_
  refine s_ldW yA32 yS32 ?_
  refine s_stW yS32 ?_
  refine k_nil ?_
  refine k_seq ?_
  refine awp_ret ?_
  refine k_fin ?_
  obtain rfl := Option.some.inj hF9
  exact ends_gen _ [63, 12008] (by rw [Try.results84]; exact (res_agg (by conv => lhs; whnf) (by conv => lhs; whnf) yA32 yS32 rfl res_nil))
  refine awp_skip ?_
  refine k_blk ?_
  refine k_seq ?_
  refine awp_seq ?_
  refine awp_region ?_
  refine s_ldW yA32 yS32 ?_
  refine s_stW yS32 ?_
  refine k_nil ?_
  refine k_seq ?_
  refine awp_ret ?_
  refine k_fin ?_
  obtain rfl := Option.some.inj hF7
  exact ends_gen _ [2008, 12008] (by rw [Try.results84]; exact (res_agg (by conv => lhs; whnf) (by conv => lhs; whnf) yA32 yS32 rfl res_nil))
theorem m_spec_l1Mutate_all (fuel : Nat) : m_spec_l1Mutate_AC fuel := by
  induction fuel using Nat.strongRecOn with
  | _ N ih =>
    cases N with
    | zero => exact (by intro o1 x2 r h; rw [m_spec_l1Mutate] at h; cases h)
    | succ fu => exact m_spec_l1Mutate_st fu (fun k hk => (ih k (by omega)))
theorem m_spec_l1Mutate_ok (fuel : Nat) : m_spec_l1Mutate_AC fuel := (m_spec_l1Mutate_all fuel)
def m_spec_l1Dress_AC (fuel : Nat) : Prop := ∀ (o1 : l15Rd) (x2 : Form) (r : (Form × l15Rd)), m_spec_l1Dress fuel o1 x2 = some r → AC Try.prog 114 [.rf 9000 0, .ag [.t (.sc (.int .i64 x2.kind)), .t (.sc (.str x2.name)), .t (.sc (.int .i64 x2.n)), .t (.sl (x2.scopes.map rI)), .t (.sl (x2.kids.map Form.row))]] (objs [(9000, .box [.t (.sl (o1.b.map rB)), .t (.sc (.int .i64 o1.p))])]) (.ag [.t (.sc (.int .i64 r.1.kind)), .t (.sc (.str r.1.name)), .t (.sc (.int .i64 r.1.n)), .t (.sl (r.1.scopes.map rI)), .t (.sl (r.1.kids.map Form.row))]) (objs [(9000, .box [.t (.sl (r.2.b.map rB)), .t (.sc (.int .i64 r.2.p))])])
theorem m_spec_l1Dress_st (fu : Nat) (ih_m_spec_l1Dress : ∀ k, k ≤ fu → m_spec_l1Dress_AC k) : m_spec_l1Dress_AC (fu + 1) := by
  intro o1 x2 r hF0
  rw [m_spec_l1Dress] at hF0
  refine AC_intro (rs := [.ag [.t (.sc (.int .i64 r.1.kind)), .t (.sc (.str r.1.name)), .t (.sc (.int .i64 r.1.n)), .t (.sl (r.1.scopes.map rI)), .t (.sl (r.1.kids.map Form.row))]]) Try.func114 rfl (by kernel_rfl) (by simp [Try.ntmps114]) (keep_all rfl) ?_
  intro C hC
  rw [Try.ntmps114]
  refine awp_seq ?_
  refine awp_region ?_
  refine s_box ?_
  refine s_alloc yZ32 ?_
  refine k_nil ?_
  refine k_seq ?_
  refine awp_seq ?_
  refine awp_region ?_
  refine s_ldW yA32 yS32 ?_
  replace hF0 := bind_some' hF0
  obtain ⟨v1, hv1, hF1⟩ := hF0
  refine s_call [(9203, 2009), (9204, 12009)] [] _ _ (m_spec_l1Copy_ok fu _ _ hv1) ?_
  refine s_alloc yZ32 ?_
  refine s_stW yS32 ?_
  refine k_nil ?_
  refine k_seq ?_
  refine awp_seq ?_
  refine awp_seq ?_
  refine awp_region ?_
  refine s_fa yF32_0 ?_
  refine s_ld1 yA3 ?_
  refine s_eq ?_
  refine k_nil ?_
  refine k_seq ?_
  refine w_cond hF1 (fun hc2 hF2 => ?_) (fun hc2 hF2 => ?_) <;> clear hF1
  refine awp_seq ?_
  refine awp_region ?_
  refine s_bs rI ([] : List Int) yP22 yR3 ?_
  refine s_bs rI [1] yP22 yR3 ?_
  refine s_bs rI [2] yP22 yR3 ?_
  refine s_bs rI [1, 2] yP22 yR3 ?_
  refine s_bs rI [1, 3] yP22 yR3 ?_
  refine s_bs rI [1, 2, 3] yP22 yR3 ?_
  refine s_bs rI [99] yP22 yR3 ?_
  refine s_bs (rL rI) [([] : List Int), [1], [2], [1, 2], [1, 3], [1, 2, 3], [99]] yP148 yR22 ?_
  refine s_as ?_
  refine k_nil ?_
  refine k_seq ?_
  refine awp_region ?_
  refine s_bs rI ([] : List Int) yP22 yR3 ?_
  iterate 3 refine s_mv ?_
  refine s_lenA yU148 ?_
  replace hF2 := bind_some' hF2
  obtain ⟨v3, hv3, hF3⟩ := hF2
  refine s_call [(9000, 9000)] [] _ _ (m_spec_l15Rd_pick_ok fu _ _ _ hv3) ?_
  replace hF3 := bind_some' hF3
  obtain ⟨v4, hv4, hF4⟩ := hF3
  refine s_ixA (rL rI) hv4 yE148 ?_
  refine s_lA1 (rL rI) hv4 rfl yA22 ?_
  obtain ⟨hk5, hF5⟩ := chk_some hF4
  refine s_apT rI (fun _ => rfl) hk5 yP22 ?_
  refine s_fa yF32_3 ?_
  refine s_stP yS22 ?_
  refine k_nil ?_
  refine k_seq ?_
  refine awp_seq ?_
  refine awp_seq ?_
  refine awp_region ?_
  refine s_as ?_
  refine k_nil ?_
  refine k_seq ?_
  refine awp_block ?_
  refine awp_frame2 [7, 31, 32, 33, 34, 35, 36, 37, 38, 39, 40, 41, 42, 43, 44, 45, 46, 47, 48] [9000, 12009] [] [] (fun a : Nat × Int × (List Int) × Int × (List Form) => a.1) (fun a : Nat × Int × (List Int) × Int × (List Form) => [(7, .t (.sc (.int .i64 a.2.1)))]) (fun a : Nat × Int × (List Int) × Int × (List Form) => [(9000, .box [.t (.sl (a.2.2.1.map rB)), .t (.sc (.int .i64 a.2.2.2.1))]), (12009, .arr (a.2.2.2.2.map Form.row) 32 true)]) (fun a : Nat × Int × (List Int) × Int × (List Form) => a.1 ≤ fu ∧ m_spec_l1Dress_l1 a.1 v1 v4 a.2.1 a.2.2.1 a.2.2.2.1 a.2.2.2.2 = some r ∧ 0 ≤ a.2.1) (fu, 0, v3.2.b, v3.2.p, v1.kids) ⟨Nat.le_refl _, hF5, by simp⟩ (by rfl) (by rfl) (fun _ => rfl) (hasF_cons (by conv => lhs; whnf) (by rfl) hasF_nil) (hasO_cons (by conv => lhs; whnf) (by rfl) (hasO_cons (by conv => lhs; whnf) (by rfl) hasO_nil)) (fun _ h => by cases h) freshS_nil freshM_nil ?_
  clear hF5
  rintro ⟨fu, g6, g7, g8, g9⟩ ⟨hl10, hF6, hn_g6⟩
  dsimp only at hl10 hF6 hn_g6 ⊢
  obtain _ | fu := fu
  · rw [m_spec_l1Dress_l1] at hF6; cases hF6
  rw [m_spec_l1Dress_l1] at hF6
  refine awp_seq ?_
  refine awp_seq ?_
  refine awp_region ?_
  refine s_mv ?_
  refine s_fa yF32_4 ?_
  refine s_ld1 yA30 ?_
  refine s_lenA yU30 ?_
  refine s_lt ?_
  refine k_nil ?_
  refine k_seq ?_
  refine w_cond hF6 (fun hc11 hF7 => ?_) (fun hc11 hF7 => ?_) <;> clear hF6
  refine awp_lenA 33 12009 (fun hb12 => ?_)
  refine awp_skip ?_
  refine k_seq ?_
  refine awp_seq ?_
  refine awp_block ?_
  refine awp_draw yMix (by kernel_rfl) ?_
  refine s_fa yF32_4 ?_
  refine s_ld1 yA30 ?_
  refine s_mv ?_
  refine s_mv ?_
  refine s_fa yF32_4 ?_
  refine s_ld1 yA30 ?_
  refine s_mv ?_
  replace hF7 := bind_some' hF7
  obtain ⟨v13, hv13, hF8⟩ := hF7
  refine s_ixA Form.row hv13 yE30 ?_
  refine s_lAN Form.row hv13 (Form.row_eq _) yA32 yS32 ?_
  replace hF8 := bind_some' hF8
  obtain ⟨v14, hv14, hF9⟩ := hF8
  refine s_call [(9000, 9000)] [] _ _ (ih_m_spec_l1Dress fu (by omega) _ _ _ hv14) ?_
  replace hF9 := bind_some' hF9
  obtain ⟨v15, hv15, hF10⟩ := hF9
  refine s_ixA Form.row hv15 yE30 ?_
  refine s_stA Form.row v14.1 hv15 (Form.row_eq _) (Form.row_eq _) yS32 yS32 ?_
  refine k_nilD (by kernel_rfl) ?_
  refine k_blk ?_
  refine k_seq ?_
  refine awp_region ?_
  refine s_mv ?_
  refine s_add (winc2 hc11 hb12 hn_g6) ?_
  refine s_as ?_
  refine k_nil ?_
  exact s_rnd2 (fu, (g6 + 1), v14.2.b, v14.2.p, (g9.set g6.toNat v14.1)) [] ⟨by first | omega | (dsimp only; omega), hF10, by first | omega | (dsimp only; omega)⟩ (hasR_cons (by conv => lhs; whnf) (by rfl) rfl trivial) (hasQ_cons (by conv => lhs; whnf) (by rfl) rfl (hasQ_cons (by conv => lhs; whnf) (by rfl) rfl trivial))
  refine awp_exit ?_
  refine k_seq_exit ?_
  refine k_rnd_exit2 ?_
  refine k_blk_exit ?_
  refine k_seq ?_
  refine awp_seq ?_
  refine awp_region ?_
  refine s_ldW yA32 yS32 ?_
  refine s_stW yS32 ?_
  refine k_nil ?_
  refine k_seq ?_
  refine awp_ret ?_
  refine k_fin ?_
  obtain rfl := Option.some.inj hF7
  exact ends_gen _ [29, 12009] (by rw [Try.results114]; exact (res_agg (by conv => lhs; whnf) (by conv => lhs; whnf) yA32 yS32 rfl res_nil))
  refine awp_skip ?_
  refine k_seq ?_
  refine awp_seq ?_
  refine awp_seq ?_
  refine awp_region ?_
  refine s_as ?_
  refine k_nil ?_
  refine k_seq ?_
  refine awp_block ?_
  refine awp_frame2 [7, 31, 32, 33, 34, 35, 36, 37, 38, 39, 40, 41, 42, 43, 44, 45, 46, 47, 48] [9000, 12009] [] [] (fun a : Nat × Int × (List Int) × Int × (List Form) => a.1) (fun a : Nat × Int × (List Int) × Int × (List Form) => [(7, .t (.sc (.int .i64 a.2.1)))]) (fun a : Nat × Int × (List Int) × Int × (List Form) => [(9000, .box [.t (.sl (a.2.2.1.map rB)), .t (.sc (.int .i64 a.2.2.2.1))]), (12009, .arr (a.2.2.2.2.map Form.row) 32 true)]) (fun a : Nat × Int × (List Int) × Int × (List Form) => a.1 ≤ fu ∧ m_spec_l1Dress_l2 a.1 v1 a.2.1 a.2.2.1 a.2.2.2.1 a.2.2.2.2 = some r ∧ 0 ≤ a.2.1) (fu, 0, o1.b, o1.p, v1.kids) ⟨Nat.le_refl _, hF2, by simp⟩ (by rfl) (by rfl) (fun _ => rfl) (hasF_cons (by conv => lhs; whnf) (by rfl) hasF_nil) (hasO_cons (by conv => lhs; whnf) (by rfl) (hasO_cons (by conv => lhs; whnf) (by rfl) hasO_nil)) (fun _ h => by cases h) freshS_nil freshM_nil ?_
  clear hF2
  rintro ⟨fu, g16, g17, g18, g19⟩ ⟨hl20, hF3, hn_g16⟩
  dsimp only at hl20 hF3 hn_g16 ⊢
  obtain _ | fu := fu
  · rw [m_spec_l1Dress_l2] at hF3; cases hF3
  rw [m_spec_l1Dress_l2] at hF3
  refine awp_seq ?_
  refine awp_seq ?_
  refine awp_region ?_
  refine s_mv ?_
  refine s_fa yF32_4 ?_
  refine s_ld1 yA30 ?_
  refine s_lenA yU30 ?_
  refine s_lt ?_
  refine k_nil ?_
  refine k_seq ?_
  refine w_cond hF3 (fun hc21 hF4 => ?_) (fun hc21 hF4 => ?_) <;> clear hF3
  refine awp_lenA 33 12009 (fun hb22 => ?_)
  refine awp_skip ?_
  refine k_seq ?_
  refine awp_seq ?_
  refine awp_block ?_
  refine awp_draw yMix (by kernel_rfl) ?_
  refine s_fa yF32_4 ?_
  refine s_ld1 yA30 ?_
  refine s_mv ?_
  refine s_mv ?_
  refine s_fa yF32_4 ?_
  refine s_ld1 yA30 ?_
  refine s_mv ?_
  replace hF4 := bind_some' hF4
  obtain ⟨v23, hv23, hF5⟩ := hF4
  refine s_ixA Form.row hv23 yE30 ?_
  refine s_lAN Form.row hv23 (Form.row_eq _) yA32 yS32 ?_
  replace hF5 := bind_some' hF5
  obtain ⟨v24, hv24, hF6⟩ := hF5
  refine s_call [(9000, 9000)] [] _ _ (ih_m_spec_l1Dress fu (by omega) _ _ _ hv24) ?_
  replace hF6 := bind_some' hF6
  obtain ⟨v25, hv25, hF7⟩ := hF6
  refine s_ixA Form.row hv25 yE30 ?_
  refine s_stA Form.row v24.1 hv25 (Form.row_eq _) (Form.row_eq _) yS32 yS32 ?_
  refine k_nilD (by kernel_rfl) ?_
  refine k_blk ?_
  refine k_seq ?_
  refine awp_region ?_
  refine s_mv ?_
  refine s_add (winc2 hc21 hb22 hn_g16) ?_
  refine s_as ?_
  refine k_nil ?_
  exact s_rnd2 (fu, (g16 + 1), v24.2.b, v24.2.p, (g19.set g16.toNat v24.1)) [] ⟨by first | omega | (dsimp only; omega), hF7, by first | omega | (dsimp only; omega)⟩ (hasR_cons (by conv => lhs; whnf) (by rfl) rfl trivial) (hasQ_cons (by conv => lhs; whnf) (by rfl) rfl (hasQ_cons (by conv => lhs; whnf) (by rfl) rfl trivial))
  refine awp_exit ?_
  refine k_seq_exit ?_
  refine k_rnd_exit2 ?_
  refine k_blk_exit ?_
  refine k_seq ?_
  refine awp_seq ?_
  refine awp_region ?_
  refine s_ldW yA32 yS32 ?_
  refine s_stW yS32 ?_
  refine k_nil ?_
  refine k_seq ?_
  refine awp_ret ?_
  refine k_fin ?_
  obtain rfl := Option.some.inj hF4
  exact ends_gen _ [2009, 12009] (by rw [Try.results114]; exact (res_agg (by conv => lhs; whnf) (by conv => lhs; whnf) yA32 yS32 rfl res_nil))
theorem m_spec_l1Dress_all (fuel : Nat) : m_spec_l1Dress_AC fuel := by
  induction fuel using Nat.strongRecOn with
  | _ N ih =>
    cases N with
    | zero => exact (by intro o1 x2 r h; rw [m_spec_l1Dress] at h; cases h)
    | succ fu => exact m_spec_l1Dress_st fu (fun k hk => (ih k (by omega)))
theorem m_spec_l1Dress_ok (fuel : Nat) : m_spec_l1Dress_AC fuel := (m_spec_l1Dress_all fuel)
end Go.Abs
end
