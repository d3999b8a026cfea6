/- A part of the proof: what the functions that the law calls answer, as pure values. -/
import Derived.Test.YtjjjnhpghhamkaaGreatK3e257ad47874
import Derived.Test.YtjjjnhpghhamkaaGreatK5a9d111b70d7
import Derived.Test.YtjjjnhpghhamkaaGreatK67d4705e8f3d
import Derived.Test.YtjjjnhpghhamkaaGreatK8a8b66872eb8
import Derived.Test.YtjjjnhpghhamkaaGreatKb50314906795
import Derived.Test.YtjjjnhpghhamkaaGreatKc56efbc7d861
import Derived.Test.YtjjjnhpghhamkaaGreatKf6ae9e79f90b
set_option linter.unusedSimpArgs false
set_option linter.unusedVariables false
set_option maxRecDepth 100000
set_option maxHeartbeats 4000000
namespace Go.Abs
open Go.Proofs
theorem m_impl_eachForm_NamesOf_1_all (fuel : Nat) : m_impl_eachForm_NamesOf_1_AC fuel := by
 induction fuel using Nat.strongRecOn with
 | _ N ih =>
   cases N with
   | zero => exact (by intro x1 o1 r h; rw [m_impl_eachForm_NamesOf_1] at h; cases h)
   | succ fu => exact m_impl_eachForm_NamesOf_1_st fu (fun k hk => (ih k (by omega)))
theorem m_impl_eachForm_NamesOf_1_ok (fuel : Nat) : m_impl_eachForm_NamesOf_1_AC fuel := (m_impl_eachForm_NamesOf_1_all fuel)
def m_impl_NamesOf_AC (fuel : Nat) : Prop := ∀ (x1 : Form) (r : (List ByteArray)), m_impl_NamesOf fuel x1 = some r → AC Tryz.prog 19 [.ag [.t (.sc (.int .i64 x1.kind)), .t (.sc (.str x1.name)), .t (.sc (.int .i64 x1.n)), .t (.sl (x1.scopes.map rI)), .t (.sl (x1.kids.map Form.row))]] noOb (.t (.sl (r.map rS))) noOb
theorem m_impl_NamesOf_ok (fuel : Nat) : m_impl_NamesOf_AC fuel := by
 intro x1 r hF0
 unfold m_impl_NamesOf at hF0
 refine AC_i [.t (.sl (r.map rS))] Tryz.func19 rfl Tryz.ntmps19 ?_
 intro C hC
 refine awp_seq (awp_region ?_)
 refine s_box ?_
 refine s_as ?_
 refine k_nil (k_seq (awp_seq (awp_region ?_)))
 refine s_bs rS ([] : List ByteArray) yP36 yR9 ?_
 refine s_alloc yZ36 ?_
 refine s_stW yS36 ?_
 refine k_nil (k_seq (awp_seq ?_))
 refine awp_frz 4 (by conv => lhs; whnf) ?_
 refine awp_region ?_
 refine s_ldW yA27 yS27 ?_
 refine s_fn ?_
 obtain ⟨v1, hv1, hF1⟩ := bind_some' hF0
 refine s_call [(9000, 3), (9420, 4), (10420, 22007)] [] _ _ (m_impl_eachForm_NamesOf_1_ok fuel _ _ _ hv1) ?_
 refine k_nil (k_seq (awp_seq (awp_region ?_)))
 refine s_ld1 yA36 ?_
 refine s_as ?_
 refine k_nil (k_seq (awp_ret (k_fin ?_)))
 cases hF1
 exact ends_a [] [22007] Tryz.results19
def m_laws_mxHasText_AC (fuel : Nat) : Prop := ∀ (x1 : (List ByteArray)) (x2 : ByteArray) (r : Bool), m_laws_mxHasText fuel x1 x2 = some r → AC Tryz.prog 18 [.t (.sl (x1.map rS)), .t (.sc (.str x2))] noOb (.t (.sc (.bool r))) noOb
theorem m_laws_mxHasText_ok (fuel : Nat) : m_laws_mxHasText_AC fuel := by
 intro x1 x2 r hF0
 unfold m_laws_mxHasText at hF0
 refine AC_i [.t (.sc (.bool r))] Tryz.func18 rfl Tryz.ntmps18 ?_
 intro C hC
 refine awp_seq (awp_region ?_)
 refine s_as ?_
 refine k_nil (k_seq (awp_seq (awp_seq (awp_region ?_))))
 refine s_as ?_
 refine k_nil (k_seq (awp_block ?_))
 refine awp_fr (β := Int) [4, 5, 6, 7, 8, 9, 10, 11, 12, 13, 14, 15, 16, 17] [] [] (fun a => [(5, .t (.sc (.int .i64 a.2)))]) (fun a => []) (fun a => a.1 ≤ fuel ∧ m_laws_mxHasText_l1 a.1 x1 x2 a.2 = some r ∧ 0 ≤ a.2) (fuel, 0) ⟨Nat.le_refl _, hF0, by simp⟩ ?_
 clear hF0
 rintro ⟨fu, g1⟩ ⟨hl2, hF1, hn_g1⟩
 dsimp only at hl2 hF1 hn_g1 ⊢
 obtain _ | fu := fu
 · rw [m_laws_mxHasText_l1] at hF1; cases hF1
 rw [m_laws_mxHasText_l1] at hF1
 refine awp_seq (awp_seq (awp_region ?_))
 refine s_mv ?_
 refine s_mv ?_
 refine s_lenT yU36 ?_
 refine s_lt ?_
 refine k_nil (k_seq ?_)
 refine w_cond hF1 ?_ ?_ <;> intro hc3 hF2
 refine awp_lenT 0 (fun hb4 => ?_)
 refine awp_skip (k_seq (awp_seq (awp_block (awp_seq (awp_region ?_)))))
 refine s_mv ?_
 refine s_mv ?_
 obtain ⟨v5, hv5, hF3⟩ := bind_some' hF2
 refine s_ixT rS hv5 rfl yE36 ?_
 refine s_ld1 yA9 ?_
 refine s_mv ?_
 refine s_eqS ?_
 refine k_nil (k_seq ?_)
 refine w_cond hF3 ?_ ?_ <;> intro hc6 hF4
 refine awp_seq (awp_region ?_)
 refine s_as ?_
 refine k_nil (k_seq (awp_ret (k_blk_ret (k_seq_ret (k_rnd_ret2 (k_blk_ret (k_seq_ret (k_fin ?_))))))))
 cases hF4
 exact ends_a [] [] Tryz.results18
 refine awp_skip (k_blk (k_seq (awp_region ?_)))
 refine s_mv ?_
 refine s_add (winc2 hc3 hb4 hn_g1) ?_
 refine s_as ?_
 refine k_nil ?_
 exact s_rn (fu, (g1 + 1)) ⟨by first | omega | (dsimp only; omega), hF4, by first | omega | (dsimp only; omega)⟩
 refine awp_exit (k_seq_exit (k_rnd_exit2 (k_blk_exit (k_seq (awp_seq (awp_region ?_))))))
 refine s_as ?_
 refine k_nil (k_seq (awp_ret (k_fin ?_)))
 cases hF2
 exact ends_a [] [] Tryz.results18
def m_impl_hitSame_AC (fuel : Nat) : Prop := ∀ (x1 : Hit) (x2 : Hit) (r : Bool), m_impl_hitSame fuel x1 x2 = some r → AC Tryz.prog 84 [.ag [.t (.sc (.int .i64 x1.name.kind)), .t (.sc (.str x1.name.name)), .t (.sc (.int .i64 x1.name.n)), .t (.sl (x1.name.scopes.map rI)), .t (.sl (x1.name.kids.map Form.row)), .t (.sc (.int .i64 x1.depth)), .t (.sc (.int .i64 x1.one.kind)), .t (.sc (.str x1.one.name)), .t (.sc (.int .i64 x1.one.n)), .t (.sl (x1.one.scopes.map rI)), .t (.sl (x1.one.kids.map Form.row)), .t (.sl (x1.many.map Hit.row))], .ag [.t (.sc (.int .i64 x2.name.kind)), .t (.sc (.str x2.name.name)), .t (.sc (.int .i64 x2.name.n)), .t (.sl (x2.name.scopes.map rI)), .t (.sl (x2.name.kids.map Form.row)), .t (.sc (.int .i64 x2.depth)), .t (.sc (.int .i64 x2.one.kind)), .t (.sc (.str x2.one.name)), .t (.sc (.int .i64 x2.one.n)), .t (.sl (x2.one.scopes.map rI)), .t (.sl (x2.one.kids.map Form.row)), .t (.sl (x2.many.map Hit.row))]] noOb (.t (.sc (.bool r))) noOb
def m_slices_EqualFunc_Hit_hitSame_AC (fuel : Nat) : Prop := ∀ (x1 : (List Hit)) (x2 : (List Hit)) (r : Bool), m_slices_EqualFunc_Hit_hitSame fuel x1 x2 = some r → AC Tryz.prog 83 [.t (.sl (x1.map Hit.row)), .t (.sl (x2.map Hit.row)), .fn 84 []] noOb (.t (.sc (.bool r))) noOb
theorem m_impl_hitSame_st (fu : Nat) (ih_m_impl_hitSame : ∀ k, k ≤ fu → m_impl_hitSame_AC k) (ih_m_slices_EqualFunc_Hit_hitSame : ∀ k, k ≤ fu → m_slices_EqualFunc_Hit_hitSame_AC k) : m_impl_hitSame_AC (fu + 1) := by
 intro x1 x2 r hF0
 rw [m_impl_hitSame] at hF0
 refine AC_i [.t (.sc (.bool r))] Tryz.func84 rfl Tryz.ntmps84 ?_
 intro C hC
 refine awp_seq (awp_region ?_)
 refine s_box ?_
 refine s_box ?_
 refine s_as ?_
 refine k_nil (k_seq (awp_seq (awp_region ?_)))
 refine s_fa yF40_0 ?_
 refine s_ldN yA27 yS27 ?_
 refine s_fa yF40_0 ?_
 refine s_ldN yA27 yS27 ?_
 obtain ⟨v1, hv1, hF1⟩ := bind_some' hF0
 refine s_pure [] (m_impl_FormSame_ok fu _ _ _ hv1) ?_
 refine s_mv ?_
 refine w_guard _ 10 hF1 ?_ ?_ <;> intro hc2 hF2
 refine s_fa yF40_1 ?_
 refine s_ld1 yA3 ?_
 refine s_fa yF40_1 ?_
 refine s_ld1 yA3 ?_
 refine s_eq ?_
 refine s_pkt ?_
 refine s_mv ?_
 refine w_guard _ 17 hF2 ?_ ?_ <;> intro hc3 hF3
 refine s_fa yF40_2 ?_
 refine s_ldN yA27 yS27 ?_
 refine s_fa yF40_2 ?_
 refine s_ldN yA27 yS27 ?_
 obtain ⟨v4, hv4, hF4⟩ := bind_some' hF3
 refine s_pure [] (m_impl_FormSame_ok fu _ _ _ hv4) ?_
 refine s_pkt ?_
 refine s_mv ?_
 refine w_guard _ 24 hF4 ?_ ?_ <;> intro hc5 hF5
 refine s_fa yF40_3 ?_
 refine s_ld1 yA30 ?_
 refine s_fa yF40_3 ?_
 refine s_ld1 yA30 ?_
 obtain ⟨v6, hv6, hF6⟩ := bind_some' hF5
 refine s_pure [] (ih_m_slices_EqualFunc_Hit_hitSame fu (by omega) _ _ _ hv6) ?_
 refine s_pkt ?_
 refine s_as ?_
 refine k_nil (k_seq (awp_ret (k_fin ?_)))
 cases hF6
 exact ends_a [] [] Tryz.results84
 iterate 5 refine r_no rfl ?_
 refine s_pkf ?_
 refine s_as ?_
 refine k_nil (k_seq (awp_ret (k_fin ?_)))
 cases hF5
 exact ends_a [] [] Tryz.results84
 iterate 5 refine r_no rfl ?_
 refine s_pkf ?_
 refine s_mv ?_
 iterate 5 refine r_no rfl ?_
 refine s_pkf ?_
 refine s_as ?_
 refine k_nil (k_seq (awp_ret (k_fin ?_)))
 cases hF3
 exact ends_a [] [] Tryz.results84
 iterate 5 refine r_no rfl ?_
 refine s_pkf ?_
 refine s_mv ?_
 iterate 5 refine r_no rfl ?_
 refine s_pkf ?_
 refine s_mv ?_
 iterate 5 refine r_no rfl ?_
 refine s_pkf ?_
 refine s_as ?_
 refine k_nil (k_seq (awp_ret (k_fin ?_)))
 cases hF2
 exact ends_a [] [] Tryz.results84
theorem m_slices_EqualFunc_Hit_hitSame_st (fu : Nat) (ih_m_impl_hitSame : ∀ k, k ≤ fu → m_impl_hitSame_AC k) (ih_m_slices_EqualFunc_Hit_hitSame : ∀ k, k ≤ fu → m_slices_EqualFunc_Hit_hitSame_AC k) : m_slices_EqualFunc_Hit_hitSame_AC (fu + 1) := by
 intro x1 x2 r hF0
 rw [m_slices_EqualFunc_Hit_hitSame] at hF0
 refine AC_i [.t (.sc (.bool r))] Tryz.func83 rfl Tryz.ntmps83 ?_
 intro C hC
 refine awp_seq (awp_region ?_)
 refine s_as ?_
 refine k_nil (k_seq (awp_seq (awp_seq (awp_region ?_))))
 refine s_mv ?_
 refine s_lenT yU30 ?_
 refine s_mv ?_
 refine s_lenT yU30 ?_
 refine s_ne ?_
 refine k_nil (k_seq ?_)
 refine w_cond hF0 ?_ ?_ <;> intro hc1 hF1
 refine awp_seq (awp_region ?_)
 refine s_as ?_
 refine k_nil (k_seq (awp_ret (k_seq_ret (k_fin ?_))))
 cases hF1
 exact ends_a [] [] Tryz.results83
 refine awp_skip (k_seq (awp_seq (awp_seq (awp_region ?_))))
 refine s_mv ?_
 refine s_lenT yU30 ?_
 refine s_mv ?_
 refine k_nil (k_seq (awp_block ?_))
 refine awp_fr (β := Int) [6, 7, 8, 9, 17, 18, 19, 20, 21, 22, 23, 24, 25, 26, 27, 28, 29, 30, 31] [] [8, 9] (fun a => [(17, .t (.sc (.int .i64 a.2)))]) (fun a => []) (fun a => a.1 ≤ fu ∧ m_slices_EqualFunc_Hit_hitSame_l1 a.1 x1 x2 a.2 = some r ∧ 0 ≤ a.2) (fu, 0) ⟨Nat.le_refl _, hF1, by simp⟩ ?_
 clear hF1
 rintro ⟨fu, g2⟩ ⟨hl3, hF2, hn_g2⟩
 dsimp only at hl3 hF2 hn_g2 ⊢
 obtain _ | fu := fu
 · rw [m_slices_EqualFunc_Hit_hitSame_l1] at hF2; cases hF2
 rw [m_slices_EqualFunc_Hit_hitSame_l1] at hF2
 refine awp_seq (awp_region ?_)
 refine s_lt ?_
 refine k_nil (k_seq (awp_seq ?_))
 refine w_cond hF2 ?_ ?_ <;> intro hc4 hF3
 refine awp_lenT 0 (fun hb5 => ?_)
 refine awp_skip (k_seq (awp_seq (awp_block (awp_seq (awp_region ?_)))))
 refine s_mv ?_
 obtain ⟨v6, hv6, hF4⟩ := bind_some' hF3
 refine s_ixT Hit.row hv6 (Hit.row_eq _) yE30 ?_
 refine s_ldN yA40 yS40 ?_
 refine s_alloc yZ40 ?_
 refine s_as ?_
 refine s_stW yS40 ?_
 refine k_nil (k_seq (awp_seq (awp_region ?_)))
 refine s_mv ?_
 refine s_mv ?_
 obtain ⟨v7, hv7, hF5⟩ := bind_some' hF4
 refine s_ixT Hit.row hv7 (Hit.row_eq _) yE30 ?_
 refine s_ldN yA40 yS40 ?_
 refine s_alloc yZ40 ?_
 refine s_stW yS40 ?_
 refine k_nil (k_seq (awp_seq (awp_region ?_)))
 refine s_mv ?_
 refine s_ldW yA40 yS40 ?_
 refine s_ldW yA40 yS40 ?_
 obtain ⟨v8, hv8, hF6⟩ := bind_some' hF5
 refine s_pure [] (ih_m_impl_hitSame fu (by omega) _ _ _ hv8) ?_
 refine s_not ?_
 refine k_nil (k_seq ?_)
 refine w_cond hF6 ?_ ?_ <;> intro hc9 hF7
 refine awp_seq (awp_region ?_)
 refine s_as ?_
 refine k_nil (k_seq (awp_ret (k_blk_ret (k_seq_ret (k_rnd_ret2 (k_blk_ret (k_seq_ret (k_fin ?_))))))))
 cases hF7
 exact ends_a [] [] Tryz.results83
 refine awp_skip (k_blk (k_seq (awp_region ?_)))
 refine s_add (winc2 hc4 hb5 hn_g2) ?_
 refine s_mv ?_
 refine k_nil ?_
 exact s_rn (fu, (g2 + 1)) ⟨by first | omega | (dsimp only; omega), hF7, by first | omega | (dsimp only; omega)⟩
 refine awp_exit (k_seq_exit (k_rnd_exit2 (k_blk_exit (k_seq (awp_seq (awp_region ?_))))))
 refine s_as ?_
 refine k_nil (k_seq (awp_ret (k_fin ?_)))
 cases hF3
 exact ends_a [] [] Tryz.results83
theorem m_impl_hitSame_all (fuel : Nat) : m_impl_hitSame_AC fuel ∧ m_slices_EqualFunc_Hit_hitSame_AC fuel := by
 induction fuel using Nat.strongRecOn with
 | _ N ih =>
   cases N with
   | zero => exact ⟨(by intro x1 x2 r h; rw [m_impl_hitSame] at h; cases h), (by intro x1 x2 r h; rw [m_slices_EqualFunc_Hit_hitSame] at h; cases h)⟩
   | succ fu => exact ⟨m_impl_hitSame_st fu (fun k hk => (ih k (by omega)).1) (fun k hk => (ih k (by omega)).2), m_slices_EqualFunc_Hit_hitSame_st fu (fun k hk => (ih k (by omega)).1) (fun k hk => (ih k (by omega)).2)⟩
theorem m_slices_EqualFunc_Hit_hitSame_ok (fuel : Nat) : m_slices_EqualFunc_Hit_hitSame_AC fuel := (m_impl_hitSame_all fuel).2
def m_impl_HitsSame_AC (fuel : Nat) : Prop := ∀ (x1 : (List Hit)) (x2 : (List Hit)) (r : Bool), m_impl_HitsSame fuel x1 x2 = some r → AC Tryz.prog 22 [.t (.sl (x1.map Hit.row)), .t (.sl (x2.map Hit.row))] noOb (.t (.sc (.bool r))) noOb
theorem m_impl_HitsSame_ok (fuel : Nat) : m_impl_HitsSame_AC fuel := by
 intro x1 x2 r hF0
 unfold m_impl_HitsSame at hF0
 refine AC_i [.t (.sc (.bool r))] Tryz.func22 rfl Tryz.ntmps22 ?_
 intro C hC
 refine awp_seq (awp_region ?_)
 refine s_as ?_
 refine k_nil (k_seq (awp_seq (awp_region ?_)))
 refine s_mv ?_
 refine s_mv ?_
 obtain ⟨v1, hv1, hF1⟩ := bind_some' hF0
 refine s_pure [] (m_slices_EqualFunc_Hit_hitSame_ok fuel _ _ _ hv1) ?_
 refine s_as ?_
 refine k_nil (k_seq (awp_ret (k_fin ?_)))
 cases hF1
 exact ends_a [] [] Tryz.results22
def m_impl_FormSize_AC (fuel : Nat) : Prop := ∀ (x1 : Form) (r : Int), m_impl_FormSize fuel x1 = some r → AC Tryz.prog 23 [.ag [.t (.sc (.int .i64 x1.kind)), .t (.sc (.str x1.name)), .t (.sc (.int .i64 x1.n)), .t (.sl (x1.scopes.map rI)), .t (.sl (x1.kids.map Form.row))]] noOb (.t (.sc (.int .i64 r))) noOb
theorem m_impl_FormSize_st (fu : Nat) (ih_m_impl_FormSize : ∀ k, k ≤ fu → m_impl_FormSize_AC k) : m_impl_FormSize_AC (fu + 1) := by
 intro x1 r hF0
 rw [m_impl_FormSize] at hF0
 refine AC_i [.t (.sc (.int .i64 r))] Tryz.func23 rfl Tryz.ntmps23 ?_
 intro C hC
 refine awp_seq (awp_region ?_)
 refine s_box ?_
 refine s_as ?_
 refine k_nil (k_seq (awp_seq (awp_region ?_)))
 refine s_as ?_
 refine k_nil (k_seq (awp_seq (awp_seq (awp_region ?_))))
 refine s_fa yF27_4 ?_
 refine s_ld1 yA25 ?_
 refine s_lenT yU25 ?_
 refine s_mv ?_
 refine k_nil (k_seq (awp_block ?_))
 refine awp_fr (β := Int × Int) [3, 5, 9, 10, 11, 12, 13, 14, 15, 16, 17] [] [5] (fun a => [(3, .t (.sc (.int .i64 a.2.1))), (9, .t (.sc (.int .i64 a.2.2)))]) (fun a => []) (fun a => a.1 ≤ fu ∧ m_impl_FormSize_l1 a.1 x1 a.2.1 a.2.2 = some r ∧ 0 ≤ a.2.2) (fu, 1, 0) ⟨Nat.le_refl _, hF0, by simp⟩ ?_
 clear hF0
 rintro ⟨fu, g1, g2⟩ ⟨hl3, hF1, hn_g2⟩
 dsimp only at hl3 hF1 hn_g2 ⊢
 obtain _ | fu := fu
 · rw [m_impl_FormSize_l1] at hF1; cases hF1
 rw [m_impl_FormSize_l1] at hF1
 refine awp_seq (awp_region ?_)
 refine s_lt ?_
 refine k_nil (k_seq (awp_seq ?_))
 refine w_cond hF1 ?_ ?_ <;> intro hc4 hF2
 refine awp_lenT 7 (fun hb5 => ?_)
 refine awp_skip (k_seq (awp_seq (awp_block (awp_seq (awp_region ?_)))))
 obtain ⟨v6, hv6, hF3⟩ := bind_some' hF2
 refine s_ixT Form.row hv6 (Form.row_eq _) yE25 ?_
 refine s_ldN yA27 yS27 ?_
 refine s_alloc yZ27 ?_
 refine s_stW yS27 ?_
 refine k_nil (k_seq (awp_region ?_))
 refine s_mv ?_
 refine s_ldW yA27 yS27 ?_
 obtain ⟨v7, hv7, hF4⟩ := bind_some' hF3
 refine s_pure [] (ih_m_impl_FormSize fu (by omega) _ _ hv7) ?_
 refine s_add rfl ?_
 refine s_as ?_
 refine k_nil (k_blk (k_seq (awp_region ?_)))
 refine s_add (winc2 hc4 hb5 hn_g2) ?_
 refine s_mv ?_
 refine k_nil ?_
 exact s_rn (fu, (w64 (g1 + v7)), (g2 + 1)) ⟨by first | omega | (dsimp only; omega), hF4, by first | omega | (dsimp only; omega)⟩
 refine awp_exit (k_seq_exit (k_rnd_exit2 (k_blk_exit (k_seq (awp_seq (awp_region ?_))))))
 refine s_mv ?_
 refine s_as ?_
 refine k_nil (k_seq (awp_ret (k_fin ?_)))
 cases hF2
 exact ends_a [] [] Tryz.results23
theorem m_impl_FormSize_all (fuel : Nat) : m_impl_FormSize_AC fuel := by
 induction fuel using Nat.strongRecOn with
 | _ N ih =>
   cases N with
   | zero => exact (by intro x1 r h; rw [m_impl_FormSize] at h; cases h)
   | succ fu => exact m_impl_FormSize_st fu (fun k hk => (ih k (by omega)))
theorem m_impl_FormSize_ok (fuel : Nat) : m_impl_FormSize_AC fuel := (m_impl_FormSize_all fuel)
def m_laws_FnMatchSize_AC (fuel : Nat) : Prop := ∀ (x1 : (List Int)) (r : Bool), m_laws_FnMatchSize fuel x1 = some r → AC Tryz.prog 4 [.t (.sl (x1.map rB))] noOb (.t (.sc (.bool r))) noOb
theorem m_laws_FnMatchSize_ok (fuel : Nat) : m_laws_FnMatchSize_AC fuel := by
 intro x1 r hF0
 unfold m_laws_FnMatchSize at hF0
 refine AC_i [.t (.sc (.bool r))] Tryz.func4 rfl Tryz.ntmps4 ?_
 intro C hC
 refine awp_seq (awp_region ?_)
 refine s_as ?_
 refine k_nil (k_seq (awp_seq (awp_seq (awp_region ?_))))
 refine s_mv ?_
 refine s_lenT yU22 ?_
 refine s_gt ?_
 refine k_nil (k_seq ?_)
 refine w_cond hF0 ?_ ?_ <;> intro hc1 hF1
 refine awp_lenT 0 (fun hb2 => ?_)
 refine awp_seq (awp_region ?_)
 refine s_as ?_
 refine k_nil (k_seq (awp_ret (k_seq_ret (k_fin ?_))))
 cases hF1
 exact ends_a [] [] Tryz.results4
 refine awp_skip (k_seq (awp_seq (awp_region ?_)))
 refine s_mv ?_
 obtain ⟨v3, hv3, hF2⟩ := bind_some' hF1
 refine s_pure [] (m_spec_DrawMatchPattern_ok fuel _ _ hv3) ?_
 refine s_mv ?_
 iterate 4 refine s_ext ?_
 refine s_alloc yZ27 ?_
 refine s_alloc yZ27 ?_
 refine s_as ?_
 refine s_stW yS27 ?_
 refine s_as ?_
 refine s_stW yS27 ?_
 refine k_nil (k_seq (awp_seq (awp_region ?_)))
 refine s_mv ?_
 refine s_ldW yA27 yS27 ?_
 refine s_mv ?_
 refine s_ldW yA27 yS27 ?_
 obtain ⟨v4, hv4, hF3⟩ := bind_some' hF2
 refine s_pure [] (m_impl_MatchPattern_ok fuel _ _ _ _ _ hv4) ?_
 refine s_mv ?_
 refine s_ext ?_
 refine s_ext ?_
 refine s_as ?_
 refine s_as ?_
 refine k_nil (k_seq (awp_seq (awp_region ?_)))
 refine s_mv ?_
 refine s_ldW yA27 yS27 ?_
 refine s_mv ?_
 refine s_ldW yA27 yS27 ?_
 obtain ⟨v5, hv5, hF4⟩ := bind_some' hF3
 refine s_call [(9200, 2034)] [] _ _ (m_spec_MatchPattern_ok fuel _ _ _ _ _ hv5) ?_
 refine s_mv ?_
 refine s_ext ?_
 refine s_ext ?_
 refine s_as ?_
 refine s_as ?_
 refine k_nil (k_seq (awp_seq ?_))
 refine awp_jn (α := Nat × Bool) [37, 38, 39, 40, 41, 42, 43, 44, 45, 46, 47, 48, 49, 50, 51, 52, 53, 54] [2034] [] (fun a => [(54, .t (.sc (.bool a.2)))]) (fun a => [(2034, .arr (v5.1.map Hit.row) 40 false)]) (fun a => a.1 ≤ fuel ∧ m_laws_FnMatchSize_j1 a.1 v3 v4 v5 a.2 = some r) ?_ ?_
 refine awp_region ?_
 refine s_mv ?_
 refine s_mv ?_
 obtain ⟨v6, hv6, hF5⟩ := bind_some' hF4
 refine s_pure [2034] (m_impl_HitsSame_ok fuel _ _ _ hv6) ?_
 refine s_not ?_
 refine s_mv ?_
 refine w_guard _ 41 hF5 ?_ ?_ <;> intro hc7 hF6
 iterate 3 refine r_no rfl ?_
 refine s_pkt ?_
 refine s_mv ?_
 refine r_no rfl (r_no rfl ?_)
 refine s_pkt ?_
 refine s_mv ?_
 iterate 3 refine r_no rfl ?_
 refine s_pkt ?_
 refine k_nil ?_
 exact s_jn (fuel, true) ⟨by first | omega | (dsimp only; omega), hF6⟩
 refine s_mv ?_
 refine s_mv ?_
 refine s_neB yU4 ?_
 refine s_pkf ?_
 refine s_mv ?_
 refine w_guard _ 46 hF6 ?_ ?_ <;> intro hc8 hF7
 refine r_no rfl (r_no rfl ?_)
 refine s_pkt ?_
 refine s_mv ?_
 iterate 3 refine r_no rfl ?_
 refine s_pkt ?_
 refine k_nil ?_
 exact s_jn (fuel, true) ⟨by first | omega | (dsimp only; omega), hF7⟩
 refine s_mv ?_
 refine s_not ?_
 refine s_pkf ?_
 refine s_mv ?_
 refine w_guard _ 50 hF7 ?_ ?_ <;> intro hc9 hF8
 iterate 3 refine r_no rfl ?_
 refine s_pkt ?_
 refine k_nil ?_
 exact s_jn (fuel, true) ⟨by first | omega | (dsimp only; omega), hF8⟩
 refine s_ldW yA27 yS27 ?_
 obtain ⟨v10, hv10, hF9⟩ := bind_some' hF8
 refine s_pure [] (m_impl_NamesOf_ok fuel _ _ hv10) ?_
 obtain ⟨v11, hv11, hF10⟩ := bind_some' hF9
 refine s_pure [] (m_laws_mxHasText_ok fuel _ _ _ hv11) ?_
 refine s_pkf ?_
 refine k_nil ?_
 exact s_jn (fuel, v11) ⟨by first | omega | (dsimp only; omega), hF10⟩
 clear hF4
 rintro ⟨fu, g12⟩ ⟨hl13, hF5⟩
 dsimp only at hl13 hF5 ⊢
 obtain _ | fu := fu
 · rw [m_laws_FnMatchSize_j1] at hF5; cases hF5
 rw [m_laws_FnMatchSize_j1] at hF5
 refine w_cond hF5 ?_ ?_ <;> intro hc14 hF6
 refine awp_jn (α := Nat × Bool) [2, 55, 56, 57, 58, 59, 60, 61, 62] [] [] (fun a => [(2, .t (.sc (.bool a.2)))]) (fun a => []) (fun a => a.1 ≤ fu ∧ m_laws_FnMatchSize_j2 a.1  a.2 = some r) ?_ ?_
 refine awp_region ?_
 refine s_mv ?_
 refine s_mv ?_
 obtain ⟨v15, hv15, hF7⟩ := bind_some' hF6
 refine s_pure [2034] (m_impl_HitsSame_ok fu _ _ _ hv15) ?_
 refine s_mv ?_
 refine w_guard _ 58 hF7 ?_ ?_ <;> intro hc16 hF8
 refine s_mv ?_
 refine s_mv ?_
 refine s_eqB yU4 ?_
 refine s_pkt ?_
 refine s_as ?_
 refine k_nil ?_
 exact s_jn (fu, (decide (v4.2 = v5.2))) ⟨by first | omega | (dsimp only; omega), hF8⟩
 iterate 3 refine r_no rfl ?_
 refine s_pkf ?_
 refine s_as ?_
 refine k_nil ?_
 exact s_jn (fu, false) ⟨by first | omega | (dsimp only; omega), hF8⟩
 clear hF6
 rintro ⟨fu, g17⟩ ⟨hl18, hF7⟩
 dsimp only at hl18 hF7 ⊢
 obtain _ | fu := fu
 · rw [m_laws_FnMatchSize_j2] at hF7; cases hF7
 rw [m_laws_FnMatchSize_j2] at hF7
 refine awp_ret (k_seq_ret (k_fin ?_))
 cases hF7
 exact ends_a [] [] Tryz.results4
 refine awp_skip (k_seq (awp_seq ?_))
 refine awp_draw yMix (by kernel_rfl) ?_
 refine s_ldW yA27 yS27 ?_
 obtain ⟨v19, hv19, hF7⟩ := bind_some' hF6
 refine s_pure [] (m_impl_FormSize_ok fu _ _ hv19) ?_
 refine s_ldW yA27 yS27 ?_
 obtain ⟨v20, hv20, hF8⟩ := bind_some' hF7
 refine s_pure [] (m_impl_FormSize_ok fu _ _ hv20) ?_
 refine s_ge ?_
 refine s_mv ?_
 refine w_guard _ 68 hF8 ?_ ?_ <;> intro hc21 hF9
 refine s_fa yF27_0 ?_
 refine s_ld1 yA3 ?_
 refine s_ne ?_
 refine s_mv ?_
 refine w_guard _ 72 hF9 ?_ ?_ <;> intro hc22 hF10
 iterate 7 refine r_no rfl ?_
 refine s_pkt ?_
 refine s_pkt ?_
 refine s_as ?_
 refine k_nilD (by kernel_rfl) ?_
 refine k_seq (awp_ret (k_fin ?_))
 cases hF10
 exact ends_a [] [] Tryz.results4
 refine s_fa yF27_4 ?_
 refine s_ld1 yA25 ?_
 refine s_lenT yU25 ?_
 refine s_fa yF27_4 ?_
 refine s_ld1 yA25 ?_
 refine s_lenT yU25 ?_
 refine s_eq ?_
 refine s_pkf ?_
 refine s_pkt ?_
 refine s_as ?_
 refine k_nilD (by kernel_rfl) ?_
 refine k_seq (awp_ret (k_fin ?_))
 cases hF10
 exact ends_a [] [] Tryz.results4
 iterate 12 refine r_no rfl ?_
 refine s_pkf ?_
 refine s_as ?_
 refine k_nilD (by kernel_rfl) ?_
 refine k_seq (awp_ret (k_fin ?_))
 cases hF9
 exact ends_a [] [] Tryz.results4
end Go.Abs
