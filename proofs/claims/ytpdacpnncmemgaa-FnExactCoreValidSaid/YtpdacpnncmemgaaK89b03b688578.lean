/- A part of the proof: what the functions that the law calls answer, as pure values. -/
import Derived.Test.YtpdacpnncmemgaaK27f2e429f67e
import Derived.Test.YtpdacpnncmemgaaK74f49c4f003f
import Derived.Test.YtpdacpnncmemgaaK7a3e033c3f25
import Derived.Test.YtpdacpnncmemgaaKc9888d8427ea
import Derived.Test.YtpdacpnncmemgaaKd0b8e8c46f8c
set_option linter.unusedSimpArgs false
set_option linter.unusedVariables false
set_option maxRecDepth 100000
set_option maxHeartbeats 4000000
namespace Go.Abs
open Go.Proofs
theorem m_impl_coreOk_all (fuel : Nat) : m_impl_coreOk_AC fuel := by
 induction fuel using Nat.strongRecOn with
 | _ N ih =>
   cases N with
   | zero => exact (by intro x1 x2 x3 o1 r h; rw [m_impl_coreOk] at h; cases h)
   | succ fu => exact m_impl_coreOk_st fu (fun k hk => (ih k (by omega)))
theorem m_impl_coreOk_ok (fuel : Nat) : m_impl_coreOk_AC fuel := (m_impl_coreOk_all fuel)
def m_impl_CoreValid_AC (fuel : Nat) : Prop := ∀ (x1 : Core) (r : Bool), m_impl_CoreValid fuel x1 = some r → AC Try.prog 11 [.ag [.t (.sc (.int .i64 x1.kind)), .t (.sc (.int .i64 x1.id)), .t (.sc (.str x1.name)), .t (.sc (.int .i64 x1.n)), .t (.sl (x1.ids.map rI)), .t (.sc (.int .i64 x1.data.kind)), .t (.sc (.str x1.data.name)), .t (.sc (.int .i64 x1.data.n)), .t (.sl (x1.data.scopes.map rI)), .t (.sl (x1.data.kids.map Form.row)), .t (.sl (x1.kids.map Core.row))]] noOb (.t (.sc (.bool r))) noOb
theorem m_impl_CoreValid_ok (fuel : Nat) : m_impl_CoreValid_AC fuel := by
 intro x1 r hF0
 unfold m_impl_CoreValid at hF0
 refine AC_i [.t (.sc (.bool r))] Try.func11 rfl Try.ntmps11 ?_
 intro C hC
 refine awp_seq (awp_region ?_)
 refine s_box ?_
 refine s_as ?_
 refine k_nil (k_seq (awp_seq (awp_region ?_)))
 refine s_alloc yZ3 ?_
 refine s_stW yS3 ?_
 refine k_nil (k_seq (awp_seq (awp_region ?_)))
 refine s_ldW yA29 yS29 ?_
 obtain ⟨v1, hv1, hF1⟩ := bind_some' hF0
 refine s_call [(9000, 3)] [] _ _ (m_impl_coreOk_ok fuel _ _ _ _ _ hv1) ?_
 refine s_as ?_
 refine k_nil (k_seq (awp_ret (k_fin ?_)))
 cases hF1
 exact ends_a [] [] Try.results11
def m_laws_eqIntS_AC (fuel : Nat) : Prop := ∀ (x1 : (List Int)) (x2 : (List Int)) (r : Bool), m_laws_eqIntS fuel x1 x2 = some r → AC Try.prog 39 [.t (.sl (x1.map rI)), .t (.sl (x2.map rI))] noOb (.t (.sc (.bool r))) noOb
theorem m_laws_eqIntS_ok (fuel : Nat) : m_laws_eqIntS_AC fuel := by
 intro x1 x2 r hF0
 unfold m_laws_eqIntS at hF0
 refine AC_i [.t (.sc (.bool r))] Try.func39 rfl Try.ntmps39 ?_
 intro C hC
 refine awp_seq (awp_region ?_)
 refine s_as ?_
 refine k_nil (k_seq (awp_seq (awp_seq (awp_region ?_))))
 refine s_mv ?_
 refine s_lenT yU23 ?_
 refine s_mv ?_
 refine s_lenT yU23 ?_
 refine s_ne ?_
 refine k_nil (k_seq ?_)
 refine w_cond hF0 ?_ ?_ <;> intro hc1 hF1
 refine awp_seq (awp_region ?_)
 refine s_as ?_
 refine k_nil (k_seq (awp_ret (k_seq_ret (k_fin ?_))))
 cases hF1
 exact ends_a [] [] Try.results39
 refine awp_skip (k_seq (awp_seq (awp_seq (awp_region ?_))))
 refine s_as ?_
 refine k_nil (k_seq (awp_block ?_))
 refine awp_fr (β := Int) [4, 5, 11, 12, 13, 14, 15, 16, 17, 18, 19, 20, 21, 22, 23, 24, 25] [] [] (fun a => [(5, .t (.sc (.int .i64 a.2)))]) (fun a => []) (fun a => a.1 ≤ fuel ∧ m_laws_eqIntS_l1 a.1 x1 x2 a.2 = some r ∧ 0 ≤ a.2) (fuel, 0) ⟨Nat.le_refl _, hF1, by simp⟩ ?_
 clear hF1
 rintro ⟨fu, g2⟩ ⟨hl3, hF2, hn_g2⟩
 dsimp only at hl3 hF2 hn_g2 ⊢
 obtain _ | fu := fu
 · rw [m_laws_eqIntS_l1] at hF2; cases hF2
 rw [m_laws_eqIntS_l1] at hF2
 refine awp_seq (awp_seq (awp_region ?_))
 refine s_mv ?_
 refine s_mv ?_
 refine s_lenT yU23 ?_
 refine s_lt ?_
 refine k_nil (k_seq ?_)
 refine w_cond hF2 ?_ ?_ <;> intro hc4 hF3
 refine awp_lenT 0 (fun hb5 => ?_)
 refine awp_skip (k_seq (awp_seq (awp_block (awp_seq ?_))))
 refine awp_draw yMix (by kernel_rfl) ?_
 refine s_mv ?_
 refine s_mv ?_
 obtain ⟨v6, hv6, hF4⟩ := bind_some' hF3
 refine s_ixT rI hv6 rfl yE23 ?_
 refine s_ld1 yA3 ?_
 refine s_mv ?_
 refine s_mv ?_
 obtain ⟨v7, hv7, hF5⟩ := bind_some' hF4
 refine s_ixT rI hv7 rfl yE23 ?_
 refine s_ld1 yA3 ?_
 refine s_ne ?_
 refine k_nilD (by kernel_rfl) ?_
 refine k_seq ?_
 refine w_cond hF5 ?_ ?_ <;> intro hc8 hF6
 refine awp_seq (awp_region ?_)
 refine s_as ?_
 refine k_nil (k_seq (awp_ret (k_blk_ret (k_seq_ret (k_rnd_ret2 (k_blk_ret (k_seq_ret (k_fin ?_))))))))
 cases hF6
 exact ends_a [] [] Try.results39
 refine awp_skip (k_blk (k_seq (awp_region ?_)))
 refine s_mv ?_
 refine s_add (winc2 hc4 hb5 hn_g2) ?_
 refine s_as ?_
 refine k_nil ?_
 exact s_rn (fu, (g2 + 1)) ⟨by first | omega | (dsimp only; omega), hF6, by first | omega | (dsimp only; omega)⟩
 refine awp_exit (k_seq_exit (k_rnd_exit2 (k_blk_exit (k_seq (awp_seq (awp_region ?_))))))
 refine s_as ?_
 refine k_nil (k_seq (awp_ret (k_fin ?_)))
 cases hF3
 exact ends_a [] [] Try.results39
def m_laws_eqForm_AC (fuel : Nat) : Prop := ∀ (x1 : Form) (x2 : Form) (r : Bool), m_laws_eqForm fuel x1 x2 = some r → AC Try.prog 40 [.ag [.t (.sc (.int .i64 x1.kind)), .t (.sc (.str x1.name)), .t (.sc (.int .i64 x1.n)), .t (.sl (x1.scopes.map rI)), .t (.sl (x1.kids.map Form.row))], .ag [.t (.sc (.int .i64 x2.kind)), .t (.sc (.str x2.name)), .t (.sc (.int .i64 x2.n)), .t (.sl (x2.scopes.map rI)), .t (.sl (x2.kids.map Form.row))]] noOb (.t (.sc (.bool r))) noOb
def m_laws_eqFormS_AC (fuel : Nat) : Prop := ∀ (x1 : (List Form)) (x2 : (List Form)) (r : Bool), m_laws_eqFormS fuel x1 x2 = some r → AC Try.prog 64 [.t (.sl (x1.map Form.row)), .t (.sl (x2.map Form.row))] noOb (.t (.sc (.bool r))) noOb
theorem m_laws_eqForm_st (fu : Nat) (ih_m_laws_eqForm : ∀ k, k ≤ fu → m_laws_eqForm_AC k) (ih_m_laws_eqFormS : ∀ k, k ≤ fu → m_laws_eqFormS_AC k) : m_laws_eqForm_AC (fu + 1) := by
 intro x1 x2 r hF0
 rw [m_laws_eqForm] at hF0
 refine AC_i [.t (.sc (.bool r))] Try.func40 rfl Try.ntmps40 ?_
 intro C hC
 refine awp_seq (awp_region ?_)
 refine s_box ?_
 refine s_box ?_
 refine s_as ?_
 refine k_nil (k_seq (awp_seq (awp_seq (awp_region ?_))))
 refine s_fa yF26_0 ?_
 refine s_ld1 yA3 ?_
 refine s_fa yF26_0 ?_
 refine s_ld1 yA3 ?_
 refine s_ne ?_
 refine k_nil (k_seq ?_)
 refine w_cond hF0 ?_ ?_ <;> intro hc1 hF1
 refine awp_seq (awp_region ?_)
 refine s_as ?_
 refine k_nil (k_seq (awp_ret (k_seq_ret (k_fin ?_))))
 cases hF1
 exact ends_a [] [] Try.results40
 refine awp_skip (k_seq (awp_seq (awp_seq (awp_region ?_))))
 refine s_fa yF26_1 ?_
 refine s_ld1 yA9 ?_
 refine s_fa yF26_1 ?_
 refine s_ld1 yA9 ?_
 refine s_neS ?_
 refine k_nil (k_seq ?_)
 refine w_cond hF1 ?_ ?_ <;> intro hc2 hF2
 refine awp_seq (awp_region ?_)
 refine s_as ?_
 refine k_nil (k_seq (awp_ret (k_seq_ret (k_fin ?_))))
 cases hF2
 exact ends_a [] [] Try.results40
 refine awp_skip (k_seq (awp_seq (awp_seq (awp_region ?_))))
 refine s_fa yF26_2 ?_
 refine s_ld1 yA3 ?_
 refine s_fa yF26_2 ?_
 refine s_ld1 yA3 ?_
 refine s_ne ?_
 refine k_nil (k_seq ?_)
 refine w_cond hF2 ?_ ?_ <;> intro hc3 hF3
 refine awp_seq (awp_region ?_)
 refine s_as ?_
 refine k_nil (k_seq (awp_ret (k_seq_ret (k_fin ?_))))
 cases hF3
 exact ends_a [] [] Try.results40
 refine awp_skip (k_seq (awp_seq (awp_seq (awp_region ?_))))
 refine s_fa yF26_3 ?_
 refine s_ld1 yA23 ?_
 refine s_fa yF26_3 ?_
 refine s_ld1 yA23 ?_
 obtain ⟨v4, hv4, hF4⟩ := bind_some' hF3
 refine s_pure [] (m_laws_eqIntS_ok fu _ _ _ hv4) ?_
 refine s_not ?_
 refine k_nil (k_seq ?_)
 refine w_cond hF4 ?_ ?_ <;> intro hc5 hF5
 refine awp_seq (awp_region ?_)
 refine s_as ?_
 refine k_nil (k_seq (awp_ret (k_seq_ret (k_fin ?_))))
 cases hF5
 exact ends_a [] [] Try.results40
 refine awp_skip (k_seq (awp_seq (awp_seq (awp_region ?_))))
 refine s_fa yF26_4 ?_
 refine s_ld1 yA24 ?_
 refine s_fa yF26_4 ?_
 refine s_ld1 yA24 ?_
 obtain ⟨v6, hv6, hF6⟩ := bind_some' hF5
 refine s_pure [] (ih_m_laws_eqFormS fu (by omega) _ _ _ hv6) ?_
 refine s_not ?_
 refine k_nil (k_seq ?_)
 refine w_cond hF6 ?_ ?_ <;> intro hc7 hF7
 refine awp_seq (awp_region ?_)
 refine s_as ?_
 refine k_nil (k_seq (awp_ret (k_seq_ret (k_fin ?_))))
 cases hF7
 exact ends_a [] [] Try.results40
 refine awp_skip (k_seq (awp_seq (awp_region ?_)))
 refine s_as ?_
 refine k_nil (k_seq (awp_ret (k_fin ?_)))
 cases hF7
 exact ends_a [] [] Try.results40
theorem m_laws_eqFormS_st (fu : Nat) (ih_m_laws_eqForm : ∀ k, k ≤ fu → m_laws_eqForm_AC k) (ih_m_laws_eqFormS : ∀ k, k ≤ fu → m_laws_eqFormS_AC k) : m_laws_eqFormS_AC (fu + 1) := by
 intro x1 x2 r hF0
 rw [m_laws_eqFormS] at hF0
 refine AC_i [.t (.sc (.bool r))] Try.func64 rfl Try.ntmps64 ?_
 intro C hC
 refine awp_seq (awp_region ?_)
 refine s_as ?_
 refine k_nil (k_seq (awp_seq (awp_seq (awp_region ?_))))
 refine s_mv ?_
 refine s_lenT yU24 ?_
 refine s_mv ?_
 refine s_lenT yU24 ?_
 refine s_ne ?_
 refine k_nil (k_seq ?_)
 refine w_cond hF0 ?_ ?_ <;> intro hc1 hF1
 refine awp_seq (awp_region ?_)
 refine s_as ?_
 refine k_nil (k_seq (awp_ret (k_seq_ret (k_fin ?_))))
 cases hF1
 exact ends_a [] [] Try.results64
 refine awp_skip (k_seq (awp_seq (awp_seq (awp_region ?_))))
 refine s_as ?_
 refine k_nil (k_seq (awp_block ?_))
 refine awp_fr (β := Int) [4, 5, 11, 12, 13, 14, 15, 16, 17, 18, 19, 20, 21, 22, 23, 24, 25, 26] [] [] (fun a => [(5, .t (.sc (.int .i64 a.2)))]) (fun a => []) (fun a => a.1 ≤ fu ∧ m_laws_eqFormS_l1 a.1 x1 x2 a.2 = some r ∧ 0 ≤ a.2) (fu, 0) ⟨Nat.le_refl _, hF1, by simp⟩ ?_
 clear hF1
 rintro ⟨fu, g2⟩ ⟨hl3, hF2, hn_g2⟩
 dsimp only at hl3 hF2 hn_g2 ⊢
 obtain _ | fu := fu
 · rw [m_laws_eqFormS_l1] at hF2; cases hF2
 rw [m_laws_eqFormS_l1] at hF2
 refine awp_seq (awp_seq (awp_region ?_))
 refine s_mv ?_
 refine s_mv ?_
 refine s_lenT yU24 ?_
 refine s_lt ?_
 refine k_nil (k_seq ?_)
 refine w_cond hF2 ?_ ?_ <;> intro hc4 hF3
 refine awp_lenT 0 (fun hb5 => ?_)
 refine awp_skip (k_seq (awp_seq (awp_block (awp_seq ?_))))
 refine awp_draw yMix (by kernel_rfl) ?_
 refine s_mv ?_
 refine s_mv ?_
 obtain ⟨v6, hv6, hF4⟩ := bind_some' hF3
 refine s_ixT Form.row hv6 (Form.row_eq _) yE24 ?_
 refine s_ldN yA26 yS26 ?_
 refine s_mv ?_
 refine s_mv ?_
 obtain ⟨v7, hv7, hF5⟩ := bind_some' hF4
 refine s_ixT Form.row hv7 (Form.row_eq _) yE24 ?_
 refine s_ldN yA26 yS26 ?_
 obtain ⟨v8, hv8, hF6⟩ := bind_some' hF5
 refine s_pure [] (ih_m_laws_eqForm fu (by omega) _ _ _ hv8) ?_
 refine s_not ?_
 refine k_nilD (by kernel_rfl) ?_
 refine k_seq ?_
 refine w_cond hF6 ?_ ?_ <;> intro hc9 hF7
 refine awp_seq (awp_region ?_)
 refine s_as ?_
 refine k_nil (k_seq (awp_ret (k_blk_ret (k_seq_ret (k_rnd_ret2 (k_blk_ret (k_seq_ret (k_fin ?_))))))))
 cases hF7
 exact ends_a [] [] Try.results64
 refine awp_skip (k_blk (k_seq (awp_region ?_)))
 refine s_mv ?_
 refine s_add (winc2 hc4 hb5 hn_g2) ?_
 refine s_as ?_
 refine k_nil ?_
 exact s_rn (fu, (g2 + 1)) ⟨by first | omega | (dsimp only; omega), hF7, by first | omega | (dsimp only; omega)⟩
 refine awp_exit (k_seq_exit (k_rnd_exit2 (k_blk_exit (k_seq (awp_seq (awp_region ?_))))))
 refine s_as ?_
 refine k_nil (k_seq (awp_ret (k_fin ?_)))
 cases hF3
 exact ends_a [] [] Try.results64
theorem m_laws_eqForm_all (fuel : Nat) : m_laws_eqForm_AC fuel ∧ m_laws_eqFormS_AC fuel := by
 induction fuel using Nat.strongRecOn with
 | _ N ih =>
   cases N with
   | zero => exact ⟨(by intro x1 x2 r h; rw [m_laws_eqForm] at h; cases h), (by intro x1 x2 r h; rw [m_laws_eqFormS] at h; cases h)⟩
   | succ fu => exact ⟨m_laws_eqForm_st fu (fun k hk => (ih k (by omega)).1) (fun k hk => (ih k (by omega)).2), m_laws_eqFormS_st fu (fun k hk => (ih k (by omega)).1) (fun k hk => (ih k (by omega)).2)⟩
theorem m_laws_eqForm_ok (fuel : Nat) : m_laws_eqForm_AC fuel := (m_laws_eqForm_all fuel).1
def m_laws_eqCore_AC (fuel : Nat) : Prop := ∀ (x1 : Core) (x2 : Core) (r : Bool), m_laws_eqCore fuel x1 x2 = some r → AC Try.prog 19 [.ag [.t (.sc (.int .i64 x1.kind)), .t (.sc (.int .i64 x1.id)), .t (.sc (.str x1.name)), .t (.sc (.int .i64 x1.n)), .t (.sl (x1.ids.map rI)), .t (.sc (.int .i64 x1.data.kind)), .t (.sc (.str x1.data.name)), .t (.sc (.int .i64 x1.data.n)), .t (.sl (x1.data.scopes.map rI)), .t (.sl (x1.data.kids.map Form.row)), .t (.sl (x1.kids.map Core.row))], .ag [.t (.sc (.int .i64 x2.kind)), .t (.sc (.int .i64 x2.id)), .t (.sc (.str x2.name)), .t (.sc (.int .i64 x2.n)), .t (.sl (x2.ids.map rI)), .t (.sc (.int .i64 x2.data.kind)), .t (.sc (.str x2.data.name)), .t (.sc (.int .i64 x2.data.n)), .t (.sl (x2.data.scopes.map rI)), .t (.sl (x2.data.kids.map Form.row)), .t (.sl (x2.kids.map Core.row))]] noOb (.t (.sc (.bool r))) noOb
def m_laws_eqCoreS_AC (fuel : Nat) : Prop := ∀ (x1 : (List Core)) (x2 : (List Core)) (r : Bool), m_laws_eqCoreS fuel x1 x2 = some r → AC Try.prog 41 [.t (.sl (x1.map Core.row)), .t (.sl (x2.map Core.row))] noOb (.t (.sc (.bool r))) noOb
theorem m_laws_eqCore_st (fu : Nat) (ih_m_laws_eqCore : ∀ k, k ≤ fu → m_laws_eqCore_AC k) (ih_m_laws_eqCoreS : ∀ k, k ≤ fu → m_laws_eqCoreS_AC k) : m_laws_eqCore_AC (fu + 1) := by
 intro x1 x2 r hF0
 rw [m_laws_eqCore] at hF0
 refine AC_i [.t (.sc (.bool r))] Try.func19 rfl Try.ntmps19 ?_
 intro C hC
 refine awp_seq (awp_region ?_)
 refine s_box ?_
 refine s_box ?_
 refine s_as ?_
 refine k_nil (k_seq (awp_seq (awp_seq (awp_region ?_))))
 refine s_fa yF29_0 ?_
 refine s_ld1 yA3 ?_
 refine s_fa yF29_0 ?_
 refine s_ld1 yA3 ?_
 refine s_ne ?_
 refine k_nil (k_seq ?_)
 refine w_cond hF0 ?_ ?_ <;> intro hc1 hF1
 refine awp_seq (awp_region ?_)
 refine s_as ?_
 refine k_nil (k_seq (awp_ret (k_seq_ret (k_fin ?_))))
 cases hF1
 exact ends_a [] [] Try.results19
 refine awp_skip (k_seq (awp_seq (awp_seq (awp_region ?_))))
 refine s_fa yF29_1 ?_
 refine s_ld1 yA3 ?_
 refine s_fa yF29_1 ?_
 refine s_ld1 yA3 ?_
 refine s_ne ?_
 refine k_nil (k_seq ?_)
 refine w_cond hF1 ?_ ?_ <;> intro hc2 hF2
 refine awp_seq (awp_region ?_)
 refine s_as ?_
 refine k_nil (k_seq (awp_ret (k_seq_ret (k_fin ?_))))
 cases hF2
 exact ends_a [] [] Try.results19
 refine awp_skip (k_seq (awp_seq (awp_seq (awp_region ?_))))
 refine s_fa yF29_2 ?_
 refine s_ld1 yA9 ?_
 refine s_fa yF29_2 ?_
 refine s_ld1 yA9 ?_
 refine s_neS ?_
 refine k_nil (k_seq ?_)
 refine w_cond hF2 ?_ ?_ <;> intro hc3 hF3
 refine awp_seq (awp_region ?_)
 refine s_as ?_
 refine k_nil (k_seq (awp_ret (k_seq_ret (k_fin ?_))))
 cases hF3
 exact ends_a [] [] Try.results19
 refine awp_skip (k_seq (awp_seq (awp_seq (awp_region ?_))))
 refine s_fa yF29_3 ?_
 refine s_ld1 yA3 ?_
 refine s_fa yF29_3 ?_
 refine s_ld1 yA3 ?_
 refine s_ne ?_
 refine k_nil (k_seq ?_)
 refine w_cond hF3 ?_ ?_ <;> intro hc4 hF4
 refine awp_seq (awp_region ?_)
 refine s_as ?_
 refine k_nil (k_seq (awp_ret (k_seq_ret (k_fin ?_))))
 cases hF4
 exact ends_a [] [] Try.results19
 refine awp_skip (k_seq (awp_seq (awp_seq (awp_region ?_))))
 refine s_fa yF29_4 ?_
 refine s_ld1 yA23 ?_
 refine s_fa yF29_4 ?_
 refine s_ld1 yA23 ?_
 obtain ⟨v5, hv5, hF5⟩ := bind_some' hF4
 refine s_pure [] (m_laws_eqIntS_ok fu _ _ _ hv5) ?_
 refine s_not ?_
 refine k_nil (k_seq ?_)
 refine w_cond hF5 ?_ ?_ <;> intro hc6 hF6
 refine awp_seq (awp_region ?_)
 refine s_as ?_
 refine k_nil (k_seq (awp_ret (k_seq_ret (k_fin ?_))))
 cases hF6
 exact ends_a [] [] Try.results19
 refine awp_skip (k_seq (awp_seq (awp_seq (awp_region ?_))))
 refine s_fa yF29_5 ?_
 refine s_ldN yA26 yS26 ?_
 refine s_fa yF29_5 ?_
 refine s_ldN yA26 yS26 ?_
 obtain ⟨v7, hv7, hF7⟩ := bind_some' hF6
 refine s_pure [] (m_laws_eqForm_ok fu _ _ _ hv7) ?_
 refine s_not ?_
 refine k_nil (k_seq ?_)
 refine w_cond hF7 ?_ ?_ <;> intro hc8 hF8
 refine awp_seq (awp_region ?_)
 refine s_as ?_
 refine k_nil (k_seq (awp_ret (k_seq_ret (k_fin ?_))))
 cases hF8
 exact ends_a [] [] Try.results19
 refine awp_skip (k_seq (awp_seq (awp_seq (awp_region ?_))))
 refine s_fa yF29_6 ?_
 refine s_ld1 yA27 ?_
 refine s_fa yF29_6 ?_
 refine s_ld1 yA27 ?_
 obtain ⟨v9, hv9, hF9⟩ := bind_some' hF8
 refine s_pure [] (ih_m_laws_eqCoreS fu (by omega) _ _ _ hv9) ?_
 refine s_not ?_
 refine k_nil (k_seq ?_)
 refine w_cond hF9 ?_ ?_ <;> intro hc10 hF10
 refine awp_seq (awp_region ?_)
 refine s_as ?_
 refine k_nil (k_seq (awp_ret (k_seq_ret (k_fin ?_))))
 cases hF10
 exact ends_a [] [] Try.results19
 refine awp_skip (k_seq (awp_seq (awp_region ?_)))
 refine s_as ?_
 refine k_nil (k_seq (awp_ret (k_fin ?_)))
 cases hF10
 exact ends_a [] [] Try.results19
theorem m_laws_eqCoreS_st (fu : Nat) (ih_m_laws_eqCore : ∀ k, k ≤ fu → m_laws_eqCore_AC k) (ih_m_laws_eqCoreS : ∀ k, k ≤ fu → m_laws_eqCoreS_AC k) : m_laws_eqCoreS_AC (fu + 1) := by
 intro x1 x2 r hF0
 rw [m_laws_eqCoreS] at hF0
 refine AC_i [.t (.sc (.bool r))] Try.func41 rfl Try.ntmps41 ?_
 intro C hC
 refine awp_seq (awp_region ?_)
 refine s_as ?_
 refine k_nil (k_seq (awp_seq (awp_seq (awp_region ?_))))
 refine s_mv ?_
 refine s_lenT yU27 ?_
 refine s_mv ?_
 refine s_lenT yU27 ?_
 refine s_ne ?_
 refine k_nil (k_seq ?_)
 refine w_cond hF0 ?_ ?_ <;> intro hc1 hF1
 refine awp_seq (awp_region ?_)
 refine s_as ?_
 refine k_nil (k_seq (awp_ret (k_seq_ret (k_fin ?_))))
 cases hF1
 exact ends_a [] [] Try.results41
 refine awp_skip (k_seq (awp_seq (awp_seq (awp_region ?_))))
 refine s_as ?_
 refine k_nil (k_seq (awp_block ?_))
 refine awp_fr (β := Int) [4, 5, 11, 12, 13, 14, 15, 16, 17, 18, 19, 20, 21, 22, 23, 24, 25, 26] [] [] (fun a => [(5, .t (.sc (.int .i64 a.2)))]) (fun a => []) (fun a => a.1 ≤ fu ∧ m_laws_eqCoreS_l1 a.1 x1 x2 a.2 = some r ∧ 0 ≤ a.2) (fu, 0) ⟨Nat.le_refl _, hF1, by simp⟩ ?_
 clear hF1
 rintro ⟨fu, g2⟩ ⟨hl3, hF2, hn_g2⟩
 dsimp only at hl3 hF2 hn_g2 ⊢
 obtain _ | fu := fu
 · rw [m_laws_eqCoreS_l1] at hF2; cases hF2
 rw [m_laws_eqCoreS_l1] at hF2
 refine awp_seq (awp_seq (awp_region ?_))
 refine s_mv ?_
 refine s_mv ?_
 refine s_lenT yU27 ?_
 refine s_lt ?_
 refine k_nil (k_seq ?_)
 refine w_cond hF2 ?_ ?_ <;> intro hc4 hF3
 refine awp_lenT 0 (fun hb5 => ?_)
 refine awp_skip (k_seq (awp_seq (awp_block (awp_seq ?_))))
 refine awp_draw yMix (by kernel_rfl) ?_
 refine s_mv ?_
 refine s_mv ?_
 obtain ⟨v6, hv6, hF4⟩ := bind_some' hF3
 refine s_ixT Core.row hv6 (Core.row_eq _) yE27 ?_
 refine s_ldN yA29 yS29 ?_
 refine s_mv ?_
 refine s_mv ?_
 obtain ⟨v7, hv7, hF5⟩ := bind_some' hF4
 refine s_ixT Core.row hv7 (Core.row_eq _) yE27 ?_
 refine s_ldN yA29 yS29 ?_
 obtain ⟨v8, hv8, hF6⟩ := bind_some' hF5
 refine s_pure [] (ih_m_laws_eqCore fu (by omega) _ _ _ hv8) ?_
 refine s_not ?_
 refine k_nilD (by kernel_rfl) ?_
 refine k_seq ?_
 refine w_cond hF6 ?_ ?_ <;> intro hc9 hF7
 refine awp_seq (awp_region ?_)
 refine s_as ?_
 refine k_nil (k_seq (awp_ret (k_blk_ret (k_seq_ret (k_rnd_ret2 (k_blk_ret (k_seq_ret (k_fin ?_))))))))
 cases hF7
 exact ends_a [] [] Try.results41
 refine awp_skip (k_blk (k_seq (awp_region ?_)))
 refine s_mv ?_
 refine s_add (winc2 hc4 hb5 hn_g2) ?_
 refine s_as ?_
 refine k_nil ?_
 exact s_rn (fu, (g2 + 1)) ⟨by first | omega | (dsimp only; omega), hF7, by first | omega | (dsimp only; omega)⟩
 refine awp_exit (k_seq_exit (k_rnd_exit2 (k_blk_exit (k_seq (awp_seq (awp_region ?_))))))
 refine s_as ?_
 refine k_nil (k_seq (awp_ret (k_fin ?_)))
 cases hF3
 exact ends_a [] [] Try.results41
theorem m_laws_eqCore_all (fuel : Nat) : m_laws_eqCore_AC fuel ∧ m_laws_eqCoreS_AC fuel := by
 induction fuel using Nat.strongRecOn with
 | _ N ih =>
   cases N with
   | zero => exact ⟨(by intro x1 x2 r h; rw [m_laws_eqCore] at h; cases h), (by intro x1 x2 r h; rw [m_laws_eqCoreS] at h; cases h)⟩
   | succ fu => exact ⟨m_laws_eqCore_st fu (fun k hk => (ih k (by omega)).1) (fun k hk => (ih k (by omega)).2), m_laws_eqCoreS_st fu (fun k hk => (ih k (by omega)).1) (fun k hk => (ih k (by omega)).2)⟩
theorem m_laws_eqCore_ok (fuel : Nat) : m_laws_eqCore_AC fuel := (m_laws_eqCore_all fuel).1
def m_laws_FnExactCoreValid_AC (fuel : Nat) : Prop := ∀ (x1 : Core) (r : Bool), m_laws_FnExactCoreValid fuel x1 = some r → AC Try.prog 5 [.ag [.t (.sc (.int .i64 x1.kind)), .t (.sc (.int .i64 x1.id)), .t (.sc (.str x1.name)), .t (.sc (.int .i64 x1.n)), .t (.sl (x1.ids.map rI)), .t (.sc (.int .i64 x1.data.kind)), .t (.sc (.str x1.data.name)), .t (.sc (.int .i64 x1.data.n)), .t (.sl (x1.data.scopes.map rI)), .t (.sl (x1.data.kids.map Form.row)), .t (.sl (x1.kids.map Core.row))]] noOb (.t (.sc (.bool r))) noOb
theorem m_laws_FnExactCoreValid_ok (fuel : Nat) : m_laws_FnExactCoreValid_AC fuel := by
 intro x1 r hF0
 unfold m_laws_FnExactCoreValid at hF0
 refine AC_i [.t (.sc (.bool r))] Try.func5 rfl Try.ntmps5 ?_
 intro C hC
 refine awp_seq (awp_region ?_)
 refine s_box ?_
 refine s_as ?_
 refine k_nil (k_seq (awp_seq (awp_region ?_)))
 refine s_as ?_
 refine k_nil (k_seq (awp_seq (awp_region ?_)))
 refine s_ldW yA41 yS41 ?_
 refine s_mv ?_
 obtain ⟨v1, hv1, hF1⟩ := bind_some' hF0
 refine s_pure [] (m_laws_szCore_ok fuel _ _ _ hv1) ?_
 refine s_as ?_
 refine k_nil (k_seq (awp_seq (awp_seq (awp_region ?_))))
 refine s_mv ?_
 refine s_lt ?_
 refine k_nil (k_seq ?_)
 refine w_cond hF1 ?_ ?_ <;> intro hc2 hF2
 refine awp_seq (awp_region ?_)
 refine s_as ?_
 refine k_nil (k_seq (awp_ret (k_seq_ret (k_fin ?_))))
 cases hF2
 exact ends_a [] [] Try.results5
 refine awp_skip (k_seq (awp_seq (awp_region ?_)))
 refine s_ldW yA41 yS41 ?_
 obtain ⟨v3, hv3, hF3⟩ := bind_some' hF2
 refine s_pure [] (m_laws_toCore_ok fuel _ _ hv3) ?_
 obtain ⟨v4, hv4, hF4⟩ := bind_some' hF3
 refine s_pure [] (m_spec_CoreValid_ok fuel _ _ hv4) ?_
 refine s_as ?_
 refine k_nil (k_seq (awp_seq (awp_region ?_)))
 refine s_ldW yA41 yS41 ?_
 obtain ⟨v5, hv5, hF5⟩ := bind_some' hF4
 refine s_pure [] (m_laws_toCore_ok fuel _ _ hv5) ?_
 refine s_alloc yZ29 ?_
 refine s_stW yS29 ?_
 refine k_nil (k_seq (awp_seq (awp_region ?_)))
 refine s_ldW yA29 yS29 ?_
 obtain ⟨v6, hv6, hF6⟩ := bind_some' hF5
 refine s_pure [] (m_impl_CoreValid_ok fuel _ _ hv6) ?_
 refine s_as ?_
 refine k_nil (k_seq (awp_seq (awp_seq (awp_region ?_))))
 refine s_mv ?_
 refine s_mv ?_
 refine s_neB yU4 ?_
 refine k_nil (k_seq ?_)
 refine w_cond hF6 ?_ ?_ <;> intro hc7 hF7
 refine awp_seq (awp_region ?_)
 refine s_as ?_
 refine k_nil (k_seq (awp_ret (k_seq_ret (k_fin ?_))))
 cases hF7
 exact ends_a [] [] Try.results5
 refine awp_skip (k_seq (awp_seq (awp_seq ?_)))
 refine awp_draw yMix (by kernel_rfl) ?_
 refine s_ldW yA29 yS29 ?_
 refine s_ldW yA41 yS41 ?_
 obtain ⟨v8, hv8, hF8⟩ := bind_some' hF7
 refine s_pure [] (m_laws_toCore_ok fuel _ _ hv8) ?_
 obtain ⟨v9, hv9, hF9⟩ := bind_some' hF8
 refine s_pure [] (m_laws_eqCore_ok fuel _ _ _ hv9) ?_
 refine s_not ?_
 refine k_nilD (by kernel_rfl) ?_
 refine k_seq ?_
 refine w_cond hF9 ?_ ?_ <;> intro hc10 hF10
 refine awp_seq (awp_region ?_)
 refine s_as ?_
 refine k_nil (k_seq (awp_ret (k_seq_ret (k_fin ?_))))
 cases hF10
 exact ends_a [] [] Try.results5
 refine awp_skip (k_seq (awp_seq (awp_region ?_)))
 refine s_as ?_
 refine k_nil (k_seq (awp_ret (k_fin ?_)))
 cases hF10
 exact ends_a [] [] Try.results5
end Go.Abs
