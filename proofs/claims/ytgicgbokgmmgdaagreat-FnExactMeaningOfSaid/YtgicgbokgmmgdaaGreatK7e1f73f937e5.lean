/- A part of the proof: what the functions that the law calls answer, as pure values. -/
import Derived.Test.YtgicgbokgmmgdaaGreatK0a4c624ac2b7
import Derived.Test.YtgicgbokgmmgdaaGreatK362eb3399492
import Derived.Test.YtgicgbokgmmgdaaGreatKb2fda210d385
set_option linter.unusedSimpArgs false
set_option linter.unusedVariables false
set_option maxRecDepth 100000
set_option maxHeartbeats 4000000
namespace Go.Abs
open Go.Proofs
def m_laws_szIntS_AC (fuel : Nat) : Prop := ∀ (x1 : (List Int)) (x2 : Int) (r : Int), m_laws_szIntS fuel x1 x2 = some r → AC Tryz.prog 53 [.t (.sl (x1.map rI)), .t (.sc (.int .i64 x2))] noOb (.t (.sc (.int .i64 r))) noOb
theorem m_laws_szIntS_ok (fuel : Nat) : m_laws_szIntS_AC fuel := by
 intro x1 x2 r hF0
 unfold m_laws_szIntS at hF0
 refine AC_i [.t (.sc (.int .i64 r))] Tryz.func53 rfl Tryz.ntmps53 ?_
 intro C hC
 refine awp_seq (awp_region ?_)
 refine s_as ?_
 refine k_nil (k_seq (awp_seq (awp_region ?_)))
 refine s_mv ?_
 refine s_mv ?_
 refine s_lenT yU36 ?_
 refine s_sub rfl ?_
 refine s_as ?_
 refine k_nil (k_seq (awp_seq (awp_seq (awp_region ?_))))
 refine s_mv ?_
 refine s_lt ?_
 refine k_nil (k_seq ?_)
 refine w_cond hF0 ?_ ?_ <;> intro hc1 hF1
 refine awp_seq (awp_region ?_)
 refine s_as ?_
 refine k_nil (k_seq (awp_ret (k_seq_ret (k_fin ?_))))
 cases hF1
 exact ends_a [] [] Tryz.results53
 refine awp_skip (k_seq (awp_seq (awp_region ?_)))
 refine s_mv ?_
 refine s_as ?_
 refine k_nil (k_seq (awp_ret (k_fin ?_)))
 cases hF1
 exact ends_a [] [] Tryz.results53
def m_laws_szBind_AC (fuel : Nat) : Prop := ∀ (x1 : Bind) (x2 : Int) (r : Int), m_laws_szBind fuel x1 x2 = some r → AC Tryz.prog 63 [.ag [.t (.sc (.str x1.name)), .t (.sl (x1.scopes.map rI)), .t (.sc (.int .i64 x1.id))], .t (.sc (.int .i64 x2))] noOb (.t (.sc (.int .i64 r))) noOb
theorem m_laws_szBind_ok (fuel : Nat) : m_laws_szBind_AC fuel := by
 intro x1 x2 r hF0
 unfold m_laws_szBind at hF0
 refine AC_i [.t (.sc (.int .i64 r))] Tryz.func63 rfl Tryz.ntmps63 ?_
 intro C hC
 refine awp_seq (awp_region ?_)
 refine s_box ?_
 refine s_as ?_
 refine k_nil (k_seq (awp_seq (awp_region ?_)))
 refine s_mv ?_
 refine s_fa yF95_0 ?_
 refine s_ld1 yA9 ?_
 refine s_lenS yU9 ?_
 refine s_sub rfl ?_
 refine s_as ?_
 refine k_nil (k_seq (awp_seq (awp_seq (awp_region ?_))))
 refine s_mv ?_
 refine s_lt ?_
 refine k_nil (k_seq ?_)
 refine w_cond hF0 ?_ ?_ <;> intro hc1 hF1
 refine awp_seq (awp_region ?_)
 refine s_as ?_
 refine k_nil (k_seq (awp_ret (k_seq_ret (k_fin ?_))))
 cases hF1
 exact ends_a [] [] Tryz.results63
 refine awp_skip (k_seq (awp_seq (awp_region ?_)))
 refine s_fa yF95_1 ?_
 refine s_ld1 yA36 ?_
 refine s_mv ?_
 obtain ⟨v2, hv2, hF2⟩ := bind_some' hF1
 refine s_pure [] (m_laws_szIntS_ok fuel _ _ _ hv2) ?_
 refine s_as ?_
 refine k_nil (k_seq (awp_seq (awp_seq (awp_region ?_))))
 refine s_mv ?_
 refine s_lt ?_
 refine k_nil (k_seq ?_)
 refine w_cond hF2 ?_ ?_ <;> intro hc3 hF3
 refine awp_seq (awp_region ?_)
 refine s_as ?_
 refine k_nil (k_seq (awp_ret (k_seq_ret (k_fin ?_))))
 cases hF3
 exact ends_a [] [] Tryz.results63
 refine awp_skip (k_seq (awp_seq (awp_region ?_)))
 refine s_mv ?_
 refine s_as ?_
 refine k_nil (k_seq (awp_ret (k_fin ?_)))
 cases hF3
 exact ends_a [] [] Tryz.results63
def m_laws_szBindS_AC (fuel : Nat) : Prop := ∀ (x1 : (List Bind)) (x2 : Int) (r : Int), m_laws_szBindS fuel x1 x2 = some r → AC Tryz.prog 24 [.t (.sl (x1.map Bind.row)), .t (.sc (.int .i64 x2))] noOb (.t (.sc (.int .i64 r))) noOb
theorem m_laws_szBindS_ok (fuel : Nat) : m_laws_szBindS_AC fuel := by
 intro x1 x2 r hF0
 unfold m_laws_szBindS at hF0
 refine AC_i [.t (.sc (.int .i64 r))] Tryz.func24 rfl Tryz.ntmps24 ?_
 intro C hC
 refine awp_seq (awp_region ?_)
 refine s_as ?_
 refine k_nil (k_seq (awp_seq (awp_region ?_)))
 refine s_mv ?_
 refine s_mv ?_
 refine s_lenT yU22 ?_
 refine s_sub rfl ?_
 refine s_as ?_
 refine k_nil (k_seq (awp_seq (awp_seq (awp_region ?_))))
 refine s_mv ?_
 refine s_lt ?_
 refine k_nil (k_seq ?_)
 refine w_cond hF0 ?_ ?_ <;> intro hc1 hF1
 refine awp_seq (awp_region ?_)
 refine s_as ?_
 refine k_nil (k_seq (awp_ret (k_seq_ret (k_fin ?_))))
 cases hF1
 exact ends_a [] [] Tryz.results24
 refine awp_skip (k_seq (awp_seq (awp_seq (awp_region ?_))))
 refine s_as ?_
 refine k_nil (k_seq (awp_block ?_))
 refine awp_fr (β := Int × Int) [1, 4, 5, 12, 13, 14, 15, 16, 17, 18, 19, 20, 21, 22, 23, 24, 25] [] [] (fun a => [(1, .t (.sc (.int .i64 a.2.1))), (5, .t (.sc (.int .i64 a.2.2)))]) (fun a => []) (fun a => a.1 ≤ fuel ∧ m_laws_szBindS_l1 a.1 x1 a.2.1 a.2.2 = some r ∧ 0 ≤ a.2.2) (fuel, (w64 (x2 - (x1.length : Int))), 0) ⟨Nat.le_refl _, hF1, by simp⟩ ?_
 clear hF1
 rintro ⟨fu, g2, g3⟩ ⟨hl4, hF2, hn_g3⟩
 dsimp only at hl4 hF2 hn_g3 ⊢
 obtain _ | fu := fu
 · rw [m_laws_szBindS_l1] at hF2; cases hF2
 rw [m_laws_szBindS_l1] at hF2
 refine awp_seq (awp_seq (awp_region ?_))
 refine s_mv ?_
 refine s_mv ?_
 refine s_lenT yU22 ?_
 refine s_lt ?_
 refine k_nil (k_seq ?_)
 refine w_cond hF2 ?_ ?_ <;> intro hc5 hF3
 refine awp_lenT 0 (fun hb6 => ?_)
 refine awp_skip (k_seq (awp_seq (awp_block (awp_seq (awp_region ?_)))))
 refine s_mv ?_
 refine s_mv ?_
 obtain ⟨v7, hv7, hF4⟩ := bind_some' hF3
 refine s_ixT Bind.row hv7 (Bind.row_eq _) yE22 ?_
 refine s_ldN yA95 yS95 ?_
 refine s_mv ?_
 obtain ⟨v8, hv8, hF5⟩ := bind_some' hF4
 refine s_pure [] (m_laws_szBind_ok fu _ _ _ hv8) ?_
 refine s_as ?_
 refine k_nil (k_seq (awp_seq (awp_region ?_)))
 refine s_mv ?_
 refine s_lt ?_
 refine k_nil (k_seq ?_)
 refine w_cond hF5 ?_ ?_ <;> intro hc9 hF6
 refine awp_seq (awp_region ?_)
 refine s_as ?_
 refine k_nil (k_seq (awp_ret (k_blk_ret (k_seq_ret (k_rnd_ret2 (k_blk_ret (k_seq_ret (k_fin ?_))))))))
 cases hF6
 exact ends_a [] [] Tryz.results24
 refine awp_skip (k_blk (k_seq (awp_region ?_)))
 refine s_mv ?_
 refine s_add (winc2 hc5 hb6 hn_g3) ?_
 refine s_as ?_
 refine k_nil ?_
 exact s_rn (fu, v8, (g3 + 1)) ⟨by first | omega | (dsimp only; omega), hF6, by first | omega | (dsimp only; omega)⟩
 refine awp_exit (k_seq_exit (k_rnd_exit2 (k_blk_exit (k_seq (awp_seq (awp_region ?_))))))
 refine s_mv ?_
 refine s_as ?_
 refine k_nil (k_seq (awp_ret (k_fin ?_)))
 cases hF3
 exact ends_a [] [] Tryz.results24
def m_laws_szForm_AC (fuel : Nat) : Prop := ∀ (x1 : Form) (x2 : Int) (r : Int), m_laws_szForm fuel x1 x2 = some r → AC Tryz.prog 19 [.ag [.t (.sc (.int .i64 x1.kind)), .t (.sc (.str x1.name)), .t (.sc (.int .i64 x1.n)), .t (.sl (x1.scopes.map rI)), .t (.sl (x1.kids.map Form.row))], .t (.sc (.int .i64 x2))] noOb (.t (.sc (.int .i64 r))) noOb
def m_laws_szFormS_AC (fuel : Nat) : Prop := ∀ (x1 : (List Form)) (x2 : Int) (r : Int), m_laws_szFormS fuel x1 x2 = some r → AC Tryz.prog 54 [.t (.sl (x1.map Form.row)), .t (.sc (.int .i64 x2))] noOb (.t (.sc (.int .i64 r))) noOb
theorem m_laws_szForm_st (fu : Nat) (ih_m_laws_szForm : ∀ k, k ≤ fu → m_laws_szForm_AC k) (ih_m_laws_szFormS : ∀ k, k ≤ fu → m_laws_szFormS_AC k) : m_laws_szForm_AC (fu + 1) := by
 intro x1 x2 r hF0
 rw [m_laws_szForm] at hF0
 refine AC_i [.t (.sc (.int .i64 r))] Tryz.func19 rfl Tryz.ntmps19 ?_
 intro C hC
 refine awp_seq (awp_region ?_)
 refine s_box ?_
 refine s_as ?_
 refine k_nil (k_seq (awp_seq (awp_region ?_)))
 refine s_mv ?_
 refine s_fa yF55_1 ?_
 refine s_ld1 yA9 ?_
 refine s_lenS yU9 ?_
 refine s_sub rfl ?_
 refine s_as ?_
 refine k_nil (k_seq (awp_seq (awp_seq (awp_region ?_))))
 refine s_mv ?_
 refine s_lt ?_
 refine k_nil (k_seq ?_)
 refine w_cond hF0 ?_ ?_ <;> intro hc1 hF1
 refine awp_seq (awp_region ?_)
 refine s_as ?_
 refine k_nil (k_seq (awp_ret (k_seq_ret (k_fin ?_))))
 cases hF1
 exact ends_a [] [] Tryz.results19
 refine awp_skip (k_seq (awp_seq (awp_region ?_)))
 refine s_fa yF55_3 ?_
 refine s_ld1 yA36 ?_
 refine s_mv ?_
 obtain ⟨v2, hv2, hF2⟩ := bind_some' hF1
 refine s_pure [] (m_laws_szIntS_ok fu _ _ _ hv2) ?_
 refine s_as ?_
 refine k_nil (k_seq (awp_seq (awp_seq (awp_region ?_))))
 refine s_mv ?_
 refine s_lt ?_
 refine k_nil (k_seq ?_)
 refine w_cond hF2 ?_ ?_ <;> intro hc3 hF3
 refine awp_seq (awp_region ?_)
 refine s_as ?_
 refine k_nil (k_seq (awp_ret (k_seq_ret (k_fin ?_))))
 cases hF3
 exact ends_a [] [] Tryz.results19
 refine awp_skip (k_seq (awp_seq (awp_region ?_)))
 refine s_fa yF55_4 ?_
 refine s_ld1 yA53 ?_
 refine s_mv ?_
 obtain ⟨v4, hv4, hF4⟩ := bind_some' hF3
 refine s_pure [] (ih_m_laws_szFormS fu (by omega) _ _ _ hv4) ?_
 refine s_as ?_
 refine k_nil (k_seq (awp_seq (awp_seq (awp_region ?_))))
 refine s_mv ?_
 refine s_lt ?_
 refine k_nil (k_seq ?_)
 refine w_cond hF4 ?_ ?_ <;> intro hc5 hF5
 refine awp_seq (awp_region ?_)
 refine s_as ?_
 refine k_nil (k_seq (awp_ret (k_seq_ret (k_fin ?_))))
 cases hF5
 exact ends_a [] [] Tryz.results19
 refine awp_skip (k_seq (awp_seq (awp_region ?_)))
 refine s_mv ?_
 refine s_as ?_
 refine k_nil (k_seq (awp_ret (k_fin ?_)))
 cases hF5
 exact ends_a [] [] Tryz.results19
theorem m_laws_szFormS_st (fu : Nat) (ih_m_laws_szForm : ∀ k, k ≤ fu → m_laws_szForm_AC k) (ih_m_laws_szFormS : ∀ k, k ≤ fu → m_laws_szFormS_AC k) : m_laws_szFormS_AC (fu + 1) := by
 intro x1 x2 r hF0
 rw [m_laws_szFormS] at hF0
 refine AC_i [.t (.sc (.int .i64 r))] Tryz.func54 rfl Tryz.ntmps54 ?_
 intro C hC
 refine awp_seq (awp_region ?_)
 refine s_as ?_
 refine k_nil (k_seq (awp_seq (awp_region ?_)))
 refine s_mv ?_
 refine s_mv ?_
 refine s_lenT yU53 ?_
 refine s_sub rfl ?_
 refine s_as ?_
 refine k_nil (k_seq (awp_seq (awp_seq (awp_region ?_))))
 refine s_mv ?_
 refine s_lt ?_
 refine k_nil (k_seq ?_)
 refine w_cond hF0 ?_ ?_ <;> intro hc1 hF1
 refine awp_seq (awp_region ?_)
 refine s_as ?_
 refine k_nil (k_seq (awp_ret (k_seq_ret (k_fin ?_))))
 cases hF1
 exact ends_a [] [] Tryz.results54
 refine awp_skip (k_seq (awp_seq (awp_seq (awp_region ?_))))
 refine s_as ?_
 refine k_nil (k_seq (awp_block ?_))
 refine awp_fr (β := Int × Int) [1, 4, 5, 12, 13, 14, 15, 16, 17, 18, 19, 20, 21, 22, 23, 24, 25] [] [] (fun a => [(1, .t (.sc (.int .i64 a.2.1))), (5, .t (.sc (.int .i64 a.2.2)))]) (fun a => []) (fun a => a.1 ≤ fu ∧ m_laws_szFormS_l1 a.1 x1 a.2.1 a.2.2 = some r ∧ 0 ≤ a.2.2) (fu, (w64 (x2 - (x1.length : Int))), 0) ⟨Nat.le_refl _, hF1, by simp⟩ ?_
 clear hF1
 rintro ⟨fu, g2, g3⟩ ⟨hl4, hF2, hn_g3⟩
 dsimp only at hl4 hF2 hn_g3 ⊢
 obtain _ | fu := fu
 · rw [m_laws_szFormS_l1] at hF2; cases hF2
 rw [m_laws_szFormS_l1] at hF2
 refine awp_seq (awp_seq (awp_region ?_))
 refine s_mv ?_
 refine s_mv ?_
 refine s_lenT yU53 ?_
 refine s_lt ?_
 refine k_nil (k_seq ?_)
 refine w_cond hF2 ?_ ?_ <;> intro hc5 hF3
 refine awp_lenT 0 (fun hb6 => ?_)
 refine awp_skip (k_seq (awp_seq (awp_block (awp_seq (awp_region ?_)))))
 refine s_mv ?_
 refine s_mv ?_
 obtain ⟨v7, hv7, hF4⟩ := bind_some' hF3
 refine s_ixT Form.row hv7 (Form.row_eq _) yE53 ?_
 refine s_ldN yA55 yS55 ?_
 refine s_mv ?_
 obtain ⟨v8, hv8, hF5⟩ := bind_some' hF4
 refine s_pure [] (ih_m_laws_szForm fu (by omega) _ _ _ hv8) ?_
 refine s_as ?_
 refine k_nil (k_seq (awp_seq (awp_region ?_)))
 refine s_mv ?_
 refine s_lt ?_
 refine k_nil (k_seq ?_)
 refine w_cond hF5 ?_ ?_ <;> intro hc9 hF6
 refine awp_seq (awp_region ?_)
 refine s_as ?_
 refine k_nil (k_seq (awp_ret (k_blk_ret (k_seq_ret (k_rnd_ret2 (k_blk_ret (k_seq_ret (k_fin ?_))))))))
 cases hF6
 exact ends_a [] [] Tryz.results54
 refine awp_skip (k_blk (k_seq (awp_region ?_)))
 refine s_mv ?_
 refine s_add (winc2 hc5 hb6 hn_g3) ?_
 refine s_as ?_
 refine k_nil ?_
 exact s_rn (fu, v8, (g3 + 1)) ⟨by first | omega | (dsimp only; omega), hF6, by first | omega | (dsimp only; omega)⟩
 refine awp_exit (k_seq_exit (k_rnd_exit2 (k_blk_exit (k_seq (awp_seq (awp_region ?_))))))
 refine s_mv ?_
 refine s_as ?_
 refine k_nil (k_seq (awp_ret (k_fin ?_)))
 cases hF3
 exact ends_a [] [] Tryz.results54
theorem m_laws_szForm_all (fuel : Nat) : m_laws_szForm_AC fuel ∧ m_laws_szFormS_AC fuel := by
 induction fuel using Nat.strongRecOn with
 | _ N ih =>
   cases N with
   | zero => exact ⟨(by intro x1 x2 r h; rw [m_laws_szForm] at h; cases h), (by intro x1 x2 r h; rw [m_laws_szFormS] at h; cases h)⟩
   | succ fu => exact ⟨m_laws_szForm_st fu (fun k hk => (ih k (by omega)).1) (fun k hk => (ih k (by omega)).2), m_laws_szFormS_st fu (fun k hk => (ih k (by omega)).1) (fun k hk => (ih k (by omega)).2)⟩
theorem m_laws_szForm_ok (fuel : Nat) : m_laws_szForm_AC fuel := (m_laws_szForm_all fuel).1
theorem m_laws_szFormS_ok (fuel : Nat) : m_laws_szFormS_AC fuel := (m_laws_szForm_all fuel).2
def m_laws_szRule_AC (fuel : Nat) : Prop := ∀ (x1 : Rule) (x2 : Int) (r : Int), m_laws_szRule fuel x1 x2 = some r → AC Tryz.prog 144 [.ag [.t (.sc (.int .i64 x1.pattern.kind)), .t (.sc (.str x1.pattern.name)), .t (.sc (.int .i64 x1.pattern.n)), .t (.sl (x1.pattern.scopes.map rI)), .t (.sl (x1.pattern.kids.map Form.row)), .t (.sc (.int .i64 x1.template.kind)), .t (.sc (.str x1.template.name)), .t (.sc (.int .i64 x1.template.n)), .t (.sl (x1.template.scopes.map rI)), .t (.sl (x1.template.kids.map Form.row))], .t (.sc (.int .i64 x2))] noOb (.t (.sc (.int .i64 r))) noOb
theorem m_laws_szRule_ok (fuel : Nat) : m_laws_szRule_AC fuel := by
 intro x1 x2 r hF0
 unfold m_laws_szRule at hF0
 refine AC_i [.t (.sc (.int .i64 r))] Tryz.func144 rfl Tryz.ntmps144 ?_
 intro C hC
 refine awp_seq (awp_region ?_)
 refine s_box ?_
 refine s_as ?_
 refine k_nil (k_seq (awp_seq (awp_region ?_)))
 refine s_fa yF168_0 ?_
 refine s_ldN yA55 yS55 ?_
 refine s_mv ?_
 obtain ⟨v1, hv1, hF1⟩ := bind_some' hF0
 refine s_pure [] (m_laws_szForm_ok fuel _ _ _ hv1) ?_
 refine s_as ?_
 refine k_nil (k_seq (awp_seq (awp_seq (awp_region ?_))))
 refine s_mv ?_
 refine s_lt ?_
 refine k_nil (k_seq ?_)
 refine w_cond hF1 ?_ ?_ <;> intro hc2 hF2
 refine awp_seq (awp_region ?_)
 refine s_as ?_
 refine k_nil (k_seq (awp_ret (k_seq_ret (k_fin ?_))))
 cases hF2
 exact ends_a [] [] Tryz.results144
 refine awp_skip (k_seq (awp_seq (awp_region ?_)))
 refine s_fa yF168_1 ?_
 refine s_ldN yA55 yS55 ?_
 refine s_mv ?_
 obtain ⟨v3, hv3, hF3⟩ := bind_some' hF2
 refine s_pure [] (m_laws_szForm_ok fuel _ _ _ hv3) ?_
 refine s_as ?_
 refine k_nil (k_seq (awp_seq (awp_seq (awp_region ?_))))
 refine s_mv ?_
 refine s_lt ?_
 refine k_nil (k_seq ?_)
 refine w_cond hF3 ?_ ?_ <;> intro hc4 hF4
 refine awp_seq (awp_region ?_)
 refine s_as ?_
 refine k_nil (k_seq (awp_ret (k_seq_ret (k_fin ?_))))
 cases hF4
 exact ends_a [] [] Tryz.results144
 refine awp_skip (k_seq (awp_seq (awp_region ?_)))
 refine s_mv ?_
 refine s_as ?_
 refine k_nil (k_seq (awp_ret (k_fin ?_)))
 cases hF4
 exact ends_a [] [] Tryz.results144
def m_laws_szRuleS_AC (fuel : Nat) : Prop := ∀ (x1 : (List Rule)) (x2 : Int) (r : Int), m_laws_szRuleS fuel x1 x2 = some r → AC Tryz.prog 114 [.t (.sl (x1.map Rule.row)), .t (.sc (.int .i64 x2))] noOb (.t (.sc (.int .i64 r))) noOb
theorem m_laws_szRuleS_ok (fuel : Nat) : m_laws_szRuleS_AC fuel := by
 intro x1 x2 r hF0
 unfold m_laws_szRuleS at hF0
 refine AC_i [.t (.sc (.int .i64 r))] Tryz.func114 rfl Tryz.ntmps114 ?_
 intro C hC
 refine awp_seq (awp_region ?_)
 refine s_as ?_
 refine k_nil (k_seq (awp_seq (awp_region ?_)))
 refine s_mv ?_
 refine s_mv ?_
 refine s_lenT yU97 ?_
 refine s_sub rfl ?_
 refine s_as ?_
 refine k_nil (k_seq (awp_seq (awp_seq (awp_region ?_))))
 refine s_mv ?_
 refine s_lt ?_
 refine k_nil (k_seq ?_)
 refine w_cond hF0 ?_ ?_ <;> intro hc1 hF1
 refine awp_seq (awp_region ?_)
 refine s_as ?_
 refine k_nil (k_seq (awp_ret (k_seq_ret (k_fin ?_))))
 cases hF1
 exact ends_a [] [] Tryz.results114
 refine awp_skip (k_seq (awp_seq (awp_seq (awp_region ?_))))
 refine s_as ?_
 refine k_nil (k_seq (awp_block ?_))
 refine awp_fr (β := Int × Int) [1, 4, 5, 12, 13, 14, 15, 16, 17, 18, 19, 20, 21, 22, 23, 24, 25] [] [] (fun a => [(1, .t (.sc (.int .i64 a.2.1))), (5, .t (.sc (.int .i64 a.2.2)))]) (fun a => []) (fun a => a.1 ≤ fuel ∧ m_laws_szRuleS_l1 a.1 x1 a.2.1 a.2.2 = some r ∧ 0 ≤ a.2.2) (fuel, (w64 (x2 - (x1.length : Int))), 0) ⟨Nat.le_refl _, hF1, by simp⟩ ?_
 clear hF1
 rintro ⟨fu, g2, g3⟩ ⟨hl4, hF2, hn_g3⟩
 dsimp only at hl4 hF2 hn_g3 ⊢
 obtain _ | fu := fu
 · rw [m_laws_szRuleS_l1] at hF2; cases hF2
 rw [m_laws_szRuleS_l1] at hF2
 refine awp_seq (awp_seq (awp_region ?_))
 refine s_mv ?_
 refine s_mv ?_
 refine s_lenT yU97 ?_
 refine s_lt ?_
 refine k_nil (k_seq ?_)
 refine w_cond hF2 ?_ ?_ <;> intro hc5 hF3
 refine awp_lenT 0 (fun hb6 => ?_)
 refine awp_skip (k_seq (awp_seq (awp_block (awp_seq (awp_region ?_)))))
 refine s_mv ?_
 refine s_mv ?_
 obtain ⟨v7, hv7, hF4⟩ := bind_some' hF3
 refine s_ixT Rule.row hv7 (Rule.row_eq _) yE97 ?_
 refine s_ldN yA168 yS168 ?_
 refine s_mv ?_
 obtain ⟨v8, hv8, hF5⟩ := bind_some' hF4
 refine s_pure [] (m_laws_szRule_ok fu _ _ _ hv8) ?_
 refine s_as ?_
 refine k_nil (k_seq (awp_seq (awp_region ?_)))
 refine s_mv ?_
 refine s_lt ?_
 refine k_nil (k_seq ?_)
 refine w_cond hF5 ?_ ?_ <;> intro hc9 hF6
 refine awp_seq (awp_region ?_)
 refine s_as ?_
 refine k_nil (k_seq (awp_ret (k_blk_ret (k_seq_ret (k_rnd_ret2 (k_blk_ret (k_seq_ret (k_fin ?_))))))))
 cases hF6
 exact ends_a [] [] Tryz.results114
 refine awp_skip (k_blk (k_seq (awp_region ?_)))
 refine s_mv ?_
 refine s_add (winc2 hc5 hb6 hn_g3) ?_
 refine s_as ?_
 refine k_nil ?_
 exact s_rn (fu, v8, (g3 + 1)) ⟨by first | omega | (dsimp only; omega), hF6, by first | omega | (dsimp only; omega)⟩
 refine awp_exit (k_seq_exit (k_rnd_exit2 (k_blk_exit (k_seq (awp_seq (awp_region ?_))))))
 refine s_mv ?_
 refine s_as ?_
 refine k_nil (k_seq (awp_ret (k_fin ?_)))
 cases hF3
 exact ends_a [] [] Tryz.results114
def m_laws_szMacro_AC (fuel : Nat) : Prop := ∀ (x1 : Macro) (x2 : Int) (r : Int), m_laws_szMacro fuel x1 x2 = some r → AC Tryz.prog 64 [.ag [.t (.sc (.int .i64 x1.id)), .t (.sl (x1.literals.map Form.row)), .t (.sl (x1.rules.map Rule.row))], .t (.sc (.int .i64 x2))] noOb (.t (.sc (.int .i64 r))) noOb
theorem m_laws_szMacro_ok (fuel : Nat) : m_laws_szMacro_AC fuel := by
 intro x1 x2 r hF0
 unfold m_laws_szMacro at hF0
 refine AC_i [.t (.sc (.int .i64 r))] Tryz.func64 rfl Tryz.ntmps64 ?_
 intro C hC
 refine awp_seq (awp_region ?_)
 refine s_box ?_
 refine s_as ?_
 refine k_nil (k_seq (awp_seq (awp_region ?_)))
 refine s_fa yF99_1 ?_
 refine s_ld1 yA53 ?_
 refine s_mv ?_
 obtain ⟨v1, hv1, hF1⟩ := bind_some' hF0
 refine s_pure [] (m_laws_szFormS_ok fuel _ _ _ hv1) ?_
 refine s_as ?_
 refine k_nil (k_seq (awp_seq (awp_seq (awp_region ?_))))
 refine s_mv ?_
 refine s_lt ?_
 refine k_nil (k_seq ?_)
 refine w_cond hF1 ?_ ?_ <;> intro hc2 hF2
 refine awp_seq (awp_region ?_)
 refine s_as ?_
 refine k_nil (k_seq (awp_ret (k_seq_ret (k_fin ?_))))
 cases hF2
 exact ends_a [] [] Tryz.results64
 refine awp_skip (k_seq (awp_seq (awp_region ?_)))
 refine s_fa yF99_2 ?_
 refine s_ld1 yA97 ?_
 refine s_mv ?_
 obtain ⟨v3, hv3, hF3⟩ := bind_some' hF2
 refine s_pure [] (m_laws_szRuleS_ok fuel _ _ _ hv3) ?_
 refine s_as ?_
 refine k_nil (k_seq (awp_seq (awp_seq (awp_region ?_))))
 refine s_mv ?_
 refine s_lt ?_
 refine k_nil (k_seq ?_)
 refine w_cond hF3 ?_ ?_ <;> intro hc4 hF4
 refine awp_seq (awp_region ?_)
 refine s_as ?_
 refine k_nil (k_seq (awp_ret (k_seq_ret (k_fin ?_))))
 cases hF4
 exact ends_a [] [] Tryz.results64
 refine awp_skip (k_seq (awp_seq (awp_region ?_)))
 refine s_mv ?_
 refine s_as ?_
 refine k_nil (k_seq (awp_ret (k_fin ?_)))
 cases hF4
 exact ends_a [] [] Tryz.results64
def m_laws_szMacroS_AC (fuel : Nat) : Prop := ∀ (x1 : (List Macro)) (x2 : Int) (r : Int), m_laws_szMacroS fuel x1 x2 = some r → AC Tryz.prog 25 [.t (.sl (x1.map Macro.row)), .t (.sc (.int .i64 x2))] noOb (.t (.sc (.int .i64 r))) noOb
theorem m_laws_szMacroS_ok (fuel : Nat) : m_laws_szMacroS_AC fuel := by
 intro x1 x2 r hF0
 unfold m_laws_szMacroS at hF0
 refine AC_i [.t (.sc (.int .i64 r))] Tryz.func25 rfl Tryz.ntmps25 ?_
 intro C hC
 refine awp_seq (awp_region ?_)
 refine s_as ?_
 refine k_nil (k_seq (awp_seq (awp_region ?_)))
 refine s_mv ?_
 refine s_mv ?_
 refine s_lenT yU23 ?_
 refine s_sub rfl ?_
 refine s_as ?_
 refine k_nil (k_seq (awp_seq (awp_seq (awp_region ?_))))
 refine s_mv ?_
 refine s_lt ?_
 refine k_nil (k_seq ?_)
 refine w_cond hF0 ?_ ?_ <;> intro hc1 hF1
 refine awp_seq (awp_region ?_)
 refine s_as ?_
 refine k_nil (k_seq (awp_ret (k_seq_ret (k_fin ?_))))
 cases hF1
 exact ends_a [] [] Tryz.results25
 refine awp_skip (k_seq (awp_seq (awp_seq (awp_region ?_))))
 refine s_as ?_
 refine k_nil (k_seq (awp_block ?_))
 refine awp_fr (β := Int × Int) [1, 4, 5, 12, 13, 14, 15, 16, 17, 18, 19, 20, 21, 22, 23, 24, 25] [] [] (fun a => [(1, .t (.sc (.int .i64 a.2.1))), (5, .t (.sc (.int .i64 a.2.2)))]) (fun a => []) (fun a => a.1 ≤ fuel ∧ m_laws_szMacroS_l1 a.1 x1 a.2.1 a.2.2 = some r ∧ 0 ≤ a.2.2) (fuel, (w64 (x2 - (x1.length : Int))), 0) ⟨Nat.le_refl _, hF1, by simp⟩ ?_
 clear hF1
 rintro ⟨fu, g2, g3⟩ ⟨hl4, hF2, hn_g3⟩
 dsimp only at hl4 hF2 hn_g3 ⊢
 obtain _ | fu := fu
 · rw [m_laws_szMacroS_l1] at hF2; cases hF2
 rw [m_laws_szMacroS_l1] at hF2
 refine awp_seq (awp_seq (awp_region ?_))
 refine s_mv ?_
 refine s_mv ?_
 refine s_lenT yU23 ?_
 refine s_lt ?_
 refine k_nil (k_seq ?_)
 refine w_cond hF2 ?_ ?_ <;> intro hc5 hF3
 refine awp_lenT 0 (fun hb6 => ?_)
 refine awp_skip (k_seq (awp_seq (awp_block (awp_seq (awp_region ?_)))))
 refine s_mv ?_
 refine s_mv ?_
 obtain ⟨v7, hv7, hF4⟩ := bind_some' hF3
 refine s_ixT Macro.row hv7 (Macro.row_eq _) yE23 ?_
 refine s_ldN yA99 yS99 ?_
 refine s_mv ?_
 obtain ⟨v8, hv8, hF5⟩ := bind_some' hF4
 refine s_pure [] (m_laws_szMacro_ok fu _ _ _ hv8) ?_
 refine s_as ?_
 refine k_nil (k_seq (awp_seq (awp_region ?_)))
 refine s_mv ?_
 refine s_lt ?_
 refine k_nil (k_seq ?_)
 refine w_cond hF5 ?_ ?_ <;> intro hc9 hF6
 refine awp_seq (awp_region ?_)
 refine s_as ?_
 refine k_nil (k_seq (awp_ret (k_blk_ret (k_seq_ret (k_rnd_ret2 (k_blk_ret (k_seq_ret (k_fin ?_))))))))
 cases hF6
 exact ends_a [] [] Tryz.results25
 refine awp_skip (k_blk (k_seq (awp_region ?_)))
 refine s_mv ?_
 refine s_add (winc2 hc5 hb6 hn_g3) ?_
 refine s_as ?_
 refine k_nil ?_
 exact s_rn (fu, v8, (g3 + 1)) ⟨by first | omega | (dsimp only; omega), hF6, by first | omega | (dsimp only; omega)⟩
 refine awp_exit (k_seq_exit (k_rnd_exit2 (k_blk_exit (k_seq (awp_seq (awp_region ?_))))))
 refine s_mv ?_
 refine s_as ?_
 refine k_nil (k_seq (awp_ret (k_fin ?_)))
 cases hF3
 exact ends_a [] [] Tryz.results25
def m_laws_szExpansion_AC (fuel : Nat) : Prop := ∀ (x1 : Expansion) (x2 : Int) (r : Int), m_laws_szExpansion fuel x1 x2 = some r → AC Tryz.prog 6 [.ag [.t (.sl (x1.binds.map Bind.row)), .t (.sl (x1.macros.map Macro.row)), .t (.sc (.int .i64 x1.scope)), .t (.sc (.int .i64 x1.id)), .t (.sc (.int .i64 x1.steps))], .t (.sc (.int .i64 x2))] noOb (.t (.sc (.int .i64 r))) noOb
theorem m_laws_szExpansion_ok (fuel : Nat) : m_laws_szExpansion_AC fuel := by
 intro x1 x2 r hF0
 unfold m_laws_szExpansion at hF0
 refine AC_i [.t (.sc (.int .i64 r))] Tryz.func6 rfl Tryz.ntmps6 ?_
 intro C hC
 refine awp_seq (awp_region ?_)
 refine s_box ?_
 refine s_as ?_
 refine k_nil (k_seq (awp_seq (awp_region ?_)))
 refine s_fa yF25_0 ?_
 refine s_ld1 yA22 ?_
 refine s_mv ?_
 obtain ⟨v1, hv1, hF1⟩ := bind_some' hF0
 refine s_pure [] (m_laws_szBindS_ok fuel _ _ _ hv1) ?_
 refine s_as ?_
 refine k_nil (k_seq (awp_seq (awp_seq (awp_region ?_))))
 refine s_mv ?_
 refine s_lt ?_
 refine k_nil (k_seq ?_)
 refine w_cond hF1 ?_ ?_ <;> intro hc2 hF2
 refine awp_seq (awp_region ?_)
 refine s_as ?_
 refine k_nil (k_seq (awp_ret (k_seq_ret (k_fin ?_))))
 cases hF2
 exact ends_a [] [] Tryz.results6
 refine awp_skip (k_seq (awp_seq (awp_region ?_)))
 refine s_fa yF25_1 ?_
 refine s_ld1 yA23 ?_
 refine s_mv ?_
 obtain ⟨v3, hv3, hF3⟩ := bind_some' hF2
 refine s_pure [] (m_laws_szMacroS_ok fuel _ _ _ hv3) ?_
 refine s_as ?_
 refine k_nil (k_seq (awp_seq (awp_seq (awp_region ?_))))
 refine s_mv ?_
 refine s_lt ?_
 refine k_nil (k_seq ?_)
 refine w_cond hF3 ?_ ?_ <;> intro hc4 hF4
 refine awp_seq (awp_region ?_)
 refine s_as ?_
 refine k_nil (k_seq (awp_ret (k_seq_ret (k_fin ?_))))
 cases hF4
 exact ends_a [] [] Tryz.results6
 refine awp_skip (k_seq (awp_seq (awp_region ?_)))
 refine s_mv ?_
 refine s_as ?_
 refine k_nil (k_seq (awp_ret (k_fin ?_)))
 cases hF4
 exact ends_a [] [] Tryz.results6
def m_laws_toIntS_AC (fuel : Nat) : Prop := ∀ (x1 : (List Int)) (r : (List Int)), m_laws_toIntS fuel x1 = some r → AC Tryz.prog 57 [.t (.sl (x1.map rI))] noOb (.t (.sl (r.map rI))) noOb
theorem m_laws_toIntS_ok (fuel : Nat) : m_laws_toIntS_AC fuel := by
 intro x1 r hF0
 unfold m_laws_toIntS at hF0
 refine AC_i [.t (.sl (r.map rI))] Tryz.func57 rfl Tryz.ntmps57 ?_
 intro C hC
 refine awp_seq (awp_region ?_)
 refine s_as ?_
 refine k_nil (k_seq (awp_seq (awp_region ?_)))
 refine s_mv ?_
 refine s_lenT yU36 ?_
 obtain ⟨hk1, hF1⟩ := chk_some hF0
 refine s_mk rI 0 rfl hk1 yP36 yR3 ?_
 refine s_as ?_
 refine k_nil (k_seq (awp_seq (awp_seq (awp_region ?_))))
 refine s_as ?_
 refine k_nil (k_seq (awp_block ?_))
 refine awp_fr (β := Int × (List Int)) [4, 8, 9, 10, 11, 12, 13, 14, 15, 16, 17, 18, 19, 20] [7] [] (fun a => [(4, .t (.sc (.int .i64 a.2.1)))]) (fun a => [(7, .arr (a.2.2.map rI) 3 true)]) (fun a => a.1 ≤ fuel ∧ m_laws_toIntS_l1 a.1 x1 a.2.1 a.2.2 = some r ∧ 0 ≤ a.2.1) (fuel, 0, (List.replicate (x1.length : Int).toNat 0)) ⟨Nat.le_refl _, hF1, by simp⟩ ?_
 clear hF1
 rintro ⟨fu, g2, g3⟩ ⟨hl4, hF2, hn_g2⟩
 dsimp only at hl4 hF2 hn_g2 ⊢
 obtain _ | fu := fu
 · rw [m_laws_toIntS_l1] at hF2; cases hF2
 rw [m_laws_toIntS_l1] at hF2
 refine awp_seq (awp_seq (awp_region ?_))
 refine s_mv ?_
 refine s_mv ?_
 refine s_lenT yU36 ?_
 refine s_lt ?_
 refine k_nil (k_seq ?_)
 refine w_cond hF2 ?_ ?_ <;> intro hc5 hF3
 refine awp_lenT 0 (fun hb6 => ?_)
 refine awp_skip (k_seq (awp_seq (awp_block (awp_region ?_))))
 iterate 4 refine s_mv ?_
 obtain ⟨v7, hv7, hF4⟩ := bind_some' hF3
 refine s_ixT rI hv7 rfl yE36 ?_
 refine s_ld1 yA3 ?_
 obtain ⟨v8, hv8, hF5⟩ := bind_some' hF4
 refine s_ixA rI hv8 yE36 ?_
 refine s_stA rI v7 hv8 rfl rfl yS3 yS3 ?_
 refine k_nil (k_blk (k_seq (awp_region ?_)))
 refine s_mv ?_
 refine s_add (winc2 hc5 hb6 hn_g2) ?_
 refine s_as ?_
 refine k_nil ?_
 exact s_rn (fu, (g2 + 1), (g3.set g2.toNat v7)) ⟨by first | omega | (dsimp only; omega), hF5, by first | omega | (dsimp only; omega)⟩
 refine awp_exit (k_seq_exit (k_rnd_exit2 (k_blk_exit (k_seq (awp_seq (awp_region ?_))))))
 refine s_mv ?_
 refine s_as ?_
 refine k_nil (k_seq (awp_ret (k_fin ?_)))
 cases hF3
 exact ends_a [] [7] Tryz.results57
def m_laws_toBind_AC (fuel : Nat) : Prop := ∀ (x1 : Bind) (r : Bind), m_laws_toBind fuel x1 = some r → AC Tryz.prog 70 [.ag [.t (.sc (.str x1.name)), .t (.sl (x1.scopes.map rI)), .t (.sc (.int .i64 x1.id))]] noOb (.ag [.t (.sc (.str r.name)), .t (.sl (r.scopes.map rI)), .t (.sc (.int .i64 r.id))]) noOb
theorem m_laws_toBind_ok (fuel : Nat) : m_laws_toBind_AC fuel := by
 intro x1 r hF0
 unfold m_laws_toBind at hF0
 refine AC_i [.ag [.t (.sc (.str r.name)), .t (.sl (r.scopes.map rI)), .t (.sc (.int .i64 r.id))]] Tryz.func70 rfl Tryz.ntmps70 ?_
 intro C hC
 refine awp_seq (awp_region ?_)
 refine s_box ?_
 refine s_alloc yZ66 ?_
 refine k_nil (k_seq (awp_seq (awp_region ?_)))
 refine s_alloc yZ66 ?_
 refine k_nil (k_seq (awp_seq (awp_region ?_)))
 refine s_fa yF95_0 ?_
 refine s_ld1 yA9 ?_
 refine s_fa yF66_0 ?_
 refine s_stP yS9 ?_
 refine k_nil (k_seq (awp_seq (awp_region ?_)))
 refine s_fa yF95_1 ?_
 refine s_ld1 yA36 ?_
 obtain ⟨v1, hv1, hF1⟩ := bind_some' hF0
 refine s_pure [] (m_laws_toIntS_ok fuel _ _ hv1) ?_
 refine s_fa yF66_1 ?_
 refine s_stP yS36 ?_
 refine k_nil (k_seq (awp_seq (awp_region ?_)))
 refine s_fa yF95_2 ?_
 refine s_ld1 yA3 ?_
 refine s_fa yF66_2 ?_
 refine s_stP yS3 ?_
 refine k_nil (k_seq (awp_seq (awp_region ?_)))
 refine s_ldW yA66 yS66 ?_
 refine s_stW yS66 ?_
 refine k_nil (k_seq (awp_ret (k_fin ?_)))
 cases hF1
 exact ends_gen [] [] (by rw [Tryz.results70]; exact (res_agg (by conv => lhs; whnf) (by conv => lhs; whnf) yA66 yS66 rfl res_nil))
def m_laws_toBindS_AC (fuel : Nat) : Prop := ∀ (x1 : (List Bind)) (r : (List Bind)), m_laws_toBindS fuel x1 = some r → AC Tryz.prog 30 [.t (.sl (x1.map Bind.row))] noOb (.t (.sl (r.map Bind.row))) noOb
theorem m_laws_toBindS_ok (fuel : Nat) : m_laws_toBindS_AC fuel := by
 intro x1 r hF0
 unfold m_laws_toBindS at hF0
 refine AC_i [.t (.sl (r.map Bind.row))] Tryz.func30 rfl Tryz.ntmps30 ?_
 intro C hC
 refine awp_seq (awp_region ?_)
 refine s_as ?_
 refine k_nil (k_seq (awp_seq (awp_region ?_)))
 refine s_mv ?_
 refine s_lenT yU22 ?_
 obtain ⟨hk1, hF1⟩ := chk_some hF0
 refine s_mk Bind.row (Bind.mk (⟨#[]⟩ : ByteArray) ([] : List Int) 0) (Bind.row_eq _) hk1 yP28 yR66 ?_
 refine s_as ?_
 refine k_nil (k_seq (awp_seq (awp_seq (awp_region ?_))))
 refine s_as ?_
 refine k_nil (k_seq (awp_block ?_))
 refine awp_fr (β := Int × (List Bind)) [4, 8, 9, 10, 11, 12, 13, 14, 15, 16, 17, 18, 19, 20, 21] [7] [] (fun a => [(4, .t (.sc (.int .i64 a.2.1)))]) (fun a => [(7, .arr (a.2.2.map Bind.row) 66 true)]) (fun a => a.1 ≤ fuel ∧ m_laws_toBindS_l1 a.1 x1 a.2.1 a.2.2 = some r ∧ 0 ≤ a.2.1) (fuel, 0, (List.replicate (x1.length : Int).toNat (Bind.mk (⟨#[]⟩ : ByteArray) ([] : List Int) 0))) ⟨Nat.le_refl _, hF1, by simp⟩ ?_
 clear hF1
 rintro ⟨fu, g2, g3⟩ ⟨hl4, hF2, hn_g2⟩
 dsimp only at hl4 hF2 hn_g2 ⊢
 obtain _ | fu := fu
 · rw [m_laws_toBindS_l1] at hF2; cases hF2
 rw [m_laws_toBindS_l1] at hF2
 refine awp_seq (awp_seq (awp_region ?_))
 refine s_mv ?_
 refine s_mv ?_
 refine s_lenT yU22 ?_
 refine s_lt ?_
 refine k_nil (k_seq ?_)
 refine w_cond hF2 ?_ ?_ <;> intro hc5 hF3
 refine awp_lenT 0 (fun hb6 => ?_)
 refine awp_skip (k_seq (awp_seq (awp_block (awp_region ?_))))
 iterate 4 refine s_mv ?_
 obtain ⟨v7, hv7, hF4⟩ := bind_some' hF3
 refine s_ixT Bind.row hv7 (Bind.row_eq _) yE22 ?_
 refine s_ldN yA95 yS95 ?_
 obtain ⟨v8, hv8, hF5⟩ := bind_some' hF4
 refine s_pure [] (m_laws_toBind_ok fu _ _ hv8) ?_
 obtain ⟨v9, hv9, hF6⟩ := bind_some' hF5
 refine s_ixA Bind.row hv9 yE28 ?_
 refine s_stA Bind.row v8 hv9 (Bind.row_eq _) (Bind.row_eq _) yS66 yS66 ?_
 refine k_nil (k_blk (k_seq (awp_region ?_)))
 refine s_mv ?_
 refine s_add (winc2 hc5 hb6 hn_g2) ?_
 refine s_as ?_
 refine k_nil ?_
 exact s_rn (fu, (g2 + 1), (g3.set g2.toNat v8)) ⟨by first | omega | (dsimp only; omega), hF6, by first | omega | (dsimp only; omega)⟩
 refine awp_exit (k_seq_exit (k_rnd_exit2 (k_blk_exit (k_seq (awp_seq (awp_region ?_))))))
 refine s_mv ?_
 refine s_as ?_
 refine k_nil (k_seq (awp_ret (k_fin ?_)))
 cases hF3
 exact ends_a [] [7] Tryz.results30
def m_laws_toForm_AC (fuel : Nat) : Prop := ∀ (x1 : Form) (r : Form), m_laws_toForm fuel x1 = some r → AC Tryz.prog 21 [.ag [.t (.sc (.int .i64 x1.kind)), .t (.sc (.str x1.name)), .t (.sc (.int .i64 x1.n)), .t (.sl (x1.scopes.map rI)), .t (.sl (x1.kids.map Form.row))]] noOb (.ag [.t (.sc (.int .i64 r.kind)), .t (.sc (.str r.name)), .t (.sc (.int .i64 r.n)), .t (.sl (r.scopes.map rI)), .t (.sl (r.kids.map Form.row))]) noOb
def m_laws_toFormS_AC (fuel : Nat) : Prop := ∀ (x1 : (List Form)) (r : (List Form)), m_laws_toFormS fuel x1 = some r → AC Tryz.prog 58 [.t (.sl (x1.map Form.row))] noOb (.t (.sl (r.map Form.row))) noOb
theorem m_laws_toForm_st (fu : Nat) (ih_m_laws_toForm : ∀ k, k ≤ fu → m_laws_toForm_AC k) (ih_m_laws_toFormS : ∀ k, k ≤ fu → m_laws_toFormS_AC k) : m_laws_toForm_AC (fu + 1) := by
 intro x1 r hF0
 rw [m_laws_toForm] at hF0
 refine AC_i [.ag [.t (.sc (.int .i64 r.kind)), .t (.sc (.str r.name)), .t (.sc (.int .i64 r.n)), .t (.sl (r.scopes.map rI)), .t (.sl (r.kids.map Form.row))]] Tryz.func21 rfl Tryz.ntmps21 ?_
 intro C hC
 refine awp_seq (awp_region ?_)
 refine s_box ?_
 refine s_alloc yZ39 ?_
 refine k_nil (k_seq (awp_seq (awp_region ?_)))
 refine s_alloc yZ39 ?_
 refine k_nil (k_seq (awp_seq (awp_region ?_)))
 refine s_fa yF55_0 ?_
 refine s_ld1 yA3 ?_
 refine s_fa yF39_0 ?_
 refine s_stP yS3 ?_
 refine k_nil (k_seq (awp_seq (awp_region ?_)))
 refine s_fa yF55_1 ?_
 refine s_ld1 yA9 ?_
 refine s_fa yF39_1 ?_
 refine s_stP yS9 ?_
 refine k_nil (k_seq (awp_seq (awp_region ?_)))
 refine s_fa yF55_2 ?_
 refine s_ld1 yA3 ?_
 refine s_fa yF39_2 ?_
 refine s_stP yS3 ?_
 refine k_nil (k_seq (awp_seq (awp_region ?_)))
 refine s_fa yF55_3 ?_
 refine s_ld1 yA36 ?_
 obtain ⟨v1, hv1, hF1⟩ := bind_some' hF0
 refine s_pure [] (m_laws_toIntS_ok fu _ _ hv1) ?_
 refine s_fa yF39_3 ?_
 refine s_stP yS36 ?_
 refine k_nil (k_seq (awp_seq (awp_region ?_)))
 refine s_fa yF55_4 ?_
 refine s_ld1 yA53 ?_
 obtain ⟨v2, hv2, hF2⟩ := bind_some' hF1
 refine s_pure [] (ih_m_laws_toFormS fu (by omega) _ _ hv2) ?_
 refine s_fa yF39_4 ?_
 refine s_stP yS37 ?_
 refine k_nil (k_seq (awp_seq (awp_region ?_)))
 refine s_ldW yA39 yS39 ?_
 refine s_stW yS39 ?_
 refine k_nil (k_seq (awp_ret (k_fin ?_)))
 cases hF2
 exact ends_gen [] [] (by rw [Tryz.results21]; exact (res_agg (by conv => lhs; whnf) (by conv => lhs; whnf) yA39 yS39 rfl res_nil))
theorem m_laws_toFormS_st (fu : Nat) (ih_m_laws_toForm : ∀ k, k ≤ fu → m_laws_toForm_AC k) (ih_m_laws_toFormS : ∀ k, k ≤ fu → m_laws_toFormS_AC k) : m_laws_toFormS_AC (fu + 1) := by
 intro x1 r hF0
 rw [m_laws_toFormS] at hF0
 refine AC_i [.t (.sl (r.map Form.row))] Tryz.func58 rfl Tryz.ntmps58 ?_
 intro C hC
 refine awp_seq (awp_region ?_)
 refine s_as ?_
 refine k_nil (k_seq (awp_seq (awp_region ?_)))
 refine s_mv ?_
 refine s_lenT yU53 ?_
 obtain ⟨hk1, hF1⟩ := chk_some hF0
 refine s_mk Form.row (Form.mk 0 (⟨#[]⟩ : ByteArray) 0 ([] : List Int) ([] : List Form)) (Form.row_eq _) hk1 yP37 yR39 ?_
 refine s_as ?_
 refine k_nil (k_seq (awp_seq (awp_seq (awp_region ?_))))
 refine s_as ?_
 refine k_nil (k_seq (awp_block ?_))
 refine awp_fr (β := Int × (List Form)) [4, 8, 9, 10, 11, 12, 13, 14, 15, 16, 17, 18, 19, 20, 21] [7] [] (fun a => [(4, .t (.sc (.int .i64 a.2.1)))]) (fun a => [(7, .arr (a.2.2.map Form.row) 39 true)]) (fun a => a.1 ≤ fu ∧ m_laws_toFormS_l1 a.1 x1 a.2.1 a.2.2 = some r ∧ 0 ≤ a.2.1) (fu, 0, (List.replicate (x1.length : Int).toNat (Form.mk 0 (⟨#[]⟩ : ByteArray) 0 ([] : List Int) ([] : List Form)))) ⟨Nat.le_refl _, hF1, by simp⟩ ?_
 clear hF1
 rintro ⟨fu, g2, g3⟩ ⟨hl4, hF2, hn_g2⟩
 dsimp only at hl4 hF2 hn_g2 ⊢
 obtain _ | fu := fu
 · rw [m_laws_toFormS_l1] at hF2; cases hF2
 rw [m_laws_toFormS_l1] at hF2
 refine awp_seq (awp_seq (awp_region ?_))
 refine s_mv ?_
 refine s_mv ?_
 refine s_lenT yU53 ?_
 refine s_lt ?_
 refine k_nil (k_seq ?_)
 refine w_cond hF2 ?_ ?_ <;> intro hc5 hF3
 refine awp_lenT 0 (fun hb6 => ?_)
 refine awp_skip (k_seq (awp_seq (awp_block (awp_region ?_))))
 iterate 4 refine s_mv ?_
 obtain ⟨v7, hv7, hF4⟩ := bind_some' hF3
 refine s_ixT Form.row hv7 (Form.row_eq _) yE53 ?_
 refine s_ldN yA55 yS55 ?_
 obtain ⟨v8, hv8, hF5⟩ := bind_some' hF4
 refine s_pure [] (ih_m_laws_toForm fu (by omega) _ _ hv8) ?_
 obtain ⟨v9, hv9, hF6⟩ := bind_some' hF5
 refine s_ixA Form.row hv9 yE37 ?_
 refine s_stA Form.row v8 hv9 (Form.row_eq _) (Form.row_eq _) yS39 yS39 ?_
 refine k_nil (k_blk (k_seq (awp_region ?_)))
 refine s_mv ?_
 refine s_add (winc2 hc5 hb6 hn_g2) ?_
 refine s_as ?_
 refine k_nil ?_
 exact s_rn (fu, (g2 + 1), (g3.set g2.toNat v8)) ⟨by first | omega | (dsimp only; omega), hF6, by first | omega | (dsimp only; omega)⟩
 refine awp_exit (k_seq_exit (k_rnd_exit2 (k_blk_exit (k_seq (awp_seq (awp_region ?_))))))
 refine s_mv ?_
 refine s_as ?_
 refine k_nil (k_seq (awp_ret (k_fin ?_)))
 cases hF3
 exact ends_a [] [7] Tryz.results58
theorem m_laws_toForm_all (fuel : Nat) : m_laws_toForm_AC fuel ∧ m_laws_toFormS_AC fuel := by
 induction fuel using Nat.strongRecOn with
 | _ N ih =>
   cases N with
   | zero => exact ⟨(by intro x1 r h; rw [m_laws_toForm] at h; cases h), (by intro x1 r h; rw [m_laws_toFormS] at h; cases h)⟩
   | succ fu => exact ⟨m_laws_toForm_st fu (fun k hk => (ih k (by omega)).1) (fun k hk => (ih k (by omega)).2), m_laws_toFormS_st fu (fun k hk => (ih k (by omega)).1) (fun k hk => (ih k (by omega)).2)⟩
theorem m_laws_toForm_ok (fuel : Nat) : m_laws_toForm_AC fuel := (m_laws_toForm_all fuel).1
theorem m_laws_toFormS_ok (fuel : Nat) : m_laws_toFormS_AC fuel := (m_laws_toForm_all fuel).2
def m_laws_toRule_AC (fuel : Nat) : Prop := ∀ (x1 : Rule) (r : Rule), m_laws_toRule fuel x1 = some r → AC Tryz.prog 148 [.ag [.t (.sc (.int .i64 x1.pattern.kind)), .t (.sc (.str x1.pattern.name)), .t (.sc (.int .i64 x1.pattern.n)), .t (.sl (x1.pattern.scopes.map rI)), .t (.sl (x1.pattern.kids.map Form.row)), .t (.sc (.int .i64 x1.template.kind)), .t (.sc (.str x1.template.name)), .t (.sc (.int .i64 x1.template.n)), .t (.sl (x1.template.scopes.map rI)), .t (.sl (x1.template.kids.map Form.row))]] noOb (.ag [.t (.sc (.int .i64 r.pattern.kind)), .t (.sc (.str r.pattern.name)), .t (.sc (.int .i64 r.pattern.n)), .t (.sl (r.pattern.scopes.map rI)), .t (.sl (r.pattern.kids.map Form.row)), .t (.sc (.int .i64 r.template.kind)), .t (.sc (.str r.template.name)), .t (.sc (.int .i64 r.template.n)), .t (.sl (r.template.scopes.map rI)), .t (.sl (r.template.kids.map Form.row))]) noOb
theorem m_laws_toRule_ok (fuel : Nat) : m_laws_toRule_AC fuel := by
 intro x1 r hF0
 unfold m_laws_toRule at hF0
 refine AC_i [.ag [.t (.sc (.int .i64 r.pattern.kind)), .t (.sc (.str r.pattern.name)), .t (.sc (.int .i64 r.pattern.n)), .t (.sl (r.pattern.scopes.map rI)), .t (.sl (r.pattern.kids.map Form.row)), .t (.sc (.int .i64 r.template.kind)), .t (.sc (.str r.template.name)), .t (.sc (.int .i64 r.template.n)), .t (.sl (r.template.scopes.map rI)), .t (.sl (r.template.kids.map Form.row))]] Tryz.func148 rfl Tryz.ntmps148 ?_
 intro C hC
 refine awp_seq (awp_region ?_)
 refine s_box ?_
 refine s_alloc yZ104 ?_
 refine k_nil (k_seq (awp_seq (awp_region ?_)))
 refine s_alloc yZ104 ?_
 refine k_nil (k_seq (awp_seq (awp_region ?_)))
 refine s_fa yF168_0 ?_
 refine s_ldN yA55 yS55 ?_
 obtain ⟨v1, hv1, hF1⟩ := bind_some' hF0
 refine s_pure [] (m_laws_toForm_ok fuel _ _ hv1) ?_
 refine s_fa yF104_0 ?_
 refine s_stP yS39 ?_
 refine k_nil (k_seq (awp_seq (awp_region ?_)))
 refine s_fa yF168_1 ?_
 refine s_ldN yA55 yS55 ?_
 obtain ⟨v2, hv2, hF2⟩ := bind_some' hF1
 refine s_pure [] (m_laws_toForm_ok fuel _ _ hv2) ?_
 refine s_fa yF104_1 ?_
 refine s_stP yS39 ?_
 refine k_nil (k_seq (awp_seq (awp_region ?_)))
 refine s_ldW yA104 yS104 ?_
 refine s_stW yS104 ?_
 refine k_nil (k_seq (awp_ret (k_fin ?_)))
 cases hF2
 exact ends_gen [] [] (by rw [Tryz.results148]; exact (res_agg (by conv => lhs; whnf) (by conv => lhs; whnf) yA104 yS104 rfl res_nil))
def m_laws_toRuleS_AC (fuel : Nat) : Prop := ∀ (x1 : (List Rule)) (r : (List Rule)), m_laws_toRuleS fuel x1 = some r → AC Tryz.prog 119 [.t (.sl (x1.map Rule.row))] noOb (.t (.sl (r.map Rule.row))) noOb
theorem m_laws_toRuleS_ok (fuel : Nat) : m_laws_toRuleS_AC fuel := by
 intro x1 r hF0
 unfold m_laws_toRuleS at hF0
 refine AC_i [.t (.sl (r.map Rule.row))] Tryz.func119 rfl Tryz.ntmps119 ?_
 intro C hC
 refine awp_seq (awp_region ?_)
 refine s_as ?_
 refine k_nil (k_seq (awp_seq (awp_region ?_)))
 refine s_mv ?_
 refine s_lenT yU97 ?_
 obtain ⟨hk1, hF1⟩ := chk_some hF0
 refine s_mk Rule.row (Rule.mk (Form.mk 0 (⟨#[]⟩ : ByteArray) 0 ([] : List Int) ([] : List Form)) (Form.mk 0 (⟨#[]⟩ : ByteArray) 0 ([] : List Int) ([] : List Form))) (Rule.row_eq _) hk1 yP67 yR104 ?_
 refine s_as ?_
 refine k_nil (k_seq (awp_seq (awp_seq (awp_region ?_))))
 refine s_as ?_
 refine k_nil (k_seq (awp_block ?_))
 refine awp_fr (β := Int × (List Rule)) [4, 8, 9, 10, 11, 12, 13, 14, 15, 16, 17, 18, 19, 20, 21] [7] [] (fun a => [(4, .t (.sc (.int .i64 a.2.1)))]) (fun a => [(7, .arr (a.2.2.map Rule.row) 104 true)]) (fun a => a.1 ≤ fuel ∧ m_laws_toRuleS_l1 a.1 x1 a.2.1 a.2.2 = some r ∧ 0 ≤ a.2.1) (fuel, 0, (List.replicate (x1.length : Int).toNat (Rule.mk (Form.mk 0 (⟨#[]⟩ : ByteArray) 0 ([] : List Int) ([] : List Form)) (Form.mk 0 (⟨#[]⟩ : ByteArray) 0 ([] : List Int) ([] : List Form))))) ⟨Nat.le_refl _, hF1, by simp⟩ ?_
 clear hF1
 rintro ⟨fu, g2, g3⟩ ⟨hl4, hF2, hn_g2⟩
 dsimp only at hl4 hF2 hn_g2 ⊢
 obtain _ | fu := fu
 · rw [m_laws_toRuleS_l1] at hF2; cases hF2
 rw [m_laws_toRuleS_l1] at hF2
 refine awp_seq (awp_seq (awp_region ?_))
 refine s_mv ?_
 refine s_mv ?_
 refine s_lenT yU97 ?_
 refine s_lt ?_
 refine k_nil (k_seq ?_)
 refine w_cond hF2 ?_ ?_ <;> intro hc5 hF3
 refine awp_lenT 0 (fun hb6 => ?_)
 refine awp_skip (k_seq (awp_seq (awp_block (awp_region ?_))))
 iterate 4 refine s_mv ?_
 obtain ⟨v7, hv7, hF4⟩ := bind_some' hF3
 refine s_ixT Rule.row hv7 (Rule.row_eq _) yE97 ?_
 refine s_ldN yA168 yS168 ?_
 obtain ⟨v8, hv8, hF5⟩ := bind_some' hF4
 refine s_pure [] (m_laws_toRule_ok fu _ _ hv8) ?_
 obtain ⟨v9, hv9, hF6⟩ := bind_some' hF5
 refine s_ixA Rule.row hv9 yE67 ?_
 refine s_stA Rule.row v8 hv9 (Rule.row_eq _) (Rule.row_eq _) yS104 yS104 ?_
 refine k_nil (k_blk (k_seq (awp_region ?_)))
 refine s_mv ?_
 refine s_add (winc2 hc5 hb6 hn_g2) ?_
 refine s_as ?_
 refine k_nil ?_
 exact s_rn (fu, (g2 + 1), (g3.set g2.toNat v8)) ⟨by first | omega | (dsimp only; omega), hF6, by first | omega | (dsimp only; omega)⟩
 refine awp_exit (k_seq_exit (k_rnd_exit2 (k_blk_exit (k_seq (awp_seq (awp_region ?_))))))
 refine s_mv ?_
 refine s_as ?_
 refine k_nil (k_seq (awp_ret (k_fin ?_)))
 cases hF3
 exact ends_a [] [7] Tryz.results119
end Go.Abs
